/- Contracts of functions of the program, each proved by a walk through its code; conditions stand in the statements. -/
import Derived.Test.YtfligklljkcbfaaDoorStS16
namespace Go.Proofs.YtfligklljkcbfaaDoor
set_option linter.unusedSimpArgs false
set_option linter.unusedVariables false
set_option linter.unusedSectionVars false
open Go Go.RowKit Go.Tw
set_option linter.unusedVariables false
set_option maxRecDepth 20000
def zeroS : SvcV := ⟨0, 0, 0, []⟩
def findS (vs : List SvcV) (k : K3) : Option SvcV := vs.find? (fun s => decide (kV s = k))
def getS (vs : List SvcV) (k : K3) : SvcV := (findS vs k).getD zeroS
def hasS (vs : List SvcV) (k : K3) : Bool := (findS vs k).isSome
theorem findS_hit {xs : List Svc} {k : K3} {i : Nat} {s : Svc} (hx : xs[i]? = some s) (hd : kV s.v = k) (hno : ∀ y ∈ xs.take i, kV y.v ≠ k) : findS (xs.map (·.v)) k = some s.v := by
  unfold findS
  rw [List.find?_eq_some_iff_append]
  obtain ⟨hi, rfl⟩ := List.getElem?_eq_some_iff.1 hx
  refine ⟨decide_eq_true hd, (xs.take i).map (·.v), (xs.drop (i + 1)).map (·.v), ?_, fun a ha => ?_⟩
  · rw [← List.map_cons, ← List.map_append, List.getElem_cons_drop, List.take_append_drop]
  · obtain ⟨y, hy, rfl⟩ := List.mem_map.1 ha
    simpa using hno y hy
theorem findS_none {xs : List Svc} {k : K3} (hno : ∀ y ∈ xs, kV y.v ≠ k) : findS (xs.map (·.v)) k = none := by
  unfold findS
  rw [List.find?_eq_none]
  intro x hx
  obtain ⟨y, hy, rfl⟩ := List.mem_map.1 hx
  simpa using hno y hy
theorem takeS_no {xs : List Svc} {k : K3} {i : Nat} {s : Svc} (hx : xs[i]? = some s) (hd : kV s.v ≠ k) (hno : ∀ y ∈ xs.take i, kV y.v ≠ k) : ∀ y ∈ xs.take (i + 1), kV y.v ≠ k := by
  obtain ⟨hi, rfl⟩ := List.getElem?_eq_some_iff.1 hx
  rw [List.take_succ_eq_append_getElem hi]
  intro y hy
  rcases List.mem_append.1 hy with h | h
  · exact hno y h
  · rw [List.mem_singleton] at h; subst h; exact hd
theorem kV_eq {s : SvcV} {a b c : Int} (h1 : s.vip = a) (h2 : s.proto = b) (h3 : s.port = c) : kV s = (a, b, c) := by unfold kV; rw [h1, h2, h3]
theorem kV_ne {s : SvcV} {a b c : Int} (h : s.vip ≠ a ∨ s.proto ≠ b ∨ s.port ≠ c) : kV s ≠ (a, b, c) := fun e => by
  have h1 := congrArg Prod.fst e
  have h2 := congrArg (fun q => q.2.1) e
  have h3 := congrArg (fun q => q.2.2) e
  simp only [kV] at h1 h2 h3
  rcases h with h | h | h
  · exact h h1
  · exact h h2
  · exact h h3
def sickB (ks : List Int) (d : Int) : Bool := ks.any (fun x => decide (x = d))
def wellL (ks : List Int) (es : List EndV) : List EndV := es.filter (fun e => !sickB ks e.dip)
theorem sick_no {ks : List Int} {d : Int} {i : Nat} {x : Int} (hx : ks[i]? = some x) (hd : d ≠ x) (h : sickB (ks.take i) d = false) : sickB (ks.take (i + 1)) d = false := by
  obtain ⟨hi, rfl⟩ := List.getElem?_eq_some_iff.1 hx
  unfold sickB at *
  rw [List.take_succ_eq_append_getElem hi, List.any_append, h]
  simp only [List.any_cons, List.any_nil, Bool.or_false, Bool.false_or]
  exact decide_eq_false (fun e => hd e.symm)
theorem sick_yes {ks : List Int} {d : Int} {i : Nat} {x : Int} (hx : ks[i]? = some x) (hd : d = x) : sickB ks d = true := List.any_eq_true.2 ⟨x, List.mem_of_getElem? hx, decide_eq_true hd.symm⟩
/-! the laws of the last command -/
theorem put_find {xs : List SvcV} (hs : sortK kV xs) (s : SvcV) : findS (putK kV xs s false) (kV s) = some s := by
  cases h : findS (putK kV xs s false) (kV s) with
  | none =>
    unfold findS at h
    rw [List.find?_eq_none] at h
    exact absurd (decide_eq_true rfl) (h s ((put_mem hs).2 (.inr ⟨rfl, rfl⟩)))
  | some y =>
    have h' := h
    unfold findS at h'
    have h1 := List.find?_some h'
    simp only [decide_eq_true_eq] at h1
    have h2 := List.mem_of_find?_eq_some h'
    rcases (put_mem hs).1 h2 with ⟨_, h3⟩ | ⟨_, h3⟩
    · exact absurd h1 h3
    · rw [h3]
theorem del_find {xs : List SvcV} (hs : sortK kV xs) (s : SvcV) : findS (putK kV xs s true) (kV s) = none := by
  unfold findS
  rw [List.find?_eq_none]
  intro y hy hk
  rcases (put_mem hs).1 hy with ⟨_, h3⟩ | ⟨h3, _⟩
  · exact h3 (of_decide_eq_true hk)
  · cases h3
theorem putN_find {xs : List SnatV} (hs : sortK kN xs) (x : SnatV) : outF (putK kN xs x false) x.dip = some x := by
  cases h : outF (putK kN xs x false) x.dip with
  | none =>
    unfold outF at h
    rw [List.find?_eq_none] at h
    exact absurd (decide_eq_true rfl) (h x ((put_mem hs).2 (.inr ⟨rfl, rfl⟩)))
  | some y =>
    have h' := h
    unfold outF at h'
    have h1 := List.find?_some h'
    simp only [decide_eq_true_eq] at h1
    have h2 := List.mem_of_find?_eq_some h'
    rcases (put_mem hs).1 h2 with ⟨_, h3⟩ | ⟨_, h3⟩
    · exact absurd (show kN y = kN x by unfold kN; rw [h1]) h3
    · rw [h3]
theorem delN_find {xs : List SnatV} (hs : sortK kN xs) (x : SnatV) : outF (putK kN xs x true) x.dip = none := by
  unfold outF
  rw [List.find?_eq_none]
  intro y hy hk
  rcases (put_mem hs).1 hy with ⟨_, h3⟩ | ⟨h3, _⟩
  · exact h3 (by unfold kN; rw [of_decide_eq_true hk])
  · cases h3
theorem putA_sick {ks : List Int} (hs : sortK kA ks) (d : Int) (up : Bool) : sickB (putK kA ks d up) d = !up := by
  unfold sickB
  cases up
  · exact List.any_eq_true.2 ⟨d, (put_mem hs).2 (.inr ⟨rfl, rfl⟩), decide_eq_true rfl⟩
  · rw [List.any_eq_false.2]
    · rfl
    · intro x hx hk
      rcases (put_mem hs).1 hx with ⟨_, h3⟩ | ⟨h3, _⟩
      · exact h3 (by rw [of_decide_eq_true hk])
      · cases h3
theorem goodC_kind {c : CmdV} (h : goodC c = true) : goodK c = true := by
  unfold goodC at h
  simp only [Bool.and_eq_true] at h
  exact h.2.2.2.2
theorem goodK_vip {c : CmdV} (h : goodK c = true) (hk : c.kind = 2) (hu : c.up = false) : c.vip = 0 := by
  unfold goodK at h
  rw [if_neg (by omega), if_pos hk] at h
  simp only [hu, Bool.false_and, Bool.false_or, Bool.not_false, Bool.true_and, Bool.and_eq_true] at h
  exact of_decide_eq_true h.2.2
/-- the last command of a log, and what it came to -/
structure LastC (D : CfgV) (C : CfgV) (r : ResV) (c : CmdV) (n : Nat) : Prop where
  good : goodC c = true
  wf : wfCfg D n
  hC : C = if c.kind = 1 then svcC D (svcOf c) else if c.kind = 2 then snatC D ⟨c.dip, c.vip⟩ c.up else if c.kind = 3 then sickC D c.dip c.up else leaseC D c.dip
  hr : r = if c.kind = 1 then svcR D (svcOf c) else if c.kind = 2 then snatR D ⟨c.dip, c.vip⟩ c.up else if c.kind = 3 then okR else leaseR D c.dip
theorem last_of {L : List Cmd} {n : Nat} {e : Cmd} {r : ResV} (hn : n + 1 = L.length) (hw : wfs (vals (L.take n))) (he : L[n]? = some e) (hr : (resC (vals L))[n]? = some r) (h0 : r.err = 0) : ∃ D, LastC D (foldC (vals L)) r e.v (n + 1) := by
  have hL : L = L.take (n + 1) := (List.take_of_length_le (by omega)).symm
  have e1 := fold_step he
  have e2 := res_step he
  rw [← hL] at e1 e2
  have hl : (resC (vals (L.take n))).length = n := by rw [res_len, vals_len, List.length_take]; omega
  rw [e2, List.getElem?_append_right (by omega), hl, Nat.sub_self] at hr
  simp at hr
  subst hr
  have hwf := wf_fold hw
  rw [vals_len, List.length_take, Nat.min_eq_left (by omega)] at hwf
  unfold applyR at h0
  by_cases hg : goodC e.v = false
  · rw [if_pos hg] at h0; exact absurd h0 (by decide)
  · have hg' : goodC e.v = true := by simpa using hg
    obtain ⟨t0, t1⟩ := goodC_time hg'
    refine ⟨tickC (cntC (foldC (vals (L.take n)))) e.v.time, hg', wf_tick hwf t0 t1, ?_, ?_⟩
    · rw [e1]; unfold applyC; rw [if_neg hg]
    · unfold applyR; rw [if_neg hg]
theorem last_svc {D C : CfgV} {r : ResV} {c : CmdV} {n : Nat} (h : LastC D C r c n) (hk : c.kind = 1) (h0 : r.err = 0) : hasS C.svcs (c.svip, c.sproto, c.sport) = decide (0 < c.ends.length) ∧ (getS C.svcs (c.svip, c.sproto, c.sport)).ends = c.ends := by
  have hC := h.hC
  have hr := h.hr
  rw [if_pos hk] at hC hr
  rw [hr] at h0
  unfold svcR at h0
  have hnf : ¬ (0 < (svcOf c).ends.length ∧ thereS D (svcOf c) = false ∧ 32 ≤ D.svcs.length) := fun q => by rw [if_pos q] at h0; exact absurd h0 (by decide)
  unfold svcC at hC
  rw [if_neg hnf] at hC
  rw [hC]
  show hasS (putK kV D.svcs (svcOf c) _) (kV (svcOf c)) = _ ∧ (getS (putK kV D.svcs (svcOf c) _) (kV (svcOf c))).ends = _
  unfold hasS getS
  by_cases he : (svcOf c).ends.length = 0
  · rw [decide_eq_true he, del_find h.wf.ssort]
    have he2 : c.ends = [] := List.eq_nil_of_length_eq_zero he
    rw [he2]; exact ⟨rfl, rfl⟩
  · rw [decide_eq_false he, put_find h.wf.ssort]
    exact ⟨(decide_eq_true (show 0 < c.ends.length from Nat.pos_of_ne_zero he)).symm, rfl⟩
theorem last_snat {D C : CfgV} {r : ResV} {c : CmdV} {n : Nat} (h : LastC D C r c n) (hk : c.kind = 2) : outB C.snats c.dip = c.up ∧ outV C.snats c.dip = c.vip := by
  have hC := h.hC
  rw [if_neg (by omega), if_pos hk] at hC
  rw [hC]
  show outB (putK kN D.snats ⟨c.dip, c.vip⟩ (!c.up)) c.dip = _ ∧ outV (putK kN D.snats ⟨c.dip, c.vip⟩ (!c.up)) c.dip = _
  unfold outB outV
  cases hu : c.up
  · have := delN_find h.wf.nsort ⟨c.dip, c.vip⟩
    rw [show (!false) = true from rfl, this]
    exact ⟨rfl, (goodK_vip (goodC_kind h.good) hk hu).symm⟩
  · have := putN_find h.wf.nsort ⟨c.dip, c.vip⟩
    rw [show (!true) = false from rfl, this]
    exact ⟨rfl, rfl⟩
theorem last_sick {D C : CfgV} {r : ResV} {c : CmdV} {n : Nat} (h : LastC D C r c n) (hk : c.kind = 3) : sickB C.sick c.dip = !c.up := by
  have hC := h.hC
  rw [if_neg (by omega), if_neg (by omega), if_pos hk] at hC
  rw [hC]
  exact putA_sick h.wf.ksort _ _
theorem lend_in {C : CfgV} {vip dip : Int} (h : lendE C vip dip = 0) : lendL C vip dip ∈ lendX C vip dip ∧ C.now ≤ (lendL C vip dip).exp := by
  unfold lendE at h
  unfold lendL lendX
  by_cases he : oldL C vip dip = []
  · rw [if_pos he] at h
    rw [if_pos he, if_pos he]
    refine ⟨by unfold grX; rw [if_pos h]; exact mem_ins_new _ _, ?_⟩
    unfold grL; rw [if_pos h]; show C.now ≤ C.now + 64; omega
  · rw [if_neg he] at h
    rw [if_neg he, if_neg he]
    refine ⟨by unfold rnX; rw [if_pos h]; exact mem_ins_new _ _, ?_⟩
    unfold rnL; rw [if_pos h]; show C.now ≤ C.now + 64; omega
theorem hasL_mem {ys : List Lease} {x : Lease} (h : x ∈ ys) : hasL ys = true := by
  unfold hasL
  cases ys with
  | nil => cases h
  | cons a r => rfl
theorem last_lease {D C : CfgV} {r : ResV} {c : CmdV} {n : Nat} (h : LastC D C r c n) (h1 : c.kind ≠ 1) (h2 : c.kind ≠ 2) (h3 : c.kind ≠ 3) (h0 : r.err = 0) : hasL (C.leases.filter (findP r.lease.vip r.lease.first C.now)) = true ∧ r.lease ∈ C.leases := by
  have hC := h.hC
  have hr := h.hr
  rw [if_neg h1, if_neg h2, if_neg h3] at hC hr
  subst hr
  unfold leaseR at h0 ⊢
  unfold leaseC at hC
  by_cases ho : outB D.snats c.dip = false
  · rw [if_pos ho] at h0; exact absurd h0 (by decide)
  · rw [if_neg ho] at h0 hC ⊢
    have hE : lendE D (outV D.snats c.dip) c.dip = 0 := h0
    rw [if_pos hE] at hC ⊢
    rw [hC]
    obtain ⟨hm, hx⟩ := lend_in hE
    refine ⟨hasL_mem (x := lendL D (outV D.snats c.dip) c.dip) (List.mem_filter.2 ⟨hm, ?_⟩), hm⟩
    rw [findP_iff]
    exact ⟨rfl, hx, Int.le_refl _, by show (lendL D (outV D.snats c.dip) c.dip).first - (lendL D (outV D.snats c.dip) c.dip).first < 8; omega⟩
theorem sameEnds (A B : Option Addr) (c d : Nat) (xs ys : List EndV) (w : World) (hA : Rd w 3 cellsE A xs) (hB : Rd w 3 cellsE B ys) (hlx : xs.length ≤ 1099511627776) : Calls Tryd.prog 17 #[.slice A xs.length c, .slice B ys.length d] w fun e w' => e = .returned (.bool (decide (xs = ys))) ∧ Fr w w' [] := by
 refine enterD (n := 26) Tryd.func17 rfl rfl (Nat.le_of_ble_eq_true rfl) ?_
 intro Q0 hN hret hret'
 have hC := Cx.start w
 refine WCs (fun K1 hK2 => ?_)
 refine WCg (WLr 1 [(4, .bool false)] (fun _ => by kernel_rfl) (WLd rfl (QXn (hK2 _ _ ?_))))
 refine WCs (fun K3 hK4 => ?_)
 refine WCs (fun K5 hK6 => ?_)
 refine WCg (WLr 5 [(10, .bool ((xs.length : Int) != (ys.length : Int))), (9, .int .i64 (ys.length : Int)), (8, .slice B ys.length d), (7, .int .i64 (xs.length : Int)), (6, .slice A xs.length c)] (fun _ => by kernel_rfl) (WLd rfl (QXn (hK6 _ _ ?_))))
 refine WCa 10 ((xs.length : Int) != (ys.length : Int)) rfl (fun t7b => ?_) (fun t7b => ?_)
 ·
  have t7 : (xs.length : Int) ≠ (ys.length : Int) := by simpa using t7b
  refine WCt rfl ?_
  refine WCs (fun K8 hK9 => ?_)
  refine WCg (WLr 1 [(4, .bool false)] (fun _ => by kernel_rfl) (WLd rfl (QXn (hK9 _ _ ?_))))
  refine WC.ret ?_
  refine QXr ?_
  refine (hret _ _ _ rfl ?_).1
  exact ⟨congrArg (fun b_ => Ending.returned (Value.bool b_)) (decide_eq_false (fun e_ => by subst e_; omega)).symm, hC.fr⟩
 ·
  have t7 : (xs.length : Int) = (ys.length : Int) := by simpa using t7b
  refine WCf rfl (WC.skip (QXn (hK4 _ _ ?_)))
  refine WCs (fun K10 hK11 => ?_)
  refine WCs (fun K12 hK13 => ?_)
  refine WCg (WLr 1 [(5, .int .i64 0)] (fun _ => by kernel_rfl) (WLd rfl (QXn (hK13 _ _ ?_))))
  refine WC.block ?_
  refine WC.loop (fun m_ E_ w_ => ∃ (i : Nat), m_ = xs.length - i ∧ E_ = [(0, .slice A xs.length c), (1, .slice B ys.length d), (5, .int .i64 (i : Int))] ∧ Cx w [] w_ [] [] ∧ (i ≤ xs.length ∧ xs.take i = ys.take i)) ⟨_, _, ⟨0, rfl, rfl, hC, Nat.zero_le _, rfl⟩, sub_of ⟨rfl, rfl, rfl, trivial⟩⟩ (fun m17 E_ w18 K14 hK15 hI16 => ?_)
  obtain ⟨i, rfl, rfl, hC19, hi, hpre⟩ := hI16
  refine WCs (fun K20 hK21 => ?_)
  refine WCs (fun K22 hK23 => ?_)
  refine WCg (WLr 4 [(14, .bool (decide ((i : Int) < (xs.length : Int)))), (13, .int .i64 (xs.length : Int)), (12, .slice A xs.length c), (11, .int .i64 (i : Int))] (fun _ => by kernel_rfl) (WLd rfl (QXn (hK23 _ _ ?_))))
  refine WCa 14 (decide ((i : Int) < (xs.length : Int))) rfl (fun t24b => ?_) (fun t24b => ?_)
  ·
   have t24 : (i : Int) < (xs.length : Int) := by have q_ := of_decide_eq_true t24b; omega
   refine WCt rfl ?_
   refine WC.skip ?_
   refine QXn (hK21 _ _ ?_)
   refine WCs (fun K25 hK26 => ?_)
   refine WC.block ?_
   refine WCs (fun K27 hK28 => ?_)
   refine WC.drawC hC19 [] (by kernel_rfl) (fun w29 hF30 hC31 hS32 => ?_)
   refine WDp (NPt (NPb (NPt (NPt (NPb (NPt hN)))))) 0 17 (.slice A xs.length c) (by kernel_rfl) (fun _ => by kernel_rfl) hS32 ?_
   refine WDp (NPt (NPb (NPt (NPt (NPb (NPt hN)))))) 1 18 (.int .i64 (i : Int)) (by kernel_rfl) (fun _ => by kernel_rfl) hS32 ?_
   obtain ⟨e33, he34⟩ := get_some (xs := xs) (i := i) (by omega)
   obtain ⟨b35, o37, hA36, hc38⟩ := hA.at_ _ _ he34
   refine WDi (NPt (NPb (NPt (NPt (NPb (NPt hN)))))) 2 A xs.length c 19 .i64 (i : Int) b35 o37 i 3 (by kernel_rfl) (by kernel_rfl) hA36 (by omega) (by omega) (o37 + i * 3) (by first | (simp; done) | omega) hS32 ?_
   refine WDp (NPt (NPb (NPt (NPt (NPb (NPt hN)))))) 4 21 (.slice B ys.length d) (by kernel_rfl) (fun _ => by kernel_rfl) hS32 ?_
   refine WDp (NPt (NPb (NPt (NPt (NPb (NPt hN)))))) 5 22 (.int .i64 (i : Int)) (by kernel_rfl) (fun _ => by kernel_rfl) hS32 ?_
   obtain ⟨e39, he40⟩ := get_some (xs := ys) (i := i) (by omega)
   obtain ⟨b41, o43, hA42, hc44⟩ := hB.at_ _ _ he40
   refine WDi (NPt (NPb (NPt (NPt (NPb (NPt hN)))))) 6 B ys.length d 23 .i64 (i : Int) b41 o43 i 3 (by kernel_rfl) (by kernel_rfl) hA42 (by omega) (by omega) (o43 + i * 3) (by first | (simp; done) | omega) hS32 ?_
   refine WDl (NPt (NPb (NPt (NPt (NPb (NPt hN)))))) 3 64 (.pointer (some ⟨b35, o37 + i * 3, none⟩)) (.agg #[.int .u32 e33.dip, .int .i64 e33.port, .int .i64 e33.weight]) 20 (by kernel_rfl) (by kernel_rfl) (fun _ hS_ => run_rdN (l := [.int .u32 e33.dip, .int .i64 e33.port, .int .i64 e33.weight]) rfl rfl (fun j u hu => by have hq_ := Fr.cell hS_ (hC31.fr.cell (hc38 j u hu) (by simp)) (by simp); simpa [Nat.add_assoc] using hq_)) hS32 ?_
   refine WDl (NPt (NPb (NPt (NPt (NPb (NPt hN)))))) 7 64 (.pointer (some ⟨b41, o43 + i * 3, none⟩)) (.agg #[.int .u32 e39.dip, .int .i64 e39.port, .int .i64 e39.weight]) 24 (by kernel_rfl) (by kernel_rfl) (fun _ hS_ => run_rdN (l := [.int .u32 e39.dip, .int .i64 e39.port, .int .i64 e39.weight]) rfl rfl (fun j u hu => by have hq_ := Fr.cell hS_ (hC31.fr.cell (hc44 j u hu) (by simp)) (by simp); simpa [Nat.add_assoc] using hq_)) hS32 ?_
   have hr45 : ∀ w_, Sem.run Tryd.prog (do eqGuard .neq 64 (Operand.tmp 20) (Operand.tmp 24) (.agg #[.int .u32 e33.dip, .int .i64 e33.port, .int .i64 e33.weight]) (.agg #[.int .u32 e39.dip, .int .i64 e39.port, .int .i64 e39.weight]); binOp .neq 64 (.agg #[.int .u32 e33.dip, .int .i64 e33.port, .int .i64 e33.weight]) (.agg #[.int .u32 e39.dip, .int .i64 e39.port, .int .i64 e39.weight])) w_ = .ok (.bool (!(e33.dip == e39.dip && (e33.port == e39.port && (e33.weight == e39.weight && true))))) w_ := fun w_ => (run_neq_S (by kernel_rfl))
   refine WD.semP (NPt (NPb (NPt (NPt (NPb (NPt hN)))))) 8 (do eqGuard .neq 64 (Operand.tmp 20) (Operand.tmp 24) (.agg #[.int .u32 e33.dip, .int .i64 e33.port, .int .i64 e33.weight]) (.agg #[.int .u32 e39.dip, .int .i64 e39.port, .int .i64 e39.weight]); binOp .neq 64 (.agg #[.int .u32 e33.dip, .int .i64 e33.port, .int .i64 e33.weight]) (.agg #[.int .u32 e39.dip, .int .i64 e39.port, .int .i64 e39.weight])) 25 (.bool (!(e33.dip == e39.dip && (e33.port == e39.port && (e33.weight == e39.weight && true))))) (by kernel_rfl) (by kernel_rfl) (fun _ _ => hr45 _) hS32 ?_
   refine WD.recast (show (.bool (!(e33.dip == e39.dip && (e33.port == e39.port && (e33.weight == e39.weight && true)))) : Value) = .bool (!decide (e33 = e39)) from by rw [endV_beq]) ?_
   refine WD.done (by kernel_rfl) ?_
   refine QXn (hK28 _ _ ?_)
   refine WCa 25 (!decide (e33 = e39)) rfl (fun t46b => ?_) (fun t46b => ?_)
   ·
    have t46 : (decide (e33 = e39)) = false := by first | (simpa only [Bool.not_eq_true', Bool.not_eq_false'] using t46b) | simpa using t46b
    refine WCt rfl ?_
    refine WCs (fun K47 hK48 => ?_)
    refine WCg (WLr 1 [(4, .bool false)] (fun _ => by kernel_rfl) (WLd rfl (QXn (hK48 _ _ ?_))))
    refine WC.ret ?_
    refine QXk ?_
    refine QXr ?_
    refine QXr ?_
    refine QXk ?_
    refine QXr ?_
    refine (hret _ _ _ rfl ?_).1
    clear hN hret hret' hK48 hK28 hK26 hK23 hK21 hK13 hK11 hK6 hK4 hK2
    exact ⟨congrArg (fun b_ => Ending.returned (Value.bool b_)) (eqs_miss he34 he40 (by assumption)).symm, hC31.fr⟩
   ·
    have t46 : (decide (e33 = e39)) = true := by first | (simpa only [Bool.not_eq_true', Bool.not_eq_false'] using t46b) | simpa using t46b
    refine WCf rfl (WC.skip ?_)
    refine QXb ?_
    refine QXn (hK26 _ _ ?_)
    refine WCg (WLr 2 [(16, .int .i64 (IntKind.i64.wrap ((i : Int) + 1))), (15, .int .i64 (i : Int))] (fun _ => by kernel_rfl) ?_)
    refine WLt (show (.int .i64 (IntKind.i64.wrap ((i : Int) + 1)) : Value) = .int .i64 ((i : Int) + 1) from by rw [wrap_in_i64 ((i : Int) + 1) (by omega) (by omega)]) ?_
    refine WLr 1 [(5, .int .i64 ((i : Int) + 1))] (fun _ => by kernel_rfl) ?_
    refine WLd rfl ?_
    refine QXn ?_
    have hC49 := hC31.pick [] [] rfl rfl
    refine fun a_ ha_ => hK15 _ _ _ ?_ ⟨i + 1, rfl, rfl, hC49, by omega, eqs_snoc hpre he34 he40 t46b⟩ a_ (ha_.weaken (sub_of ⟨rfl, rfl, rfl, trivial⟩))
    omega
  ·
   have t24 : (xs.length : Int) ≤ (i : Int) := by have q_ := of_decide_eq_false t24b; omega
   refine WCf rfl ?_
   refine WC.exit ?_
   refine QXe ?_
   refine QXe ?_
   refine QX.block_hit ?_
   refine QXn (hK11 _ _ ?_)
   refine WCs (fun K50 hK51 => ?_)
   refine WCg (WLr 1 [(4, .bool true)] (fun _ => by kernel_rfl) (WLd rfl (QXn (hK51 _ _ ?_))))
   refine WC.ret ?_
   refine (hret _ _ _ rfl ?_).1
   clear hN hret hret' hK51 hK23 hK21 hK13 hK11 hK6 hK4 hK2
   have hie_ : i = xs.length := by omega
   rw [List.take_of_length_le (by omega), List.take_of_length_le (by omega)] at hpre
   exact ⟨congrArg (fun b_ => Ending.returned (Value.bool b_)) (decide_eq_true hpre).symm, hC19.fr⟩

theorem sameEnds_n (A B : Option Addr) (n c n2 d : Nat) (xs ys : List EndV) (w : World) (hA : Rd w 3 cellsE A xs) (hB : Rd w 3 cellsE B ys) (h1 : xs.length = n) (h2 : ys.length = n2) (hlx : n ≤ 1099511627776) : Calls Tryd.prog 17 #[.slice A n c, .slice B n2 d] w fun e w' => e = .returned (.bool (decide (xs = ys))) ∧ Fr w w' [] := by subst h1 h2; exact sameEnds A B c d xs ys w hA hB hlx
theorem idxA_ct (A : Option Addr) (c : Nat) (ks : List Int) (d : Int) (w : World) (hr : Rd w 1 (Go.Tw.encI .u32) A ks) (hl : ks.length ≤ 1099511627776) : Calls Tryd.prog 56 #[.slice A ks.length c, .int .u32 d] w fun e w' => ∃ r : Int, e = .returned (.int .i64 r) ∧ Fr w w' [] ∧ decide (0 ≤ r) = sickB ks d := by
 refine enterD (n := 19) Tryd.func56 rfl rfl (Nat.le_of_ble_eq_true rfl) ?_
 intro Q0 hN hret hret'
 have hC := Cx.start w
 refine WCs (fun K1 hK2 => ?_)
 refine WCg (WLr 1 [(4, .int .i64 0)] (fun _ => by kernel_rfl) (WLd rfl (QXn (hK2 _ _ ?_))))
 refine WCs (fun K3 hK4 => ?_)
 refine WCs (fun K5 hK6 => ?_)
 refine WCg (WLr 3 [(8, .int .i64 0), (7, .int .i64 (ks.length : Int)), (6, .slice A ks.length c)] (fun _ => by kernel_rfl) (WLd rfl (QXn (hK6 _ _ ?_))))
 refine WC.block ?_
 refine WC.loop (fun m_ E_ w_ => ∃ (i : Nat), m_ = ks.length - i ∧ E_ = [(0, .slice A ks.length c), (1, .int .u32 d), (6, .slice A ks.length c), (7, .int .i64 (ks.length : Int)), (8, .int .i64 (i : Int))] ∧ Cx w [] w_ [] [] ∧ (i ≤ ks.length ∧ sickB (ks.take i) d = false)) ⟨_, _, ⟨0, rfl, rfl, hC, Nat.zero_le _, rfl⟩, sub_of ⟨rfl, rfl, rfl, rfl, rfl, trivial⟩⟩ (fun m10 E_ w11 K7 hK8 hI9 => ?_)
 obtain ⟨i, rfl, rfl, hC12, hi, hno⟩ := hI9
 refine WCs (fun K13 hK14 => ?_)
 refine WCg (WLr 1 [(9, .bool (decide ((i : Int) < (ks.length : Int))))] (fun _ => by kernel_rfl) (WLd rfl (QXn (hK14 _ _ ?_))))
 refine WCs (fun K15 hK16 => ?_)
 refine WCa 9 (decide ((i : Int) < (ks.length : Int))) rfl (fun t17b => ?_) (fun t17b => ?_)
 ·
  have t17 : (i : Int) < (ks.length : Int) := by have q_ := of_decide_eq_true t17b; omega
  refine WCt rfl ?_
  refine WC.skip ?_
  refine QXn (hK16 _ _ ?_)
  refine WCs (fun K18 hK19 => ?_)
  refine WC.block ?_
  refine WCs (fun K20 hK21 => ?_)
  refine WCg (WLr 2 [(5, .int .i64 (i : Int)), (10, .int .i64 (i : Int))] (fun _ => by kernel_rfl) (WLd rfl (QXn (hK21 _ _ ?_))))
  refine WCs (fun K22 hK23 => ?_)
  refine WCg (WLr 3 [(13, .int .i64 (i : Int)), (12, .slice A ks.length c), (11, .int .u32 d)] (fun _ => by kernel_rfl) ?_)
  obtain ⟨e24, he25⟩ := get_some (xs := ks) (i := i) (by omega)
  obtain ⟨b26, o28, hA27, hc29⟩ := hr.at_ _ _ he25
  refine WLi A ks.length c 14 .i64 (i : Int) b26 o28 i 1 (by kernel_rfl) hA27 (by omega) (by omega) (o28 + i) (by first | (simp; done) | omega) ?_
  refine WL.load 41 (.pointer (some ⟨b26, o28 + i, none⟩)) (.int .u32 e24) 15 (by kernel_rfl) (run_load1 rfl (by simpa [Nat.add_assoc] using hC12.fr.cell (hc29 0 _ rfl) (by simp))) ?_
  refine WLr 1 [(16, .bool (d == e24))] (fun _ => by kernel_rfl) (WLd rfl (QXn (hK23 _ _ ?_)))
  refine WCa 16 (d == e24) rfl (fun t30b => ?_) (fun t30b => ?_)
  ·
   have t30 : d = e24 := by simpa using t30b
   refine WCt rfl ?_
   refine WCs (fun K31 hK32 => ?_)
   refine WCg (WLr 2 [(4, .int .i64 (i : Int)), (17, .int .i64 (i : Int))] (fun _ => by kernel_rfl) (WLd rfl (QXn (hK32 _ _ ?_))))
   refine WC.ret ?_
   refine QXk ?_
   refine QXr ?_
   refine QXr ?_
   refine QXk ?_
   refine QXr ?_
   refine (hret _ _ _ rfl ?_).1
   exact ⟨_, rfl, hC12.fr, by rw [sick_yes he25 (by simpa using t30b)]; exact decide_eq_true (by omega)⟩
  ·
   have t30 : ¬ (d = e24) := by simpa using t30b
   refine WCf rfl (WC.skip ?_)
   refine QXb ?_
   refine QXn (hK19 _ _ ?_)
   refine WCg (WLr 1 [(18, .int .i64 (IntKind.i64.wrap ((i : Int) + 1)))] (fun _ => by kernel_rfl) ?_)
   refine WLt (show (.int .i64 (IntKind.i64.wrap ((i : Int) + 1)) : Value) = .int .i64 ((i : Int) + 1) from by rw [wrap_in_i64 ((i : Int) + 1) (by omega) (by omega)]) ?_
   refine WLr 1 [(8, .int .i64 ((i : Int) + 1))] (fun _ => by kernel_rfl) ?_
   refine WLd rfl ?_
   refine QXn ?_
   have hC33 := hC12.pick [] [] rfl rfl
   refine fun a_ ha_ => hK8 _ _ _ ?_ ⟨i + 1, rfl, rfl, hC33, by omega, sick_no he25 (by simpa using t30b) hno⟩ a_ (ha_.weaken (sub_of ⟨rfl, rfl, rfl, rfl, rfl, trivial⟩))
   omega
 ·
  have t17 : (ks.length : Int) ≤ (i : Int) := by have q_ := of_decide_eq_false t17b; omega
  refine WCf rfl ?_
  refine WC.exit ?_
  refine QXe ?_
  refine QXe ?_
  refine QX.block_hit ?_
  refine QXn (hK4 _ _ ?_)
  refine WCs (fun K34 hK35 => ?_)
  refine WCg (WLr 1 [(4, .int .i64 (-1))] (fun _ => by kernel_rfl) (WLd rfl (QXn (hK35 _ _ ?_))))
  refine WC.ret ?_
  refine (hret _ _ _ rfl ?_).1
  clear hN hret hret' hK35 hK16 hK14 hK6 hK4 hK2
  rw [List.take_of_length_le (by omega)] at hno
  exact ⟨-1, rfl, hC12.fr, by rw [hno]; rfl⟩

theorem contA_ct (A : Option Addr) (c : Nat) (ks : List Int) (d : Int) (w : World) (hr : Rd w 1 (Go.Tw.encI .u32) A ks) (hl : ks.length ≤ 1099511627776) : Calls Tryd.prog 42 #[.slice A ks.length c, .int .u32 d] w fun e w' => e = .returned (.bool (sickB ks d)) ∧ Fr w w' [] := by
 refine enterD (n := 9) Tryd.func42 rfl rfl (Nat.le_of_ble_eq_true rfl) ?_
 intro Q0 hN hret hret'
 have hC := Cx.start w
 refine WCs (fun K1 hK2 => ?_)
 refine WCg (WLr 1 [(4, .bool false)] (fun _ => by kernel_rfl) (WLd rfl (QXn (hK2 _ _ ?_))))
 refine WCs (fun K3 hK4 => ?_)
 refine WCg (WLr 2 [(6, .int .u32 d), (5, .slice A ks.length c)] (fun _ => by kernel_rfl) ?_)
 refine WLc rfl rfl rfl rfl rfl (by kernel_rfl) (idxA_ct A c ks d w (Rd.fr hr hC.fr) hl) ?_
 rintro _ w6 ⟨r_, rfl, hF5, hr1_⟩
 refine ⟨_, rfl, ?_⟩
 have hC7 := hC.call hF5
 refine WLr 2 [(4, .bool (decide (r_ ≥ 0))), (8, .bool (decide (r_ ≥ 0)))] (fun _ => by kernel_rfl) (WLd rfl (QXn (hK4 _ _ ?_)))
 refine WC.ret ?_
 refine (hret _ _ _ rfl ?_).1
 exact ⟨congrArg (fun b_ => Ending.returned (Value.bool b_)) (by rw [← hr1_]), hC7.fr⟩

theorem contA_n (A : Option Addr) (n c : Nat) (ks : List Int) (d : Int) (w : World) (hr : Rd w 1 (Go.Tw.encI .u32) A ks) (hn : ks.length = n) (hl : n ≤ 1099511627776) : Calls Tryd.prog 42 #[.slice A n c, .int .u32 d] w fun e w' => e = .returned (.bool (sickB ks d)) ∧ Fr w w' [] := by subst hn; exact contA_ct A c ks d w hr hl
set_option maxHeartbeats 1000000 in
theorem Service_ct (ce cn : Int) (AN AK AL : Option Addr) (nN cN nK cK nL cL : Nat) (AS : Option Addr) (cS : Nat) (xs : List Svc) (vip proto port : Int) (w : World) (hr : Rd w 4 cellsS AS xs) (hat : ∀ s ∈ xs, svcAt w s) (hl : xs.length ≤ 1099511627776) : Calls Tryd.prog 16 #[.agg #[.int .i64 ce, .int .i64 cn, .slice AS xs.length cS, .slice AN nN cN, .slice AK nK cK, .slice AL nL cL], .int .u32 vip, .int .i64 proto, .int .i64 port] w fun e w' => ∃ (A2 : Option Addr) (c2 : Nat), e = .returned (.tuple #[.agg #[.int .u32 ((getS (xs.map (·.v)) (vip, proto, port)).vip), .int .i64 ((getS (xs.map (·.v)) (vip, proto, port)).proto), .int .i64 ((getS (xs.map (·.v)) (vip, proto, port)).port), .slice A2 ((getS (xs.map (·.v)) (vip, proto, port)).ends.length) c2], .bool (hasS (xs.map (·.v)) (vip, proto, port))]) ∧ Fr w w' [] ∧ w'.ownsRow w.heap.size 64 3 (.slice A2 (getS (xs.map (·.v)) (vip, proto, port)).ends.length c2) (getS (xs.map (·.v)) (vip, proto, port)).ends.length ((getS (xs.map (·.v)) (vip, proto, port)).ends.flatMap cellsE) := by
 refine enterD (n := 42) Tryd.func16 rfl rfl (Nat.le_of_ble_eq_true rfl) ?_
 intro Q0 hN hret hret'
 have hC := Cx.start w
 refine WCs (fun K1 hK2 => ?_)
 refine WCg ?_
 refine WL.newM hC (fun b => .pointer (some ⟨b, 0, none⟩)) (.cells #[.int .i64 ce, .int .i64 cn, .slice AS xs.length cS, .slice AN nN cN, .slice AK nK cK, .slice AL nL cL] 31) 4 (fun _ => by kernel_rfl) (fun g3 w4 hb7 hF5 hC6 => ?_)
 refine WL.newM hC6 (fun b => .pointer (some ⟨b, 0, none⟩)) (.cells #[.int .u32 0, .int .i64 0, .int .i64 0, .slice none 0 0] 52) 8 (fun _ => by kernel_rfl) (fun g8 w9 hb12 hF10 hC11 => ?_)
 refine WLr 1 [(9, .bool false)] (fun _ => by kernel_rfl) (WLd rfl (QXn (hK2 _ _ ?_)))
 refine WCs (fun K13 hK14 => ?_)
 refine WCs (fun K15 hK16 => ?_)
 refine WCg (WLr 1 [(12, .pointer (some ⟨g3, 2, none⟩))] (fun _ => by kernel_rfl) ?_)
 refine WL.load 26 (.pointer (some ⟨g3, 2, none⟩)) (.slice AS xs.length cS) 13 (by kernel_rfl) (run_ld (hC11.get 0 rfl) rfl) ?_
 refine WLr 2 [(15, .int .i64 0), (14, .int .i64 (xs.length : Int))] (fun _ => by kernel_rfl) (WLd rfl (QXn (hK16 _ _ ?_)))
 refine WC.block ?_
 refine WC.loop (fun m_ E_ w_ => ∃ (i : Nat), m_ = xs.length - i ∧ E_ = [(0, .agg #[.int .i64 ce, .int .i64 cn, .slice AS xs.length cS, .slice AN nN cN, .slice AK nK cK, .slice AL nL cL]), (1, .int .u32 vip), (2, .int .i64 proto), (3, .int .i64 port), (4, .pointer (some ⟨g3, 0, none⟩)), (8, .pointer (some ⟨g8, 0, none⟩)), (13, .slice AS xs.length cS), (14, .int .i64 (xs.length : Int)), (15, .int .i64 (i : Int))] ∧ Cx w [] w_ [(g3, .cells #[.int .i64 ce, .int .i64 cn, .slice AS xs.length cS, .slice AN nN cN, .slice AK nK cK, .slice AL nL cL] 31), (g8, .cells #[.int .u32 0, .int .i64 0, .int .i64 0, .slice none 0 0] 52)] [] ∧ (i ≤ xs.length ∧ ∀ y ∈ xs.take i, kV y.v ≠ (vip, proto, port))) ⟨_, _, ⟨0, rfl, rfl, hC11, Nat.zero_le _, (fun _ h_ => by simp at h_)⟩, sub_of ⟨rfl, rfl, rfl, rfl, rfl, rfl, rfl, rfl, rfl, trivial⟩⟩ (fun m20 E_ w21 K17 hK18 hI19 => ?_)
 obtain ⟨i, rfl, rfl, hC22, hi, hno⟩ := hI19
 refine WCs (fun K23 hK24 => ?_)
 refine WCg (WLr 1 [(16, .bool (decide ((i : Int) < (xs.length : Int))))] (fun _ => by kernel_rfl) (WLd rfl (QXn (hK24 _ _ ?_))))
 refine WCs (fun K25 hK26 => ?_)
 refine WCa 16 (decide ((i : Int) < (xs.length : Int))) rfl (fun t27b => ?_) (fun t27b => ?_)
 ·
  have t27 : (i : Int) < (xs.length : Int) := by have q_ := of_decide_eq_true t27b; omega
  refine WCt rfl ?_
  refine WC.skip ?_
  refine QXn (hK26 _ _ ?_)
  refine WCs (fun K28 hK29 => ?_)
  refine WC.block ?_
  refine WCs (fun K30 hK31 => ?_)
  refine WCg ?_
  obtain ⟨e32, he33⟩ := get_some (xs := xs) (i := i) (by omega)
  obtain ⟨b34, o36, hA35, hc37⟩ := hr.at_ _ _ he33
  refine WLi AS xs.length cS 17 .i64 (i : Int) b34 o36 i 4 (by kernel_rfl) hA35 (by omega) (by omega) (o36 + i * 4) (by first | (simp; done) | omega) ?_
  refine WL.load 52 (.pointer (some ⟨b34, o36 + i * 4, none⟩)) (.agg #[.int .u32 e32.v.vip, .int .i64 e32.v.proto, .int .i64 e32.v.port, .slice e32.a e32.v.ends.length e32.c]) 18 (by kernel_rfl) (run_rdN (l := [.int .u32 e32.v.vip, .int .i64 e32.v.proto, .int .i64 e32.v.port, .slice e32.a e32.v.ends.length e32.c]) rfl rfl (fun j u hu => by have hq_ := hC22.fr.cell (hc37 j u hu) (by simp); simpa [Nat.add_assoc] using hq_)) ?_
  refine WL.newM hC22 (fun b => .pointer (some ⟨b, 0, none⟩)) (.cells #[.int .u32 0, .int .i64 0, .int .i64 0, .slice none 0 0] 52) 11 (fun _ => by kernel_rfl) (fun g38 w39 hb42 hF40 hC41 => ?_)
  refine WLs (c' := #[.int .u32 e32.v.vip, .int .i64 e32.v.proto, .int .i64 e32.v.port, .slice e32.a e32.v.ends.length e32.c]) hC41 2 52 g38 0 (.agg #[.int .u32 e32.v.vip, .int .i64 e32.v.proto, .int .i64 e32.v.port, .slice e32.a e32.v.ends.length e32.c]) (by kernel_rfl) rfl (by kernel_rfl) (fun w43 hF45 hC46 => ?_)
  refine WLd rfl (QXn (hK31 _ _ ?_))
  refine WCs (fun K47 hK48 => ?_)
  refine WCg (WLr 1 [(19, .pointer (some ⟨g38, 0, none⟩))] (fun _ => by kernel_rfl) ?_)
  refine WL.load 41 (.pointer (some ⟨g38, 0, none⟩)) (.int .u32 e32.v.vip) 20 (by kernel_rfl) (run_ld (hC46.get 2 rfl) rfl) ?_
  refine WLr 3 [(23, .bool (e32.v.vip == vip)), (22, .bool (e32.v.vip == vip)), (21, .int .u32 vip)] (fun _ => by kernel_rfl) ?_
  refine WLa 23 (e32.v.vip == vip) rfl (fun t49b => ?_) (fun t49b => ?_)
  ·
   have t49 : e32.v.vip = vip := by simpa using t49b
   refine WLr 1 [(24, .pointer (some ⟨g38, 1, none⟩))] (fun _ => by kernel_rfl) ?_
   refine WL.load 3 (.pointer (some ⟨g38, 1, none⟩)) (.int .i64 e32.v.proto) 25 (by kernel_rfl) (run_ld (hC46.get 2 rfl) rfl) ?_
   refine WLr 4 [(29, .bool (e32.v.proto == proto)), (28, .bool (e32.v.proto == proto)), (27, .bool (e32.v.proto == proto)), (26, .int .i64 proto)] (fun _ => by kernel_rfl) ?_
   refine WLa 29 (e32.v.proto == proto) rfl (fun t50b => ?_) (fun t50b => ?_)
   ·
    have t50 : e32.v.proto = proto := by simpa using t50b
    refine WLr 1 [(30, .pointer (some ⟨g38, 2, none⟩))] (fun _ => by kernel_rfl) ?_
    refine WL.load 3 (.pointer (some ⟨g38, 2, none⟩)) (.int .i64 e32.v.port) 31 (by kernel_rfl) (run_ld (hC46.get 2 rfl) rfl) ?_
    refine WLr 3 [(34, .bool (e32.v.port == port)), (33, .bool (e32.v.port == port)), (32, .int .i64 port)] (fun _ => by kernel_rfl) (WLd rfl (QXn (hK48 _ _ ?_)))
    refine WCa 34 (e32.v.port == port) rfl (fun t51b => ?_) (fun t51b => ?_)
    ·
     have t51 : e32.v.port = port := by simpa using t51b
     refine WCt rfl ?_
     refine WCs (fun K52 hK53 => ?_)
     refine WCg (WLr 1 [(35, .pointer (some ⟨g38, 3, none⟩))] (fun _ => by kernel_rfl) ?_)
     refine WL.load 50 (.pointer (some ⟨g38, 3, none⟩)) (.slice e32.a e32.v.ends.length e32.c) 36 (by kernel_rfl) (run_ld (hC46.get 2 rfl) rfl) ?_
     refine WLc rfl rfl rfl rfl rfl (by kernel_rfl) (CloneE_n e32.a e32.v.ends.length e32.c e32.v.ends w43 (Rd.fr (hat _ (List.mem_of_getElem? he33)).rd hC46.fr) rfl (hat _ (List.mem_of_getElem? he33)).lim) ?_
     rintro _ w57 ⟨A54, c55, rfl, hF56, ho59⟩
     have hC58 := hC46.callN hF56 (own_ge ho59) (own_lt ho59)
     have ho60 := own_base (b' := 0) ho59 (fun _ _ => Nat.zero_le _)
     refine ⟨_, rfl, ?_⟩
     refine WLr 1 [(38, .pointer (some ⟨g38, 3, none⟩))] (fun _ => by kernel_rfl) ?_
     refine WLs (c' := #[.int .u32 e32.v.vip, .int .i64 e32.v.proto, .int .i64 e32.v.port, .slice A54 e32.v.ends.length c55]) hC58 2 50 g38 3 (.slice A54 e32.v.ends.length c55) (by kernel_rfl) rfl (by kernel_rfl) (fun w61 hF63 hC64 => ?_)
     have ho65 := own_fr ho60 hF63 (hC58.apartM 0 2 rfl rfl)
     refine WLd rfl (QXn (hK53 _ _ ?_))
     refine WCs (fun K66 hK67 => ?_)
     refine WCg ?_
     refine WL.load 52 (.pointer (some ⟨g38, 0, none⟩)) (.agg #[.int .u32 e32.v.vip, .int .i64 e32.v.proto, .int .i64 e32.v.port, .slice A54 e32.v.ends.length c55]) 39 (by kernel_rfl) (run_ld (hC64.get 2 rfl) rfl) ?_
     refine WLs (c' := #[.int .u32 e32.v.vip, .int .i64 e32.v.proto, .int .i64 e32.v.port, .slice A54 e32.v.ends.length c55]) hC64 1 52 g8 0 (.agg #[.int .u32 e32.v.vip, .int .i64 e32.v.proto, .int .i64 e32.v.port, .slice A54 e32.v.ends.length c55]) (by kernel_rfl) rfl (by kernel_rfl) (fun w68 hF70 hC71 => ?_)
     have ho72 := own_fr ho65 hF70 (hC64.apartM 0 1 rfl rfl)
     refine WLr 1 [(9, .bool true)] (fun _ => by kernel_rfl) (WLd rfl (QXn (hK67 _ _ ?_)))
     refine WC.ret ?_
     refine QXk ?_
     refine QXr ?_
     refine QXr ?_
     refine QXk ?_
     refine QXr ?_
     refine (hret' _ _ (.tuple #[.agg #[.int .u32 e32.v.vip, .int .i64 e32.v.proto, .int .i64 e32.v.port, .slice A54 e32.v.ends.length c55], .bool true]) (fun a ha => ?_) ?_).1
     ·
      exact res_run ha ((ResR.cell rfl (run_ld (hC71.get 1 rfl) rfl) (ResR.tmp rfl ResR.nil))) rfl
     clear hN hret hret' hK67 hK53 hK48 hK31 hK29 hK26 hK24 hK16 hK14 hK2
     have hf_ := findS_hit he33 (kV_eq (by simpa using t49b) (by simpa using t50b) (by simpa using t51b)) hno
     have hg_ : (getS (xs.map (·.v)) (vip, proto, port)) = e32.v := by unfold getS; rw [hf_]; rfl
     have hb_ : hasS (xs.map (·.v)) (vip, proto, port) = true := by unfold hasS; rw [hf_]; rfl
     rw [hg_, hb_]
     exact ⟨_, _, rfl, hC71.fr, own_base ho72 (newF_of hC71 0 rfl (fun _ h_ => nomatch h_) (fun _ h_ => nomatch h_))⟩
    ·
     have t51 : ¬ (e32.v.port = port) := by simpa using t51b
     refine WCf rfl (WC.skip ?_)
     refine QXb ?_
     refine QXn (hK29 _ _ ?_)
     refine WCg (WLr 1 [(40, .int .i64 (IntKind.i64.wrap ((i : Int) + 1)))] (fun _ => by kernel_rfl) ?_)
     refine WLt (show (.int .i64 (IntKind.i64.wrap ((i : Int) + 1)) : Value) = .int .i64 ((i : Int) + 1) from by rw [wrap_in_i64 ((i : Int) + 1) (by omega) (by omega)]) ?_
     refine WLr 1 [(15, .int .i64 ((i : Int) + 1))] (fun _ => by kernel_rfl) ?_
     refine WLd rfl ?_
     refine QXn ?_
     have hC73 := hC46.pick [0, 1] [] rfl rfl
     refine fun a_ ha_ => hK18 _ _ _ ?_ ⟨i + 1, rfl, rfl, hC73, by omega, takeS_no he33 (kV_ne (by first | (exact .inl (by simpa using t51b)) | (exact .inr (.inl (by simpa using t51b))) | (exact .inr (.inr (by simpa using t51b))))) hno⟩ a_ (ha_.weaken (sub_of ⟨rfl, rfl, rfl, rfl, rfl, rfl, rfl, rfl, rfl, trivial⟩))
     omega
   ·
    have t50 : ¬ (e32.v.proto = proto) := by simpa using t50b
    refine WLr 5 [(34, .bool false), (33, undef), (32, undef), (31, undef), (30, undef)] (fun _ => by kernel_rfl) (WLd rfl (QXn (hK48 _ _ ?_)))
    refine WCf rfl (WC.skip ?_)
    refine QXb ?_
    refine QXn (hK29 _ _ ?_)
    refine WCg (WLr 1 [(40, .int .i64 (IntKind.i64.wrap ((i : Int) + 1)))] (fun _ => by kernel_rfl) ?_)
    refine WLt (show (.int .i64 (IntKind.i64.wrap ((i : Int) + 1)) : Value) = .int .i64 ((i : Int) + 1) from by rw [wrap_in_i64 ((i : Int) + 1) (by omega) (by omega)]) ?_
    refine WLr 1 [(15, .int .i64 ((i : Int) + 1))] (fun _ => by kernel_rfl) ?_
    refine WLd rfl ?_
    refine QXn ?_
    have hC74 := hC46.pick [0, 1] [] rfl rfl
    refine fun a_ ha_ => hK18 _ _ _ ?_ ⟨i + 1, rfl, rfl, hC74, by omega, takeS_no he33 (kV_ne (by first | (exact .inl (by simpa using t50b)) | (exact .inr (.inl (by simpa using t50b))) | (exact .inr (.inr (by simpa using t50b))))) hno⟩ a_ (ha_.weaken (sub_of ⟨rfl, rfl, rfl, rfl, rfl, rfl, rfl, rfl, rfl, trivial⟩))
    omega
  ·
   have t49 : ¬ (e32.v.vip = vip) := by simpa using t49b
   refine WLr 11 [(34, .bool false), (33, undef), (32, undef), (31, undef), (30, undef), (29, .bool false), (28, .bool false), (27, undef), (26, undef), (25, undef), (24, undef)] (fun _ => by kernel_rfl) (WLd rfl (QXn (hK48 _ _ ?_)))
   refine WCf rfl (WC.skip ?_)
   refine QXb ?_
   refine QXn (hK29 _ _ ?_)
   refine WCg (WLr 1 [(40, .int .i64 (IntKind.i64.wrap ((i : Int) + 1)))] (fun _ => by kernel_rfl) ?_)
   refine WLt (show (.int .i64 (IntKind.i64.wrap ((i : Int) + 1)) : Value) = .int .i64 ((i : Int) + 1) from by rw [wrap_in_i64 ((i : Int) + 1) (by omega) (by omega)]) ?_
   refine WLr 1 [(15, .int .i64 ((i : Int) + 1))] (fun _ => by kernel_rfl) ?_
   refine WLd rfl ?_
   refine QXn ?_
   have hC75 := hC46.pick [0, 1] [] rfl rfl
   refine fun a_ ha_ => hK18 _ _ _ ?_ ⟨i + 1, rfl, rfl, hC75, by omega, takeS_no he33 (kV_ne (by first | (exact .inl (by simpa using t49b)) | (exact .inr (.inl (by simpa using t49b))) | (exact .inr (.inr (by simpa using t49b))))) hno⟩ a_ (ha_.weaken (sub_of ⟨rfl, rfl, rfl, rfl, rfl, rfl, rfl, rfl, rfl, trivial⟩))
   omega
 ·
  have t27 : (xs.length : Int) ≤ (i : Int) := by have q_ := of_decide_eq_false t27b; omega
  refine WCf rfl ?_
  refine WC.exit ?_
  refine QXe ?_
  refine QXe ?_
  refine QX.block_hit ?_
  refine QXn (hK14 _ _ ?_)
  refine WCs (fun K76 hK77 => ?_)
  refine WCg (WLr 1 [(41, .agg #[.int .u32 0, .int .i64 0, .int .i64 0, .slice none 0 0])] (fun _ => by kernel_rfl) ?_)
  refine WLs (c' := #[.int .u32 0, .int .i64 0, .int .i64 0, .slice none 0 0]) hC22 1 52 g8 0 (.agg #[.int .u32 0, .int .i64 0, .int .i64 0, .slice none 0 0]) (by kernel_rfl) rfl (by kernel_rfl) (fun w78 hF80 hC81 => ?_)
  refine WLr 1 [(9, .bool false)] (fun _ => by kernel_rfl) (WLd rfl (QXn (hK77 _ _ ?_)))
  refine WC.ret ?_
  refine (hret' _ _ (.tuple #[.agg #[.int .u32 0, .int .i64 0, .int .i64 0, .slice none 0 0], .bool false]) (fun a ha => ?_) ?_).1
  ·
   exact res_run ha ((ResR.cell rfl (run_ld (hC81.get 1 rfl) rfl) (ResR.tmp rfl ResR.nil))) rfl
  clear hN hret hret' hK77 hK26 hK24 hK16 hK14 hK2
  rw [List.take_of_length_le (by omega)] at hno
  have hf_ := findS_none hno
  have hg_ : (getS (xs.map (·.v)) (vip, proto, port)) = zeroS := by unfold getS; rw [hf_]; rfl
  have hb_ : hasS (xs.map (·.v)) (vip, proto, port) = false := by unfold hasS; rw [hf_]; rfl
  rw [hg_, hb_]
  exact ⟨none, 0, rfl, hC81.fr, own_nil _ _ _ _⟩

theorem Service_n (ce cn : Int) (AN AK AL : Option Addr) (nN cN nK cK nL cL : Nat) (AS : Option Addr) (cS : Nat) (xs : List Svc) (vip proto port : Int) (n : Nat) (w : World) (hr : Rd w 4 cellsS AS xs) (hat : ∀ s ∈ xs, svcAt w s) (hl : xs.length ≤ 1099511627776) (hn : xs.length = n) : Calls Tryd.prog 16 #[.agg #[.int .i64 ce, .int .i64 cn, .slice AS n cS, .slice AN nN cN, .slice AK nK cK, .slice AL nL cL], .int .u32 vip, .int .i64 proto, .int .i64 port] w fun e w' => ∃ (A2 : Option Addr) (c2 : Nat), e = .returned (.tuple #[.agg #[.int .u32 ((getS (xs.map (·.v)) (vip, proto, port)).vip), .int .i64 ((getS (xs.map (·.v)) (vip, proto, port)).proto), .int .i64 ((getS (xs.map (·.v)) (vip, proto, port)).port), .slice A2 ((getS (xs.map (·.v)) (vip, proto, port)).ends.length) c2], .bool (hasS (xs.map (·.v)) (vip, proto, port))]) ∧ Fr w w' [] ∧ w'.ownsRow w.heap.size 64 3 (.slice A2 (getS (xs.map (·.v)) (vip, proto, port)).ends.length c2) (getS (xs.map (·.v)) (vip, proto, port)).ends.length ((getS (xs.map (·.v)) (vip, proto, port)).ends.flatMap cellsE) := by subst hn; exact Service_ct ce cn AN AK AL nN cN nK cK nL cL AS cS xs vip proto port w hr hat hl
set_option maxHeartbeats 1000000 in
theorem Healthy_ct (ce cn : Int) (AS AN AL : Option Addr) (nS cS nN cN nL cL : Nat) (AK : Option Addr) (cK : Nat) (ks : List Int) (sv sp sq : Int) (AE : Option Addr) (cE : Nat) (es : List EndV) (w : World) (hrk : Rd w 1 (Go.Tw.encI .u32) AK ks) (hlk : ks.length ≤ 1099511627776) (hre : Rd w 3 cellsE AE es) (hle : es.length ≤ 1099511627776) : Calls Tryd.prog 19 #[.agg #[.int .i64 ce, .int .i64 cn, .slice AS nS cS, .slice AN nN cN, .slice AK ks.length cK, .slice AL nL cL], .agg #[.int .u32 sv, .int .i64 sp, .int .i64 sq, .slice AE es.length cE]] w fun e w' => ∃ v, e = .returned v ∧ Fr w w' [] ∧ w'.ownsRow w.heap.size 64 3 v (wellL ks es).length ((wellL ks es).flatMap cellsE) := by
 refine enterD (n := 27) Tryd.func19 rfl rfl (Nat.le_of_ble_eq_true rfl) ?_
 intro Q0 hN hret hret'
 have hC := Cx.start w
 refine WCs (fun K1 hK2 => ?_)
 refine WCg ?_
 refine WL.newM hC (fun b => .pointer (some ⟨b, 0, none⟩)) (.cells #[.int .i64 ce, .int .i64 cn, .slice AS nS cS, .slice AN nN cN, .slice AK ks.length cK, .slice AL nL cL] 31) 2 (fun _ => by kernel_rfl) (fun g3 w4 hb7 hF5 hC6 => ?_)
 refine WL.newM hC6 (fun b => .pointer (some ⟨b, 0, none⟩)) (.cells #[.int .u32 sv, .int .i64 sp, .int .i64 sq, .slice AE es.length cE] 52) 3 (fun _ => by kernel_rfl) (fun g8 w9 hb12 hF10 hC11 => ?_)
 refine WLr 1 [(4, .slice none 0 0)] (fun _ => by kernel_rfl) (WLd rfl (QXn (hK2 _ _ ?_)))
 refine WCs (fun K13 hK14 => ?_)
 refine WCg (WLr 1 [(5, .slice none 0 0)] (fun _ => by kernel_rfl) (WLd rfl (QXn (hK14 _ _ ?_))))
 refine WCs (fun K15 hK16 => ?_)
 refine WCs (fun K17 hK18 => ?_)
 refine WCg (WLr 1 [(8, .pointer (some ⟨g8, 3, none⟩))] (fun _ => by kernel_rfl) ?_)
 refine WL.load 50 (.pointer (some ⟨g8, 3, none⟩)) (.slice AE es.length cE) 9 (by kernel_rfl) (run_ld (hC11.get 1 rfl) rfl) ?_
 refine WLr 2 [(11, .int .i64 0), (10, .int .i64 (es.length : Int))] (fun _ => by kernel_rfl) (WLd rfl (QXn (hK18 _ _ ?_)))
 refine WC.block ?_
 have hC19 := hC11.addNil
 refine WC.loop (fun m_ E_ w_ => ∃ (k : Nat) (A5 : Option Addr) (n5 c5 : Nat), m_ = es.length - k ∧ E_ = [(0, .agg #[.int .i64 ce, .int .i64 cn, .slice AS nS cS, .slice AN nN cN, .slice AK ks.length cK, .slice AL nL cL]), (1, .agg #[.int .u32 sv, .int .i64 sp, .int .i64 sq, .slice AE es.length cE]), (2, .pointer (some ⟨g3, 0, none⟩)), (3, .pointer (some ⟨g8, 0, none⟩)), (4, .slice none 0 0), (5, .slice A5 n5 c5), (9, .slice AE es.length cE), (10, .int .i64 (es.length : Int)), (11, .int .i64 (k : Int))] ∧ Cx w [] w_ [(g3, .cells #[.int .i64 ce, .int .i64 cn, .slice AS nS cS, .slice AN nN cN, .slice AK ks.length cK, .slice AL nL cL] 31), (g8, .cells #[.int .u32 sv, .int .i64 sp, .int .i64 sq, .slice AE es.length cE] 52)] [blk (.slice A5 n5 c5)] ∧ World.ownsRow w_ 0 64 3 (.slice A5 n5 c5) n5 ((wellL ks (es.take k)).flatMap cellsE) ∧ (k ≤ es.length)) ⟨_, _, ⟨0, none, 0, 0, rfl, rfl, hC19, own_nil _ _ _ _, Nat.zero_le _⟩, sub_of ⟨rfl, rfl, rfl, rfl, rfl, rfl, rfl, rfl, rfl, trivial⟩⟩ (fun m23 E_ w24 K20 hK21 hI22 => ?_)
 obtain ⟨k, A5, n5, c5, rfl, rfl, hC25, hout, hk⟩ := hI22
 have hon_ := own_count cellsE_len (by decide) hout
 have hob_ : (wellL ks (es.take k)).length ≤ es.length := Nat.le_trans (List.length_filter_le _ _) (by rw [List.length_take]; exact Nat.min_le_right _ _)
 refine WCs (fun K26 hK27 => ?_)
 refine WCg (WLr 1 [(12, .bool (decide ((k : Int) < (es.length : Int))))] (fun _ => by kernel_rfl) (WLd rfl (QXn (hK27 _ _ ?_))))
 refine WCs (fun K28 hK29 => ?_)
 refine WCa 12 (decide ((k : Int) < (es.length : Int))) rfl (fun t30b => ?_) (fun t30b => ?_)
 ·
  have t30 : (k : Int) < (es.length : Int) := by have q_ := of_decide_eq_true t30b; omega
  refine WCt rfl ?_
  refine WC.skip ?_
  refine QXn (hK29 _ _ ?_)
  refine WCs (fun K31 hK32 => ?_)
  refine WC.block ?_
  refine WCs (fun K33 hK34 => ?_)
  refine WCg ?_
  obtain ⟨e35, he36⟩ := get_some (xs := es) (i := k) (by omega)
  obtain ⟨b37, o39, hA38, hc40⟩ := hre.at_ _ _ he36
  refine WLi AE es.length cE 13 .i64 (k : Int) b37 o39 k 3 (by kernel_rfl) hA38 (by omega) (by omega) (o39 + k * 3) (by first | (simp; done) | omega) ?_
  refine WL.load 64 (.pointer (some ⟨b37, o39 + k * 3, none⟩)) (.agg #[.int .u32 e35.dip, .int .i64 e35.port, .int .i64 e35.weight]) 14 (by kernel_rfl) (run_rdN (l := [.int .u32 e35.dip, .int .i64 e35.port, .int .i64 e35.weight]) rfl rfl (fun j u hu => by have hq_ := hC25.fr.cell (hc40 j u hu) (by simp); simpa [Nat.add_assoc] using hq_)) ?_
  refine WL.newM hC25 (fun b => .pointer (some ⟨b, 0, none⟩)) (.cells #[.int .u32 0, .int .i64 0, .int .i64 0] 64) 7 (fun _ => by kernel_rfl) (fun g41 w42 hb45 hF43 hC44 => ?_)
  have ho46 := own_fr hout hF43 (by simp)
  refine WLs (c' := #[.int .u32 e35.dip, .int .i64 e35.port, .int .i64 e35.weight]) hC44 2 64 g41 0 (.agg #[.int .u32 e35.dip, .int .i64 e35.port, .int .i64 e35.weight]) (by kernel_rfl) rfl (by kernel_rfl) (fun w47 hF49 hC50 => ?_)
  have ho51 := own_fr ho46 hF49 (hC44.apartM 0 2 rfl rfl)
  refine WLd rfl (QXn (hK34 _ _ ?_))
  refine WCs (fun K52 hK53 => ?_)
  refine WCg (WLr 1 [(15, .pointer (some ⟨g3, 4, none⟩))] (fun _ => by kernel_rfl) ?_)
  refine WL.load 28 (.pointer (some ⟨g3, 4, none⟩)) (.slice AK ks.length cK) 16 (by kernel_rfl) (run_ld (hC50.get 0 rfl) rfl) ?_
  refine WLr 1 [(17, .pointer (some ⟨g41, 0, none⟩))] (fun _ => by kernel_rfl) ?_
  refine WL.load 41 (.pointer (some ⟨g41, 0, none⟩)) (.int .u32 e35.dip) 18 (by kernel_rfl) (run_ld (hC50.get 2 rfl) rfl) ?_
  refine WLc rfl rfl rfl rfl rfl (by kernel_rfl) (contA_n AK ks.length cK ks e35.dip w47 (Rd.fr hrk hC50.fr) (by first | rfl | assumption) (by omega)) ?_
  rintro _ w55 ⟨rfl, hF54⟩
  refine ⟨_, rfl, ?_⟩
  have hC56 := hC50.call hF54
  have ho57 := own_fr ho51 hF54 (by simp)
  refine WLr 1 [(20, .bool (!(sickB ks e35.dip)))] (fun _ => by kernel_rfl) (WLd rfl (QXn (hK53 _ _ ?_)))
  refine WCa 20 (!(sickB ks e35.dip)) rfl (fun t58b => ?_) (fun t58b => ?_)
  ·
   have t58 : (sickB ks e35.dip) = false := by first | (simpa only [Bool.not_eq_true', Bool.not_eq_false'] using t58b) | simpa using t58b
   refine WCt rfl ?_
   refine WCg (WLr 1 [(21, .slice A5 n5 c5)] (fun _ => by kernel_rfl) ?_)
   refine WL.load 64 (.pointer (some ⟨g41, 0, none⟩)) (.agg #[.int .u32 e35.dip, .int .i64 e35.port, .int .i64 e35.weight]) 22 (by kernel_rfl) (run_ld (hC56.get 2 rfl) rfl) ?_
   refine WL.newM hC56 (fun b => .slice (some ⟨b, 0, none⟩) 1 1) (.cells #[.int .u32 e35.dip, .int .i64 e35.port, .int .i64 e35.weight] 64) 23 (fun _ => by kernel_rfl) (fun g59 w60 hb63 hF61 hC62 => ?_)
   have ho64 := own_fr ho57 hF61 (by simp)
   obtain ⟨v65, w66, hr67, ho68, hF69, hC70, hnil71, hsub72⟩ := app_run Tryd.prog hC62 0 (v := .slice A5 n5 c5) rfl 50 50 64 3 24 n5 1 1 (some ⟨g59, 0, none⟩) rfl ho64 [.int .u32 e35.dip, .int .i64 e35.port, .int .i64 e35.weight] rfl (srcOk.blk 1 (hC62.get 3 rfl)) rfl (by simp only [maxLen]; omega) (by omega)
   have ho76 := own_snoc (enc := cellsE) (ys := (wellL ks (es.take k))) e35 ho68
   obtain ⟨A73, c74, rfl, hle75⟩ := own_form ho76
   refine WL.sem (Builtin.append_ #[50, 50] 50 #[.slice A5 n5 c5, .slice (some ⟨g59, 0, none⟩) 1 1]) 24 (.slice A73 (n5 + 1) c74) (by kernel_rfl) hr67 ?_
   refine WLr 1 [(5, .slice A73 (n5 + 1) c74)] (fun _ => by kernel_rfl) ?_
   refine WLd rfl ?_
   refine QXb ?_
   refine QXn (hK32 _ _ ?_)
   refine WCg (WLr 1 [(25, .int .i64 (IntKind.i64.wrap ((k : Int) + 1)))] (fun _ => by kernel_rfl) ?_)
   refine WLt (show (.int .i64 (IntKind.i64.wrap ((k : Int) + 1)) : Value) = .int .i64 ((k : Int) + 1) from by rw [wrap_in_i64 ((k : Int) + 1) (by omega) (by omega)]) ?_
   refine WLr 1 [(11, .int .i64 ((k : Int) + 1))] (fun _ => by kernel_rfl) ?_
   refine WLd rfl ?_
   refine QXn ?_
   have hC77 := hC70.pick [0, 1] [0] rfl rfl
   refine fun a_ ha_ => hK21 _ _ _ ?_ ⟨k + 1, A73, n5 + 1, c74, rfl, rfl, hC77, by unfold wellL; rw [filt_snoc _ he36, if_pos (by simpa using t58)]; exact ho76, by omega⟩ a_ (ha_.weaken (sub_of ⟨rfl, rfl, rfl, rfl, rfl, rfl, rfl, rfl, rfl, trivial⟩))
   omega
  ·
   have t58 : (sickB ks e35.dip) = true := by first | (simpa only [Bool.not_eq_true', Bool.not_eq_false'] using t58b) | simpa using t58b
   refine WCf rfl (WC.skip ?_)
   refine QXb ?_
   refine QXn (hK32 _ _ ?_)
   refine WCg (WLr 1 [(25, .int .i64 (IntKind.i64.wrap ((k : Int) + 1)))] (fun _ => by kernel_rfl) ?_)
   refine WLt (show (.int .i64 (IntKind.i64.wrap ((k : Int) + 1)) : Value) = .int .i64 ((k : Int) + 1) from by rw [wrap_in_i64 ((k : Int) + 1) (by omega) (by omega)]) ?_
   refine WLr 1 [(11, .int .i64 ((k : Int) + 1))] (fun _ => by kernel_rfl) ?_
   refine WLd rfl ?_
   refine QXn ?_
   have hC78 := hC56.pick [0, 1] [0] rfl rfl
   refine fun a_ ha_ => hK21 _ _ _ ?_ ⟨k + 1, A5, n5, c5, rfl, rfl, hC78, by unfold wellL; rw [filt_snoc _ he36, if_neg (by simpa using t58), List.append_nil]; exact ho57, by omega⟩ a_ (ha_.weaken (sub_of ⟨rfl, rfl, rfl, rfl, rfl, rfl, rfl, rfl, rfl, trivial⟩))
   omega
 ·
  have t30 : (es.length : Int) ≤ (k : Int) := by have q_ := of_decide_eq_false t30b; omega
  refine WCf rfl ?_
  refine WC.exit ?_
  refine QXe ?_
  refine QXe ?_
  refine QX.block_hit ?_
  refine QXn (hK16 _ _ ?_)
  refine WCs (fun K79 hK80 => ?_)
  refine WCg (WLr 2 [(4, .slice A5 n5 c5), (26, .slice A5 n5 c5)] (fun _ => by kernel_rfl) (WLd rfl (QXn (hK80 _ _ ?_))))
  refine WC.ret ?_
  refine (hret _ _ _ rfl ?_).1
  clear hN hret hret' hK80 hK29 hK27 hK18 hK16 hK14 hK2
  have hke_ : k = es.length := by omega
  have ho_ := hout
  rw [hke_, List.take_length] at ho_ hon_
  subst hon_
  exact ⟨_, rfl, hC25.fr, own_base ho_ (newF_of hC25 0 rfl (fun _ h_ => nomatch h_) (fun _ h_ => nomatch h_))⟩

theorem Healthy_n (ce cn : Int) (AS AN AL : Option Addr) (nS cS nN cN nL cL : Nat) (AK : Option Addr) (cK : Nat) (ks : List Int) (sv sp sq : Int) (AE : Option Addr) (cE : Nat) (es : List EndV) (n n2 : Nat) (w : World) (hrk : Rd w 1 (Go.Tw.encI .u32) AK ks) (hlk : ks.length ≤ 1099511627776) (hre : Rd w 3 cellsE AE es) (hle : es.length ≤ 1099511627776) (hn : ks.length = n) (hn2 : es.length = n2) : Calls Tryd.prog 19 #[.agg #[.int .i64 ce, .int .i64 cn, .slice AS nS cS, .slice AN nN cN, .slice AK n cK, .slice AL nL cL], .agg #[.int .u32 sv, .int .i64 sp, .int .i64 sq, .slice AE n2 cE]] w fun e w' => ∃ v, e = .returned v ∧ Fr w w' [] ∧ w'.ownsRow w.heap.size 64 3 v (wellL ks es).length ((wellL ks es).flatMap cellsE) := by subst hn hn2; exact Healthy_ct ce cn AS AN AL nS cS nN cN nL cL AK cK ks sv sp sq AE cE es w hrk hlk hre hle
def insideB (port first : Int) : Bool := decide (first ≤ port ∧ port - first < 8)
theorem findP_inside (l : Lease) (vip port now : Int) : findP vip port now l = (decide (l.vip = vip) && decide (now ≤ l.exp) && insideB port l.first) := by
  simp only [findP, livesB, insideB, Bool.decide_and, Bool.and_assoc]
theorem inside_no {port first : Int} (h : first ≤ 4611686018427387904 → ∀ k : Nat, k < 8 → first + (k : Int) ≠ port) (h1 : first ≤ 4611686018427387904) : insideB port first = false := by
  cases hc : insideB port first
  · rfl
  · simp only [insideB, decide_eq_true_eq] at hc
    exact absurd (by omega) (h h1 (port - first).toNat (by omega))
theorem filter_snoc_no {p : Lease → Bool} {xs : List Lease} {k : Nat} {x : Lease} (h : (xs.take k).filter p = []) (hx : xs[k]? = some x) (hp : p x = false) : (xs.take (k + 1)).filter p = [] := by
  rw [take_filter_snoc p hx, h]; simp [hp]
theorem filter_hit {p : Lease → Bool} {xs : List Lease} {k : Nat} {x : Lease} (h : (xs.take k).filter p = []) (hx : xs[k]? = some x) (hp : p x = true) : headL (xs.filter p) = x ∧ hasL (xs.filter p) = true := by
  obtain ⟨hk, rfl⟩ := List.getElem?_eq_some_iff.1 hx
  have e : xs.filter p = (xs.take k).filter p ++ (xs.drop k).filter p := by rw [← List.filter_append, List.take_append_drop]
  rw [e, h, List.nil_append, List.drop_eq_getElem_cons hk, List.filter_cons_of_pos hp]
  exact ⟨rfl, rfl⟩
theorem filter_end {p : Lease → Bool} {xs : List Lease} {k : Nat} (h : (xs.take k).filter p = []) (hk : xs.length ≤ k) : headL (xs.filter p) = ⟨0, 0, 0, 0⟩ ∧ hasL (xs.filter p) = false := by
  rw [List.take_of_length_le hk] at h; rw [h]; exact ⟨rfl, rfl⟩
def wstep (l : Lease) (o : List Lease × Bool) (x : Lease) : List Lease × Bool :=
  let o1 := if !o.2 && !ltL x l then (o.1 ++ [l], true) else o
  if x.vip ≠ l.vip ∨ x.first ≠ l.first then (o1.1 ++ [x], o1.2) else o1
def markL : Lease := ⟨0, -77, 0, 0⟩
theorem inside2_ct (port first : Int) (w : World) (hp : -9223372036854775808 ≤ port ∧ port ≤ 9223372036854775807) (hf : -9223372036854775808 ≤ first ∧ first ≤ 9223372036854775807) : Calls Tryd.prog 43 #[.int .i64 port, .int .i64 first] w fun e w' => e = .returned (.bool (insideB port first)) ∧ Fr w w' [] := by
 refine enterD (n := 32) Tryd.func43 rfl rfl (Nat.le_of_ble_eq_true rfl) ?_
 intro Q0 hN hret hret'
 have hC := Cx.start w
 refine WCs (fun K1 hK2 => ?_)
 refine WCg (WLr 1 [(4, .bool false)] (fun _ => by kernel_rfl) (WLd rfl (QXn (hK2 _ _ ?_))))
 refine WCs (fun K3 hK4 => ?_)
 refine WCs (fun K5 hK6 => ?_)
 refine WCg (WLr 1 [(5, .int .i64 0)] (fun _ => by kernel_rfl) (WLd rfl (QXn (hK6 _ _ ?_))))
 refine WC.block ?_
 refine WC.loop (fun m_ E_ w_ => ∃ (k : Nat), m_ = 8 - k ∧ E_ = [(0, .int .i64 port), (1, .int .i64 first), (5, .int .i64 (k : Int))] ∧ Cx w [] w_ [] [] ∧ (k ≤ 8 ∧ (first ≤ 4611686018427387904 → ∀ j : Nat, j < k → first + (j : Int) ≠ port))) ⟨_, _, ⟨0, rfl, rfl, hC, Nat.zero_le _, fun _ j q => absurd q (Nat.not_lt_zero _)⟩, sub_of ⟨rfl, rfl, rfl, trivial⟩⟩ (fun m10 E_ w11 K7 hK8 hI9 => ?_)
 obtain ⟨k, rfl, rfl, hC12, hk, hno⟩ := hI9
 refine WCs (fun K13 hK14 => ?_)
 refine WCs (fun K15 hK16 => ?_)
 refine WCg (WLr 2 [(7, .bool (decide ((k : Int) < 8))), (6, .int .i64 (k : Int))] (fun _ => by kernel_rfl) (WLd rfl (QXn (hK16 _ _ ?_))))
 refine WCa 7 (decide ((k : Int) < 8)) rfl (fun t17b => ?_) (fun t17b => ?_)
 ·
  have t17 : (k : Int) < 8 := by have q_ := of_decide_eq_true t17b; omega
  refine WCt rfl ?_
  refine WC.skip ?_
  refine QXn (hK14 _ _ ?_)
  refine WCs (fun K18 hK19 => ?_)
  refine WC.block ?_
  refine WCs (fun K20 hK21 => ?_)
  refine WCg (WLr 3 [(12, .bool (decide (first ≤ 4611686018427387904))), (11, .bool (decide (first ≤ 4611686018427387904))), (10, .int .i64 first)] (fun _ => by kernel_rfl) ?_)
  refine WLa 12 (decide (first ≤ 4611686018427387904)) rfl (fun t22b => ?_) (fun t22b => ?_)
  ·
   have t22 : first ≤ 4611686018427387904 := by have q_ := of_decide_eq_true t22b; omega
   refine WLr 3 [(15, .int .i64 (IntKind.i64.wrap (first + (k : Int)))), (14, .int .i64 (k : Int)), (13, .int .i64 first)] (fun _ => by kernel_rfl) ?_
   refine WLt (show (.int .i64 (IntKind.i64.wrap (first + (k : Int))) : Value) = .int .i64 (first + (k : Int)) from by rw [wrap_in_i64 (first + (k : Int)) (by omega) (by omega)]) ?_
   refine WLr 3 [(18, .bool ((first + (k : Int)) == port)), (17, .bool ((first + (k : Int)) == port)), (16, .int .i64 port)] (fun _ => by kernel_rfl) (WLd rfl (QXn (hK21 _ _ ?_)))
   refine WCa 18 ((first + (k : Int)) == port) rfl (fun t23b => ?_) (fun t23b => ?_)
   ·
    have t23 : (first + (k : Int)) = port := by simpa using t23b
    refine WCt rfl ?_
    refine WCs (fun K24 hK25 => ?_)
    refine WCg (WLr 1 [(4, .bool true)] (fun _ => by kernel_rfl) (WLd rfl (QXn (hK25 _ _ ?_))))
    refine WC.ret ?_
    refine QXk ?_
    refine QXr ?_
    refine QXr ?_
    refine QXk ?_
    refine QXr ?_
    refine (hret _ _ _ rfl ?_).1
    exact ⟨by simp only [shut, insideB]; congr 2; symm; exact decide_eq_true (by omega), hC12.fr⟩
   ·
    have t23 : ¬ ((first + (k : Int)) = port) := by simpa using t23b
    refine WCf rfl (WC.skip ?_)
    refine QXb ?_
    refine QXn (hK19 _ _ ?_)
    refine WCg (WLr 2 [(9, .int .i64 (IntKind.i64.wrap ((k : Int) + 1))), (8, .int .i64 (k : Int))] (fun _ => by kernel_rfl) ?_)
    refine WLt (show (.int .i64 (IntKind.i64.wrap ((k : Int) + 1)) : Value) = .int .i64 ((k : Int) + 1) from by rw [wrap_in_i64 ((k : Int) + 1) (by omega) (by omega)]) ?_
    refine WLr 1 [(5, .int .i64 ((k : Int) + 1))] (fun _ => by kernel_rfl) ?_
    refine WLd rfl ?_
    refine QXn ?_
    have hC26 := hC12.pick [] [] rfl rfl
    refine fun a_ ha_ => hK8 _ _ _ ?_ ⟨k + 1, rfl, rfl, hC26, by omega, fun q1 j q2 => by
     by_cases e_ : j = k
     ·
      subst e_; omega
     ·
      exact hno q1 j (by omega)⟩ a_ (ha_.weaken (sub_of ⟨rfl, rfl, rfl, trivial⟩))
    omega
  ·
   have t22 : (4611686018427387904 : Int) < first := by have q_ := of_decide_eq_false t22b; omega
   refine WLr 6 [(18, .bool false), (17, undef), (16, undef), (15, undef), (14, undef), (13, undef)] (fun _ => by kernel_rfl) (WLd rfl (QXn (hK21 _ _ ?_)))
   refine WCf rfl (WC.skip ?_)
   refine QXb ?_
   refine QXn (hK19 _ _ ?_)
   refine WCg (WLr 2 [(9, .int .i64 (IntKind.i64.wrap ((k : Int) + 1))), (8, .int .i64 (k : Int))] (fun _ => by kernel_rfl) ?_)
   refine WLt (show (.int .i64 (IntKind.i64.wrap ((k : Int) + 1)) : Value) = .int .i64 ((k : Int) + 1) from by rw [wrap_in_i64 ((k : Int) + 1) (by omega) (by omega)]) ?_
   refine WLr 1 [(5, .int .i64 ((k : Int) + 1))] (fun _ => by kernel_rfl) ?_
   refine WLd rfl ?_
   refine QXn ?_
   have hC27 := hC12.pick [] [] rfl rfl
   refine fun a_ ha_ => hK8 _ _ _ ?_ ⟨k + 1, rfl, rfl, hC27, by omega, fun q1 j q2 => by
    by_cases e_ : j = k
    ·
     subst e_; omega
    ·
     exact hno q1 j (by omega)⟩ a_ (ha_.weaken (sub_of ⟨rfl, rfl, rfl, trivial⟩))
   omega
 ·
  have t17 : (8 : Int) ≤ (k : Int) := by have q_ := of_decide_eq_false t17b; omega
  refine WCf rfl ?_
  refine WC.exit ?_
  refine QXe ?_
  refine QXe ?_
  refine QX.block_hit ?_
  refine QXn (hK4 _ _ ?_)
  refine WCs (fun K28 hK29 => ?_)
  refine WCg (WLr 4 [(22, .bool (decide (port ≥ first))), (21, .bool (decide (port ≥ first))), (20, .int .i64 first), (19, .int .i64 port)] (fun _ => by kernel_rfl) ?_)
  refine WLa 22 (decide (port ≥ first)) rfl (fun t30b => ?_) (fun t30b => ?_)
  ·
   have t30 : first ≤ port := by have q_ := of_decide_eq_true t30b; omega
   refine WLr 6 [(28, .bool (decide ((IntKind.i64.wrap (port - first)) < 8))), (27, .bool (decide ((IntKind.i64.wrap (port - first)) < 8))), (26, .bool (decide ((IntKind.i64.wrap (port - first)) < 8))), (25, .int .i64 (IntKind.i64.wrap (port - first))), (24, .int .i64 first), (23, .int .i64 port)] (fun _ => by kernel_rfl) ?_
   refine WLa 28 (decide ((IntKind.i64.wrap (port - first)) < 8)) rfl (fun t31b => ?_) (fun t31b => ?_)
   ·
    have t31 : (IntKind.i64.wrap (port - first)) < 8 := by have q_ := of_decide_eq_true t31b; omega
    refine WLr 4 [(4, .bool (decide (first > 4611686018427387904))), (31, .bool (decide (first > 4611686018427387904))), (30, .bool (decide (first > 4611686018427387904))), (29, .int .i64 first)] (fun _ => by kernel_rfl) (WLd rfl (QXn (hK29 _ _ ?_)))
    refine WC.ret ?_
    refine (hret _ _ _ rfl ?_).1
    clear hN hret hret' hK29 hK16 hK14 hK6 hK4 hK2
    have hno_ := inside_no (port := port) (first := first) (fun q1 j q2 => hno q1 j (by omega))
    refine ⟨congrArg (fun b_ => Ending.returned (Value.bool b_)) (?_ : (decide (first > 4611686018427387904)) = insideB port first), hC12.fr⟩
    by_cases hf_ : first ≤ 4611686018427387904
    ·
     (try rw [hno_ hf_]); try (simp; try omega)
    ·
     (try have hw_ : IntKind.i64.wrap (port - first) = port - first := wrap_in_i64 _ (by omega) (by omega)); simp only [insideB]; rw [Bool.eq_iff_iff]; simp; try omega
   ·
    have t31 : (8 : Int) ≤ (IntKind.i64.wrap (port - first)) := by have q_ := of_decide_eq_false t31b; omega
    refine WLr 4 [(4, .bool false), (31, .bool false), (30, undef), (29, undef)] (fun _ => by kernel_rfl) (WLd rfl (QXn (hK29 _ _ ?_)))
    refine WC.ret ?_
    refine (hret _ _ _ rfl ?_).1
    clear hN hret hret' hK29 hK16 hK14 hK6 hK4 hK2
    have hno_ := inside_no (port := port) (first := first) (fun q1 j q2 => hno q1 j (by omega))
    refine ⟨congrArg (fun b_ => Ending.returned (Value.bool b_)) (?_ : false = insideB port first), hC12.fr⟩
    by_cases hf_ : first ≤ 4611686018427387904
    ·
     (try rw [hno_ hf_]); try (simp; try omega)
    ·
     (try have hw_ : IntKind.i64.wrap (port - first) = port - first := wrap_in_i64 _ (by omega) (by omega)); simp only [insideB]; rw [Bool.eq_iff_iff]; simp; try omega
  ·
   have t30 : port < first := by have q_ := of_decide_eq_false t30b; omega
   refine WLr 10 [(4, .bool false), (31, .bool false), (30, undef), (29, undef), (28, .bool false), (27, .bool false), (26, undef), (25, undef), (24, undef), (23, undef)] (fun _ => by kernel_rfl) (WLd rfl (QXn (hK29 _ _ ?_)))
   refine WC.ret ?_
   refine (hret _ _ _ rfl ?_).1
   clear hN hret hret' hK29 hK16 hK14 hK6 hK4 hK2
   have hno_ := inside_no (port := port) (first := first) (fun q1 j q2 => hno q1 j (by omega))
   refine ⟨congrArg (fun b_ => Ending.returned (Value.bool b_)) (?_ : false = insideB port first), hC12.fr⟩
   by_cases hf_ : first ≤ 4611686018427387904
   ·
    (try rw [hno_ hf_]); try (simp; try omega)
   ·
    (try have hw_ : IntKind.i64.wrap (port - first) = port - first := wrap_in_i64 _ (by omega) (by omega)); simp only [insideB]; rw [Bool.eq_iff_iff]; simp; try omega

theorem Find2_ct (A : Option Addr) (c : Nat) (xs : List Lease) (vip port now : Int) (w : World) (hr : Rd w 4 encL A xs) (hwf : ∀ l ∈ xs, okL l) (hm : xs.length < 2 ^ 40) (hp : -9223372036854775808 ≤ port ∧ port ≤ 9223372036854775807) : Calls Tryd.prog 20 #[.slice A xs.length c, .int .u32 vip, .int .i64 port, .int .i64 now] w fun e w' => e = .returned (.tuple #[.agg #[.int .u32 ((headL (xs.filter (findP vip port now))).vip), .int .i64 ((headL (xs.filter (findP vip port now))).first), .int .u32 ((headL (xs.filter (findP vip port now))).dip), .int .i64 ((headL (xs.filter (findP vip port now))).exp)], .bool (hasL (xs.filter (findP vip port now)))]) ∧ Fr w w' [] := by
 refine enterD (n := 40) Tryd.func20 rfl rfl (Nat.le_of_ble_eq_true rfl) ?_
 intro Q0 hN hret hret'
 have hC := Cx.start w
 refine WCs (fun K1 hK2 => ?_)
 refine WCg ?_
 refine WL.newM hC (fun b => .pointer (some ⟨b, 0, none⟩)) (.cells #[.int .u32 0, .int .i64 0, .int .u32 0, .int .i64 0] 43) 8 (fun _ => by kernel_rfl) (fun g3 w4 hb7 hF5 hC6 => ?_)
 refine WLr 1 [(9, .bool false)] (fun _ => by kernel_rfl) (WLd rfl (QXn (hK2 _ _ ?_)))
 refine WCs (fun K8 hK9 => ?_)
 refine WCs (fun K10 hK11 => ?_)
 refine WCg (WLr 1 [(10, .int .i64 0)] (fun _ => by kernel_rfl) (WLd rfl (QXn (hK11 _ _ ?_))))
 refine WC.block ?_
 refine WC.loop (fun m_ E_ w_ => ∃ (k : Nat), m_ = xs.length - k ∧ E_ = [(0, .slice A xs.length c), (1, .int .u32 vip), (2, .int .i64 port), (3, .int .i64 now), (8, .pointer (some ⟨g3, 0, none⟩)), (10, .int .i64 (k : Int))] ∧ Cx w [] w_ [(g3, .cells #[.int .u32 0, .int .i64 0, .int .u32 0, .int .i64 0] 43)] [] ∧ (k ≤ xs.length ∧ (xs.take k).filter (findP vip port now) = [])) ⟨_, _, ⟨0, rfl, rfl, hC6, Nat.zero_le _, rfl⟩, sub_of ⟨rfl, rfl, rfl, rfl, rfl, rfl, trivial⟩⟩ (fun m15 E_ w16 K12 hK13 hI14 => ?_)
 obtain ⟨k, rfl, rfl, hC17, hk, hno⟩ := hI14
 refine WCs (fun K18 hK19 => ?_)
 refine WCs (fun K20 hK21 => ?_)
 refine WCg (WLr 4 [(15, .bool (decide ((k : Int) < (xs.length : Int)))), (14, .int .i64 (xs.length : Int)), (13, .slice A xs.length c), (12, .int .i64 (k : Int))] (fun _ => by kernel_rfl) (WLd rfl (QXn (hK21 _ _ ?_))))
 refine WCa 15 (decide ((k : Int) < (xs.length : Int))) rfl (fun t22b => ?_) (fun t22b => ?_)
 ·
  have t22 : (k : Int) < (xs.length : Int) := by have q_ := of_decide_eq_true t22b; omega
  refine WCt rfl ?_
  refine WC.skip ?_
  refine QXn (hK19 _ _ ?_)
  refine WCs (fun K23 hK24 => ?_)
  refine WC.block ?_
  refine WCs (fun K25 hK26 => ?_)
  refine WCg (WLr 2 [(19, .int .i64 (k : Int)), (18, .slice A xs.length c)] (fun _ => by kernel_rfl) ?_)
  obtain ⟨e27, he28⟩ := get_some (xs := xs) (i := k) (by omega)
  obtain ⟨b29, o31, hA30, hc32⟩ := hr.at_ _ _ he28
  have hok_e27 := hwf _ (List.mem_of_getElem? he28)
  have hokk_ := hok_e27
  obtain ⟨_, _, _, _, hfl_e27, hfh_e27, _⟩ := hokk_
  refine WLi A xs.length c 20 .i64 (k : Int) b29 o31 k 4 (by kernel_rfl) hA30 (by omega) (by omega) (o31 + k * 4) (by first | (simp; done) | omega) ?_
  refine WL.load 43 (.pointer (some ⟨b29, o31 + k * 4, none⟩)) (.agg #[.int .u32 e27.vip, .int .i64 e27.first, .int .u32 e27.dip, .int .i64 e27.exp]) 21 (by kernel_rfl) (run_rdN (l := [.int .u32 e27.vip, .int .i64 e27.first, .int .u32 e27.dip, .int .i64 e27.exp]) rfl rfl (fun j u hu => by have hq_ := hC17.fr.cell (hc32 j u hu) (by simp); simpa [Nat.add_assoc] using hq_)) ?_
  refine WL.newM hC17 (fun b => .pointer (some ⟨b, 0, none⟩)) (.cells #[.int .u32 0, .int .i64 0, .int .u32 0, .int .i64 0] 43) 11 (fun _ => by kernel_rfl) (fun g33 w34 hb37 hF35 hC36 => ?_)
  refine WLs (c' := #[.int .u32 e27.vip, .int .i64 e27.first, .int .u32 e27.dip, .int .i64 e27.exp]) hC36 1 43 g33 0 (.agg #[.int .u32 e27.vip, .int .i64 e27.first, .int .u32 e27.dip, .int .i64 e27.exp]) (by kernel_rfl) rfl (by kernel_rfl) (fun w38 hF40 hC41 => ?_)
  refine WLd rfl (QXn (hK26 _ _ ?_))
  refine WCs (fun K42 hK43 => ?_)
  refine WCg (WLr 1 [(22, .pointer (some ⟨g33, 0, none⟩))] (fun _ => by kernel_rfl) ?_)
  refine WL.load 41 (.pointer (some ⟨g33, 0, none⟩)) (.int .u32 e27.vip) 23 (by kernel_rfl) (run_ld (hC41.get 1 rfl) rfl) ?_
  refine WLr 3 [(26, .bool (e27.vip == vip)), (25, .bool (e27.vip == vip)), (24, .int .u32 vip)] (fun _ => by kernel_rfl) ?_
  refine WLa 26 (e27.vip == vip) rfl (fun t44b => ?_) (fun t44b => ?_)
  ·
   have t44 : e27.vip = vip := by simpa using t44b
   refine WLr 2 [(28, .pointer (some ⟨g33, 3, none⟩)), (27, .int .i64 now)] (fun _ => by kernel_rfl) ?_
   refine WL.load 3 (.pointer (some ⟨g33, 3, none⟩)) (.int .i64 e27.exp) 29 (by kernel_rfl) (run_ld (hC41.get 1 rfl) rfl) ?_
   refine WLr 3 [(32, .bool (decide (now ≤ e27.exp))), (31, .bool (decide (now ≤ e27.exp))), (30, .bool (decide (now ≤ e27.exp)))] (fun _ => by kernel_rfl) ?_
   refine WLa 32 (decide (now ≤ e27.exp)) rfl (fun t45b => ?_) (fun t45b => ?_)
   ·
    have t45 : now ≤ e27.exp := by have q_ := of_decide_eq_true t45b; omega
    refine WLr 2 [(34, .pointer (some ⟨g33, 1, none⟩)), (33, .int .i64 port)] (fun _ => by kernel_rfl) ?_
    refine WL.load 3 (.pointer (some ⟨g33, 1, none⟩)) (.int .i64 e27.first) 35 (by kernel_rfl) (run_ld (hC41.get 1 rfl) rfl) ?_
    refine WLc rfl rfl rfl rfl rfl (by kernel_rfl) (inside2_ct port e27.first w38 (by omega) (by omega)) ?_
    rintro _ w47 ⟨rfl, hF46⟩
    refine ⟨_, rfl, ?_⟩
    have hC48 := hC41.call hF46
    refine WLr 1 [(37, .bool (insideB port e27.first))] (fun _ => by kernel_rfl) (WLd rfl (QXn (hK43 _ _ ?_)))
    refine WCa 37 (insideB port e27.first) rfl (fun t49b => ?_) (fun t49b => ?_)
    ·
     refine WCt rfl ?_
     refine WCs (fun K50 hK51 => ?_)
     refine WCg ?_
     refine WL.load 43 (.pointer (some ⟨g33, 0, none⟩)) (.agg #[.int .u32 e27.vip, .int .i64 e27.first, .int .u32 e27.dip, .int .i64 e27.exp]) 38 (by kernel_rfl) (run_ld (hC48.get 1 rfl) rfl) ?_
     refine WLs (c' := #[.int .u32 e27.vip, .int .i64 e27.first, .int .u32 e27.dip, .int .i64 e27.exp]) hC48 0 43 g3 0 (.agg #[.int .u32 e27.vip, .int .i64 e27.first, .int .u32 e27.dip, .int .i64 e27.exp]) (by kernel_rfl) rfl (by kernel_rfl) (fun w52 hF54 hC55 => ?_)
     refine WLr 1 [(9, .bool true)] (fun _ => by kernel_rfl) (WLd rfl (QXn (hK51 _ _ ?_)))
     refine WC.ret ?_
     refine QXk ?_
     refine QXr ?_
     refine QXr ?_
     refine QXk ?_
     refine QXr ?_
     refine (hret' _ _ (.tuple #[.agg #[.int .u32 e27.vip, .int .i64 e27.first, .int .u32 e27.dip, .int .i64 e27.exp], .bool true]) (fun a ha => ?_) ?_).1
     ·
      exact res_run ha ((ResR.cell rfl (run_ld (hC55.get 0 rfl) rfl) (ResR.tmp rfl ResR.nil))) rfl
     clear hN hret hret' hK51 hK43 hK26 hK24 hK21 hK19 hK11 hK9 hK2
     obtain ⟨q1, q2⟩ := filter_hit hno he28 (by rw [findP_inside]; simp [t22, t22b, t44, t44b, t45, t45b, t49b])
     exact ⟨by rw [q1, q2]; try rfl, hC55.fr⟩
    ·
     refine WCf rfl (WC.skip ?_)
     refine QXb ?_
     refine QXn (hK24 _ _ ?_)
     refine WCg (WLr 2 [(17, .int .i64 (IntKind.i64.wrap ((k : Int) + 1))), (16, .int .i64 (k : Int))] (fun _ => by kernel_rfl) ?_)
     refine WLt (show (.int .i64 (IntKind.i64.wrap ((k : Int) + 1)) : Value) = .int .i64 ((k : Int) + 1) from by rw [wrap_in_i64 ((k : Int) + 1) (by omega) (by omega)]) ?_
     refine WLr 1 [(10, .int .i64 ((k : Int) + 1))] (fun _ => by kernel_rfl) ?_
     refine WLd rfl ?_
     refine QXn ?_
     have hC56 := hC48.pick [0] [] rfl rfl
     refine fun a_ ha_ => hK13 _ _ _ ?_ ⟨k + 1, rfl, rfl, hC56, by omega, filter_snoc_no hno he28 (by rw [findP_inside]; simp [t22, t22b, t44, t44b, t45, t45b, t49b])⟩ a_ (ha_.weaken (sub_of ⟨rfl, rfl, rfl, rfl, rfl, rfl, trivial⟩))
     omega
   ·
    have t45 : e27.exp < now := by have q_ := of_decide_eq_false t45b; omega
    refine WLr 5 [(37, .bool false), (36, undef), (35, undef), (34, undef), (33, undef)] (fun _ => by kernel_rfl) (WLd rfl (QXn (hK43 _ _ ?_)))
    refine WCf rfl (WC.skip ?_)
    refine QXb ?_
    refine QXn (hK24 _ _ ?_)
    refine WCg (WLr 2 [(17, .int .i64 (IntKind.i64.wrap ((k : Int) + 1))), (16, .int .i64 (k : Int))] (fun _ => by kernel_rfl) ?_)
    refine WLt (show (.int .i64 (IntKind.i64.wrap ((k : Int) + 1)) : Value) = .int .i64 ((k : Int) + 1) from by rw [wrap_in_i64 ((k : Int) + 1) (by omega) (by omega)]) ?_
    refine WLr 1 [(10, .int .i64 ((k : Int) + 1))] (fun _ => by kernel_rfl) ?_
    refine WLd rfl ?_
    refine QXn ?_
    have hC57 := hC41.pick [0] [] rfl rfl
    refine fun a_ ha_ => hK13 _ _ _ ?_ ⟨k + 1, rfl, rfl, hC57, by omega, filter_snoc_no hno he28 (by rw [findP_inside]; simp [t22, t22b, t44, t44b, t45, t45b])⟩ a_ (ha_.weaken (sub_of ⟨rfl, rfl, rfl, rfl, rfl, rfl, trivial⟩))
    omega
  ·
   have t44 : ¬ (e27.vip = vip) := by simpa using t44b
   refine WLr 11 [(37, .bool false), (36, undef), (35, undef), (34, undef), (33, undef), (32, .bool false), (31, .bool false), (30, undef), (29, undef), (28, undef), (27, undef)] (fun _ => by kernel_rfl) (WLd rfl (QXn (hK43 _ _ ?_)))
   refine WCf rfl (WC.skip ?_)
   refine QXb ?_
   refine QXn (hK24 _ _ ?_)
   refine WCg (WLr 2 [(17, .int .i64 (IntKind.i64.wrap ((k : Int) + 1))), (16, .int .i64 (k : Int))] (fun _ => by kernel_rfl) ?_)
   refine WLt (show (.int .i64 (IntKind.i64.wrap ((k : Int) + 1)) : Value) = .int .i64 ((k : Int) + 1) from by rw [wrap_in_i64 ((k : Int) + 1) (by omega) (by omega)]) ?_
   refine WLr 1 [(10, .int .i64 ((k : Int) + 1))] (fun _ => by kernel_rfl) ?_
   refine WLd rfl ?_
   refine QXn ?_
   have hC58 := hC41.pick [0] [] rfl rfl
   refine fun a_ ha_ => hK13 _ _ _ ?_ ⟨k + 1, rfl, rfl, hC58, by omega, filter_snoc_no hno he28 (by rw [findP_inside]; simp [t22, t22b, t44, t44b])⟩ a_ (ha_.weaken (sub_of ⟨rfl, rfl, rfl, rfl, rfl, rfl, trivial⟩))
   omega
 ·
  have t22 : (xs.length : Int) ≤ (k : Int) := by have q_ := of_decide_eq_false t22b; omega
  refine WCf rfl ?_
  refine WC.exit ?_
  refine QXe ?_
  refine QXe ?_
  refine QX.block_hit ?_
  refine QXn (hK9 _ _ ?_)
  refine WCs (fun K59 hK60 => ?_)
  refine WCg (WLr 1 [(39, .agg #[.int .u32 0, .int .i64 0, .int .u32 0, .int .i64 0])] (fun _ => by kernel_rfl) ?_)
  refine WLs (c' := #[.int .u32 0, .int .i64 0, .int .u32 0, .int .i64 0]) hC17 0 43 g3 0 (.agg #[.int .u32 0, .int .i64 0, .int .u32 0, .int .i64 0]) (by kernel_rfl) rfl (by kernel_rfl) (fun w61 hF63 hC64 => ?_)
  refine WLr 1 [(9, .bool false)] (fun _ => by kernel_rfl) (WLd rfl (QXn (hK60 _ _ ?_)))
  refine WC.ret ?_
  refine (hret' _ _ (.tuple #[.agg #[.int .u32 0, .int .i64 0, .int .u32 0, .int .i64 0], .bool false]) (fun a ha => ?_) ?_).1
  ·
   exact res_run ha ((ResR.cell rfl (run_ld (hC64.get 0 rfl) rfl) (ResR.tmp rfl ResR.nil))) rfl
  clear hN hret hret' hK60 hK21 hK19 hK11 hK9 hK2
  obtain ⟨q1, q2⟩ := filter_end hno (by omega)
  exact ⟨by rw [q1, q2]; try rfl, hC64.fr⟩

set_option maxHeartbeats 4000000 in
theorem StateKeys_ct (A : Option Addr) (c : Nat) (L : List Cmd) (w : World) (hr : Rd w 12 cellsC A L) (hL : ∀ m ∈ L, cmdAt w m) (hlim : totE L ≤ 1099511627776) (hlc : L.length ≤ c) (hg : Rd w 1 (encI .u8) (some ⟨0, 0, none⟩) dbTab) : Calls Tryd.prog 6 #[.slice A L.length c] w fun e w' => e = .returned (.bool true) ∧ Fr w w' [] := by
 refine enterD (n := 227) Tryd.func6 rfl rfl (Nat.le_of_ble_eq_true rfl) ?_
 intro Q0 hN hret hret'
 have hC := Cx.start w
 refine WCs (fun K1 hK2 => ?_)
 refine WCg (WLr 1 [(2, .bool false)] (fun _ => by kernel_rfl) (WLd rfl (QXn (hK2 _ _ ?_))))
 refine WCs (fun K3 hK4 => ?_)
 refine WCs (fun K5 hK6 => ?_)
 refine WCg ?_
 refine WLc rfl rfl rfl rfl rfl (by kernel_rfl) (alive_ct w (Rd.fr hg hC.fr)) ?_
 rintro _ w8 ⟨rfl, hF7⟩
 refine ⟨_, rfl, ?_⟩
 have hC9 := hC.call hF7
 refine WLr 1 [(18, .bool false)] (fun _ => by kernel_rfl) (WLd rfl (QXn (hK6 _ _ ?_)))
 refine WCf rfl (WC.skip (QXn (hK4 _ _ ?_)))
 refine WCs (fun K10 hK11 => ?_)
 refine WCs (fun K12 hK13 => ?_)
 refine WCg (WLr 1 [(19, .slice A L.length c)] (fun _ => by kernel_rfl) ?_)
 refine WLc rfl rfl rfl rfl rfl (by kernel_rfl) (large_ct A c L w8 (Rd.fr hr hC9.fr) (fun m_ h_ => cmdAt.fr0 (hL m_ h_) hC9.fr) hlim) ?_
 rintro _ w15 ⟨rfl, hF14⟩
 refine ⟨_, rfl, ?_⟩
 have hC16 := hC9.call hF14
 refine WLd rfl (QXn (hK13 _ _ ?_))
 refine WCa 20 (decide (300 < bigL (vals L))) rfl (fun t17b => ?_) (fun t17b => ?_)
 ·
  have t17 : (300 : Int) < bigL (vals L) := by have q_ := of_decide_eq_true t17b; omega
  refine WCt rfl ?_
  refine WCs (fun K18 hK19 => ?_)
  refine WCg (WLr 1 [(2, .bool true)] (fun _ => by kernel_rfl) (WLd rfl (QXn (hK19 _ _ ?_))))
  refine WC.ret ?_
  refine QXr ?_
  refine (hret _ _ _ rfl ?_).1
  exact ⟨rfl, hC16.fr⟩
 ·
  have t17 : bigL (vals L) ≤ 300 := by have q_ := of_decide_eq_false t17b; omega
  have hbl_ := bigL_len (vals L)
  rw [vals_len] at hbl_
  have hsm_ : L.length ≤ 300 := by have q_ := of_decide_eq_false t17b; omega
  refine WCf rfl (WC.skip (QXn (hK11 _ _ ?_)))
  refine WCs (fun K20 hK21 => ?_)
  refine WCg (WLr 1 [(22, .slice A L.length c)] (fun _ => by kernel_rfl) ?_)
  refine WLc rfl rfl rfl rfl rfl (by kernel_rfl) (Fold_n A L.length c L w15 (Rd.fr hr hC16.fr) (by first | rfl | assumption | (simp; omega) | omega) (fun m_ h_ => cmdAt.fr0 (hL m_ h_) hC16.fr) (by omega) (Rd.fr hg hC16.fr)) ?_
  rintro _ w22 ⟨ASz29, cSz29, xsz29, ANz29, cNz29, AKz29, cKz29, ALz29, cLz29, ARz29, cRz29, Gz29, rfl, hF23, hR24, hG25⟩
  have hC26 := hC16.callN hF23 hG25 hR24.lt
  refine ⟨_, rfl, ?_⟩
  refine WLr 3 [(25, .slice ARz29 ((resC (vals L)).length) cRz29), (24, .agg #[.int .i64 ((foldC (vals L)).epoch), .int .i64 ((foldC (vals L)).now), .slice ASz29 xsz29.length cSz29, .slice ANz29 ((foldC (vals L)).snats.length) cNz29, .slice AKz29 ((foldC (vals L)).sick.length) cKz29, .slice ALz29 ((foldC (vals L)).leases.length) cLz29]), (21, .tuple #[.agg #[.int .i64 ((foldC (vals L)).epoch), .int .i64 ((foldC (vals L)).now), .slice ASz29 xsz29.length cSz29, .slice ANz29 ((foldC (vals L)).snats.length) cNz29, .slice AKz29 ((foldC (vals L)).sick.length) cKz29, .slice ALz29 ((foldC (vals L)).leases.length) cLz29], .slice ARz29 ((resC (vals L)).length) cRz29])] (fun _ => by kernel_rfl) ?_
  refine WL.newM hC26 (fun b => .pointer (some ⟨b, 0, none⟩)) (.cells #[.int .i64 0, .int .i64 0, .slice none 0 0, .slice none 0 0, .slice none 0 0, .slice none 0 0] 31) 3 (fun _ => by kernel_rfl) (fun g30 w31 hb34 hF32 hC33 => ?_)
  have ho35 := own_fr hR24.S hF32 (by simp)
  have ho36 := own_fr hR24.N hF32 (by simp)
  have ho37 := own_fr hR24.K hF32 (by simp)
  have ho38 := own_fr hR24.L hF32 (by simp)
  have ho39 := own_fr hR24.R hF32 (by simp)
  have hf40 := svcsIn.fr hR24.ins hF32 (by simp)
  refine WLs (c' := #[.int .i64 ((foldC (vals L)).epoch), .int .i64 ((foldC (vals L)).now), .slice ASz29 xsz29.length cSz29, .slice ANz29 ((foldC (vals L)).snats.length) cNz29, .slice AKz29 ((foldC (vals L)).sick.length) cKz29, .slice ALz29 ((foldC (vals L)).leases.length) cLz29]) hC33 0 31 g30 0 (.agg #[.int .i64 ((foldC (vals L)).epoch), .int .i64 ((foldC (vals L)).now), .slice ASz29 xsz29.length cSz29, .slice ANz29 ((foldC (vals L)).snats.length) cNz29, .slice AKz29 ((foldC (vals L)).sick.length) cKz29, .slice ALz29 ((foldC (vals L)).leases.length) cLz29]) (by kernel_rfl) rfl (by kernel_rfl) (fun w41 hF43 hC44 => ?_)
  have ho45 := own_fr ho35 hF43 (fun x_ hx_ => (hC33.apartM 0 0 rfl rfl) x_ (hR24.sS x_ hx_))
  have ho46 := own_fr ho36 hF43 (fun x_ hx_ => (hC33.apartM 0 0 rfl rfl) x_ (hR24.sN x_ hx_))
  have ho47 := own_fr ho37 hF43 (fun x_ hx_ => (hC33.apartM 0 0 rfl rfl) x_ (hR24.sK x_ hx_))
  have ho48 := own_fr ho38 hF43 (fun x_ hx_ => (hC33.apartM 0 0 rfl rfl) x_ (hR24.sL x_ hx_))
  have ho49 := own_fr ho39 hF43 (fun x_ hx_ => (hC33.apartM 0 0 rfl rfl) x_ (hR24.sR x_ hx_))
  have hf50 := svcsIn.fr hf40 hF43 (hC33.apartM 0 0 rfl rfl)
  refine WLr 1 [(4, .slice ARz29 ((resC (vals L)).length) cRz29)] (fun _ => by kernel_rfl) (WLd rfl (QXn (hK21 _ _ ?_)))
  refine WCs (fun K51 hK52 => ?_)
  refine WCs (fun K53 hK54 => ?_)
  refine WCg (WLr 1 [(5, .int .i64 1)] (fun _ => by kernel_rfl) (WLd rfl (QXn (hK54 _ _ ?_))))
  refine WC.block ?_
  refine WC.loop (fun m_ E_ w_ => ∃ (i : Nat), m_ = xsz29.length + 1 - i ∧ E_ = [(0, .slice A L.length c), (3, .pointer (some ⟨g30, 0, none⟩)), (4, .slice ARz29 ((resC (vals L)).length) cRz29), (5, .int .i64 (i : Int))] ∧ Cx w [] w_ [(g30, .cells #[.int .i64 ((foldC (vals L)).epoch), .int .i64 ((foldC (vals L)).now), .slice ASz29 xsz29.length cSz29, .slice ANz29 ((foldC (vals L)).snats.length) cNz29, .slice AKz29 ((foldC (vals L)).sick.length) cKz29, .slice ALz29 ((foldC (vals L)).leases.length) cLz29] 31)] [Gz29] ∧ World.ownsRow w_ 0 52 4 (.slice ASz29 xsz29.length cSz29) xsz29.length (xsz29.flatMap cellsS) ∧ World.ownsRow w_ 0 54 2 (.slice ANz29 ((foldC (vals L)).snats.length) cNz29) ((foldC (vals L)).snats.length) (((foldC (vals L)).snats).flatMap cellsN) ∧ World.ownsRow w_ 0 41 1 (.slice AKz29 ((foldC (vals L)).sick.length) cKz29) ((foldC (vals L)).sick.length) (((foldC (vals L)).sick).flatMap (Go.Tw.encI .u32)) ∧ World.ownsRow w_ 0 43 4 (.slice ALz29 ((foldC (vals L)).leases.length) cLz29) ((foldC (vals L)).leases.length) (((foldC (vals L)).leases).flatMap encL) ∧ World.ownsRow w_ 0 47 5 (.slice ARz29 ((resC (vals L)).length) cRz29) ((resC (vals L)).length) ((resC (vals L)).flatMap cellsR) ∧ svcsIn w_ Gz29 xsz29 ∧ (1 ≤ i ∧ i ≤ xsz29.length + 1)) ⟨_, _, ⟨1, rfl, rfl, hC44, ho45, ho46, ho47, ho48, ho49, hf50, Nat.le_refl _, Nat.le_add_left _ _⟩, sub_of ⟨rfl, rfl, rfl, rfl, trivial⟩⟩ (fun m58 E_ w59 K55 hK56 hI57 => ?_)
  obtain ⟨i, rfl, rfl, hC60, Sz29_m58, Nz29_m58, Kz29_m58, Lz29_m58, Rz29_m58, inz29_m58, hi1, hi2⟩ := hI57
  refine WCs (fun K61 hK62 => ?_)
  refine WCs (fun K63 hK64 => ?_)
  refine WCg (WLr 2 [(27, .pointer (some ⟨g30, 2, none⟩)), (26, .int .i64 (i : Int))] (fun _ => by kernel_rfl) ?_)
  have hwf_ := wf_at hL (Nat.le_refl L.length)
  rw [List.take_length] at hwf_
  have hss_ : sortK kS xsz29 := sortK_map (by rw [hR24.vals]; exact hwf_.ssort)
  have hsn_ : xsz29.length = (foldC (vals L)).svcs.length := by rw [← hR24.vals, List.length_map]
  have hl1_ := hwf_.sn
  have hl2_ := hwf_.nn
  have hl3_ := hwf_.kn
  have hl4_ := hwf_.ln
  have hrl_ := res_len (vals L)
  rw [vals_len] at hrl_
  refine WL.load 26 (.pointer (some ⟨g30, 2, none⟩)) (.slice ASz29 xsz29.length cSz29) 28 (by kernel_rfl) (run_ld (hC60.get 0 rfl) rfl) ?_
  refine WLr 2 [(30, .bool (decide ((i : Int) < (xsz29.length : Int)))), (29, .int .i64 (xsz29.length : Int))] (fun _ => by kernel_rfl) (WLd rfl (QXn (hK64 _ _ ?_)))
  refine WCa 30 (decide ((i : Int) < (xsz29.length : Int))) rfl (fun t65b => ?_) (fun t65b => ?_)
  ·
   have t65 : (i : Int) < (xsz29.length : Int) := by have q_ := of_decide_eq_true t65b; omega
   refine WCt rfl ?_
   refine WC.skip ?_
   refine QXn (hK62 _ _ ?_)
   refine WCs (fun K66 hK67 => ?_)
   refine WC.block ?_
   refine WCs (fun K68 hK69 => ?_)
   refine WC.drawC hC60 [] (by kernel_rfl) (fun w70 hF71 hC72 hS73 => ?_)
   have ho74 := own_fr Sz29_m58 hF71 (by simp)
   have ho75 := own_fr Nz29_m58 hF71 (by simp)
   have ho76 := own_fr Kz29_m58 hF71 (by simp)
   have ho77 := own_fr Lz29_m58 hF71 (by simp)
   have ho78 := own_fr Rz29_m58 hF71 (by simp)
   have hf79 := svcsIn.fr inz29_m58 hF71 (by simp)
   refine WDp (NPt (NPb (NPt (NPt (NPb (NPt hN)))))) 0 33 (.pointer (some ⟨g30, 2, none⟩)) (by kernel_rfl) (fun _ => by kernel_rfl) hS73 ?_
   refine WDp (NPt (NPb (NPt (NPt (NPb (NPt hN)))))) 2 35 (.int .i64 (i : Int)) (by kernel_rfl) (fun _ => by kernel_rfl) hS73 ?_
   refine WDp (NPt (NPb (NPt (NPt (NPb (NPt hN)))))) 3 36 (.int .i64 (IntKind.i64.wrap ((i : Int) - 1))) (by kernel_rfl) (fun _ => by kernel_rfl) hS73 ?_
   refine WD.recast (show (.int .i64 (IntKind.i64.wrap ((i : Int) - 1)) : Value) = .int .i64 ((i - 1 : Nat) : Int) from by rw [wrap_in_i64 _ (by omega) (by omega)]; congr 1; omega) ?_
   refine WDp (NPt (NPb (NPt (NPt (NPb (NPt hN)))))) 6 39 (.pointer (some ⟨g30, 2, none⟩)) (by kernel_rfl) (fun _ => by kernel_rfl) hS73 ?_
   refine WDp (NPt (NPb (NPt (NPt (NPb (NPt hN)))))) 8 41 (.int .i64 (i : Int)) (by kernel_rfl) (fun _ => by kernel_rfl) hS73 ?_
   refine WDl (NPt (NPb (NPt (NPt (NPb (NPt hN)))))) 1 26 (.pointer (some ⟨g30, 2, none⟩)) (.slice ASz29 xsz29.length cSz29) 34 (by kernel_rfl) (by kernel_rfl) (fun _ hS_ => run_ld (Fr.has hS_ (hC72.get 0 rfl) (by simp)) rfl) hS73 ?_
   have hn84 := own_count cellsS_len (by decide) ho74
   obtain ⟨e80, he81⟩ := get_some (xs := xsz29) (i := (i - 1)) (by omega)
   obtain ⟨b82, hA83⟩ := own_addr (by decide) cellsS_len ho74 he81
   refine WDi (NPt (NPb (NPt (NPt (NPb (NPt hN)))))) 4 ASz29 xsz29.length cSz29 37 .i64 ((i - 1 : Nat) : Int) b82 0 (i - 1) 4 (by kernel_rfl) (by kernel_rfl) hA83 (by omega) (by omega) ((i - 1) * 4) (by first | (simp; done) | omega) hS73 ?_
   refine WDl (NPt (NPb (NPt (NPt (NPb (NPt hN)))))) 5 52 (.pointer (some ⟨b82, (i - 1) * 4, none⟩)) (.agg #[.int .u32 e80.v.vip, .int .i64 e80.v.proto, .int .i64 e80.v.port, .slice e80.a e80.v.ends.length e80.c]) 38 (by kernel_rfl) (by kernel_rfl) (fun _ hS_ => run_rdN (l := [.int .u32 e80.v.vip, .int .i64 e80.v.proto, .int .i64 e80.v.port, .slice e80.a e80.v.ends.length e80.c]) rfl rfl (fun j u hu => by have hq_ := Rd.cell (own_rd (own_fr ho74 hS_ (by simp)) cellsS_len (by decide)) hA83 he81 j u hu; simpa [Nat.add_assoc] using hq_)) hS73 ?_
   refine WDl (NPt (NPb (NPt (NPt (NPb (NPt hN)))))) 7 26 (.pointer (some ⟨g30, 2, none⟩)) (.slice ASz29 xsz29.length cSz29) 40 (by kernel_rfl) (by kernel_rfl) (fun _ hS_ => run_ld (Fr.has hS_ (hC72.get 0 rfl) (by simp)) rfl) hS73 ?_
   have hn89 := own_count cellsS_len (by decide) ho74
   obtain ⟨e85, he86⟩ := get_some (xs := xsz29) (i := i) (by omega)
   obtain ⟨b87, hA88⟩ := own_addr (by decide) cellsS_len ho74 he86
   refine WDi (NPt (NPb (NPt (NPt (NPb (NPt hN)))))) 9 ASz29 xsz29.length cSz29 42 .i64 (i : Int) b87 0 i 4 (by kernel_rfl) (by kernel_rfl) hA88 (by omega) (by omega) (i * 4) (by first | (simp; done) | omega) hS73 ?_
   refine WDl (NPt (NPb (NPt (NPt (NPb (NPt hN)))))) 10 52 (.pointer (some ⟨b87, i * 4, none⟩)) (.agg #[.int .u32 e85.v.vip, .int .i64 e85.v.proto, .int .i64 e85.v.port, .slice e85.a e85.v.ends.length e85.c]) 43 (by kernel_rfl) (by kernel_rfl) (fun _ hS_ => run_rdN (l := [.int .u32 e85.v.vip, .int .i64 e85.v.proto, .int .i64 e85.v.port, .slice e85.a e85.v.ends.length e85.c]) rfl rfl (fun j u hu => by have hq_ := Rd.cell (own_rd (own_fr ho74 hS_ (by simp)) cellsS_len (by decide)) hA88 he86 j u hu; simpa [Nat.add_assoc] using hq_)) hS73 ?_
   refine WD.all2 11 12 (by kernel_rfl) ?_ ?_
   ·
    refine WO.new 11 (fun b => .pointer (some ⟨b, 0, none⟩)) (.cells #[.int .u32 0, .int .i64 0, .int .i64 0, .slice none 0 0] 52) (by kernel_rfl) rfl rfl rfl rfl rfl (fun _ => by kernel_rfl) (fun g90 w91 hb94 hl95 hF92 ho96 => ?_)
    have hC93 := hC72.callB hF92 hb94 ho96
    have hnbg90_ := Nat.le_trans hS73.size hb94
    have hS97 := hS73.trans hF92 (by simp)
    refine ⟨hS97, ?_⟩
    have ho98 := own_fr ho74 hF92 (by simp)
    have ho99 := own_fr ho75 hF92 (by simp)
    have ho100 := own_fr ho76 hF92 (by simp)
    have ho101 := own_fr ho77 hF92 (by simp)
    have ho102 := own_fr ho78 hF92 (by simp)
    have hf103 := svcsIn.fr hf79 hF92 (by simp)
    refine WD.new 12 (fun b => .pointer (some ⟨b, 0, none⟩)) (.cells #[.int .u32 0, .int .i64 0, .int .i64 0, .slice none 0 0] 52) (by kernel_rfl) rfl rfl rfl rfl rfl (fun _ => by kernel_rfl) (fun g104 w105 hb108 hl109 hF106 ho110 => ?_)
    have hC107 := hC93.callB hF106 hb108 ho110
    have hnbg104_ := Nat.le_trans hS97.size hb108
    have hS111 := hS97.trans hF106 (by simp)
    refine ⟨hS111, ?_⟩
    have ho112 := own_fr ho98 hF106 (by simp)
    have ho113 := own_fr ho99 hF106 (by simp)
    have ho114 := own_fr ho100 hF106 (by simp)
    have ho115 := own_fr ho101 hF106 (by simp)
    have ho116 := own_fr ho102 hF106 (by simp)
    have hf117 := svcsIn.fr hf103 hF106 (by simp)
    obtain ⟨w118, hr119, hF120, hC121⟩ := sto_run (c' := #[.int .u32 e80.v.vip, .int .i64 e80.v.proto, .int .i64 e80.v.port, .slice e80.a e80.v.ends.length e80.c]) Tryd.prog hC107 1 52 g90 0 (.agg #[.int .u32 e80.v.vip, .int .i64 e80.v.proto, .int .i64 e80.v.port, .slice e80.a e80.v.ends.length e80.c]) rfl (by kernel_rfl)
    have hS122 := hS111.trans hF120 (by first | (simp; done) | (simp [*]; done) | (have q_ := hS111.size; simp; omega))
    refine WD.semU 13 (Instr.storeAt 52 (.pointer (some ⟨g90, 0, none⟩)) (.agg #[.int .u32 e80.v.vip, .int .i64 e80.v.proto, .int .i64 e80.v.port, .slice e80.a e80.v.ends.length e80.c])) (by kernel_rfl) (by kernel_rfl) hr119 hS122 ?_
    have ho123 := own_fr ho112 hF120 (fun x_ hx_ => (hC107.apartM 0 1 rfl rfl) x_ (hR24.sS x_ hx_))
    have ho124 := own_fr ho113 hF120 (fun x_ hx_ => (hC107.apartM 0 1 rfl rfl) x_ (hR24.sN x_ hx_))
    have ho125 := own_fr ho114 hF120 (fun x_ hx_ => (hC107.apartM 0 1 rfl rfl) x_ (hR24.sK x_ hx_))
    have ho126 := own_fr ho115 hF120 (fun x_ hx_ => (hC107.apartM 0 1 rfl rfl) x_ (hR24.sL x_ hx_))
    have ho127 := own_fr ho116 hF120 (fun x_ hx_ => (hC107.apartM 0 1 rfl rfl) x_ (hR24.sR x_ hx_))
    have hf128 := svcsIn.fr hf117 hF120 (hC107.apartM 0 1 rfl rfl)
    obtain ⟨w129, hr130, hF131, hC132⟩ := sto_run (c' := #[.int .u32 e85.v.vip, .int .i64 e85.v.proto, .int .i64 e85.v.port, .slice e85.a e85.v.ends.length e85.c]) Tryd.prog hC121 2 52 g104 0 (.agg #[.int .u32 e85.v.vip, .int .i64 e85.v.proto, .int .i64 e85.v.port, .slice e85.a e85.v.ends.length e85.c]) rfl (by kernel_rfl)
    have hS133 := hS122.trans hF131 (by first | (simp; done) | (simp [*]; done) | (have q_ := hS122.size; simp; omega))
    refine WD.semU 14 (Instr.storeAt 52 (.pointer (some ⟨g104, 0, none⟩)) (.agg #[.int .u32 e85.v.vip, .int .i64 e85.v.proto, .int .i64 e85.v.port, .slice e85.a e85.v.ends.length e85.c])) (by kernel_rfl) (by kernel_rfl) hr130 hS133 ?_
    have ho134 := own_fr ho123 hF131 (fun x_ hx_ => (hC121.apartM 0 2 rfl rfl) x_ (hR24.sS x_ hx_))
    have ho135 := own_fr ho124 hF131 (fun x_ hx_ => (hC121.apartM 0 2 rfl rfl) x_ (hR24.sN x_ hx_))
    have ho136 := own_fr ho125 hF131 (fun x_ hx_ => (hC121.apartM 0 2 rfl rfl) x_ (hR24.sK x_ hx_))
    have ho137 := own_fr ho126 hF131 (fun x_ hx_ => (hC121.apartM 0 2 rfl rfl) x_ (hR24.sL x_ hx_))
    have ho138 := own_fr ho127 hF131 (fun x_ hx_ => (hC121.apartM 0 2 rfl rfl) x_ (hR24.sR x_ hx_))
    have hf139 := svcsIn.fr hf128 hF131 (hC121.apartM 0 2 rfl rfl)
    refine WD.done (by kernel_rfl) ?_
    refine QXn (hK69 _ _ ?_)
    refine WCs (fun K140 hK141 => ?_)
    refine WCg (WLr 1 [(44, .pointer (some ⟨g90, 0, none⟩))] (fun _ => by kernel_rfl) ?_)
    have hlt_ := lt3_iff.1 (sortK_get hss_ (show (i - 1) < i by omega) he81 he86)
    simp only [kS, kV] at hlt_
    refine WL.load 41 (.pointer (some ⟨g90, 0, none⟩)) (.int .u32 e80.v.vip) 45 (by kernel_rfl) (run_ld (hC132.get 1 rfl) rfl) ?_
    refine WLr 1 [(46, .pointer (some ⟨g104, 0, none⟩))] (fun _ => by kernel_rfl) ?_
    refine WL.load 41 (.pointer (some ⟨g104, 0, none⟩)) (.int .u32 e85.v.vip) 47 (by kernel_rfl) (run_ld (hC132.get 2 rfl) rfl) ?_
    refine WLr 2 [(49, .bool (decide (e80.v.vip > e85.v.vip))), (48, .bool (decide (e80.v.vip > e85.v.vip)))] (fun _ => by kernel_rfl) ?_
    refine WLa 49 (decide (e80.v.vip > e85.v.vip)) rfl (fun t142b => ?_) (fun t142b => ?_)
    ·
     have t142 : e85.v.vip < e80.v.vip := by have q_ := of_decide_eq_true t142b; omega
     refine WLr 27 [(76, .bool true), (75, undef), (74, undef), (73, undef), (72, undef), (71, undef), (70, undef), (69, undef), (68, undef), (67, undef), (66, undef), (65, undef), (64, undef), (63, undef), (62, undef), (61, undef), (60, undef), (59, undef), (58, undef), (57, undef), (56, undef), (55, undef), (54, undef), (53, undef), (52, undef), (51, undef), (50, undef)] (fun _ => by kernel_rfl) (WLd rfl (QXn (hK141 _ _ ?_)))
     refine WCt rfl ?_
     refine WCs (fun K143 hK144 => ?_)
     refine WCg (WLr 1 [(2, .bool false)] (fun _ => by kernel_rfl) (WLd rfl (QXn (hK144 _ _ ?_))))
     refine WC.ret ?_
     refine QXk ?_
     refine QXr ?_
     refine QXr ?_
     refine QXk ?_
     refine QXr ?_
     refine (hret _ _ _ rfl ?_).1
     clear hN hret hret' hK144 hK141 hK69 hK67 hK64 hK62 hK54 hK52 hK21 hK13 hK11 hK6 hK4 hK2
     exfalso; omega
    ·
     have t142 : e80.v.vip ≤ e85.v.vip := by have q_ := of_decide_eq_false t142b; omega
     refine WLr 1 [(50, .pointer (some ⟨g90, 0, none⟩))] (fun _ => by kernel_rfl) ?_
     refine WL.load 41 (.pointer (some ⟨g90, 0, none⟩)) (.int .u32 e80.v.vip) 51 (by kernel_rfl) (run_ld (hC132.get 1 rfl) rfl) ?_
     refine WLr 1 [(52, .pointer (some ⟨g104, 0, none⟩))] (fun _ => by kernel_rfl) ?_
     refine WL.load 41 (.pointer (some ⟨g104, 0, none⟩)) (.int .u32 e85.v.vip) 53 (by kernel_rfl) (run_ld (hC132.get 2 rfl) rfl) ?_
     refine WLr 2 [(55, .bool (e80.v.vip == e85.v.vip)), (54, .bool (e80.v.vip == e85.v.vip))] (fun _ => by kernel_rfl) ?_
     refine WLa 55 (e80.v.vip == e85.v.vip) rfl (fun t145b => ?_) (fun t145b => ?_)
     ·
      have t145 : e80.v.vip = e85.v.vip := by simpa using t145b
      refine WLr 1 [(56, .pointer (some ⟨g90, 1, none⟩))] (fun _ => by kernel_rfl) ?_
      refine WL.load 3 (.pointer (some ⟨g90, 1, none⟩)) (.int .i64 e80.v.proto) 57 (by kernel_rfl) (run_ld (hC132.get 1 rfl) rfl) ?_
      refine WLr 1 [(58, .pointer (some ⟨g104, 1, none⟩))] (fun _ => by kernel_rfl) ?_
      refine WL.load 3 (.pointer (some ⟨g104, 1, none⟩)) (.int .i64 e85.v.proto) 59 (by kernel_rfl) (run_ld (hC132.get 2 rfl) rfl) ?_
      refine WLr 2 [(61, .bool (decide (e80.v.proto > e85.v.proto))), (60, .bool (decide (e80.v.proto > e85.v.proto)))] (fun _ => by kernel_rfl) ?_
      refine WLa 61 (decide (e80.v.proto > e85.v.proto)) rfl (fun t146b => ?_) (fun t146b => ?_)
      ·
       have t146 : e85.v.proto < e80.v.proto := by have q_ := of_decide_eq_true t146b; omega
       refine WLr 15 [(76, .bool true), (75, .bool true), (74, .bool true), (73, undef), (72, undef), (71, undef), (70, undef), (69, undef), (68, undef), (67, undef), (66, undef), (65, undef), (64, undef), (63, undef), (62, undef)] (fun _ => by kernel_rfl) (WLd rfl (QXn (hK141 _ _ ?_)))
       refine WCt rfl ?_
       refine WCs (fun K147 hK148 => ?_)
       refine WCg (WLr 1 [(2, .bool false)] (fun _ => by kernel_rfl) (WLd rfl (QXn (hK148 _ _ ?_))))
       refine WC.ret ?_
       refine QXk ?_
       refine QXr ?_
       refine QXr ?_
       refine QXk ?_
       refine QXr ?_
       refine (hret _ _ _ rfl ?_).1
       clear hN hret hret' hK148 hK141 hK69 hK67 hK64 hK62 hK54 hK52 hK21 hK13 hK11 hK6 hK4 hK2
       exfalso; omega
      ·
       have t146 : e80.v.proto ≤ e85.v.proto := by have q_ := of_decide_eq_false t146b; omega
       refine WLr 1 [(62, .pointer (some ⟨g90, 1, none⟩))] (fun _ => by kernel_rfl) ?_
       refine WL.load 3 (.pointer (some ⟨g90, 1, none⟩)) (.int .i64 e80.v.proto) 63 (by kernel_rfl) (run_ld (hC132.get 1 rfl) rfl) ?_
       refine WLr 1 [(64, .pointer (some ⟨g104, 1, none⟩))] (fun _ => by kernel_rfl) ?_
       refine WL.load 3 (.pointer (some ⟨g104, 1, none⟩)) (.int .i64 e85.v.proto) 65 (by kernel_rfl) (run_ld (hC132.get 2 rfl) rfl) ?_
       refine WLr 2 [(67, .bool (e80.v.proto == e85.v.proto)), (66, .bool (e80.v.proto == e85.v.proto))] (fun _ => by kernel_rfl) ?_
       refine WLa 67 (e80.v.proto == e85.v.proto) rfl (fun t149b => ?_) (fun t149b => ?_)
       ·
        have t149 : e80.v.proto = e85.v.proto := by simpa using t149b
        refine WLr 1 [(68, .pointer (some ⟨g90, 2, none⟩))] (fun _ => by kernel_rfl) ?_
        refine WL.load 3 (.pointer (some ⟨g90, 2, none⟩)) (.int .i64 e80.v.port) 69 (by kernel_rfl) (run_ld (hC132.get 1 rfl) rfl) ?_
        refine WLr 1 [(70, .pointer (some ⟨g104, 2, none⟩))] (fun _ => by kernel_rfl) ?_
        refine WL.load 3 (.pointer (some ⟨g104, 2, none⟩)) (.int .i64 e85.v.port) 71 (by kernel_rfl) (run_ld (hC132.get 2 rfl) rfl) ?_
        refine WLr 5 [(76, .bool (decide (e80.v.port ≥ e85.v.port))), (75, .bool (decide (e80.v.port ≥ e85.v.port))), (74, .bool (decide (e80.v.port ≥ e85.v.port))), (73, .bool (decide (e80.v.port ≥ e85.v.port))), (72, .bool (decide (e80.v.port ≥ e85.v.port)))] (fun _ => by kernel_rfl) (WLd rfl (QXn (hK141 _ _ ?_)))
        refine WCa 76 (decide (e80.v.port ≥ e85.v.port)) rfl (fun t150b => ?_) (fun t150b => ?_)
        ·
         have t150 : e85.v.port ≤ e80.v.port := by have q_ := of_decide_eq_true t150b; omega
         refine WCt rfl ?_
         refine WCs (fun K151 hK152 => ?_)
         refine WCg (WLr 1 [(2, .bool false)] (fun _ => by kernel_rfl) (WLd rfl (QXn (hK152 _ _ ?_))))
         refine WC.ret ?_
         refine QXk ?_
         refine QXr ?_
         refine QXr ?_
         refine QXk ?_
         refine QXr ?_
         refine (hret _ _ _ rfl ?_).1
         clear hN hret hret' hK152 hK141 hK69 hK67 hK64 hK62 hK54 hK52 hK21 hK13 hK11 hK6 hK4 hK2
         exfalso; omega
        ·
         have t150 : e80.v.port < e85.v.port := by have q_ := of_decide_eq_false t150b; omega
         refine WCf rfl (WC.skip ?_)
         refine QXb ?_
         refine QXn (hK67 _ _ ?_)
         refine WCg (WLr 2 [(32, .int .i64 (IntKind.i64.wrap ((i : Int) + 1))), (31, .int .i64 (i : Int))] (fun _ => by kernel_rfl) ?_)
         refine WLt (show (.int .i64 (IntKind.i64.wrap ((i : Int) + 1)) : Value) = .int .i64 ((i : Int) + 1) from by rw [wrap_in_i64 ((i : Int) + 1) (by omega) (by omega)]) ?_
         refine WLr 1 [(5, .int .i64 ((i : Int) + 1))] (fun _ => by kernel_rfl) ?_
         refine WLd rfl ?_
         refine QXn ?_
         have hC153 := hC132.pick [0] [0] rfl rfl
         refine fun a_ ha_ => hK56 _ _ _ ?_ ⟨i + 1, rfl, rfl, hC153, ho134, ho135, ho136, ho137, ho138, hf139, by omega, by omega⟩ a_ (ha_.weaken (sub_of ⟨rfl, rfl, rfl, rfl, trivial⟩))
         omega
       ·
        have t149 : ¬ (e80.v.proto = e85.v.proto) := by simpa using t149b
        refine WLr 9 [(76, .bool false), (75, .bool false), (74, .bool false), (73, .bool false), (72, undef), (71, undef), (70, undef), (69, undef), (68, undef)] (fun _ => by kernel_rfl) (WLd rfl (QXn (hK141 _ _ ?_)))
        refine WCf rfl (WC.skip ?_)
        refine QXb ?_
        refine QXn (hK67 _ _ ?_)
        refine WCg (WLr 2 [(32, .int .i64 (IntKind.i64.wrap ((i : Int) + 1))), (31, .int .i64 (i : Int))] (fun _ => by kernel_rfl) ?_)
        refine WLt (show (.int .i64 (IntKind.i64.wrap ((i : Int) + 1)) : Value) = .int .i64 ((i : Int) + 1) from by rw [wrap_in_i64 ((i : Int) + 1) (by omega) (by omega)]) ?_
        refine WLr 1 [(5, .int .i64 ((i : Int) + 1))] (fun _ => by kernel_rfl) ?_
        refine WLd rfl ?_
        refine QXn ?_
        have hC154 := hC132.pick [0] [0] rfl rfl
        refine fun a_ ha_ => hK56 _ _ _ ?_ ⟨i + 1, rfl, rfl, hC154, ho134, ho135, ho136, ho137, ho138, hf139, by omega, by omega⟩ a_ (ha_.weaken (sub_of ⟨rfl, rfl, rfl, rfl, trivial⟩))
        omega
     ·
      have t145 : ¬ (e80.v.vip = e85.v.vip) := by simpa using t145b
      refine WLr 21 [(76, .bool false), (75, .bool false), (74, undef), (73, undef), (72, undef), (71, undef), (70, undef), (69, undef), (68, undef), (67, undef), (66, undef), (65, undef), (64, undef), (63, undef), (62, undef), (61, undef), (60, undef), (59, undef), (58, undef), (57, undef), (56, undef)] (fun _ => by kernel_rfl) (WLd rfl (QXn (hK141 _ _ ?_)))
      refine WCf rfl (WC.skip ?_)
      refine QXb ?_
      refine QXn (hK67 _ _ ?_)
      refine WCg (WLr 2 [(32, .int .i64 (IntKind.i64.wrap ((i : Int) + 1))), (31, .int .i64 (i : Int))] (fun _ => by kernel_rfl) ?_)
      refine WLt (show (.int .i64 (IntKind.i64.wrap ((i : Int) + 1)) : Value) = .int .i64 ((i : Int) + 1) from by rw [wrap_in_i64 ((i : Int) + 1) (by omega) (by omega)]) ?_
      refine WLr 1 [(5, .int .i64 ((i : Int) + 1))] (fun _ => by kernel_rfl) ?_
      refine WLd rfl ?_
      refine QXn ?_
      have hC155 := hC132.pick [0] [0] rfl rfl
      refine fun a_ ha_ => hK56 _ _ _ ?_ ⟨i + 1, rfl, rfl, hC155, ho134, ho135, ho136, ho137, ho138, hf139, by omega, by omega⟩ a_ (ha_.weaken (sub_of ⟨rfl, rfl, rfl, rfl, trivial⟩))
      omega
   ·
    refine WO.new 12 (fun b => .pointer (some ⟨b, 0, none⟩)) (.cells #[.int .u32 0, .int .i64 0, .int .i64 0, .slice none 0 0] 52) (by kernel_rfl) rfl rfl rfl rfl rfl (fun _ => by kernel_rfl) (fun g156 w157 hb160 hl161 hF158 ho162 => ?_)
    have hC159 := hC72.callB hF158 hb160 ho162
    have hnbg156_ := Nat.le_trans hS73.size hb160
    have hS163 := hS73.trans hF158 (by simp)
    refine ⟨hS163, ?_⟩
    have ho164 := own_fr ho74 hF158 (by simp)
    have ho165 := own_fr ho75 hF158 (by simp)
    have ho166 := own_fr ho76 hF158 (by simp)
    have ho167 := own_fr ho77 hF158 (by simp)
    have ho168 := own_fr ho78 hF158 (by simp)
    have hf169 := svcsIn.fr hf79 hF158 (by simp)
    refine WD.new 11 (fun b => .pointer (some ⟨b, 0, none⟩)) (.cells #[.int .u32 0, .int .i64 0, .int .i64 0, .slice none 0 0] 52) (by kernel_rfl) rfl rfl rfl rfl rfl (fun _ => by kernel_rfl) (fun g170 w171 hb174 hl175 hF172 ho176 => ?_)
    have hC173 := hC159.callB hF172 hb174 ho176
    have hnbg170_ := Nat.le_trans hS163.size hb174
    have hS177 := hS163.trans hF172 (by simp)
    refine ⟨hS177, ?_⟩
    have ho178 := own_fr ho164 hF172 (by simp)
    have ho179 := own_fr ho165 hF172 (by simp)
    have ho180 := own_fr ho166 hF172 (by simp)
    have ho181 := own_fr ho167 hF172 (by simp)
    have ho182 := own_fr ho168 hF172 (by simp)
    have hf183 := svcsIn.fr hf169 hF172 (by simp)
    obtain ⟨w184, hr185, hF186, hC187⟩ := sto_run (c' := #[.int .u32 e80.v.vip, .int .i64 e80.v.proto, .int .i64 e80.v.port, .slice e80.a e80.v.ends.length e80.c]) Tryd.prog hC173 2 52 g170 0 (.agg #[.int .u32 e80.v.vip, .int .i64 e80.v.proto, .int .i64 e80.v.port, .slice e80.a e80.v.ends.length e80.c]) rfl (by kernel_rfl)
    have hS188 := hS177.trans hF186 (by first | (simp; done) | (simp [*]; done) | (have q_ := hS177.size; simp; omega))
    refine WD.semU 13 (Instr.storeAt 52 (.pointer (some ⟨g170, 0, none⟩)) (.agg #[.int .u32 e80.v.vip, .int .i64 e80.v.proto, .int .i64 e80.v.port, .slice e80.a e80.v.ends.length e80.c])) (by kernel_rfl) (by kernel_rfl) hr185 hS188 ?_
    have ho189 := own_fr ho178 hF186 (fun x_ hx_ => (hC173.apartM 0 2 rfl rfl) x_ (hR24.sS x_ hx_))
    have ho190 := own_fr ho179 hF186 (fun x_ hx_ => (hC173.apartM 0 2 rfl rfl) x_ (hR24.sN x_ hx_))
    have ho191 := own_fr ho180 hF186 (fun x_ hx_ => (hC173.apartM 0 2 rfl rfl) x_ (hR24.sK x_ hx_))
    have ho192 := own_fr ho181 hF186 (fun x_ hx_ => (hC173.apartM 0 2 rfl rfl) x_ (hR24.sL x_ hx_))
    have ho193 := own_fr ho182 hF186 (fun x_ hx_ => (hC173.apartM 0 2 rfl rfl) x_ (hR24.sR x_ hx_))
    have hf194 := svcsIn.fr hf183 hF186 (hC173.apartM 0 2 rfl rfl)
    obtain ⟨w195, hr196, hF197, hC198⟩ := sto_run (c' := #[.int .u32 e85.v.vip, .int .i64 e85.v.proto, .int .i64 e85.v.port, .slice e85.a e85.v.ends.length e85.c]) Tryd.prog hC187 1 52 g156 0 (.agg #[.int .u32 e85.v.vip, .int .i64 e85.v.proto, .int .i64 e85.v.port, .slice e85.a e85.v.ends.length e85.c]) rfl (by kernel_rfl)
    have hS199 := hS188.trans hF197 (by first | (simp; done) | (simp [*]; done) | (have q_ := hS188.size; simp; omega))
    refine WD.semU 14 (Instr.storeAt 52 (.pointer (some ⟨g156, 0, none⟩)) (.agg #[.int .u32 e85.v.vip, .int .i64 e85.v.proto, .int .i64 e85.v.port, .slice e85.a e85.v.ends.length e85.c])) (by kernel_rfl) (by kernel_rfl) hr196 hS199 ?_
    have ho200 := own_fr ho189 hF197 (fun x_ hx_ => (hC187.apartM 0 1 rfl rfl) x_ (hR24.sS x_ hx_))
    have ho201 := own_fr ho190 hF197 (fun x_ hx_ => (hC187.apartM 0 1 rfl rfl) x_ (hR24.sN x_ hx_))
    have ho202 := own_fr ho191 hF197 (fun x_ hx_ => (hC187.apartM 0 1 rfl rfl) x_ (hR24.sK x_ hx_))
    have ho203 := own_fr ho192 hF197 (fun x_ hx_ => (hC187.apartM 0 1 rfl rfl) x_ (hR24.sL x_ hx_))
    have ho204 := own_fr ho193 hF197 (fun x_ hx_ => (hC187.apartM 0 1 rfl rfl) x_ (hR24.sR x_ hx_))
    have hf205 := svcsIn.fr hf194 hF197 (hC187.apartM 0 1 rfl rfl)
    refine WD.done (by kernel_rfl) ?_
    refine QXn (hK69 _ _ ?_)
    refine WCs (fun K206 hK207 => ?_)
    refine WCg (WLr 1 [(44, .pointer (some ⟨g170, 0, none⟩))] (fun _ => by kernel_rfl) ?_)
    have hlt_ := lt3_iff.1 (sortK_get hss_ (show (i - 1) < i by omega) he81 he86)
    simp only [kS, kV] at hlt_
    refine WL.load 41 (.pointer (some ⟨g170, 0, none⟩)) (.int .u32 e80.v.vip) 45 (by kernel_rfl) (run_ld (hC198.get 2 rfl) rfl) ?_
    refine WLr 1 [(46, .pointer (some ⟨g156, 0, none⟩))] (fun _ => by kernel_rfl) ?_
    refine WL.load 41 (.pointer (some ⟨g156, 0, none⟩)) (.int .u32 e85.v.vip) 47 (by kernel_rfl) (run_ld (hC198.get 1 rfl) rfl) ?_
    refine WLr 2 [(49, .bool (decide (e80.v.vip > e85.v.vip))), (48, .bool (decide (e80.v.vip > e85.v.vip)))] (fun _ => by kernel_rfl) ?_
    refine WLa 49 (decide (e80.v.vip > e85.v.vip)) rfl (fun t208b => ?_) (fun t208b => ?_)
    ·
     have t208 : e85.v.vip < e80.v.vip := by have q_ := of_decide_eq_true t208b; omega
     refine WLr 27 [(76, .bool true), (75, undef), (74, undef), (73, undef), (72, undef), (71, undef), (70, undef), (69, undef), (68, undef), (67, undef), (66, undef), (65, undef), (64, undef), (63, undef), (62, undef), (61, undef), (60, undef), (59, undef), (58, undef), (57, undef), (56, undef), (55, undef), (54, undef), (53, undef), (52, undef), (51, undef), (50, undef)] (fun _ => by kernel_rfl) (WLd rfl (QXn (hK207 _ _ ?_)))
     refine WCt rfl ?_
     refine WCs (fun K209 hK210 => ?_)
     refine WCg (WLr 1 [(2, .bool false)] (fun _ => by kernel_rfl) (WLd rfl (QXn (hK210 _ _ ?_))))
     refine WC.ret ?_
     refine QXk ?_
     refine QXr ?_
     refine QXr ?_
     refine QXk ?_
     refine QXr ?_
     refine (hret _ _ _ rfl ?_).1
     clear hN hret hret' hK210 hK207 hK69 hK67 hK64 hK62 hK54 hK52 hK21 hK13 hK11 hK6 hK4 hK2
     exfalso; omega
    ·
     have t208 : e80.v.vip ≤ e85.v.vip := by have q_ := of_decide_eq_false t208b; omega
     refine WLr 1 [(50, .pointer (some ⟨g170, 0, none⟩))] (fun _ => by kernel_rfl) ?_
     refine WL.load 41 (.pointer (some ⟨g170, 0, none⟩)) (.int .u32 e80.v.vip) 51 (by kernel_rfl) (run_ld (hC198.get 2 rfl) rfl) ?_
     refine WLr 1 [(52, .pointer (some ⟨g156, 0, none⟩))] (fun _ => by kernel_rfl) ?_
     refine WL.load 41 (.pointer (some ⟨g156, 0, none⟩)) (.int .u32 e85.v.vip) 53 (by kernel_rfl) (run_ld (hC198.get 1 rfl) rfl) ?_
     refine WLr 2 [(55, .bool (e80.v.vip == e85.v.vip)), (54, .bool (e80.v.vip == e85.v.vip))] (fun _ => by kernel_rfl) ?_
     refine WLa 55 (e80.v.vip == e85.v.vip) rfl (fun t211b => ?_) (fun t211b => ?_)
     ·
      have t211 : e80.v.vip = e85.v.vip := by simpa using t211b
      refine WLr 1 [(56, .pointer (some ⟨g170, 1, none⟩))] (fun _ => by kernel_rfl) ?_
      refine WL.load 3 (.pointer (some ⟨g170, 1, none⟩)) (.int .i64 e80.v.proto) 57 (by kernel_rfl) (run_ld (hC198.get 2 rfl) rfl) ?_
      refine WLr 1 [(58, .pointer (some ⟨g156, 1, none⟩))] (fun _ => by kernel_rfl) ?_
      refine WL.load 3 (.pointer (some ⟨g156, 1, none⟩)) (.int .i64 e85.v.proto) 59 (by kernel_rfl) (run_ld (hC198.get 1 rfl) rfl) ?_
      refine WLr 2 [(61, .bool (decide (e80.v.proto > e85.v.proto))), (60, .bool (decide (e80.v.proto > e85.v.proto)))] (fun _ => by kernel_rfl) ?_
      refine WLa 61 (decide (e80.v.proto > e85.v.proto)) rfl (fun t212b => ?_) (fun t212b => ?_)
      ·
       have t212 : e85.v.proto < e80.v.proto := by have q_ := of_decide_eq_true t212b; omega
       refine WLr 15 [(76, .bool true), (75, .bool true), (74, .bool true), (73, undef), (72, undef), (71, undef), (70, undef), (69, undef), (68, undef), (67, undef), (66, undef), (65, undef), (64, undef), (63, undef), (62, undef)] (fun _ => by kernel_rfl) (WLd rfl (QXn (hK207 _ _ ?_)))
       refine WCt rfl ?_
       refine WCs (fun K213 hK214 => ?_)
       refine WCg (WLr 1 [(2, .bool false)] (fun _ => by kernel_rfl) (WLd rfl (QXn (hK214 _ _ ?_))))
       refine WC.ret ?_
       refine QXk ?_
       refine QXr ?_
       refine QXr ?_
       refine QXk ?_
       refine QXr ?_
       refine (hret _ _ _ rfl ?_).1
       clear hN hret hret' hK214 hK207 hK69 hK67 hK64 hK62 hK54 hK52 hK21 hK13 hK11 hK6 hK4 hK2
       exfalso; omega
      ·
       have t212 : e80.v.proto ≤ e85.v.proto := by have q_ := of_decide_eq_false t212b; omega
       refine WLr 1 [(62, .pointer (some ⟨g170, 1, none⟩))] (fun _ => by kernel_rfl) ?_
       refine WL.load 3 (.pointer (some ⟨g170, 1, none⟩)) (.int .i64 e80.v.proto) 63 (by kernel_rfl) (run_ld (hC198.get 2 rfl) rfl) ?_
       refine WLr 1 [(64, .pointer (some ⟨g156, 1, none⟩))] (fun _ => by kernel_rfl) ?_
       refine WL.load 3 (.pointer (some ⟨g156, 1, none⟩)) (.int .i64 e85.v.proto) 65 (by kernel_rfl) (run_ld (hC198.get 1 rfl) rfl) ?_
       refine WLr 2 [(67, .bool (e80.v.proto == e85.v.proto)), (66, .bool (e80.v.proto == e85.v.proto))] (fun _ => by kernel_rfl) ?_
       refine WLa 67 (e80.v.proto == e85.v.proto) rfl (fun t215b => ?_) (fun t215b => ?_)
       ·
        have t215 : e80.v.proto = e85.v.proto := by simpa using t215b
        refine WLr 1 [(68, .pointer (some ⟨g170, 2, none⟩))] (fun _ => by kernel_rfl) ?_
        refine WL.load 3 (.pointer (some ⟨g170, 2, none⟩)) (.int .i64 e80.v.port) 69 (by kernel_rfl) (run_ld (hC198.get 2 rfl) rfl) ?_
        refine WLr 1 [(70, .pointer (some ⟨g156, 2, none⟩))] (fun _ => by kernel_rfl) ?_
        refine WL.load 3 (.pointer (some ⟨g156, 2, none⟩)) (.int .i64 e85.v.port) 71 (by kernel_rfl) (run_ld (hC198.get 1 rfl) rfl) ?_
        refine WLr 5 [(76, .bool (decide (e80.v.port ≥ e85.v.port))), (75, .bool (decide (e80.v.port ≥ e85.v.port))), (74, .bool (decide (e80.v.port ≥ e85.v.port))), (73, .bool (decide (e80.v.port ≥ e85.v.port))), (72, .bool (decide (e80.v.port ≥ e85.v.port)))] (fun _ => by kernel_rfl) (WLd rfl (QXn (hK207 _ _ ?_)))
        refine WCa 76 (decide (e80.v.port ≥ e85.v.port)) rfl (fun t216b => ?_) (fun t216b => ?_)
        ·
         have t216 : e85.v.port ≤ e80.v.port := by have q_ := of_decide_eq_true t216b; omega
         refine WCt rfl ?_
         refine WCs (fun K217 hK218 => ?_)
         refine WCg (WLr 1 [(2, .bool false)] (fun _ => by kernel_rfl) (WLd rfl (QXn (hK218 _ _ ?_))))
         refine WC.ret ?_
         refine QXk ?_
         refine QXr ?_
         refine QXr ?_
         refine QXk ?_
         refine QXr ?_
         refine (hret _ _ _ rfl ?_).1
         clear hN hret hret' hK218 hK207 hK69 hK67 hK64 hK62 hK54 hK52 hK21 hK13 hK11 hK6 hK4 hK2
         exfalso; omega
        ·
         have t216 : e80.v.port < e85.v.port := by have q_ := of_decide_eq_false t216b; omega
         refine WCf rfl (WC.skip ?_)
         refine QXb ?_
         refine QXn (hK67 _ _ ?_)
         refine WCg (WLr 2 [(32, .int .i64 (IntKind.i64.wrap ((i : Int) + 1))), (31, .int .i64 (i : Int))] (fun _ => by kernel_rfl) ?_)
         refine WLt (show (.int .i64 (IntKind.i64.wrap ((i : Int) + 1)) : Value) = .int .i64 ((i : Int) + 1) from by rw [wrap_in_i64 ((i : Int) + 1) (by omega) (by omega)]) ?_
         refine WLr 1 [(5, .int .i64 ((i : Int) + 1))] (fun _ => by kernel_rfl) ?_
         refine WLd rfl ?_
         refine QXn ?_
         have hC219 := hC198.pick [0] [0] rfl rfl
         refine fun a_ ha_ => hK56 _ _ _ ?_ ⟨i + 1, rfl, rfl, hC219, ho200, ho201, ho202, ho203, ho204, hf205, by omega, by omega⟩ a_ (ha_.weaken (sub_of ⟨rfl, rfl, rfl, rfl, trivial⟩))
         omega
       ·
        have t215 : ¬ (e80.v.proto = e85.v.proto) := by simpa using t215b
        refine WLr 9 [(76, .bool false), (75, .bool false), (74, .bool false), (73, .bool false), (72, undef), (71, undef), (70, undef), (69, undef), (68, undef)] (fun _ => by kernel_rfl) (WLd rfl (QXn (hK207 _ _ ?_)))
        refine WCf rfl (WC.skip ?_)
        refine QXb ?_
        refine QXn (hK67 _ _ ?_)
        refine WCg (WLr 2 [(32, .int .i64 (IntKind.i64.wrap ((i : Int) + 1))), (31, .int .i64 (i : Int))] (fun _ => by kernel_rfl) ?_)
        refine WLt (show (.int .i64 (IntKind.i64.wrap ((i : Int) + 1)) : Value) = .int .i64 ((i : Int) + 1) from by rw [wrap_in_i64 ((i : Int) + 1) (by omega) (by omega)]) ?_
        refine WLr 1 [(5, .int .i64 ((i : Int) + 1))] (fun _ => by kernel_rfl) ?_
        refine WLd rfl ?_
        refine QXn ?_
        have hC220 := hC198.pick [0] [0] rfl rfl
        refine fun a_ ha_ => hK56 _ _ _ ?_ ⟨i + 1, rfl, rfl, hC220, ho200, ho201, ho202, ho203, ho204, hf205, by omega, by omega⟩ a_ (ha_.weaken (sub_of ⟨rfl, rfl, rfl, rfl, trivial⟩))
        omega
     ·
      have t211 : ¬ (e80.v.vip = e85.v.vip) := by simpa using t211b
      refine WLr 21 [(76, .bool false), (75, .bool false), (74, undef), (73, undef), (72, undef), (71, undef), (70, undef), (69, undef), (68, undef), (67, undef), (66, undef), (65, undef), (64, undef), (63, undef), (62, undef), (61, undef), (60, undef), (59, undef), (58, undef), (57, undef), (56, undef)] (fun _ => by kernel_rfl) (WLd rfl (QXn (hK207 _ _ ?_)))
      refine WCf rfl (WC.skip ?_)
      refine QXb ?_
      refine QXn (hK67 _ _ ?_)
      refine WCg (WLr 2 [(32, .int .i64 (IntKind.i64.wrap ((i : Int) + 1))), (31, .int .i64 (i : Int))] (fun _ => by kernel_rfl) ?_)
      refine WLt (show (.int .i64 (IntKind.i64.wrap ((i : Int) + 1)) : Value) = .int .i64 ((i : Int) + 1) from by rw [wrap_in_i64 ((i : Int) + 1) (by omega) (by omega)]) ?_
      refine WLr 1 [(5, .int .i64 ((i : Int) + 1))] (fun _ => by kernel_rfl) ?_
      refine WLd rfl ?_
      refine QXn ?_
      have hC221 := hC198.pick [0] [0] rfl rfl
      refine fun a_ ha_ => hK56 _ _ _ ?_ ⟨i + 1, rfl, rfl, hC221, ho200, ho201, ho202, ho203, ho204, hf205, by omega, by omega⟩ a_ (ha_.weaken (sub_of ⟨rfl, rfl, rfl, rfl, trivial⟩))
      omega
  ·
   have t65 : (xsz29.length : Int) ≤ (i : Int) := by have q_ := of_decide_eq_false t65b; omega
   refine WCf rfl ?_
   refine WC.exit ?_
   refine QXe ?_
   refine QXe ?_
   refine QX.block_hit ?_
   refine QXn (hK52 _ _ ?_)
   refine WCs (fun K222 hK223 => ?_)
   refine WCs (fun K224 hK225 => ?_)
   refine WCg (WLr 1 [(8, .int .i64 1)] (fun _ => by kernel_rfl) (WLd rfl (QXn (hK225 _ _ ?_))))
   refine WC.block ?_
   refine WC.loop (fun m_ E_ w_ => ∃ (j : Nat), m_ = (foldC (vals L)).snats.length + 1 - j ∧ E_ = [(0, .slice A L.length c), (3, .pointer (some ⟨g30, 0, none⟩)), (4, .slice ARz29 ((resC (vals L)).length) cRz29), (8, .int .i64 (j : Int))] ∧ Cx w [] w_ [(g30, .cells #[.int .i64 ((foldC (vals L)).epoch), .int .i64 ((foldC (vals L)).now), .slice ASz29 xsz29.length cSz29, .slice ANz29 ((foldC (vals L)).snats.length) cNz29, .slice AKz29 ((foldC (vals L)).sick.length) cKz29, .slice ALz29 ((foldC (vals L)).leases.length) cLz29] 31)] [Gz29] ∧ World.ownsRow w_ 0 52 4 (.slice ASz29 xsz29.length cSz29) xsz29.length (xsz29.flatMap cellsS) ∧ World.ownsRow w_ 0 54 2 (.slice ANz29 ((foldC (vals L)).snats.length) cNz29) ((foldC (vals L)).snats.length) (((foldC (vals L)).snats).flatMap cellsN) ∧ World.ownsRow w_ 0 41 1 (.slice AKz29 ((foldC (vals L)).sick.length) cKz29) ((foldC (vals L)).sick.length) (((foldC (vals L)).sick).flatMap (Go.Tw.encI .u32)) ∧ World.ownsRow w_ 0 43 4 (.slice ALz29 ((foldC (vals L)).leases.length) cLz29) ((foldC (vals L)).leases.length) (((foldC (vals L)).leases).flatMap encL) ∧ World.ownsRow w_ 0 47 5 (.slice ARz29 ((resC (vals L)).length) cRz29) ((resC (vals L)).length) ((resC (vals L)).flatMap cellsR) ∧ svcsIn w_ Gz29 xsz29 ∧ (1 ≤ j ∧ j ≤ (foldC (vals L)).snats.length + 1)) ⟨_, _, ⟨1, rfl, rfl, hC60, Sz29_m58, Nz29_m58, Kz29_m58, Lz29_m58, Rz29_m58, inz29_m58, Nat.le_refl _, Nat.le_add_left _ _⟩, sub_of ⟨rfl, rfl, rfl, rfl, trivial⟩⟩ (fun m229 E_ w230 K226 hK227 hI228 => ?_)
   obtain ⟨j, rfl, rfl, hC231, Sz29_m229, Nz29_m229, Kz29_m229, Lz29_m229, Rz29_m229, inz29_m229, hj1, hj2⟩ := hI228
   refine WCs (fun K232 hK233 => ?_)
   refine WCs (fun K234 hK235 => ?_)
   refine WCg (WLr 2 [(78, .pointer (some ⟨g30, 3, none⟩)), (77, .int .i64 (j : Int))] (fun _ => by kernel_rfl) ?_)
   refine WL.load 27 (.pointer (some ⟨g30, 3, none⟩)) (.slice ANz29 ((foldC (vals L)).snats.length) cNz29) 79 (by kernel_rfl) (run_ld (hC231.get 0 rfl) rfl) ?_
   refine WLr 2 [(81, .bool (decide ((j : Int) < ((foldC (vals L)).snats.length : Int)))), (80, .int .i64 ((foldC (vals L)).snats.length : Int))] (fun _ => by kernel_rfl) (WLd rfl (QXn (hK235 _ _ ?_)))
   refine WCa 81 (decide ((j : Int) < ((foldC (vals L)).snats.length : Int))) rfl (fun t236b => ?_) (fun t236b => ?_)
   ·
    have t236 : (j : Int) < ((foldC (vals L)).snats.length : Int) := by have q_ := of_decide_eq_true t236b; omega
    refine WCt rfl ?_
    refine WC.skip ?_
    refine QXn (hK233 _ _ ?_)
    refine WCs (fun K237 hK238 => ?_)
    refine WC.block ?_
    refine WCs (fun K239 hK240 => ?_)
    refine WC.drawC hC231 [] (by kernel_rfl) (fun w241 hF242 hC243 hS244 => ?_)
    have ho245 := own_fr Sz29_m229 hF242 (by simp)
    have ho246 := own_fr Nz29_m229 hF242 (by simp)
    have ho247 := own_fr Kz29_m229 hF242 (by simp)
    have ho248 := own_fr Lz29_m229 hF242 (by simp)
    have ho249 := own_fr Rz29_m229 hF242 (by simp)
    have hf250 := svcsIn.fr inz29_m229 hF242 (by simp)
    refine WDp (NPt (NPb (NPt (NPt (NPb (NPt hN)))))) 0 84 (.pointer (some ⟨g30, 3, none⟩)) (by kernel_rfl) (fun _ => by kernel_rfl) hS244 ?_
    refine WDp (NPt (NPb (NPt (NPt (NPb (NPt hN)))))) 2 86 (.int .i64 (j : Int)) (by kernel_rfl) (fun _ => by kernel_rfl) hS244 ?_
    refine WDp (NPt (NPb (NPt (NPt (NPb (NPt hN)))))) 3 87 (.int .i64 (IntKind.i64.wrap ((j : Int) - 1))) (by kernel_rfl) (fun _ => by kernel_rfl) hS244 ?_
    refine WD.recast (show (.int .i64 (IntKind.i64.wrap ((j : Int) - 1)) : Value) = .int .i64 ((j - 1 : Nat) : Int) from by rw [wrap_in_i64 _ (by omega) (by omega)]; congr 1; omega) ?_
    refine WDp (NPt (NPb (NPt (NPt (NPb (NPt hN)))))) 7 91 (.pointer (some ⟨g30, 3, none⟩)) (by kernel_rfl) (fun _ => by kernel_rfl) hS244 ?_
    refine WDp (NPt (NPb (NPt (NPt (NPb (NPt hN)))))) 9 93 (.int .i64 (j : Int)) (by kernel_rfl) (fun _ => by kernel_rfl) hS244 ?_
    refine WDl (NPt (NPb (NPt (NPt (NPb (NPt hN)))))) 1 27 (.pointer (some ⟨g30, 3, none⟩)) (.slice ANz29 ((foldC (vals L)).snats.length) cNz29) 85 (by kernel_rfl) (by kernel_rfl) (fun _ hS_ => run_ld (Fr.has hS_ (hC243.get 0 rfl) (by simp)) rfl) hS244 ?_
    have hn255 := own_count cellsN_len (by decide) ho246
    obtain ⟨e251, he252⟩ := get_some (xs := (foldC (vals L)).snats) (i := (j - 1)) (by omega)
    obtain ⟨b253, hA254⟩ := own_addr (by decide) cellsN_len ho246 he252
    refine WDi (NPt (NPb (NPt (NPt (NPb (NPt hN)))))) 4 ANz29 ((foldC (vals L)).snats.length) cNz29 88 .i64 ((j - 1 : Nat) : Int) b253 0 (j - 1) 2 (by kernel_rfl) (by kernel_rfl) hA254 (by omega) (by omega) ((j - 1) * 2) (by first | (simp; done) | omega) hS244 ?_
    refine WDp (NPt (NPb (NPt (NPt (NPb (NPt hN)))))) 5 89 (.pointer (some ⟨b253, (j - 1) * 2, none⟩)) (by kernel_rfl) (fun _ => by kernel_rfl) hS244 ?_
    refine WDl (NPt (NPb (NPt (NPt (NPb (NPt hN)))))) 6 41 (.pointer (some ⟨b253, (j - 1) * 2, none⟩)) (.int .u32 e251.dip) 90 (by kernel_rfl) (by kernel_rfl) (fun _ hS_ => run_load1 rfl (by simpa [Nat.add_assoc] using Rd.cell (own_rd (own_fr ho246 hS_ (by simp)) cellsN_len (by decide)) hA254 he252 0 _ rfl)) hS244 ?_
    refine WDl (NPt (NPb (NPt (NPt (NPb (NPt hN)))))) 8 27 (.pointer (some ⟨g30, 3, none⟩)) (.slice ANz29 ((foldC (vals L)).snats.length) cNz29) 92 (by kernel_rfl) (by kernel_rfl) (fun _ hS_ => run_ld (Fr.has hS_ (hC243.get 0 rfl) (by simp)) rfl) hS244 ?_
    have hn260 := own_count cellsN_len (by decide) ho246
    obtain ⟨e256, he257⟩ := get_some (xs := (foldC (vals L)).snats) (i := j) (by omega)
    obtain ⟨b258, hA259⟩ := own_addr (by decide) cellsN_len ho246 he257
    refine WDi (NPt (NPb (NPt (NPt (NPb (NPt hN)))))) 10 ANz29 ((foldC (vals L)).snats.length) cNz29 94 .i64 (j : Int) b258 0 j 2 (by kernel_rfl) (by kernel_rfl) hA259 (by omega) (by omega) (j * 2) (by first | (simp; done) | omega) hS244 ?_
    refine WDp (NPt (NPb (NPt (NPt (NPb (NPt hN)))))) 11 95 (.pointer (some ⟨b258, j * 2, none⟩)) (by kernel_rfl) (fun _ => by kernel_rfl) hS244 ?_
    refine WDl (NPt (NPb (NPt (NPt (NPb (NPt hN)))))) 12 41 (.pointer (some ⟨b258, j * 2, none⟩)) (.int .u32 e256.dip) 96 (by kernel_rfl) (by kernel_rfl) (fun _ hS_ => run_load1 rfl (by simpa [Nat.add_assoc] using Rd.cell (own_rd (own_fr ho246 hS_ (by simp)) cellsN_len (by decide)) hA259 he257 0 _ rfl)) hS244 ?_
    refine WDp (NPt (NPb (NPt (NPt (NPb (NPt hN)))))) 13 97 (.bool (decide (e251.dip ≥ e256.dip))) (by kernel_rfl) (fun _ => by kernel_rfl) hS244 ?_
    refine WD.done (by kernel_rfl) ?_
    refine QXn (hK240 _ _ ?_)
    refine WC.know 97 (.bool (decide (e251.dip ≥ e256.dip))) (.bool false) rfl (congrArg Value.bool (by exact decide_eq_false (by have q_ := lt3_iff.1 (sortK_get hwf_.nsort (show (j - 1) < j by omega) he252 he257); simp only [kN] at q_; omega))) ?_
    refine WCf rfl (WC.skip ?_)
    refine QXb ?_
    refine QXn (hK238 _ _ ?_)
    refine WCg (WLr 2 [(83, .int .i64 (IntKind.i64.wrap ((j : Int) + 1))), (82, .int .i64 (j : Int))] (fun _ => by kernel_rfl) ?_)
    refine WLt (show (.int .i64 (IntKind.i64.wrap ((j : Int) + 1)) : Value) = .int .i64 ((j : Int) + 1) from by rw [wrap_in_i64 ((j : Int) + 1) (by omega) (by omega)]) ?_
    refine WLr 1 [(8, .int .i64 ((j : Int) + 1))] (fun _ => by kernel_rfl) ?_
    refine WLd rfl ?_
    refine QXn ?_
    have hC261 := hC243.pick [0] [0] rfl rfl
    refine fun a_ ha_ => hK227 _ _ _ ?_ ⟨j + 1, rfl, rfl, hC261, ho245, ho246, ho247, ho248, ho249, hf250, by omega, by omega⟩ a_ (ha_.weaken (sub_of ⟨rfl, rfl, rfl, rfl, trivial⟩))
    omega
   ·
    have t236 : ((foldC (vals L)).snats.length : Int) ≤ (j : Int) := by have q_ := of_decide_eq_false t236b; omega
    refine WCf rfl ?_
    refine WC.exit ?_
    refine QXe ?_
    refine QXe ?_
    refine QX.block_hit ?_
    refine QXn (hK223 _ _ ?_)
    refine WCs (fun K262 hK263 => ?_)
    refine WCs (fun K264 hK265 => ?_)
    refine WCg (WLr 1 [(9, .int .i64 1)] (fun _ => by kernel_rfl) (WLd rfl (QXn (hK265 _ _ ?_))))
    refine WC.block ?_
    refine WC.loop (fun m_ E_ w_ => ∃ (k : Nat), m_ = (foldC (vals L)).sick.length + 1 - k ∧ E_ = [(0, .slice A L.length c), (3, .pointer (some ⟨g30, 0, none⟩)), (4, .slice ARz29 ((resC (vals L)).length) cRz29), (9, .int .i64 (k : Int))] ∧ Cx w [] w_ [(g30, .cells #[.int .i64 ((foldC (vals L)).epoch), .int .i64 ((foldC (vals L)).now), .slice ASz29 xsz29.length cSz29, .slice ANz29 ((foldC (vals L)).snats.length) cNz29, .slice AKz29 ((foldC (vals L)).sick.length) cKz29, .slice ALz29 ((foldC (vals L)).leases.length) cLz29] 31)] [Gz29] ∧ World.ownsRow w_ 0 52 4 (.slice ASz29 xsz29.length cSz29) xsz29.length (xsz29.flatMap cellsS) ∧ World.ownsRow w_ 0 54 2 (.slice ANz29 ((foldC (vals L)).snats.length) cNz29) ((foldC (vals L)).snats.length) (((foldC (vals L)).snats).flatMap cellsN) ∧ World.ownsRow w_ 0 41 1 (.slice AKz29 ((foldC (vals L)).sick.length) cKz29) ((foldC (vals L)).sick.length) (((foldC (vals L)).sick).flatMap (Go.Tw.encI .u32)) ∧ World.ownsRow w_ 0 43 4 (.slice ALz29 ((foldC (vals L)).leases.length) cLz29) ((foldC (vals L)).leases.length) (((foldC (vals L)).leases).flatMap encL) ∧ World.ownsRow w_ 0 47 5 (.slice ARz29 ((resC (vals L)).length) cRz29) ((resC (vals L)).length) ((resC (vals L)).flatMap cellsR) ∧ svcsIn w_ Gz29 xsz29 ∧ (1 ≤ k ∧ k ≤ (foldC (vals L)).sick.length + 1)) ⟨_, _, ⟨1, rfl, rfl, hC231, Sz29_m229, Nz29_m229, Kz29_m229, Lz29_m229, Rz29_m229, inz29_m229, Nat.le_refl _, Nat.le_add_left _ _⟩, sub_of ⟨rfl, rfl, rfl, rfl, trivial⟩⟩ (fun m269 E_ w270 K266 hK267 hI268 => ?_)
    obtain ⟨k, rfl, rfl, hC271, Sz29_m269, Nz29_m269, Kz29_m269, Lz29_m269, Rz29_m269, inz29_m269, hk1, hk2⟩ := hI268
    refine WCs (fun K272 hK273 => ?_)
    refine WCs (fun K274 hK275 => ?_)
    refine WCg (WLr 2 [(99, .pointer (some ⟨g30, 4, none⟩)), (98, .int .i64 (k : Int))] (fun _ => by kernel_rfl) ?_)
    refine WL.load 28 (.pointer (some ⟨g30, 4, none⟩)) (.slice AKz29 ((foldC (vals L)).sick.length) cKz29) 100 (by kernel_rfl) (run_ld (hC271.get 0 rfl) rfl) ?_
    refine WLr 2 [(102, .bool (decide ((k : Int) < ((foldC (vals L)).sick.length : Int)))), (101, .int .i64 ((foldC (vals L)).sick.length : Int))] (fun _ => by kernel_rfl) (WLd rfl (QXn (hK275 _ _ ?_)))
    refine WCa 102 (decide ((k : Int) < ((foldC (vals L)).sick.length : Int))) rfl (fun t276b => ?_) (fun t276b => ?_)
    ·
     have t276 : (k : Int) < ((foldC (vals L)).sick.length : Int) := by have q_ := of_decide_eq_true t276b; omega
     refine WCt rfl ?_
     refine WC.skip ?_
     refine QXn (hK273 _ _ ?_)
     refine WCs (fun K277 hK278 => ?_)
     refine WC.block ?_
     refine WCs (fun K279 hK280 => ?_)
     refine WC.drawC hC271 [] (by kernel_rfl) (fun w281 hF282 hC283 hS284 => ?_)
     have ho285 := own_fr Sz29_m269 hF282 (by simp)
     have ho286 := own_fr Nz29_m269 hF282 (by simp)
     have ho287 := own_fr Kz29_m269 hF282 (by simp)
     have ho288 := own_fr Lz29_m269 hF282 (by simp)
     have ho289 := own_fr Rz29_m269 hF282 (by simp)
     have hf290 := svcsIn.fr inz29_m269 hF282 (by simp)
     refine WDp (NPt (NPb (NPt (NPt (NPb (NPt hN)))))) 0 105 (.pointer (some ⟨g30, 4, none⟩)) (by kernel_rfl) (fun _ => by kernel_rfl) hS284 ?_
     refine WDp (NPt (NPb (NPt (NPt (NPb (NPt hN)))))) 2 107 (.int .i64 (k : Int)) (by kernel_rfl) (fun _ => by kernel_rfl) hS284 ?_
     refine WDp (NPt (NPb (NPt (NPt (NPb (NPt hN)))))) 3 108 (.int .i64 (IntKind.i64.wrap ((k : Int) - 1))) (by kernel_rfl) (fun _ => by kernel_rfl) hS284 ?_
     refine WD.recast (show (.int .i64 (IntKind.i64.wrap ((k : Int) - 1)) : Value) = .int .i64 ((k - 1 : Nat) : Int) from by rw [wrap_in_i64 _ (by omega) (by omega)]; congr 1; omega) ?_
     refine WDp (NPt (NPb (NPt (NPt (NPb (NPt hN)))))) 6 111 (.pointer (some ⟨g30, 4, none⟩)) (by kernel_rfl) (fun _ => by kernel_rfl) hS284 ?_
     refine WDp (NPt (NPb (NPt (NPt (NPb (NPt hN)))))) 8 113 (.int .i64 (k : Int)) (by kernel_rfl) (fun _ => by kernel_rfl) hS284 ?_
     refine WDl (NPt (NPb (NPt (NPt (NPb (NPt hN)))))) 1 28 (.pointer (some ⟨g30, 4, none⟩)) (.slice AKz29 ((foldC (vals L)).sick.length) cKz29) 106 (by kernel_rfl) (by kernel_rfl) (fun _ hS_ => run_ld (Fr.has hS_ (hC283.get 0 rfl) (by simp)) rfl) hS284 ?_
     have hn295 := own_count (Go.Tw.encI_len _) (by decide) ho287
     obtain ⟨e291, he292⟩ := get_some (xs := (foldC (vals L)).sick) (i := (k - 1)) (by omega)
     obtain ⟨b293, hA294⟩ := own_addr (by decide) (Go.Tw.encI_len _) ho287 he292
     refine WDi (NPt (NPb (NPt (NPt (NPb (NPt hN)))))) 4 AKz29 ((foldC (vals L)).sick.length) cKz29 109 .i64 ((k - 1 : Nat) : Int) b293 0 (k - 1) 1 (by kernel_rfl) (by kernel_rfl) hA294 (by omega) (by omega) (k - 1) (by first | (simp; done) | omega) hS284 ?_
     refine WDl (NPt (NPb (NPt (NPt (NPb (NPt hN)))))) 5 41 (.pointer (some ⟨b293, (k - 1), none⟩)) (.int .u32 e291) 110 (by kernel_rfl) (by kernel_rfl) (fun _ hS_ => run_load1 rfl (by simpa [Nat.add_assoc] using Rd.cell (own_rd (own_fr ho287 hS_ (by simp)) (Go.Tw.encI_len _) (by decide)) hA294 he292 0 _ rfl)) hS284 ?_
     refine WDl (NPt (NPb (NPt (NPt (NPb (NPt hN)))))) 7 28 (.pointer (some ⟨g30, 4, none⟩)) (.slice AKz29 ((foldC (vals L)).sick.length) cKz29) 112 (by kernel_rfl) (by kernel_rfl) (fun _ hS_ => run_ld (Fr.has hS_ (hC283.get 0 rfl) (by simp)) rfl) hS284 ?_
     have hn300 := own_count (Go.Tw.encI_len _) (by decide) ho287
     obtain ⟨e296, he297⟩ := get_some (xs := (foldC (vals L)).sick) (i := k) (by omega)
     obtain ⟨b298, hA299⟩ := own_addr (by decide) (Go.Tw.encI_len _) ho287 he297
     refine WDi (NPt (NPb (NPt (NPt (NPb (NPt hN)))))) 9 AKz29 ((foldC (vals L)).sick.length) cKz29 114 .i64 (k : Int) b298 0 k 1 (by kernel_rfl) (by kernel_rfl) hA299 (by omega) (by omega) k (by first | (simp; done) | omega) hS284 ?_
     refine WDl (NPt (NPb (NPt (NPt (NPb (NPt hN)))))) 10 41 (.pointer (some ⟨b298, k, none⟩)) (.int .u32 e296) 115 (by kernel_rfl) (by kernel_rfl) (fun _ hS_ => run_load1 rfl (by simpa [Nat.add_assoc] using Rd.cell (own_rd (own_fr ho287 hS_ (by simp)) (Go.Tw.encI_len _) (by decide)) hA299 he297 0 _ rfl)) hS284 ?_
     refine WDp (NPt (NPb (NPt (NPt (NPb (NPt hN)))))) 11 116 (.bool (decide (e291 ≥ e296))) (by kernel_rfl) (fun _ => by kernel_rfl) hS284 ?_
     refine WD.done (by kernel_rfl) ?_
     refine QXn (hK280 _ _ ?_)
     refine WC.know 116 (.bool (decide (e291 ≥ e296))) (.bool false) rfl (congrArg Value.bool (by exact decide_eq_false (by have q_ := lt3_iff.1 (sortK_get hwf_.ksort (show (k - 1) < k by omega) he292 he297); simp only [kA] at q_; omega))) ?_
     refine WCf rfl (WC.skip ?_)
     refine QXb ?_
     refine QXn (hK278 _ _ ?_)
     refine WCg (WLr 2 [(104, .int .i64 (IntKind.i64.wrap ((k : Int) + 1))), (103, .int .i64 (k : Int))] (fun _ => by kernel_rfl) ?_)
     refine WLt (show (.int .i64 (IntKind.i64.wrap ((k : Int) + 1)) : Value) = .int .i64 ((k : Int) + 1) from by rw [wrap_in_i64 ((k : Int) + 1) (by omega) (by omega)]) ?_
     refine WLr 1 [(9, .int .i64 ((k : Int) + 1))] (fun _ => by kernel_rfl) ?_
     refine WLd rfl ?_
     refine QXn ?_
     have hC301 := hC283.pick [0] [0] rfl rfl
     refine fun a_ ha_ => hK267 _ _ _ ?_ ⟨k + 1, rfl, rfl, hC301, ho285, ho286, ho287, ho288, ho289, hf290, by omega, by omega⟩ a_ (ha_.weaken (sub_of ⟨rfl, rfl, rfl, rfl, trivial⟩))
     omega
    ·
     have t276 : ((foldC (vals L)).sick.length : Int) ≤ (k : Int) := by have q_ := of_decide_eq_false t276b; omega
     refine WCf rfl ?_
     refine WC.exit ?_
     refine QXe ?_
     refine QXe ?_
     refine QX.block_hit ?_
     refine QXn (hK263 _ _ ?_)
     refine WCs (fun K302 hK303 => ?_)
     refine WCs (fun K304 hK305 => ?_)
     refine WCg (WLr 4 [(120, .bool ((L.length : Int) == 0)), (119, .bool ((L.length : Int) == 0)), (118, .int .i64 (L.length : Int)), (117, .slice A L.length c)] (fun _ => by kernel_rfl) ?_)
     refine WLa 120 ((L.length : Int) == 0) rfl (fun t306b => ?_) (fun t306b => ?_)
     ·
      have t306 : (L.length : Int) = 0 := by simpa using t306b
      refine WLr 9 [(129, .bool true), (128, undef), (127, undef), (126, undef), (125, undef), (124, undef), (123, undef), (122, undef), (121, undef)] (fun _ => by kernel_rfl) (WLd rfl (QXn (hK305 _ _ ?_)))
      refine WCt rfl ?_
      refine WCs (fun K307 hK308 => ?_)
      refine WCg (WLr 1 [(2, .bool true)] (fun _ => by kernel_rfl) (WLd rfl (QXn (hK308 _ _ ?_))))
      refine WC.ret ?_
      refine QXr ?_
      refine (hret _ _ _ rfl ?_).1
      exact ⟨rfl, hC271.fr⟩
     ·
      have t306 : ¬ ((L.length : Int) = 0) := by simpa using t306b
      refine WLr 4 [(124, .int .i64 (IntKind.i64.wrap ((L.length : Int) - 1))), (123, .int .i64 (L.length : Int)), (122, .slice A L.length c), (121, .slice ARz29 ((resC (vals L)).length) cRz29)] (fun _ => by kernel_rfl) ?_
      refine WLt (show (.int .i64 (IntKind.i64.wrap ((L.length : Int) - 1)) : Value) = .int .i64 ((L.length - 1 : Nat) : Int) from by rw [wrap_in_i64 _ (by omega) (by omega)]; congr 1; omega) ?_
      have hn313 := own_count cellsR_len (by decide) Rz29_m269
      obtain ⟨e309, he310⟩ := get_some (xs := (resC (vals L))) (i := (L.length - 1)) (by omega)
      obtain ⟨b311, hA312⟩ := own_addr (by decide) cellsR_len Rz29_m269 he310
      refine WLi ARz29 ((resC (vals L)).length) cRz29 125 .i64 ((L.length - 1 : Nat) : Int) b311 0 (L.length - 1) 5 (by kernel_rfl) hA312 (by omega) (by omega) ((L.length - 1) * 5) (by first | (simp; done) | omega) ?_
      refine WLr 1 [(126, .pointer (some ⟨b311, (L.length - 1) * 5, none⟩))] (fun _ => by kernel_rfl) ?_
      refine WL.load 3 (.pointer (some ⟨b311, (L.length - 1) * 5, none⟩)) (.int .i64 e309.err) 127 (by kernel_rfl) (run_load1 rfl (by simpa [Nat.add_assoc] using Rd.cell (own_rd Rz29_m269 cellsR_len (by decide)) hA312 he310 0 _ rfl)) ?_
      refine WLr 2 [(129, .bool (e309.err != 0)), (128, .bool (e309.err != 0))] (fun _ => by kernel_rfl) (WLd rfl (QXn (hK305 _ _ ?_)))
      refine WCa 129 (e309.err != 0) rfl (fun t314b => ?_) (fun t314b => ?_)
      ·
       have t314 : e309.err ≠ 0 := by simpa using t314b
       refine WCt rfl ?_
       refine WCs (fun K315 hK316 => ?_)
       refine WCg (WLr 1 [(2, .bool true)] (fun _ => by kernel_rfl) (WLd rfl (QXn (hK316 _ _ ?_))))
       refine WC.ret ?_
       refine QXr ?_
       refine (hret _ _ _ rfl ?_).1
       exact ⟨rfl, hC271.fr⟩
      ·
       have t314 : e309.err = 0 := by simpa using t314b
       refine WCf rfl (WC.skip (QXn (hK303 _ _ ?_)))
       refine WCs (fun K317 hK318 => ?_)
       refine WCg (WLr 4 [(133, .int .i64 (IntKind.i64.wrap ((L.length : Int) - 1))), (132, .int .i64 (L.length : Int)), (131, .slice A L.length c), (130, .slice A L.length c)] (fun _ => by kernel_rfl) ?_)
       refine WLt (show (.int .i64 (IntKind.i64.wrap ((L.length : Int) - 1)) : Value) = .int .i64 ((L.length - 1 : Nat) : Int) from by rw [wrap_in_i64 _ (by omega) (by omega)]; congr 1; omega) ?_
       obtain ⟨e319, he320⟩ := get_some (xs := L) (i := (L.length - 1)) (by omega)
       obtain ⟨b321, o323, hA322, hc324⟩ := hr.at_ _ _ he320
       have hc_e319 := hL _ (List.mem_of_getElem? he320)
       have hcl_e319 := hc_e319.lim
       refine WLi A L.length c 134 .i64 ((L.length - 1 : Nat) : Int) b321 o323 (L.length - 1) 12 (by kernel_rfl) hA322 (by omega) (by omega) (o323 + (L.length - 1) * 12) (by first | (simp; done) | omega) ?_
       refine WL.load 56 (.pointer (some ⟨b321, o323 + (L.length - 1) * 12, none⟩)) (.agg #[.int .i64 e319.v.node, .int .i64 e319.v.boot, .int .i64 e319.v.seq, .int .i64 e319.v.time, .int .i64 e319.v.kind, .int .u32 e319.v.svip, .int .i64 e319.v.sproto, .int .i64 e319.v.sport, .slice e319.a e319.v.ends.length e319.c, .int .u32 e319.v.dip, .int .u32 e319.v.vip, .bool e319.v.up]) 135 (by kernel_rfl) (run_rdN (l := [.int .i64 e319.v.node, .int .i64 e319.v.boot, .int .i64 e319.v.seq, .int .i64 e319.v.time, .int .i64 e319.v.kind, .int .u32 e319.v.svip, .int .i64 e319.v.sproto, .int .i64 e319.v.sport, .slice e319.a e319.v.ends.length e319.c, .int .u32 e319.v.dip, .int .u32 e319.v.vip, .bool e319.v.up]) rfl rfl (fun j u hu => by have hq_ := hC271.fr.cell (hc324 j u hu) (by simp); simpa [Nat.add_assoc] using hq_)) ?_
       refine WL.newM hC271 (fun b => .pointer (some ⟨b, 0, none⟩)) (.cells #[.int .i64 0, .int .i64 0, .int .i64 0, .int .i64 0, .int .i64 0, .int .u32 0, .int .i64 0, .int .i64 0, .slice none 0 0, .int .u32 0, .int .u32 0, .bool false] 56) 10 (fun _ => by kernel_rfl) (fun g325 w326 hb329 hF327 hC328 => ?_)
       have ho330 := own_fr Sz29_m269 hF327 (by simp)
       have ho331 := own_fr Nz29_m269 hF327 (by simp)
       have ho332 := own_fr Kz29_m269 hF327 (by simp)
       have ho333 := own_fr Lz29_m269 hF327 (by simp)
       have ho334 := own_fr Rz29_m269 hF327 (by simp)
       have hf335 := svcsIn.fr inz29_m269 hF327 (by simp)
       refine WLs (c' := #[.int .i64 e319.v.node, .int .i64 e319.v.boot, .int .i64 e319.v.seq, .int .i64 e319.v.time, .int .i64 e319.v.kind, .int .u32 e319.v.svip, .int .i64 e319.v.sproto, .int .i64 e319.v.sport, .slice e319.a e319.v.ends.length e319.c, .int .u32 e319.v.dip, .int .u32 e319.v.vip, .bool e319.v.up]) hC328 1 56 g325 0 (.agg #[.int .i64 e319.v.node, .int .i64 e319.v.boot, .int .i64 e319.v.seq, .int .i64 e319.v.time, .int .i64 e319.v.kind, .int .u32 e319.v.svip, .int .i64 e319.v.sproto, .int .i64 e319.v.sport, .slice e319.a e319.v.ends.length e319.c, .int .u32 e319.v.dip, .int .u32 e319.v.vip, .bool e319.v.up]) (by kernel_rfl) rfl (by kernel_rfl) (fun w336 hF338 hC339 => ?_)
       have ho340 := own_fr ho330 hF338 (fun x_ hx_ => (hC328.apartM 0 1 rfl rfl) x_ (hR24.sS x_ hx_))
       have ho341 := own_fr ho331 hF338 (fun x_ hx_ => (hC328.apartM 0 1 rfl rfl) x_ (hR24.sN x_ hx_))
       have ho342 := own_fr ho332 hF338 (fun x_ hx_ => (hC328.apartM 0 1 rfl rfl) x_ (hR24.sK x_ hx_))
       have ho343 := own_fr ho333 hF338 (fun x_ hx_ => (hC328.apartM 0 1 rfl rfl) x_ (hR24.sL x_ hx_))
       have ho344 := own_fr ho334 hF338 (fun x_ hx_ => (hC328.apartM 0 1 rfl rfl) x_ (hR24.sR x_ hx_))
       have hf345 := svcsIn.fr hf335 hF338 (hC328.apartM 0 1 rfl rfl)
       refine WLd rfl (QXn (hK318 _ _ ?_))
       refine WCs (fun K346 hK347 => ?_)
       refine WCs (fun K348 hK349 => ?_)
       refine WCg (WLr 1 [(136, .pointer (some ⟨g325, 4, none⟩))] (fun _ => by kernel_rfl) ?_)
       obtain ⟨D_, hlast_⟩ := last_of (n := L.length - 1) (by omega) (wfs_vals hL _) he320 he310 (by simpa using t314b)
       refine WL.load 3 (.pointer (some ⟨g325, 4, none⟩)) (.int .i64 e319.v.kind) 137 (by kernel_rfl) (run_ld (hC339.get 1 rfl) rfl) ?_
       refine WLd rfl (QXn (hK349 _ _ ?_))
       refine WC.block ?_
       refine WCs (fun K350 hK351 => ?_)
       refine WCg (WLr 2 [(138, .bool (e319.v.kind == 1)), (139, .bool (e319.v.kind == 1))] (fun _ => by kernel_rfl) (WLd rfl (QXn (hK351 _ _ ?_))))
       refine WCa 138 (e319.v.kind == 1) rfl (fun t352b => ?_) (fun t352b => ?_)
       ·
        have t352 : e319.v.kind = 1 := by simpa using t352b
        refine WCt rfl ?_
        refine WCs (fun K353 hK354 => ?_)
        refine WCg ?_
        refine WL.load 31 (.pointer (some ⟨g30, 0, none⟩)) (.agg #[.int .i64 ((foldC (vals L)).epoch), .int .i64 ((foldC (vals L)).now), .slice ASz29 xsz29.length cSz29, .slice ANz29 ((foldC (vals L)).snats.length) cNz29, .slice AKz29 ((foldC (vals L)).sick.length) cKz29, .slice ALz29 ((foldC (vals L)).leases.length) cLz29]) 141 (by kernel_rfl) (run_ld (hC339.get 0 rfl) rfl) ?_
        refine WLr 2 [(143, .pointer (some ⟨g325, 5, none⟩)), (142, .pointer (some ⟨g325, 5, none⟩))] (fun _ => by kernel_rfl) ?_
        refine WL.load 41 (.pointer (some ⟨g325, 5, none⟩)) (.int .u32 e319.v.svip) 144 (by kernel_rfl) (run_ld (hC339.get 1 rfl) rfl) ?_
        refine WLr 2 [(146, .pointer (some ⟨g325, 6, none⟩)), (145, .pointer (some ⟨g325, 5, none⟩))] (fun _ => by kernel_rfl) ?_
        refine WL.load 3 (.pointer (some ⟨g325, 6, none⟩)) (.int .i64 e319.v.sproto) 147 (by kernel_rfl) (run_ld (hC339.get 1 rfl) rfl) ?_
        refine WLr 2 [(149, .pointer (some ⟨g325, 7, none⟩)), (148, .pointer (some ⟨g325, 5, none⟩))] (fun _ => by kernel_rfl) ?_
        refine WL.load 3 (.pointer (some ⟨g325, 7, none⟩)) (.int .i64 e319.v.sport) 150 (by kernel_rfl) (run_ld (hC339.get 1 rfl) rfl) ?_
        refine WLc rfl rfl rfl rfl rfl (by kernel_rfl) (Service_n ((foldC (vals L)).epoch) ((foldC (vals L)).now) ANz29 AKz29 ALz29 ((foldC (vals L)).snats.length) cNz29 ((foldC (vals L)).sick.length) cKz29 ((foldC (vals L)).leases.length) cLz29 ASz29 cSz29 xsz29 e319.v.svip e319.v.sproto e319.v.sport xsz29.length w336 (own_rd ho340 cellsS_len (by decide)) hf345.at_ (by omega) (own_count cellsS_len (by decide) ho340)) ?_
        rintro _ w358 ⟨A355, c356, rfl, hF357, ho360⟩
        have hC359 := hC339.callN hF357 (own_ge ho360) (own_lt ho360)
        have ho361 := own_base (b' := 0) ho360 (fun _ _ => Nat.zero_le _)
        refine ⟨_, rfl, ?_⟩
        have hf367 := svcsIn.fr hf345 hF357 (by simp)
        refine WLr 3 [(153, .bool (hasS (xsz29.map (·.v)) (e319.v.svip, e319.v.sproto, e319.v.sport))), (152, .agg #[.int .u32 ((getS (xsz29.map (·.v)) (e319.v.svip, e319.v.sproto, e319.v.sport)).vip), .int .i64 ((getS (xsz29.map (·.v)) (e319.v.svip, e319.v.sproto, e319.v.sport)).proto), .int .i64 ((getS (xsz29.map (·.v)) (e319.v.svip, e319.v.sproto, e319.v.sport)).port), .slice A355 ((getS (xsz29.map (·.v)) (e319.v.svip, e319.v.sproto, e319.v.sport)).ends.length) c356]), (140, .tuple #[.agg #[.int .u32 ((getS (xsz29.map (·.v)) (e319.v.svip, e319.v.sproto, e319.v.sport)).vip), .int .i64 ((getS (xsz29.map (·.v)) (e319.v.svip, e319.v.sproto, e319.v.sport)).proto), .int .i64 ((getS (xsz29.map (·.v)) (e319.v.svip, e319.v.sproto, e319.v.sport)).port), .slice A355 ((getS (xsz29.map (·.v)) (e319.v.svip, e319.v.sproto, e319.v.sport)).ends.length) c356], .bool (hasS (xsz29.map (·.v)) (e319.v.svip, e319.v.sproto, e319.v.sport))])] (fun _ => by kernel_rfl) ?_
        refine WL.newM hC359 (fun b => .pointer (some ⟨b, 0, none⟩)) (.cells #[.int .u32 0, .int .i64 0, .int .i64 0, .slice none 0 0] 52) 11 (fun _ => by kernel_rfl) (fun g369 w370 hb373 hF371 hC372 => ?_)
        have hf379 := svcsIn.fr hf367 hF371 (by simp)
        have ho380 := own_fr ho361 hF371 (by simp)
        refine WLs (c' := #[.int .u32 ((getS (xsz29.map (·.v)) (e319.v.svip, e319.v.sproto, e319.v.sport)).vip), .int .i64 ((getS (xsz29.map (·.v)) (e319.v.svip, e319.v.sproto, e319.v.sport)).proto), .int .i64 ((getS (xsz29.map (·.v)) (e319.v.svip, e319.v.sproto, e319.v.sport)).port), .slice A355 ((getS (xsz29.map (·.v)) (e319.v.svip, e319.v.sproto, e319.v.sport)).ends.length) c356]) hC372 2 52 g369 0 (.agg #[.int .u32 ((getS (xsz29.map (·.v)) (e319.v.svip, e319.v.sproto, e319.v.sport)).vip), .int .i64 ((getS (xsz29.map (·.v)) (e319.v.svip, e319.v.sproto, e319.v.sport)).proto), .int .i64 ((getS (xsz29.map (·.v)) (e319.v.svip, e319.v.sproto, e319.v.sport)).port), .slice A355 ((getS (xsz29.map (·.v)) (e319.v.svip, e319.v.sproto, e319.v.sport)).ends.length) c356]) (by kernel_rfl) rfl (by kernel_rfl) (fun w381 hF383 hC384 => ?_)
        have hf390 := svcsIn.fr hf379 hF383 (hC372.apartM 0 2 rfl rfl)
        have ho391 := own_fr ho380 hF383 (hC372.apartM 1 2 rfl rfl)
        refine WLr 1 [(12, .bool (hasS (xsz29.map (·.v)) (e319.v.svip, e319.v.sproto, e319.v.sport)))] (fun _ => by kernel_rfl) (WLd rfl (QXn (hK354 _ _ ?_)))
        refine WCs (fun K392 hK393 => ?_)
        refine WCg (WLr 3 [(156, .pointer (some ⟨g325, 8, none⟩)), (155, .pointer (some ⟨g325, 5, none⟩)), (154, .bool (hasS (xsz29.map (·.v)) (e319.v.svip, e319.v.sproto, e319.v.sport)))] (fun _ => by kernel_rfl) ?_)
        refine WL.load 50 (.pointer (some ⟨g325, 8, none⟩)) (.slice e319.a e319.v.ends.length e319.c) 157 (by kernel_rfl) (run_ld (hC384.get 1 rfl) rfl) ?_
        refine WLr 4 [(161, .bool ((hasS (xsz29.map (·.v)) (e319.v.svip, e319.v.sproto, e319.v.sport)) == (decide ((e319.v.ends.length : Int) > 0)))), (160, .bool ((hasS (xsz29.map (·.v)) (e319.v.svip, e319.v.sproto, e319.v.sport)) == (decide ((e319.v.ends.length : Int) > 0)))), (159, .bool (decide ((e319.v.ends.length : Int) > 0))), (158, .int .i64 (e319.v.ends.length : Int))] (fun _ => by kernel_rfl) ?_
        refine WL.know 161 (.bool ((hasS (xsz29.map (·.v)) (e319.v.svip, e319.v.sproto, e319.v.sport)) == (decide ((e319.v.ends.length : Int) > 0)))) (.bool true) rfl (congrArg Value.bool (by rw [hR24.vals, (last_svc hlast_ (by simpa using t352b) (by simpa using t314b)).1]; simp)) ?_
        refine WLr 1 [(162, .pointer (some ⟨g369, 3, none⟩))] (fun _ => by kernel_rfl) ?_
        have hse_ : (getS (xsz29.map (·.v)) (e319.v.svip, e319.v.sproto, e319.v.sport)).ends.length ≤ 1099511627776 := by rw [hR24.vals, (last_svc hlast_ (by simpa using t352b) (by simpa using t314b)).2]; omega
        refine WL.load 50 (.pointer (some ⟨g369, 3, none⟩)) (.slice A355 ((getS (xsz29.map (·.v)) (e319.v.svip, e319.v.sproto, e319.v.sport)).ends.length) c356) 163 (by kernel_rfl) (run_ld (hC384.get 2 rfl) rfl) ?_
        refine WLr 2 [(165, .pointer (some ⟨g325, 8, none⟩)), (164, .pointer (some ⟨g325, 5, none⟩))] (fun _ => by kernel_rfl) ?_
        refine WL.load 50 (.pointer (some ⟨g325, 8, none⟩)) (.slice e319.a e319.v.ends.length e319.c) 166 (by kernel_rfl) (run_ld (hC384.get 1 rfl) rfl) ?_
        refine WLc rfl rfl rfl rfl rfl (by kernel_rfl) (sameEnds_n A355 e319.a ((getS (xsz29.map (·.v)) (e319.v.svip, e319.v.sproto, e319.v.sport)).ends.length) c356 e319.v.ends.length e319.c ((getS (xsz29.map (·.v)) (e319.v.svip, e319.v.sproto, e319.v.sport)).ends) e319.v.ends w381 (own_rd ho391 cellsE_len (by decide)) (Rd.fr hc_e319.rd hC384.fr) (own_count cellsE_len (by decide) ho391) rfl (by omega)) ?_
        rintro _ w395 ⟨rfl, hF394⟩
        refine ⟨_, rfl, ?_⟩
        have hC396 := hC384.call hF394
        have hf402 := svcsIn.fr hf390 hF394 (by simp)
        refine WLr 2 [(2, .bool (decide (((getS (xsz29.map (·.v)) (e319.v.svip, e319.v.sproto, e319.v.sport)).ends) = e319.v.ends))), (168, .bool (decide (((getS (xsz29.map (·.v)) (e319.v.svip, e319.v.sproto, e319.v.sport)).ends) = e319.v.ends)))] (fun _ => by kernel_rfl) (WLd rfl (QXn (hK393 _ _ ?_)))
        refine WC.ret ?_
        refine QXk ?_
        refine QXr ?_
        refine (hret _ _ _ rfl ?_).1
        exact ⟨congrArg (fun b_ => Ending.returned (Value.bool b_)) (show ((decide (((getS (xsz29.map (·.v)) (e319.v.svip, e319.v.sproto, e319.v.sport)).ends) = e319.v.ends))) = true from by rw [hR24.vals]; exact decide_eq_true (last_svc hlast_ (by simpa using t352b) (by simpa using t314b)).2), hC396.fr⟩
       ·
        have t352 : ¬ (e319.v.kind = 1) := by simpa using t352b
        refine WCf rfl ?_
        refine WCs (fun K404 hK405 => ?_)
        refine WCg (WLr 2 [(169, .bool (e319.v.kind == 2)), (170, .bool (e319.v.kind == 2))] (fun _ => by kernel_rfl) (WLd rfl (QXn (hK405 _ _ ?_))))
        refine WCa 169 (e319.v.kind == 2) rfl (fun t406b => ?_) (fun t406b => ?_)
        ·
         have t406 : e319.v.kind = 2 := by simpa using t406b
         refine WCt rfl ?_
         refine WCs (fun K407 hK408 => ?_)
         refine WCg ?_
         refine WL.load 31 (.pointer (some ⟨g30, 0, none⟩)) (.agg #[.int .i64 ((foldC (vals L)).epoch), .int .i64 ((foldC (vals L)).now), .slice ASz29 xsz29.length cSz29, .slice ANz29 ((foldC (vals L)).snats.length) cNz29, .slice AKz29 ((foldC (vals L)).sick.length) cKz29, .slice ALz29 ((foldC (vals L)).leases.length) cLz29]) 172 (by kernel_rfl) (run_ld (hC339.get 0 rfl) rfl) ?_
         refine WLr 1 [(173, .pointer (some ⟨g325, 9, none⟩))] (fun _ => by kernel_rfl) ?_
         refine WL.load 41 (.pointer (some ⟨g325, 9, none⟩)) (.int .u32 e319.v.dip) 174 (by kernel_rfl) (run_ld (hC339.get 1 rfl) rfl) ?_
         refine WLc rfl rfl rfl rfl rfl (by kernel_rfl) (Outside_n ((foldC (vals L)).epoch) ((foldC (vals L)).now) ASz29 AKz29 ALz29 xsz29.length cSz29 ((foldC (vals L)).sick.length) cKz29 ((foldC (vals L)).leases.length) cLz29 ANz29 ((foldC (vals L)).snats.length) cNz29 ((foldC (vals L)).snats) e319.v.dip w336 (own_rd ho341 cellsN_len (by decide)) (own_count cellsN_len (by decide) ho341) (by first | omega | (simp; done))) ?_
         rintro _ w410 ⟨rfl, hF409⟩
         refine ⟨_, rfl, ?_⟩
         have hC411 := hC339.call hF409
         have hf417 := svcsIn.fr hf345 hF409 (by simp)
         refine WLr 5 [(14, .bool (outB ((foldC (vals L)).snats) e319.v.dip)), (13, .int .u32 (outV ((foldC (vals L)).snats) e319.v.dip)), (177, .bool (outB ((foldC (vals L)).snats) e319.v.dip)), (176, .int .u32 (outV ((foldC (vals L)).snats) e319.v.dip)), (171, .tuple #[.int .u32 (outV ((foldC (vals L)).snats) e319.v.dip), .bool (outB ((foldC (vals L)).snats) e319.v.dip)])] (fun _ => by kernel_rfl) (WLd rfl (QXn (hK408 _ _ ?_)))
         refine WCs (fun K418 hK419 => ?_)
         refine WCg (WLr 2 [(179, .pointer (some ⟨g325, 11, none⟩)), (178, .bool (outB ((foldC (vals L)).snats) e319.v.dip))] (fun _ => by kernel_rfl) ?_)
         refine WL.load 4 (.pointer (some ⟨g325, 11, none⟩)) (.bool e319.v.up) 180 (by kernel_rfl) (run_ld (hC411.get 1 rfl) rfl) ?_
         refine WLr 2 [(182, .bool ((outB ((foldC (vals L)).snats) e319.v.dip) == e319.v.up)), (181, .bool ((outB ((foldC (vals L)).snats) e319.v.dip) == e319.v.up))] (fun _ => by kernel_rfl) ?_
         refine WL.know 182 (.bool ((outB ((foldC (vals L)).snats) e319.v.dip) == e319.v.up)) (.bool true) rfl (congrArg Value.bool (by rw [(last_snat hlast_ (by simpa using t406b)).1]; simp)) ?_
         refine WLr 2 [(184, .pointer (some ⟨g325, 10, none⟩)), (183, .int .u32 (outV ((foldC (vals L)).snats) e319.v.dip))] (fun _ => by kernel_rfl) ?_
         refine WL.load 41 (.pointer (some ⟨g325, 10, none⟩)) (.int .u32 e319.v.vip) 185 (by kernel_rfl) (run_ld (hC411.get 1 rfl) rfl) ?_
         refine WLr 3 [(2, .bool ((outV ((foldC (vals L)).snats) e319.v.dip) == e319.v.vip)), (187, .bool ((outV ((foldC (vals L)).snats) e319.v.dip) == e319.v.vip)), (186, .bool ((outV ((foldC (vals L)).snats) e319.v.dip) == e319.v.vip))] (fun _ => by kernel_rfl) (WLd rfl (QXn (hK419 _ _ ?_)))
         refine WC.ret ?_
         refine QXk ?_
         refine QXr ?_
         refine (hret _ _ _ rfl ?_).1
         exact ⟨congrArg (fun b_ => Ending.returned (Value.bool b_)) (show (((outV ((foldC (vals L)).snats) e319.v.dip) == e319.v.vip)) = true from by rw [(last_snat hlast_ (by simpa using t406b)).2]; simp), hC411.fr⟩
        ·
         have t406 : ¬ (e319.v.kind = 2) := by simpa using t406b
         refine WCf rfl ?_
         refine WCs (fun K420 hK421 => ?_)
         refine WCg (WLr 2 [(188, .bool (e319.v.kind == 3)), (189, .bool (e319.v.kind == 3))] (fun _ => by kernel_rfl) (WLd rfl (QXn (hK421 _ _ ?_))))
         refine WCa 188 (e319.v.kind == 3) rfl (fun t422b => ?_) (fun t422b => ?_)
         ·
          have t422 : e319.v.kind = 3 := by simpa using t422b
          refine WCt rfl ?_
          refine WCs (fun K423 hK424 => ?_)
          refine WC.drawC hC339 [] (by kernel_rfl) (fun w425 hF426 hC427 hS428 => ?_)
          have ho431 := own_fr ho342 hF426 (by simp)
          have hf434 := svcsIn.fr hf345 hF426 (by simp)
          refine WDp (NPt (NPb (NPt hN))) 1 191 (.pointer (some ⟨g325, 9, none⟩)) (by kernel_rfl) (fun _ => by kernel_rfl) hS428 ?_
          refine WDp (NPt (NPb (NPt hN))) 9 199 (.pointer (some ⟨g325, 11, none⟩)) (by kernel_rfl) (fun _ => by kernel_rfl) hS428 ?_
          refine WDl (NPt (NPb (NPt hN))) 0 31 (.pointer (some ⟨g30, 0, none⟩)) (.agg #[.int .i64 ((foldC (vals L)).epoch), .int .i64 ((foldC (vals L)).now), .slice ASz29 xsz29.length cSz29, .slice ANz29 ((foldC (vals L)).snats.length) cNz29, .slice AKz29 ((foldC (vals L)).sick.length) cKz29, .slice ALz29 ((foldC (vals L)).leases.length) cLz29]) 190 (by kernel_rfl) (by kernel_rfl) (fun _ hS_ => run_ld (Fr.has hS_ (hC427.get 0 rfl) (by simp)) rfl) hS428 ?_
          refine WDl (NPt (NPb (NPt hN))) 2 41 (.pointer (some ⟨g325, 9, none⟩)) (.int .u32 e319.v.dip) 192 (by kernel_rfl) (by kernel_rfl) (fun _ hS_ => run_ld (Fr.has hS_ (hC427.get 1 rfl) (by simp)) rfl) hS428 ?_
          refine WDp (NPt (NPb (NPt hN))) 3 193 (.agg #[.int .u32 e319.v.dip, .int .i64 0, .int .i64 0]) (by kernel_rfl) (fun _ => by kernel_rfl) hS428 ?_
          refine WDl (NPt (NPb (NPt hN))) 10 4 (.pointer (some ⟨g325, 11, none⟩)) (.bool e319.v.up) 200 (by kernel_rfl) (by kernel_rfl) (fun _ hS_ => run_ld (Fr.has hS_ (hC427.get 1 rfl) (by simp)) rfl) hS428 ?_
          refine WD.new 4 (fun b => .slice (some ⟨b, 0, none⟩) 1 1) (.cells #[.int .u32 e319.v.dip, .int .i64 0, .int .i64 0] 64) (by kernel_rfl) rfl rfl rfl rfl rfl (fun _ => by kernel_rfl) (fun g435 w436 hb439 hl440 hF437 ho441 => ?_)
          have hC438 := hC427.callB hF437 hb439 ho441
          have hnbg435_ := Nat.le_trans hS428.size hb439
          have hS442 := hS428.trans hF437 (by simp)
          refine ⟨hS442, ?_⟩
          have ho445 := own_fr ho431 hF437 (by simp)
          have hf448 := svcsIn.fr hf434 hF437 (by simp)
          refine WDp (NPt (NPb (NPt hN))) 5 195 (.agg #[.int .u32 0, .int .i64 0, .int .i64 0, .slice (some ⟨g435, 0, none⟩) 1 1]) (by kernel_rfl) (fun _ => by kernel_rfl) hS442 ?_
          refine WD.call 6 (by kernel_rfl) rfl rfl rfl rfl rfl (by kernel_rfl) (Healthy_n ((foldC (vals L)).epoch) ((foldC (vals L)).now) ASz29 ANz29 ALz29 xsz29.length cSz29 ((foldC (vals L)).snats.length) cNz29 ((foldC (vals L)).leases.length) cLz29 AKz29 cKz29 ((foldC (vals L)).sick) 0 0 0 (some ⟨g435, 0, none⟩) 1 [(⟨e319.v.dip, 0, 0⟩ : EndV)] ((foldC (vals L)).sick.length) 1 w436 (own_rd ho445 (Go.Tw.encI_len _) (by decide)) (by omega) (Rd.blk (hC438.get 2 rfl) cellsE_len rfl) (by first | omega | (simp; done)) (own_count (Go.Tw.encI_len _) (by decide) ho445) rfl) ?_
          rintro _ w451 ⟨v_, rfl, hF450, ho449⟩
          have hC452 := hC438.callN hF450 (own_ge ho449) (own_lt ho449)
          obtain ⟨A453, c454, rfl, hle455⟩ := own_form ho449
          have ho457 := own_base (b' := 0) ho449 (fun _ _ => Nat.zero_le _)
          have hS458 := hS442.trans hF450 (by simp)
          refine ⟨_, rfl, hS458, ?_⟩
          have hf464 := svcsIn.fr hf448 hF450 (by simp)
          refine WDp (NPt (NPb (NPt hN))) 7 197 (.int .i64 ((wellL ((foldC (vals L)).sick) [(⟨e319.v.dip, 0, 0⟩ : EndV)]).length : Int)) (by kernel_rfl) (fun _ => by kernel_rfl) hS458 ?_
          refine WDp (NPt (NPb (NPt hN))) 8 198 (.bool (((wellL ((foldC (vals L)).sick) [(⟨e319.v.dip, 0, 0⟩ : EndV)]).length : Int) == 1)) (by kernel_rfl) (fun _ => by kernel_rfl) hS458 ?_
          refine WDp (NPt (NPb (NPt hN))) 11 201 (.bool ((((wellL ((foldC (vals L)).sick) [(⟨e319.v.dip, 0, 0⟩ : EndV)]).length : Int) == 1) == e319.v.up)) (by kernel_rfl) (fun _ => by kernel_rfl) hS458 ?_
          refine WDp (NPt (NPb (NPt hN))) 12 2 (.bool ((((wellL ((foldC (vals L)).sick) [(⟨e319.v.dip, 0, 0⟩ : EndV)]).length : Int) == 1) == e319.v.up)) (by kernel_rfl) (fun _ => by kernel_rfl) hS458 ?_
          refine WD.done (by kernel_rfl) ?_
          refine QXn (hK424 _ _ ?_)
          refine WC.ret ?_
          refine QXk ?_
          refine QXr ?_
          refine (hret _ _ _ rfl ?_).1
          exact ⟨congrArg (fun b_ => Ending.returned (Value.bool b_)) (show (((((wellL ((foldC (vals L)).sick) [(⟨e319.v.dip, 0, 0⟩ : EndV)]).length : Int) == 1) == e319.v.up)) = true from by have q_ := last_sick hlast_ (by simpa using t422b); unfold wellL; simp only [List.filter_cons, q_]; cases e319.v.up <;> rfl), hC452.fr⟩
         ·
          have t422 : ¬ (e319.v.kind = 3) := by simpa using t422b
          refine WCf rfl (WC.skip ?_)
          refine QXb ?_
          refine QXn (hK347 _ _ ?_)
          refine WCs (fun K466 hK467 => ?_)
          refine WC.drawC hC339 [] (by kernel_rfl) (fun w468 hF469 hC470 hS471 => ?_)
          have ho475 := own_fr ho343 hF469 (by simp)
          have ho476 := own_fr ho344 hF469 (by simp)
          have hf477 := svcsIn.fr hf345 hF469 (by simp)
          refine WDp (NPt hN) 0 203 (.pointer (some ⟨g30, 5, none⟩)) (by kernel_rfl) (fun _ => by kernel_rfl) hS471 ?_
          refine WDp (NPt hN) 2 205 (.slice ARz29 ((resC (vals L)).length) cRz29) (by kernel_rfl) (fun _ => by kernel_rfl) hS471 ?_
          refine WDp (NPt hN) 3 206 (.slice A L.length c) (by kernel_rfl) (fun _ => by kernel_rfl) hS471 ?_
          refine WDp (NPt hN) 4 207 (.int .i64 (L.length : Int)) (by kernel_rfl) (fun _ => by kernel_rfl) hS471 ?_
          refine WDp (NPt hN) 5 208 (.int .i64 (IntKind.i64.wrap ((L.length : Int) - 1))) (by kernel_rfl) (fun _ => by kernel_rfl) hS471 ?_
          refine WD.recast (show (.int .i64 (IntKind.i64.wrap ((L.length : Int) - 1)) : Value) = .int .i64 ((L.length - 1 : Nat) : Int) from by rw [wrap_in_i64 _ (by omega) (by omega)]; congr 1; omega) ?_
          refine WDi (NPt hN) 6 ARz29 ((resC (vals L)).length) cRz29 209 .i64 ((L.length - 1 : Nat) : Int) b311 0 (L.length - 1) 5 (by kernel_rfl) (by kernel_rfl) hA312 (by omega) (by omega) ((L.length - 1) * 5) (by first | (simp; done) | omega) hS471 ?_
          refine WDp (NPt hN) 7 210 (.pointer (some ⟨b311, (L.length - 1) * 5 + 1, none⟩)) (by kernel_rfl) (fun _ => by kernel_rfl) hS471 ?_
          refine WDp (NPt hN) 8 211 (.pointer (some ⟨b311, (L.length - 1) * 5 + 1, none⟩)) (by kernel_rfl) (fun _ => by kernel_rfl) hS471 ?_
          refine WDp (NPt hN) 10 213 (.slice ARz29 ((resC (vals L)).length) cRz29) (by kernel_rfl) (fun _ => by kernel_rfl) hS471 ?_
          refine WDp (NPt hN) 11 214 (.slice A L.length c) (by kernel_rfl) (fun _ => by kernel_rfl) hS471 ?_
          refine WDp (NPt hN) 12 215 (.int .i64 (L.length : Int)) (by kernel_rfl) (fun _ => by kernel_rfl) hS471 ?_
          refine WDp (NPt hN) 13 216 (.int .i64 (IntKind.i64.wrap ((L.length : Int) - 1))) (by kernel_rfl) (fun _ => by kernel_rfl) hS471 ?_
          refine WD.recast (show (.int .i64 (IntKind.i64.wrap ((L.length : Int) - 1)) : Value) = .int .i64 ((L.length - 1 : Nat) : Int) from by rw [wrap_in_i64 _ (by omega) (by omega)]; congr 1; omega) ?_
          refine WDi (NPt hN) 14 ARz29 ((resC (vals L)).length) cRz29 217 .i64 ((L.length - 1 : Nat) : Int) b311 0 (L.length - 1) 5 (by kernel_rfl) (by kernel_rfl) hA312 (by omega) (by omega) ((L.length - 1) * 5) (by first | (simp; done) | omega) hS471 ?_
          refine WDp (NPt hN) 15 218 (.pointer (some ⟨b311, (L.length - 1) * 5 + 1, none⟩)) (by kernel_rfl) (fun _ => by kernel_rfl) hS471 ?_
          refine WDp (NPt hN) 16 219 (.pointer (some ⟨b311, (L.length - 1) * 5 + 1 + 1, none⟩)) (by kernel_rfl) (fun _ => by kernel_rfl) hS471 ?_
          refine WDp (NPt hN) 18 221 (.pointer (some ⟨g30, 1, none⟩)) (by kernel_rfl) (fun _ => by kernel_rfl) hS471 ?_
          refine WDl (NPt hN) 1 29 (.pointer (some ⟨g30, 5, none⟩)) (.slice ALz29 ((foldC (vals L)).leases.length) cLz29) 204 (by kernel_rfl) (by kernel_rfl) (fun _ hS_ => run_ld (Fr.has hS_ (hC470.get 0 rfl) (by simp)) rfl) hS471 ?_
          refine WDl (NPt hN) 9 41 (.pointer (some ⟨b311, (L.length - 1) * 5 + 1, none⟩)) (.int .u32 e309.lease.vip) 212 (by kernel_rfl) (by kernel_rfl) (fun _ hS_ => run_load1 rfl (by simpa [Nat.add_assoc] using Rd.cell (own_rd (own_fr ho476 hS_ (by simp)) cellsR_len (by decide)) hA312 he310 1 _ rfl)) hS471 ?_
          refine WDl (NPt hN) 17 3 (.pointer (some ⟨b311, (L.length - 1) * 5 + 1 + 1, none⟩)) (.int .i64 e309.lease.first) 220 (by kernel_rfl) (by kernel_rfl) (fun _ hS_ => run_load1 rfl (by simpa [Nat.add_assoc] using Rd.cell (own_rd (own_fr ho476 hS_ (by simp)) cellsR_len (by decide)) hA312 he310 2 _ rfl)) hS471 ?_
          refine WDl (NPt hN) 19 3 (.pointer (some ⟨g30, 1, none⟩)) (.int .i64 ((foldC (vals L)).now)) 222 (by kernel_rfl) (by kernel_rfl) (fun _ hS_ => run_ld (Fr.has hS_ (hC470.get 0 rfl) (by simp)) rfl) hS471 ?_
          refine WD.all2 20 24 (by kernel_rfl) ?_ ?_
          ·
           have hml_ := (last_lease hlast_ (by simpa using t352b) (by simpa using t406b) (by simpa using t422b) (by simpa using t314b)).2
           obtain ⟨_, _, _, _, hp1_, hp2_, _⟩ := hwf_.lok _ hml_
           refine WO.call 20 (by kernel_rfl) rfl rfl rfl rfl rfl (by kernel_rfl) (Find2_ct ALz29 cLz29 ((foldC (vals L)).leases) e309.lease.vip e309.lease.first ((foldC (vals L)).now) w468 (own_rd ho475 encL_len (by decide)) hwf_.lok (by first | omega | simp) (by omega)) ?_
           rintro _ w487 ⟨rfl, hF486⟩
           have hS489 := hS471.trans hF486 (by simp)
           refine ⟨_, rfl, hS489, ?_⟩
           have hC488 := hC470.call hF486
           have hf495 := svcsIn.fr hf477 hF486 (by simp)
           refine WDp (NPt hN) 21 202 (.tuple #[.agg #[.int .u32 ((headL (((foldC (vals L)).leases).filter (findP e309.lease.vip e309.lease.first ((foldC (vals L)).now)))).vip), .int .i64 ((headL (((foldC (vals L)).leases).filter (findP e309.lease.vip e309.lease.first ((foldC (vals L)).now)))).first), .int .u32 ((headL (((foldC (vals L)).leases).filter (findP e309.lease.vip e309.lease.first ((foldC (vals L)).now)))).dip), .int .i64 ((headL (((foldC (vals L)).leases).filter (findP e309.lease.vip e309.lease.first ((foldC (vals L)).now)))).exp)], .bool (hasL (((foldC (vals L)).leases).filter (findP e309.lease.vip e309.lease.first ((foldC (vals L)).now))))]) (by kernel_rfl) (fun _ => by kernel_rfl) hS489 ?_
           refine WDp (NPt hN) 22 224 (.agg #[.int .u32 ((headL (((foldC (vals L)).leases).filter (findP e309.lease.vip e309.lease.first ((foldC (vals L)).now)))).vip), .int .i64 ((headL (((foldC (vals L)).leases).filter (findP e309.lease.vip e309.lease.first ((foldC (vals L)).now)))).first), .int .u32 ((headL (((foldC (vals L)).leases).filter (findP e309.lease.vip e309.lease.first ((foldC (vals L)).now)))).dip), .int .i64 ((headL (((foldC (vals L)).leases).filter (findP e309.lease.vip e309.lease.first ((foldC (vals L)).now)))).exp)]) (by kernel_rfl) (fun _ => by kernel_rfl) hS489 ?_
           refine WDp (NPt hN) 23 225 (.bool (hasL (((foldC (vals L)).leases).filter (findP e309.lease.vip e309.lease.first ((foldC (vals L)).now))))) (by kernel_rfl) (fun _ => by kernel_rfl) hS489 ?_
           refine WD.new 24 (fun b => .pointer (some ⟨b, 0, none⟩)) (.cells #[.int .u32 0, .int .i64 0, .int .u32 0, .int .i64 0] 43) (by kernel_rfl) rfl rfl rfl rfl rfl (fun _ => by kernel_rfl) (fun g496 w497 hb500 hl501 hF498 ho502 => ?_)
           have hC499 := hC488.callB hF498 hb500 ho502
           have hnbg496_ := Nat.le_trans hS489.size hb500
           have hS503 := hS489.trans hF498 (by simp)
           refine ⟨hS503, ?_⟩
           have hf509 := svcsIn.fr hf495 hF498 (by simp)
           obtain ⟨w510, hr511, hF512, hC513⟩ := sto_run (c' := #[.int .u32 ((headL (((foldC (vals L)).leases).filter (findP e309.lease.vip e309.lease.first ((foldC (vals L)).now)))).vip), .int .i64 ((headL (((foldC (vals L)).leases).filter (findP e309.lease.vip e309.lease.first ((foldC (vals L)).now)))).first), .int .u32 ((headL (((foldC (vals L)).leases).filter (findP e309.lease.vip e309.lease.first ((foldC (vals L)).now)))).dip), .int .i64 ((headL (((foldC (vals L)).leases).filter (findP e309.lease.vip e309.lease.first ((foldC (vals L)).now)))).exp)]) Tryd.prog hC499 2 43 g496 0 (.agg #[.int .u32 ((headL (((foldC (vals L)).leases).filter (findP e309.lease.vip e309.lease.first ((foldC (vals L)).now)))).vip), .int .i64 ((headL (((foldC (vals L)).leases).filter (findP e309.lease.vip e309.lease.first ((foldC (vals L)).now)))).first), .int .u32 ((headL (((foldC (vals L)).leases).filter (findP e309.lease.vip e309.lease.first ((foldC (vals L)).now)))).dip), .int .i64 ((headL (((foldC (vals L)).leases).filter (findP e309.lease.vip e309.lease.first ((foldC (vals L)).now)))).exp)]) rfl (by kernel_rfl)
           have hS514 := hS503.trans hF512 (by first | (simp; done) | (simp [*]; done) | (have q_ := hS503.size; simp; omega))
           refine WD.semU 25 (Instr.storeAt 43 (.pointer (some ⟨g496, 0, none⟩)) (.agg #[.int .u32 ((headL (((foldC (vals L)).leases).filter (findP e309.lease.vip e309.lease.first ((foldC (vals L)).now)))).vip), .int .i64 ((headL (((foldC (vals L)).leases).filter (findP e309.lease.vip e309.lease.first ((foldC (vals L)).now)))).first), .int .u32 ((headL (((foldC (vals L)).leases).filter (findP e309.lease.vip e309.lease.first ((foldC (vals L)).now)))).dip), .int .i64 ((headL (((foldC (vals L)).leases).filter (findP e309.lease.vip e309.lease.first ((foldC (vals L)).now)))).exp)])) (by kernel_rfl) (by kernel_rfl) hr511 hS514 ?_
           have hf520 := svcsIn.fr hf509 hF512 (hC499.apartM 0 2 rfl rfl)
           refine WDp (NPt hN) 26 16 (.bool (hasL (((foldC (vals L)).leases).filter (findP e309.lease.vip e309.lease.first ((foldC (vals L)).now))))) (by kernel_rfl) (fun _ => by kernel_rfl) hS514 ?_
           refine WD.done (by kernel_rfl) ?_
           refine QXn (hK467 _ _ ?_)
           refine WCs (fun K521 hK522 => ?_)
           refine WCg (WLr 2 [(2, .bool (hasL (((foldC (vals L)).leases).filter (findP e309.lease.vip e309.lease.first ((foldC (vals L)).now))))), (226, .bool (hasL (((foldC (vals L)).leases).filter (findP e309.lease.vip e309.lease.first ((foldC (vals L)).now)))))] (fun _ => by kernel_rfl) (WLd rfl (QXn (hK522 _ _ ?_))))
           refine WC.ret ?_
           refine (hret _ _ _ rfl ?_).1
           exact ⟨congrArg (fun b_ => Ending.returned (Value.bool b_)) (show ((hasL (((foldC (vals L)).leases).filter (findP e309.lease.vip e309.lease.first ((foldC (vals L)).now))))) = true from by exact (last_lease hlast_ (by simpa using t352b) (by simpa using t406b) (by simpa using t422b) (by simpa using t314b)).1), hC513.fr⟩
          ·
           refine WO.new 24 (fun b => .pointer (some ⟨b, 0, none⟩)) (.cells #[.int .u32 0, .int .i64 0, .int .u32 0, .int .i64 0] 43) (by kernel_rfl) rfl rfl rfl rfl rfl (fun _ => by kernel_rfl) (fun g523 w524 hb527 hl528 hF525 ho529 => ?_)
           have hC526 := hC470.callB hF525 hb527 ho529
           have hnbg523_ := Nat.le_trans hS471.size hb527
           have hS530 := hS471.trans hF525 (by simp)
           refine ⟨hS530, ?_⟩
           have ho534 := own_fr ho475 hF525 (by simp)
           have hf536 := svcsIn.fr hf477 hF525 (by simp)
           have hml_ := (last_lease hlast_ (by simpa using t352b) (by simpa using t406b) (by simpa using t422b) (by simpa using t314b)).2
           obtain ⟨_, _, _, _, hp1_, hp2_, _⟩ := hwf_.lok _ hml_
           refine WD.call 20 (by kernel_rfl) rfl rfl rfl rfl rfl (by kernel_rfl) (Find2_ct ALz29 cLz29 ((foldC (vals L)).leases) e309.lease.vip e309.lease.first ((foldC (vals L)).now) w524 (own_rd ho534 encL_len (by decide)) hwf_.lok (by first | omega | simp) (by omega)) ?_
           rintro _ w538 ⟨rfl, hF537⟩
           have hS540 := hS530.trans hF537 (by simp)
           refine ⟨_, rfl, hS540, ?_⟩
           have hC539 := hC526.call hF537
           have hf546 := svcsIn.fr hf536 hF537 (by simp)
           refine WDp (NPt hN) 21 202 (.tuple #[.agg #[.int .u32 ((headL (((foldC (vals L)).leases).filter (findP e309.lease.vip e309.lease.first ((foldC (vals L)).now)))).vip), .int .i64 ((headL (((foldC (vals L)).leases).filter (findP e309.lease.vip e309.lease.first ((foldC (vals L)).now)))).first), .int .u32 ((headL (((foldC (vals L)).leases).filter (findP e309.lease.vip e309.lease.first ((foldC (vals L)).now)))).dip), .int .i64 ((headL (((foldC (vals L)).leases).filter (findP e309.lease.vip e309.lease.first ((foldC (vals L)).now)))).exp)], .bool (hasL (((foldC (vals L)).leases).filter (findP e309.lease.vip e309.lease.first ((foldC (vals L)).now))))]) (by kernel_rfl) (fun _ => by kernel_rfl) hS540 ?_
           refine WDp (NPt hN) 22 224 (.agg #[.int .u32 ((headL (((foldC (vals L)).leases).filter (findP e309.lease.vip e309.lease.first ((foldC (vals L)).now)))).vip), .int .i64 ((headL (((foldC (vals L)).leases).filter (findP e309.lease.vip e309.lease.first ((foldC (vals L)).now)))).first), .int .u32 ((headL (((foldC (vals L)).leases).filter (findP e309.lease.vip e309.lease.first ((foldC (vals L)).now)))).dip), .int .i64 ((headL (((foldC (vals L)).leases).filter (findP e309.lease.vip e309.lease.first ((foldC (vals L)).now)))).exp)]) (by kernel_rfl) (fun _ => by kernel_rfl) hS540 ?_
           refine WDp (NPt hN) 23 225 (.bool (hasL (((foldC (vals L)).leases).filter (findP e309.lease.vip e309.lease.first ((foldC (vals L)).now))))) (by kernel_rfl) (fun _ => by kernel_rfl) hS540 ?_
           obtain ⟨w547, hr548, hF549, hC550⟩ := sto_run (c' := #[.int .u32 ((headL (((foldC (vals L)).leases).filter (findP e309.lease.vip e309.lease.first ((foldC (vals L)).now)))).vip), .int .i64 ((headL (((foldC (vals L)).leases).filter (findP e309.lease.vip e309.lease.first ((foldC (vals L)).now)))).first), .int .u32 ((headL (((foldC (vals L)).leases).filter (findP e309.lease.vip e309.lease.first ((foldC (vals L)).now)))).dip), .int .i64 ((headL (((foldC (vals L)).leases).filter (findP e309.lease.vip e309.lease.first ((foldC (vals L)).now)))).exp)]) Tryd.prog hC539 2 43 g523 0 (.agg #[.int .u32 ((headL (((foldC (vals L)).leases).filter (findP e309.lease.vip e309.lease.first ((foldC (vals L)).now)))).vip), .int .i64 ((headL (((foldC (vals L)).leases).filter (findP e309.lease.vip e309.lease.first ((foldC (vals L)).now)))).first), .int .u32 ((headL (((foldC (vals L)).leases).filter (findP e309.lease.vip e309.lease.first ((foldC (vals L)).now)))).dip), .int .i64 ((headL (((foldC (vals L)).leases).filter (findP e309.lease.vip e309.lease.first ((foldC (vals L)).now)))).exp)]) rfl (by kernel_rfl)
           have hS551 := hS540.trans hF549 (by first | (simp; done) | (simp [*]; done) | (have q_ := hS540.size; simp; omega))
           refine WD.semU 25 (Instr.storeAt 43 (.pointer (some ⟨g523, 0, none⟩)) (.agg #[.int .u32 ((headL (((foldC (vals L)).leases).filter (findP e309.lease.vip e309.lease.first ((foldC (vals L)).now)))).vip), .int .i64 ((headL (((foldC (vals L)).leases).filter (findP e309.lease.vip e309.lease.first ((foldC (vals L)).now)))).first), .int .u32 ((headL (((foldC (vals L)).leases).filter (findP e309.lease.vip e309.lease.first ((foldC (vals L)).now)))).dip), .int .i64 ((headL (((foldC (vals L)).leases).filter (findP e309.lease.vip e309.lease.first ((foldC (vals L)).now)))).exp)])) (by kernel_rfl) (by kernel_rfl) hr548 hS551 ?_
           have hf557 := svcsIn.fr hf546 hF549 (hC539.apartM 0 2 rfl rfl)
           refine WDp (NPt hN) 26 16 (.bool (hasL (((foldC (vals L)).leases).filter (findP e309.lease.vip e309.lease.first ((foldC (vals L)).now))))) (by kernel_rfl) (fun _ => by kernel_rfl) hS551 ?_
           refine WD.done (by kernel_rfl) ?_
           refine QXn (hK467 _ _ ?_)
           refine WCs (fun K558 hK559 => ?_)
           refine WCg (WLr 2 [(2, .bool (hasL (((foldC (vals L)).leases).filter (findP e309.lease.vip e309.lease.first ((foldC (vals L)).now))))), (226, .bool (hasL (((foldC (vals L)).leases).filter (findP e309.lease.vip e309.lease.first ((foldC (vals L)).now)))))] (fun _ => by kernel_rfl) (WLd rfl (QXn (hK559 _ _ ?_))))
           refine WC.ret ?_
           refine (hret _ _ _ rfl ?_).1
           exact ⟨congrArg (fun b_ => Ending.returned (Value.bool b_)) (show ((hasL (((foldC (vals L)).leases).filter (findP e309.lease.vip e309.lease.first ((foldC (vals L)).now))))) = true from by exact (last_lease hlast_ (by simpa using t352b) (by simpa using t406b) (by simpa using t422b) (by simpa using t314b)).1), hC550.fr⟩

end Go.Proofs.YtfligklljkcbfaaDoor
