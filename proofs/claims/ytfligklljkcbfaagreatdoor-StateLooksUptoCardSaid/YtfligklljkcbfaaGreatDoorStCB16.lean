/- Contracts of functions of the program, each proved by a walk through its code; conditions stand in the statements. -/
import Derived.Test.YtfligklljkcbfaaGreatDoorStW16
import Derived.Test.YtfligklljkcbfaaGreatDoorStBH16
namespace Go.Proofs.YtfligklljkcbfaaGreatDoor
set_option linter.unusedSimpArgs false
set_option linter.unusedVariables false
set_option linter.unusedSectionVars false
open Go Go.RowKit Go.Tw
set_option linter.unusedVariables false
set_option maxRecDepth 20000
/-- where the ends of a service that is found lie -/
def fromS (xs : List Svc) (A : Option Addr) (es : List EndV) : Prop := (A = none ∧ es = []) ∨ ∃ s ∈ xs, s.a = A ∧ s.v.ends = es
theorem fromS.rd {w : World} {xs : List Svc} {A : Option Addr} {es : List EndV} (h : fromS xs A es) (hat : ∀ s ∈ xs, svcAt w s) : Rd w 3 cellsE A es ∧ es.length ≤ 1099511627776 := by
  rcases h with ⟨rfl, rfl⟩ | ⟨s, hs, rfl, rfl⟩
  · exact ⟨Rd.nil _ _ _ _, by simp⟩
  · exact ⟨(hat s hs).rd, (hat s hs).lim⟩
def zeroE : EndV := ⟨0, 0, 0⟩
def alwF (es : List EndV) (d : Int) : Option EndV := es.find? fun e => decide (e.dip = d)
def alwE (es : List EndV) (d : Int) : EndV := (alwF es d).getD zeroE
def alwB (es : List EndV) (d : Int) : Bool := (alwF es d).isSome
theorem alw_hit {es : List EndV} {d : Int} {i : Nat} {e : EndV} (he : es[i]? = some e) (hd : e.dip = d) (hno : ∀ y ∈ es.take i, y.dip ≠ d) : alwE es d = e ∧ alwB es d = true := by
  have : alwF es d = some e := by
    unfold alwF
    rw [List.find?_eq_some_iff_append]
    obtain ⟨hi, rfl⟩ := List.getElem?_eq_some_iff.1 he
    exact ⟨decide_eq_true hd, es.take i, es.drop (i + 1), by rw [List.getElem_cons_drop, List.take_append_drop], fun a ha => by simpa using hno a ha⟩
  unfold alwE alwB; rw [this]; exact ⟨rfl, rfl⟩
theorem alw_none {es : List EndV} {d : Int} {i : Nat} (hi : es.length ≤ i) (hno : ∀ y ∈ es.take i, y.dip ≠ d) : alwE es d = zeroE ∧ alwB es d = false := by
  have : alwF es d = none := by
    unfold alwF
    rw [List.find?_eq_none]
    intro x hx
    rw [List.take_of_length_le hi] at hno
    simpa using hno x hx
  unfold alwE alwB; rw [this]; exact ⟨rfl, rfl⟩
theorem take_noE {es : List EndV} {d : Int} {i : Nat} {e : EndV} (he : es[i]? = some e) (hd : e.dip ≠ d) (hno : ∀ y ∈ es.take i, y.dip ≠ d) : ∀ y ∈ es.take (i + 1), y.dip ≠ d := by
  obtain ⟨hi, rfl⟩ := List.getElem?_eq_some_iff.1 he
  rw [List.take_succ_eq_append_getElem hi]
  intro y hy
  rcases List.mem_append.1 hy with h | h
  · exact hno y h
  · rw [List.mem_singleton] at h; subst h; exact hd
def svT (xs : List Svc) : Nat := (xs.map fun m : Svc => 1 + m.v.ends.length).sum
theorem svT_step {xs : List Svc} {i : Nat} {s : Svc} (h : xs[i]? = some s) : svT (xs.take (i + 1)) = svT (xs.take i) + (1 + s.v.ends.length) := by
  obtain ⟨hi, rfl⟩ := List.getElem?_eq_some_iff.1 h
  unfold svT; rw [List.take_succ_eq_append_getElem hi, List.map_append, List.sum_append]; simp only [List.map_cons, List.map_nil, List.sum_cons, List.sum_nil, Nat.add_zero]
theorem svT_take (xs : List Svc) (i : Nat) : svT (xs.take i) ≤ svT xs := by
  conv => rhs; rw [← List.take_append_drop i xs]
  unfold svT; rw [List.map_append, List.sum_append]; exact Nat.le_add_right _ _
/-- the vips of lists' beginnings -/
def vL (xs : List Svc) (ns : List SnatV) (ls : List Lease) : List Int := xs.map (·.v.vip) ++ (ns.map (·.vip) ++ ls.map (·.vip))
theorem vL_1 {xs : List Svc} {i : Nat} {s : Svc} (h : xs[i]? = some s) : vL (xs.take (i + 1)) [] [] = vL (xs.take i) [] [] ++ [s.v.vip] := by
  obtain ⟨hi, rfl⟩ := List.getElem?_eq_some_iff.1 h
  unfold vL; rw [List.take_succ_eq_append_getElem hi]; simp only [List.map_append, List.map_cons, List.map_nil, List.append_nil, List.append_assoc]
theorem vL_2 {xs : List Svc} {ns : List SnatV} {i : Nat} {s : SnatV} (h : ns[i]? = some s) : vL xs (ns.take (i + 1)) [] = vL xs (ns.take i) [] ++ [s.vip] := by
  obtain ⟨hi, rfl⟩ := List.getElem?_eq_some_iff.1 h
  unfold vL; rw [List.take_succ_eq_append_getElem hi]; simp only [List.map_append, List.map_cons, List.map_nil, List.append_nil, List.append_assoc]
theorem vL_3 {xs : List Svc} {ns : List SnatV} {ls : List Lease} {i : Nat} {s : Lease} (h : ls[i]? = some s) : vL xs ns (ls.take (i + 1)) = vL xs ns (ls.take i) ++ [s.vip] := by
  obtain ⟨hi, rfl⟩ := List.getElem?_eq_some_iff.1 h
  unfold vL; rw [List.take_succ_eq_append_getElem hi]; simp only [List.map_append, List.map_cons, List.map_nil, List.append_nil, List.append_assoc]
theorem vL_len (xs : List Svc) (ns : List SnatV) (ls : List Lease) : (vL xs ns ls).length = xs.length + (ns.length + ls.length) := by simp [vL]
theorem vL_eq {xs ys : List Svc} {ns : List SnatV} {ls : List Lease} (h : xs.map (·.v) = ys.map (·.v)) : vL xs ns ls = vL ys ns ls := by
  have e : ∀ zs : List Svc, zs.map (·.v.vip) = (zs.map (·.v)).map (·.vip) := fun zs => by rw [List.map_map]; rfl
  unfold vL; rw [e, e, h]
def zeroS : SvcV := ⟨0, 0, 0, []⟩
def findS (vs : List SvcV) (k : K3) : Option SvcV := vs.find? (fun s => decide (kV s = k))
def getS (vs : List SvcV) (k : K3) : SvcV := (findS vs k).getD zeroS
def hasS (vs : List SvcV) (k : K3) : Bool := (findS vs k).isSome
theorem findS_hit {xs : List Svc} {k : K3} {i : Nat} {s : Svc} (hx : xs[i]? = some s) (hd : kV s.v = k) (hno : ∀ y ∈ xs.take i, kV y.v ≠ k) : findS (xs.map (·.v)) k = some s.v := by
  unfold findS
  rw [List.find?_eq_some_iff_append]
  obtain ⟨hi, rfl⟩ := List.getElem?_eq_some_iff.1 hx
  refine ⟨decide_eq_true hd, (xs.take i).map (·.v), (xs.drop (i + 1)).map (·.v), ?_, fun a ha => ?_⟩
  · rw [← List.map_cons, ← List.map_append, List.getElem_cons_drop, List.take_append_drop]
  · obtain ⟨y, hy, rfl⟩ := List.mem_map.1 ha
    simpa using hno y hy
theorem findS_none {xs : List Svc} {k : K3} (hno : ∀ y ∈ xs, kV y.v ≠ k) : findS (xs.map (·.v)) k = none := by
  unfold findS
  rw [List.find?_eq_none]
  intro x hx
  obtain ⟨y, hy, rfl⟩ := List.mem_map.1 hx
  simpa using hno y hy
theorem takeS_no {xs : List Svc} {k : K3} {i : Nat} {s : Svc} (hx : xs[i]? = some s) (hd : kV s.v ≠ k) (hno : ∀ y ∈ xs.take i, kV y.v ≠ k) : ∀ y ∈ xs.take (i + 1), kV y.v ≠ k := by
  obtain ⟨hi, rfl⟩ := List.getElem?_eq_some_iff.1 hx
  rw [List.take_succ_eq_append_getElem hi]
  intro y hy
  rcases List.mem_append.1 hy with h | h
  · exact hno y h
  · rw [List.mem_singleton] at h; subst h; exact hd
theorem kV_eq {s : SvcV} {a b c : Int} (h1 : s.vip = a) (h2 : s.proto = b) (h3 : s.port = c) : kV s = (a, b, c) := by unfold kV; rw [h1, h2, h3]
theorem kV_ne {s : SvcV} {a b c : Int} (h : s.vip ≠ a ∨ s.proto ≠ b ∨ s.port ≠ c) : kV s ≠ (a, b, c) := fun e => by
  have h1 := congrArg Prod.fst e
  have h2 := congrArg (fun q => q.2.1) e
  have h3 := congrArg (fun q => q.2.2) e
  simp only [kV] at h1 h2 h3
  rcases h with h | h | h
  · exact h h1
  · exact h h2
  · exact h h3
def sickB (ks : List Int) (d : Int) : Bool := ks.any (fun x => decide (x = d))
def wellL (ks : List Int) (es : List EndV) : List EndV := es.filter (fun e => !sickB ks e.dip)
theorem sick_no {ks : List Int} {d : Int} {i : Nat} {x : Int} (hx : ks[i]? = some x) (hd : d ≠ x) (h : sickB (ks.take i) d = false) : sickB (ks.take (i + 1)) d = false := by
  obtain ⟨hi, rfl⟩ := List.getElem?_eq_some_iff.1 hx
  unfold sickB at *
  rw [List.take_succ_eq_append_getElem hi, List.any_append, h]
  simp only [List.any_cons, List.any_nil, Bool.or_false, Bool.false_or]
  exact decide_eq_false (fun e => hd e.symm)
theorem sick_yes {ks : List Int} {d : Int} {i : Nat} {x : Int} (hx : ks[i]? = some x) (hd : d = x) : sickB ks d = true := List.any_eq_true.2 ⟨x, List.mem_of_getElem? hx, decide_eq_true hd.symm⟩
/-! the laws of the last command -/
/-- the last command of a log, and what it came to -/
structure LastC (D : CfgV) (C : CfgV) (r : ResV) (c : CmdV) (n : Nat) : Prop where
  good : goodC c = true
  wf : wfCfg D n
  hC : C = if c.kind = 1 then svcC D (svcOf c) else if c.kind = 2 then snatC D ⟨c.dip, c.vip⟩ c.up else if c.kind = 3 then sickC D c.dip c.up else leaseC D c.dip
  hr : r = if c.kind = 1 then svcR D (svcOf c) else if c.kind = 2 then snatR D ⟨c.dip, c.vip⟩ c.up else if c.kind = 3 then okR else leaseR D c.dip
theorem idxA_ct (A : Option Addr) (c : Nat) (ks : List Int) (d : Int) (w : World) (hr : Rd w 1 (Go.Tw.encI .u32) A ks) (hl : ks.length ≤ 1099511627776) : Calls Tryz.prog 72 #[.slice A ks.length c, U4 d] w fun e w' => ∃ r : Int, e = .returned (I6 r) ∧ Fr w w' [] ∧ decide (0 ≤ r) = sickB ks d := by
 refine enterD (n := 19) Tryz.func72 rfl rfl (Nat.le_of_ble_eq_true rfl) ?_
 intro Q0 hN hret hret'
 have hC := Cx.start w
 refine WCs (fun K1 hK2 => WCg (WLq 1 [(4, I6 0)] (WLd rfl (QXn (hK2 _ _ (WCs (fun K3 hK4 => WCs (fun K5 hK6 => WCg (WLz 3 [(8, I6 0), (7, I6 (ks.length : Int))] (WLd rfl (QXn (hK6 _ _ ?_))))))))))))
 refine WC.block (WC.loop (fun m_ E_ w_ => ∃ (i : Nat), m_ = ks.length - i ∧ E_ = [(0, .slice A ks.length c), (1, U4 d), (7, I6 (ks.length : Int)), (8, I6 (i : Int))] ∧ Cx w [] w_ [] [] ∧ (i ≤ ks.length ∧ sickB (ks.take i) d = false)) ⟨_, _, ⟨0, rfl, rfl, hC, Nat.zero_le _, rfl⟩, sub_of ⟨rfl, rfl, rfl, rfl, trivial⟩⟩ (fun m10 E_ ar K7 hK8 hI9 => ?_))
 obtain ⟨i, rfl, rfl, ab, hi, hno⟩ := hI9
 refine WCs (fun au ae => WCg (WLq 1 [(9, .bool (decide ((i : Int) < (ks.length : Int))))] (WLd rfl (QXn (ae _ _ (WCs (fun av af => WCa 9 (decide ((i : Int) < (ks.length : Int))) rfl (fun ac => ?_) (fun ac => ?_))))))))
 ·
  have ap : (i : Int) < (ks.length : Int) := by have q_ := of_decide_eq_true ac; omega
  refine WCt rfl (WC.skip (QXn (af _ _ (WCs (fun aw ai => WC.block (WCs (fun ax aj => ?_)))))))
  refine WCg (WLz 2 [(5, I6 (i : Int))] (WLd rfl (QXn (aj _ _ (WCs (fun ay ak => WCg (WLq 3 [(13, I6 (i : Int)), (12, .slice A ks.length c), (11, U4 d)] ?_)))))))
  obtain ⟨ag, ad⟩ := get_some (xs := ks) (i := i) (by omega)
  obtain ⟨b26, o28, al, am⟩ := hr.at_ _ _ ad
  refine WLi A ks.length c 14 .i64 (i : Int) b26 o28 i 1 (by kernel_rfl) al (by omega) (by omega) (o28 + i) (by first | (simp; done) | omega) (WLo 40 (P0 b26 (o28 + i)) (U4 ag) 15 (run_load1 rfl (by simpa [Nat.add_assoc] using ab.fr.cell (am 0 _ rfl) (by simp))) (WLq 1 [(16, .bool (d == ag))] (WLd rfl (QXn (ak _ _ (WCa 16 (d == ag) rfl (fun aa => ?_) (fun aa => ?_)))))))
  ·
   have aq : d = ag := by simpa using aa
   refine WCt rfl (WCs (fun az an => WCg (WLz 2 [(4, I6 (i : Int))] (WLd rfl (QXn (an _ _ (WC.ret (QXk ?_))))))))
   refine QXr (QXr (QXk (QXr ?_)))
   refine (hret _ _ _ rfl ?_).1
   exact ⟨_, rfl, ab.fr, by rw [sick_yes ad (by simpa using aa)]; exact decide_eq_true (by omega)⟩
  ·
   have aq : ¬ (d = ag) := by simpa using aa
   refine WCf rfl (WC.skip (QXb (QXn (ai _ _ (WCg (WLq 1 [(18, I6 (IntKind.i64.wrap ((i : Int) + 1)))] (WLt (show (I6 (IntKind.i64.wrap ((i : Int) + 1)) : Value) = I6 ((i : Int) + 1) from by rw [wrap_in_i64 ((i : Int) + 1) (by omega) (by omega)]) (WLq 1 [(8, I6 ((i : Int) + 1))] ?_))))))))
   refine WLd rfl (QXn ?_)
   have ao := ab.pick [] [] rfl rfl
   refine fun a_ ha_ => hK8 _ _ _ ?_ ⟨i + 1, rfl, rfl, ao, by omega, sick_no ad (by simpa using aa) hno⟩ a_ (ha_.weaken (sub_of ⟨rfl, rfl, rfl, rfl, trivial⟩))
   omega
 ·
  have ap : (ks.length : Int) ≤ (i : Int) := by have q_ := of_decide_eq_false ac; omega
  refine WCf rfl (WC.exit (QXe (QXe (QX.block_hit (QXn (hK4 _ _ ?_))))))
  refine WCs (fun aA ah => WCg (WLq 1 [(4, I6 (-1))] (WLd rfl (QXn (ah _ _ (WC.ret ?_))))))
  refine (hret _ _ _ rfl ?_).1
  clear hN hret hret' ah af ae hK6 hK4 hK2
  rw [List.take_of_length_le (by omega)] at hno
  exact ⟨-1, rfl, ab.fr, by rw [hno]; rfl⟩

theorem contA_ct (A : Option Addr) (c : Nat) (ks : List Int) (d : Int) (w : World) (hr : Rd w 1 (Go.Tw.encI .u32) A ks) (hl : ks.length ≤ 1099511627776) : Calls Tryz.prog 50 #[.slice A ks.length c, U4 d] w fun e w' => e = .returned (.bool (sickB ks d)) ∧ Fr w w' [] := by
 refine enterD (n := 9) Tryz.func50 rfl rfl (Nat.le_of_ble_eq_true rfl) ?_
 intro Q0 hN hret hret'
 have hC := Cx.start w
 refine WCs (fun K1 hK2 => WCg (WLq 1 [(4, .bool false)] (WLd rfl (QXn (hK2 _ _ (WCs (fun K3 hK4 => WCg (WLq 2 [(6, U4 d), (5, .slice A ks.length c)] (WLk (idxA_ct A c ks d w (Rd.fr hr hC.fr) hl) ?_)))))))))
 rintro _ w6 ⟨r_, rfl, hF5, hr1_⟩
 refine ⟨_, rfl, ?_⟩
 have hC7 := hC.call hF5
 refine WLz 2 [(4, .bool (decide (r_ ≥ 0)))] (WLd rfl (QXn (hK4 _ _ (WC.ret ?_))))
 refine (hret _ _ _ rfl ?_).1
 exact ⟨congrArg (fun b_ => Ending.returned (Value.bool b_)) (by rw [← hr1_]), hC7.fr⟩

theorem contA_n (A : Option Addr) (n c : Nat) (ks : List Int) (d : Int) (w : World) (hr : Rd w 1 (Go.Tw.encI .u32) A ks) (hn : ks.length = n) (hl : n ≤ 1099511627776) : Calls Tryz.prog 50 #[.slice A n c, .int .u32 d] w fun e w' => e = .returned (.bool (sickB ks d)) ∧ Fr w w' [] := by subst hn; exact contA_ct A c ks d w hr hl
set_option maxHeartbeats 1000000 in
theorem Service_ct (ce cn : Int) (AN AK AL : Option Addr) (nN cN nK cK nL cL : Nat) (AS : Option Addr) (cS : Nat) (xs : List Svc) (vip proto port : Int) (w : World) (hr : Rd w 4 cellsS AS xs) (hat : ∀ s ∈ xs, svcAt w s) (hl : xs.length ≤ 1099511627776) : Calls Tryz.prog 17 #[.agg #[I6 ce, I6 cn, .slice AS xs.length cS, .slice AN nN cN, .slice AK nK cK, .slice AL nL cL], U4 vip, I6 proto, I6 port] w fun e w' => ∃ (A2 : Option Addr) (c2 : Nat), e = .returned (.tuple #[.agg #[U4 ((getS (xs.map (·.v)) (vip, proto, port)).vip), I6 ((getS (xs.map (·.v)) (vip, proto, port)).proto), I6 ((getS (xs.map (·.v)) (vip, proto, port)).port), .slice A2 ((getS (xs.map (·.v)) (vip, proto, port)).ends.length) c2], .bool (hasS (xs.map (·.v)) (vip, proto, port))]) ∧ Fr w w' [] ∧ w'.ownsRow w.heap.size 47 3 (.slice A2 (getS (xs.map (·.v)) (vip, proto, port)).ends.length c2) (getS (xs.map (·.v)) (vip, proto, port)).ends.length ((getS (xs.map (·.v)) (vip, proto, port)).ends.flatMap cellsE) := by
 refine enterD (n := 42) Tryz.func17 rfl rfl (Nat.le_of_ble_eq_true rfl) ?_
 intro Q0 hN hret hret'
 have hC := Cx.start w
 refine WCs (fun K1 hK2 => WCg (WLb hC (.cells #[I6 ce, I6 cn, .slice AS xs.length cS, .slice AN nN cN, .slice AK nK cK, .slice AL nL cL] 31) 4 (fun g3 w4 hb7 hF5 hC6 => WLb hC6 (.cells #[U4 0, I6 0, I6 0, .slice none 0 0] 43) 8 (fun g8 w9 aR aS ax => WLq 1 [(9, .bool false)] (WLd rfl (QXn (hK2 _ _ (WCs (fun a2 aj => ?_)))))))))
 refine WCs (fun a3 ak => WCg (WLq 1 [(12, P0 g3 2)] (WLo 26 (P0 g3 2) (.slice AS xs.length cS) 13 (run_ld (ax.get 0 rfl) rfl) (WLq 2 [(15, I6 0), (14, I6 (xs.length : Int))] (WLd rfl (QXn (ak _ _ (WC.block (WC.loop (fun m_ E_ w_ => ∃ (i : Nat), m_ = xs.length - i ∧ E_ = [(0, .agg #[I6 ce, I6 cn, .slice AS xs.length cS, .slice AN nN cN, .slice AK nK cK, .slice AL nL cL]), (1, U4 vip), (2, I6 proto), (3, I6 port), (4, P0 g3 0), (8, P0 g8 0), (13, .slice AS xs.length cS), (14, I6 (xs.length : Int)), (15, I6 (i : Int))] ∧ Cx w [] w_ [(g3, .cells #[I6 ce, I6 cn, .slice AS xs.length cS, .slice AN nN cN, .slice AK nK cK, .slice AL nL cL] 31), (g8, .cells #[U4 0, I6 0, I6 0, .slice none 0 0] 43)] [] ∧ (i ≤ xs.length ∧ ∀ y ∈ xs.take i, kV y.v ≠ (vip, proto, port))) ⟨_, _, ⟨0, rfl, rfl, ax, Nat.zero_le _, (fun _ h_ => by simp at h_)⟩, sub_of ⟨rfl, rfl, rfl, rfl, rfl, rfl, rfl, rfl, rfl, trivial⟩⟩ (fun m20 E_ a4 a5 al aE => ?_))))))))))
 obtain ⟨i, rfl, rfl, am, hi, hno⟩ := aE
 refine WCs (fun a6 an => WCg (WLq 1 [(16, .bool (decide ((i : Int) < (xs.length : Int))))] (WLd rfl (QXn (an _ _ (WCs (fun a7 ao => WCa 16 (decide ((i : Int) < (xs.length : Int))) rfl (fun ap => ?_) (fun ap => ?_))))))))
 ·
  have aT : (i : Int) < (xs.length : Int) := by have q_ := of_decide_eq_true ap; omega
  refine WCt rfl (WC.skip (QXn (ao _ _ (WCs (fun a8 ah => WC.block (WCs (fun a9 ay => ?_)))))))
  refine WCg ?_
  obtain ⟨aa, ac⟩ := get_some (xs := xs) (i := i) (by omega)
  obtain ⟨b34, o36, aF, aG⟩ := hr.at_ _ _ ac
  refine WLi AS xs.length cS 17 .i64 (i : Int) b34 o36 i 4 (by kernel_rfl) aF (by omega) (by omega) (o36 + i * 4) (by first | (simp; done) | omega) (WLo 43 (P0 b34 (o36 + i * 4)) (.agg #[U4 aa.v.vip, I6 aa.v.proto, I6 aa.v.port, .slice aa.a aa.v.ends.length aa.c]) 18 (run_rdN (l := [U4 aa.v.vip, I6 aa.v.proto, I6 aa.v.port, .slice aa.a aa.v.ends.length aa.c]) rfl rfl (fun j u hu => by have hq_ := am.fr.cell (aG j u hu) (by simp); simpa [Nat.add_assoc] using hq_)) (WLb am (.cells #[U4 0, I6 0, I6 0, .slice none 0 0] 43) 11 (fun ag ba aU aV aH => WLv (c' := #[U4 aa.v.vip, I6 aa.v.proto, I6 aa.v.port, .slice aa.a aa.v.ends.length aa.c]) aH 2 43 ag 0 (.agg #[U4 aa.v.vip, I6 aa.v.proto, I6 aa.v.port, .slice aa.a aa.v.ends.length aa.c]) (fun aW aX ab => WLd rfl (QXn (ay _ _ (WCs (fun bb ai => ?_))))))))
  refine WCg (WLq 1 [(19, P0 ag 0)] (WLo 40 (P0 ag 0) (U4 aa.v.vip) 20 (run_ld (ab.get 2 rfl) rfl) (WLz 3 [(23, .bool (aa.v.vip == vip))] (WLa 23 (aa.v.vip == vip) rfl (fun ad => ?_) (fun ad => ?_)))))
  ·
   have aY : aa.v.vip = vip := by simpa using ad
   refine WLq 1 [(24, P0 ag 1)] (WLo 3 (P0 ag 1) (I6 aa.v.proto) 25 (run_ld (ab.get 2 rfl) rfl) (WLz 4 [(29, .bool (aa.v.proto == proto))] (WLa 29 (aa.v.proto == proto) rfl (fun ae => ?_) (fun ae => ?_))))
   ·
    have aZ : aa.v.proto = proto := by simpa using ae
    refine WLq 1 [(30, P0 ag 2)] (WLo 3 (P0 ag 2) (I6 aa.v.port) 31 (run_ld (ab.get 2 rfl) rfl) (WLz 3 [(34, .bool (aa.v.port == port))] (WLd rfl (QXn (ai _ _ (WCa 34 (aa.v.port == port) rfl (fun af => ?_) (fun af => ?_)))))))
    ·
     have a0 : aa.v.port = port := by simpa using af
     refine WCt rfl (WCs (fun bc az => WCg (WLq 1 [(35, P0 ag 3)] (WLo 41 (P0 ag 3) (.slice aa.a aa.v.ends.length aa.c) 36 (run_ld (ab.get 2 rfl) rfl) (WLk (CloneE_n aa.a aa.v.ends.length aa.c aa.v.ends aW (Rd.fr (hat _ (List.mem_of_getElem? ac)).rd ab.fr) rfl (hat _ (List.mem_of_getElem? ac)).lim) ?_)))))
     rintro _ bd ⟨av, aw, rfl, aI, aq⟩
     have aA := ab.callN aI (own_ge aq) (own_lt aq)
     have aJ := own_base (b' := 0) aq (fun _ _ => Nat.zero_le _)
     refine ⟨_, rfl, ?_⟩
     refine WLq 1 [(38, P0 ag 3)] (WLv (c' := #[U4 aa.v.vip, I6 aa.v.proto, I6 aa.v.port, .slice av aa.v.ends.length aw]) aA 2 41 ag 3 (.slice av aa.v.ends.length aw) (fun be aK ar => ?_))
     have aL := own_fr aJ aK (aA.apartM 0 2 rfl rfl)
     refine WLd rfl (QXn (az _ _ (WCs (fun bf aB => WCg (WLo 43 (P0 ag 0) (.agg #[U4 aa.v.vip, I6 aa.v.proto, I6 aa.v.port, .slice av aa.v.ends.length aw]) 39 (run_ld (ar.get 2 rfl) rfl) (WLv (c' := #[U4 aa.v.vip, I6 aa.v.proto, I6 aa.v.port, .slice av aa.v.ends.length aw]) ar 1 43 g8 0 (.agg #[U4 aa.v.vip, I6 aa.v.proto, I6 aa.v.port, .slice av aa.v.ends.length aw]) (fun bg aM au => ?_)))))))
     have aN := own_fr aL aM (ar.apartM 0 1 rfl rfl)
     refine WLq 1 [(9, .bool true)] (WLd rfl (QXn (aB _ _ (WC.ret (QXk (QXr (QXr (QXk ?_))))))))
     refine QXr ?_
     refine (hret' _ _ (.tuple #[.agg #[U4 aa.v.vip, I6 aa.v.proto, I6 aa.v.port, .slice av aa.v.ends.length aw], .bool true]) (fun a ha => ?_) ?_).1
     ·
      exact res_run ha ((ResR.cell rfl (run_ld (au.get 1 rfl) rfl) (ResR.tmp rfl ResR.nil))) rfl
     clear hN hret hret' aB az ai ay ah ao an ak aj hK2
     have hf_ := findS_hit ac (kV_eq (by simpa using ad) (by simpa using ae) (by simpa using af)) hno
     have hg_ : (getS (xs.map (·.v)) (vip, proto, port)) = aa.v := by unfold getS; rw [hf_]; rfl
     have hb_ : hasS (xs.map (·.v)) (vip, proto, port) = true := by unfold hasS; rw [hf_]; rfl
     rw [hg_, hb_]
     exact ⟨_, _, rfl, au.fr, own_base aN (newF_of au 0 rfl (fun _ h_ => nomatch h_) (fun _ h_ => nomatch h_))⟩
    ·
     have a0 : ¬ (aa.v.port = port) := by simpa using af
     refine WCf rfl (WC.skip (QXb (QXn (ah _ _ (WCg (WLq 1 [(40, I6 (IntKind.i64.wrap ((i : Int) + 1)))] (WLt (show (I6 (IntKind.i64.wrap ((i : Int) + 1)) : Value) = I6 ((i : Int) + 1) from by rw [wrap_in_i64 ((i : Int) + 1) (by omega) (by omega)]) (WLq 1 [(15, I6 ((i : Int) + 1))] ?_))))))))
     refine WLd rfl (QXn ?_)
     have aO := ab.pick [0, 1] [] rfl rfl
     refine fun a_ ha_ => al _ _ _ ?_ ⟨i + 1, rfl, rfl, aO, by omega, takeS_no ac (kV_ne (by first | (exact .inl (by simpa using af)) | (exact .inr (.inl (by simpa using af))) | (exact .inr (.inr (by simpa using af))))) hno⟩ a_ (ha_.weaken (sub_of ⟨rfl, rfl, rfl, rfl, rfl, rfl, rfl, rfl, rfl, trivial⟩))
     omega
   ·
    have aZ : ¬ (aa.v.proto = proto) := by simpa using ae
    refine WLz 5 [(34, .bool false)] (WLd rfl (QXn (ai _ _ (WCf rfl (WC.skip (QXb (QXn (ah _ _ (WCg (WLq 1 [(40, I6 (IntKind.i64.wrap ((i : Int) + 1)))] (WLt (show (I6 (IntKind.i64.wrap ((i : Int) + 1)) : Value) = I6 ((i : Int) + 1) from by rw [wrap_in_i64 ((i : Int) + 1) (by omega) (by omega)]) ?_)))))))))))
    refine WLq 1 [(15, I6 ((i : Int) + 1))] (WLd rfl (QXn ?_))
    have aP := ab.pick [0, 1] [] rfl rfl
    refine fun a_ ha_ => al _ _ _ ?_ ⟨i + 1, rfl, rfl, aP, by omega, takeS_no ac (kV_ne (by first | (exact .inl (by simpa using ae)) | (exact .inr (.inl (by simpa using ae))) | (exact .inr (.inr (by simpa using ae))))) hno⟩ a_ (ha_.weaken (sub_of ⟨rfl, rfl, rfl, rfl, rfl, rfl, rfl, rfl, rfl, trivial⟩))
    omega
  ·
   have aY : ¬ (aa.v.vip = vip) := by simpa using ad
   refine WLz 11 [(34, .bool false)] (WLd rfl (QXn (ai _ _ (WCf rfl (WC.skip (QXb (QXn (ah _ _ (WCg (WLq 1 [(40, I6 (IntKind.i64.wrap ((i : Int) + 1)))] (WLt (show (I6 (IntKind.i64.wrap ((i : Int) + 1)) : Value) = I6 ((i : Int) + 1) from by rw [wrap_in_i64 ((i : Int) + 1) (by omega) (by omega)]) ?_)))))))))))
   refine WLq 1 [(15, I6 ((i : Int) + 1))] (WLd rfl (QXn ?_))
   have aQ := ab.pick [0, 1] [] rfl rfl
   refine fun a_ ha_ => al _ _ _ ?_ ⟨i + 1, rfl, rfl, aQ, by omega, takeS_no ac (kV_ne (by first | (exact .inl (by simpa using ad)) | (exact .inr (.inl (by simpa using ad))) | (exact .inr (.inr (by simpa using ad))))) hno⟩ a_ (ha_.weaken (sub_of ⟨rfl, rfl, rfl, rfl, rfl, rfl, rfl, rfl, rfl, trivial⟩))
   omega
 ·
  have aT : (xs.length : Int) ≤ (i : Int) := by have q_ := of_decide_eq_false ap; omega
  refine WCf rfl (WC.exit (QXe (QXe (QX.block_hit (QXn (aj _ _ ?_))))))
  refine WCs (fun bh aC => WCg (WLq 1 [(41, .agg #[U4 0, I6 0, I6 0, .slice none 0 0])] (WLv (c' := #[U4 0, I6 0, I6 0, .slice none 0 0]) am 1 43 g8 0 (.agg #[U4 0, I6 0, I6 0, .slice none 0 0]) (fun bi a1 aD => WLq 1 [(9, .bool false)] (WLd rfl (QXn (aC _ _ (WC.ret ?_))))))))
  refine (hret' _ _ (.tuple #[.agg #[U4 0, I6 0, I6 0, .slice none 0 0], .bool false]) (fun a ha => ?_) ?_).1
  ·
   exact res_run ha ((ResR.cell rfl (run_ld (aD.get 1 rfl) rfl) (ResR.tmp rfl ResR.nil))) rfl
  clear hN hret hret' aC ao an ak aj hK2
  rw [List.take_of_length_le (by omega)] at hno
  have hf_ := findS_none hno
  have hg_ : (getS (xs.map (·.v)) (vip, proto, port)) = zeroS := by unfold getS; rw [hf_]; rfl
  have hb_ : hasS (xs.map (·.v)) (vip, proto, port) = false := by unfold hasS; rw [hf_]; rfl
  rw [hg_, hb_]
  exact ⟨none, 0, rfl, aD.fr, own_nil _ _ _ _⟩

theorem Service_n (ce cn : Int) (AN AK AL : Option Addr) (nN cN nK cK nL cL : Nat) (AS : Option Addr) (cS : Nat) (xs : List Svc) (vip proto port : Int) (n : Nat) (w : World) (hr : Rd w 4 cellsS AS xs) (hat : ∀ s ∈ xs, svcAt w s) (hl : xs.length ≤ 1099511627776) (hn : xs.length = n) : Calls Tryz.prog 17 #[.agg #[.int .i64 ce, .int .i64 cn, .slice AS n cS, .slice AN nN cN, .slice AK nK cK, .slice AL nL cL], .int .u32 vip, .int .i64 proto, .int .i64 port] w fun e w' => ∃ (A2 : Option Addr) (c2 : Nat), e = .returned (.tuple #[.agg #[.int .u32 ((getS (xs.map (·.v)) (vip, proto, port)).vip), .int .i64 ((getS (xs.map (·.v)) (vip, proto, port)).proto), .int .i64 ((getS (xs.map (·.v)) (vip, proto, port)).port), .slice A2 ((getS (xs.map (·.v)) (vip, proto, port)).ends.length) c2], .bool (hasS (xs.map (·.v)) (vip, proto, port))]) ∧ Fr w w' [] ∧ w'.ownsRow w.heap.size 47 3 (.slice A2 (getS (xs.map (·.v)) (vip, proto, port)).ends.length c2) (getS (xs.map (·.v)) (vip, proto, port)).ends.length ((getS (xs.map (·.v)) (vip, proto, port)).ends.flatMap cellsE) := by subst hn; exact Service_ct ce cn AN AK AL nN cN nK cK nL cL AS cS xs vip proto port w hr hat hl
set_option maxHeartbeats 1000000 in
theorem Healthy_ct (ce cn : Int) (AS AN AL : Option Addr) (nS cS nN cN nL cL : Nat) (AK : Option Addr) (cK : Nat) (ks : List Int) (sv sp sq : Int) (AE : Option Addr) (cE : Nat) (es : List EndV) (w : World) (hrk : Rd w 1 (Go.Tw.encI .u32) AK ks) (hlk : ks.length ≤ 1099511627776) (hre : Rd w 3 cellsE AE es) (hle : es.length ≤ 1099511627776) : Calls Tryz.prog 20 #[.agg #[I6 ce, I6 cn, .slice AS nS cS, .slice AN nN cN, .slice AK ks.length cK, .slice AL nL cL], .agg #[U4 sv, I6 sp, I6 sq, .slice AE es.length cE]] w fun e w' => ∃ v, e = .returned v ∧ Fr w w' [] ∧ w'.ownsRow w.heap.size 47 3 v (wellL ks es).length ((wellL ks es).flatMap cellsE) := by
 refine enterD (n := 27) Tryz.func20 rfl rfl (Nat.le_of_ble_eq_true rfl) ?_
 intro Q0 hN hret hret'
 have hC := Cx.start w
 refine WCs (fun K1 hK2 => WCg (WLb hC (.cells #[I6 ce, I6 cn, .slice AS nS cS, .slice AN nN cN, .slice AK ks.length cK, .slice AL nL cL] 31) 2 (fun g3 w4 hb7 hF5 hC6 => WLb hC6 (.cells #[U4 sv, I6 sp, I6 sq, .slice AE es.length cE] 43) 3 (fun g8 w9 aW aX ah => WLq 1 [(4, .slice none 0 0)] (WLd rfl (QXn (hK2 _ _ (WCs (fun a3 ai => ?_)))))))))
 refine WCg (WLq 1 [(5, .slice none 0 0)] (WLd rfl (QXn (ai _ _ (WCs (fun a4 aj => WCs (fun a5 ak => WCg (WLq 1 [(8, P0 g8 3)] (WLo 41 (P0 g8 3) (.slice AE es.length cE) 9 (run_ld (ah.get 1 rfl) rfl) (WLq 2 [(11, I6 0), (10, I6 (es.length : Int))] (WLd rfl (QXn (ak _ _ ?_)))))))))))))
 refine WC.block ?_
 have ay := ah.addNil
 refine WC.loop (fun m_ E_ w_ => ∃ (k : Nat) (A5 : Option Addr) (n5 c5 : Nat), m_ = es.length - k ∧ E_ = [(0, .agg #[I6 ce, I6 cn, .slice AS nS cS, .slice AN nN cN, .slice AK ks.length cK, .slice AL nL cL]), (1, .agg #[U4 sv, I6 sp, I6 sq, .slice AE es.length cE]), (2, P0 g3 0), (3, P0 g8 0), (4, .slice none 0 0), (5, .slice A5 n5 c5), (9, .slice AE es.length cE), (10, I6 (es.length : Int)), (11, I6 (k : Int))] ∧ Cx w [] w_ [(g3, .cells #[I6 ce, I6 cn, .slice AS nS cS, .slice AN nN cN, .slice AK ks.length cK, .slice AL nL cL] 31), (g8, .cells #[U4 sv, I6 sp, I6 sq, .slice AE es.length cE] 43)] [blk (.slice A5 n5 c5)] ∧ World.ownsRow w_ 0 47 3 (.slice A5 n5 c5) n5 ((wellL ks (es.take k)).flatMap cellsE) ∧ (k ≤ es.length)) ⟨_, _, ⟨0, none, 0, 0, rfl, rfl, ay, own_nil _ _ _ _, Nat.zero_le _⟩, sub_of ⟨rfl, rfl, rfl, rfl, rfl, rfl, rfl, rfl, rfl, trivial⟩⟩ (fun m23 E_ a6 a7 al az => ?_)
 obtain ⟨k, A5, n5, c5, rfl, rfl, ac, hout, hk⟩ := az
 have hon_ := own_count cellsE_len (by decide) hout
 have hob_ : (wellL ks (es.take k)).length ≤ es.length := Nat.le_trans (List.length_filter_le _ _) (by rw [List.length_take]; exact Nat.min_le_right _ _)
 refine WCs (fun a8 am => WCg (WLq 1 [(12, .bool (decide ((k : Int) < (es.length : Int))))] (WLd rfl (QXn (am _ _ (WCs (fun a9 an => WCa 12 (decide ((k : Int) < (es.length : Int))) rfl (fun ae => ?_) (fun ae => ?_))))))))
 ·
  have aY : (k : Int) < (es.length : Int) := by have q_ := of_decide_eq_true ae; omega
  refine WCt rfl (WC.skip (QXn (an _ _ (WCs (fun ba ao => WC.block (WCs (fun bb aA => ?_)))))))
  refine WCg ?_
  obtain ⟨aa, af⟩ := get_some (xs := es) (i := k) (by omega)
  obtain ⟨b37, o39, aB, aC⟩ := hre.at_ _ _ af
  refine WLi AE es.length cE 13 .i64 (k : Int) b37 o39 k 3 (by kernel_rfl) aB (by omega) (by omega) (o39 + k * 3) (by first | (simp; done) | omega) (WLo 47 (P0 b37 (o39 + k * 3)) (.agg #[U4 aa.dip, I6 aa.port, I6 aa.weight]) 14 (run_rdN (l := [U4 aa.dip, I6 aa.port, I6 aa.weight]) rfl rfl (fun j u hu => by have hq_ := ac.fr.cell (aC j u hu) (by simp); simpa [Nat.add_assoc] using hq_)) (WLb ac (.cells #[U4 0, I6 0, I6 0] 47) 7 (fun ax bc aZ aD ap => ?_)))
  have aE := own_fr hout aD (by simp)
  refine WLv (c' := #[U4 aa.dip, I6 aa.port, I6 aa.weight]) ap 2 47 ax 0 (.agg #[U4 aa.dip, I6 aa.port, I6 aa.weight]) (fun a0 aF ad => ?_)
  have aG := own_fr aE aF (ap.apartM 0 2 rfl rfl)
  refine WLd rfl (QXn (aA _ _ (WCs (fun bd aH => WCg (WLq 1 [(15, P0 g3 4)] (WLo 28 (P0 g3 4) (.slice AK ks.length cK) 16 (run_ld (ad.get 0 rfl) rfl) (WLq 1 [(17, P0 ax 0)] (WLo 40 (P0 ax 0) (U4 aa.dip) 18 (run_ld (ad.get 2 rfl) rfl) ?_))))))))
  refine WLk (contA_n AK ks.length cK ks aa.dip a0 (Rd.fr hrk ad.fr) (by first | rfl | assumption) (by omega)) ?_
  rintro _ be ⟨rfl, aq⟩
  refine ⟨_, rfl, ?_⟩
  have ag := ad.call aq
  have ar := own_fr aG aq (by simp)
  refine WLq 1 [(20, .bool (!(sickB ks aa.dip)))] (WLd rfl (QXn (aH _ _ (WCa 20 (!(sickB ks aa.dip)) rfl (fun ab => ?_) (fun ab => ?_)))))
  ·
   have aI : (sickB ks aa.dip) = false := by first | (simpa only [Bool.not_eq_true', Bool.not_eq_false'] using ab) | simpa using ab
   refine WCt rfl (WCg (WLq 1 [(21, .slice A5 n5 c5)] (WLo 47 (P0 ax 0) (.agg #[U4 aa.dip, I6 aa.port, I6 aa.weight]) 22 (run_ld (ag.get 2 rfl) rfl) (WL.newM ag (fun b => .slice (some ⟨b, 0, none⟩) 1 1) (.cells #[U4 aa.dip, I6 aa.port, I6 aa.weight] 47) 23 (fun _ => by kernel_rfl) (fun aU bf a1 aJ au => ?_)))))
   have aK := own_fr ar aJ (by simp)
   obtain ⟨bg, bh, aL, aM, a2, aN, aO, aP⟩ := app_run Tryz.prog au 0 (v := .slice A5 n5 c5) rfl 41 41 47 3 24 n5 1 1 (some ⟨aU, 0, none⟩) rfl aK [U4 aa.dip, I6 aa.port, I6 aa.weight] rfl (srcOk.blk 1 (au.get 3 rfl)) rfl (by simp only [maxLen]; omega) (by omega)
   have av := own_snoc (enc := cellsE) (ys := (wellL ks (es.take k))) aa aM
   obtain ⟨aQ, aR, rfl, aV⟩ := own_form av
   refine WLS 24 aL (WLq 1 [(5, .slice aQ (n5 + 1) aR)] (WLd rfl (QXb (QXn (ao _ _ (WCg (WLq 1 [(25, I6 (IntKind.i64.wrap ((k : Int) + 1)))] ?_)))))))
   refine WLt (show (I6 (IntKind.i64.wrap ((k : Int) + 1)) : Value) = I6 ((k : Int) + 1) from by rw [wrap_in_i64 ((k : Int) + 1) (by omega) (by omega)]) (WLq 1 [(11, I6 ((k : Int) + 1))] (WLd rfl (QXn ?_)))
   have aS := aN.pick [0, 1] [0] rfl rfl
   refine fun a_ ha_ => al _ _ _ ?_ ⟨k + 1, aQ, n5 + 1, aR, rfl, rfl, aS, by unfold wellL; rw [filt_snoc _ af, if_pos (by simpa using aI)]; exact av, by omega⟩ a_ (ha_.weaken (sub_of ⟨rfl, rfl, rfl, rfl, rfl, rfl, rfl, rfl, rfl, trivial⟩))
   omega
  ·
   have aI : (sickB ks aa.dip) = true := by first | (simpa only [Bool.not_eq_true', Bool.not_eq_false'] using ab) | simpa using ab
   refine WCf rfl (WC.skip (QXb (QXn (ao _ _ (WCg (WLq 1 [(25, I6 (IntKind.i64.wrap ((k : Int) + 1)))] (WLt (show (I6 (IntKind.i64.wrap ((k : Int) + 1)) : Value) = I6 ((k : Int) + 1) from by rw [wrap_in_i64 ((k : Int) + 1) (by omega) (by omega)]) (WLq 1 [(11, I6 ((k : Int) + 1))] ?_))))))))
   refine WLd rfl (QXn ?_)
   have aT := ag.pick [0, 1] [0] rfl rfl
   refine fun a_ ha_ => al _ _ _ ?_ ⟨k + 1, A5, n5, c5, rfl, rfl, aT, by unfold wellL; rw [filt_snoc _ af, if_neg (by simpa using aI), List.append_nil]; exact ar, by omega⟩ a_ (ha_.weaken (sub_of ⟨rfl, rfl, rfl, rfl, rfl, rfl, rfl, rfl, rfl, trivial⟩))
   omega
 ·
  have aY : (es.length : Int) ≤ (k : Int) := by have q_ := of_decide_eq_false ae; omega
  refine WCf rfl (WC.exit (QXe (QXe (QX.block_hit (QXn (aj _ _ ?_))))))
  refine WCs (fun bi aw => WCg (WLz 2 [(4, .slice A5 n5 c5)] (WLd rfl (QXn (aw _ _ (WC.ret ?_))))))
  refine (hret _ _ _ rfl ?_).1
  clear hN hret hret' aw an am ak aj ai hK2
  have hke_ : k = es.length := by omega
  have ho_ := hout
  rw [hke_, List.take_length] at ho_ hon_
  subst hon_
  exact ⟨_, rfl, ac.fr, own_base ho_ (newF_of ac 0 rfl (fun _ h_ => nomatch h_) (fun _ h_ => nomatch h_))⟩

theorem Healthy_n (ce cn : Int) (AS AN AL : Option Addr) (nS cS nN cN nL cL : Nat) (AK : Option Addr) (cK : Nat) (ks : List Int) (sv sp sq : Int) (AE : Option Addr) (cE : Nat) (es : List EndV) (n n2 : Nat) (w : World) (hrk : Rd w 1 (Go.Tw.encI .u32) AK ks) (hlk : ks.length ≤ 1099511627776) (hre : Rd w 3 cellsE AE es) (hle : es.length ≤ 1099511627776) (hn : ks.length = n) (hn2 : es.length = n2) : Calls Tryz.prog 20 #[.agg #[.int .i64 ce, .int .i64 cn, .slice AS nS cS, .slice AN nN cN, .slice AK n cK, .slice AL nL cL], .agg #[.int .u32 sv, .int .i64 sp, .int .i64 sq, .slice AE n2 cE]] w fun e w' => ∃ v, e = .returned v ∧ Fr w w' [] ∧ w'.ownsRow w.heap.size 47 3 v (wellL ks es).length ((wellL ks es).flatMap cellsE) := by subst hn hn2; exact Healthy_ct ce cn AS AN AL nS cS nN cN nL cL AK cK ks sv sp sq AE cE es w hrk hlk hre hle
theorem getS_lim {w : World} {xs : List Svc} {k : K3} (hat : ∀ s ∈ xs, svcAt w s) : (getS (xs.map (·.v)) k).ends.length ≤ 1099511627776 := by
  unfold getS
  cases h : findS (xs.map (·.v)) k with
  | none => exact Nat.zero_le _
  | some y =>
    obtain ⟨s, hs, rfl⟩ := List.mem_map.1 (List.mem_of_find?_eq_some h)
    exact (hat s hs).lim
set_option maxHeartbeats 1000000 in
theorem Allowed_ct (ce cn : Int) (AS : Option Addr) (cS : Nat) (xs : List Svc) (AN : Option Addr) (cN : Nat) (ns : List SnatV) (AK : Option Addr) (cK : Nat) (ks : List Int) (AL : Option Addr) (cL : Nat) (ls : List Lease) (fp : Int) (fs : Int) (fsp fd fdp : Int) (dip : Int) (w : World) (hqS : Rd w 4 cellsS AS xs) (hat : ∀ s ∈ xs, svcAt w s) (hqN : Rd w 2 cellsN AN ns) (hqK : Rd w 1 (Go.Tw.encI .u32) AK ks) (hqL : Rd w 4 encL AL ls) (hlS : xs.length ≤ 1099511627776) (hlN : ns.length ≤ 1099511627776) (hlK : ks.length ≤ 1099511627776) (hlL : ls.length ≤ 1099511627776) : Calls Tryz.prog 22 #[.agg #[I6 ce, I6 cn, .slice AS xs.length cS, .slice AN ns.length cN, .slice AK ks.length cK, .slice AL ls.length cL], .agg #[I6 fp, U4 fs, I6 fsp, U4 fd, I6 fdp], U4 dip] w fun e w' => e = .returned (.tuple #[.agg #[U4 ((alwE (wellL ks (getS (xs.map Svc.v) (fd, fp, fdp)).ends) dip).dip), I6 ((alwE (wellL ks (getS (xs.map Svc.v) (fd, fp, fdp)).ends) dip).port), I6 ((alwE (wellL ks (getS (xs.map Svc.v) (fd, fp, fdp)).ends) dip).weight)], .bool (alwB (wellL ks (getS (xs.map Svc.v) (fd, fp, fdp)).ends) dip)]) ∧ Fr w w' [] := by
 refine enterD (n := 38) Tryz.func22 rfl rfl (Nat.le_of_ble_eq_true rfl) ?_
 intro Q0 hN hret hret'
 have hge_ : (getS (xs.map Svc.v) (fd, fp, fdp)).ends.length ≤ 1099511627776 := getS_lim hat
 have hwl_ : (wellL ks (getS (xs.map Svc.v) (fd, fp, fdp)).ends).length ≤ 1099511627776 := Nat.le_trans (List.length_filter_le _ _) hge_
 have hC := Cx.start w
 refine WCs (fun K1 hK2 => WCg (WLb hC (.cells #[I6 ce, I6 cn, .slice AS xs.length cS, .slice AN ns.length cN, .slice AK ks.length cK, .slice AL ls.length cL] 31) 3 (fun g3 w4 hb7 hF5 hC6 => WLb hC6 (.cells #[I6 fp, U4 fs, I6 fsp, U4 fd, I6 fdp] 55) 4 (fun g8 w9 a5 a6 aL => WLb aL (.cells #[U4 0, I6 0, I6 0] 47) 6 (fun aH a7 a8 a9 ab => WLq 1 [(7, .bool false)] (WLd rfl (QXn (hK2 _ _ ?_))))))))
 refine WCs (fun bi al => WCg (WLo 31 (P0 g3 0) (.agg #[I6 ce, I6 cn, .slice AS xs.length cS, .slice AN ns.length cN, .slice AK ks.length cK, .slice AL ls.length cL]) 13 (run_ld (ab.get 0 rfl) rfl) (WLq 1 [(14, P0 g8 3)] (WLo 40 (P0 g8 3) (U4 fd) 15 (run_ld (ab.get 1 rfl) rfl) (WLq 1 [(16, P0 g8 0)] ?_)))))
 refine WLo 3 (P0 g8 0) (I6 fp) 17 (run_ld (ab.get 1 rfl) rfl) (WLq 1 [(18, P0 g8 4)] (WLo 3 (P0 g8 4) (I6 fdp) 19 (run_ld (ab.get 1 rfl) rfl) (WLk (Service_n ce cn AN AK AL ns.length cN ks.length cK ls.length cL AS cS xs fd fp fdp xs.length a7 (Rd.fr hqS ab.fr) (fun s_ h_ => (hat s_ h_).fr ab.fr (fun _ _ => by simp)) (by omega) rfl) ?_)))
 rintro _ bj ⟨ah, ai, rfl, aM, am⟩
 have aN := ab.callN aM (own_ge am) (own_lt am)
 have aO := own_base (b' := 0) am (fun _ _ => Nat.zero_le _)
 refine ⟨_, rfl, ?_⟩
 refine WLz 3 [(22, .bool (hasS (xs.map Svc.v) (fd, fp, fdp))), (21, .agg #[U4 ((getS (xs.map Svc.v) (fd, fp, fdp)).vip), I6 ((getS (xs.map Svc.v) (fd, fp, fdp)).proto), I6 ((getS (xs.map Svc.v) (fd, fp, fdp)).port), .slice ah ((getS (xs.map Svc.v) (fd, fp, fdp)).ends.length) ai])] (WLb aN (.cells #[U4 0, I6 0, I6 0, .slice none 0 0] 43) 8 (fun aP bk ba aQ aw => ?_))
 have aR := own_fr aO aQ (by simp)
 refine WLv (c' := #[U4 ((getS (xs.map Svc.v) (fd, fp, fdp)).vip), I6 ((getS (xs.map Svc.v) (fd, fp, fdp)).proto), I6 ((getS (xs.map Svc.v) (fd, fp, fdp)).port), .slice ah ((getS (xs.map Svc.v) (fd, fp, fdp)).ends.length) ai]) aw 3 43 aP 0 (.agg #[U4 ((getS (xs.map Svc.v) (fd, fp, fdp)).vip), I6 ((getS (xs.map Svc.v) (fd, fp, fdp)).proto), I6 ((getS (xs.map Svc.v) (fd, fp, fdp)).port), .slice ah ((getS (xs.map Svc.v) (fd, fp, fdp)).ends.length) ai]) (fun bb aS ad => ?_)
 have an := own_fr aR aS (aw.apartM 0 3 rfl rfl)
 refine WLz 1 [] (WLd rfl (QXn (al _ _ (WCs (fun bl ao => WCs (fun bm ap => WCg (WLo 31 (P0 g3 0) (.agg #[I6 ce, I6 cn, .slice AS xs.length cS, .slice AN ns.length cN, .slice AK ks.length cK, .slice AL ls.length cL]) 23 (run_ld (ad.get 0 rfl) rfl) (WLo 43 (P0 aP 0) (.agg #[U4 ((getS (xs.map Svc.v) (fd, fp, fdp)).vip), I6 ((getS (xs.map Svc.v) (fd, fp, fdp)).proto), I6 ((getS (xs.map Svc.v) (fd, fp, fdp)).port), .slice ah ((getS (xs.map Svc.v) (fd, fp, fdp)).ends.length) ai]) 24 (run_ld (ad.get 3 rfl) rfl) ?_))))))))
 refine WLk (Healthy_n ce cn AS AN AL xs.length cS ns.length cN ls.length cL AK cK ks ((getS (xs.map Svc.v) (fd, fp, fdp)).vip) ((getS (xs.map Svc.v) (fd, fp, fdp)).proto) ((getS (xs.map Svc.v) (fd, fp, fdp)).port) ah ai ((getS (xs.map Svc.v) (fd, fp, fdp)).ends) ks.length ((getS (xs.map Svc.v) (fd, fp, fdp)).ends.length) bb (Rd.fr hqK ad.fr) (by omega) (own_rd an cellsE_len (by decide)) (by first | omega | (simp; done)) (by first | rfl | assumption) (own_count cellsE_len (by decide) an)) ?_
 rintro _ bn ⟨v_, rfl, ax, ae⟩
 have aT := ad.callN ax (own_ge ae) (own_lt ae)
 obtain ⟨aI, aJ, rfl, a3⟩ := own_form ae
 have aU := own_base (b' := 0) ae (fun _ _ => Nat.zero_le _)
 refine ⟨_, rfl, ?_⟩
 have aV := own_fr an ax (by simp)
 refine WLq 2 [(27, I6 0), (26, I6 ((wellL ks ((getS (xs.map Svc.v) (fd, fp, fdp)).ends)).length : Int))] (WLd rfl (QXn (ap _ _ (WC.block (WC.loop (fun m_ E_ w_ => ∃ (i : Nat), m_ = (wellL ks ((getS (xs.map Svc.v) (fd, fp, fdp)).ends)).length - i ∧ E_ = [(2, U4 dip), (3, P0 g3 0), (4, P0 g8 0), (6, P0 aH 0), (25, .slice aI ((wellL ks ((getS (xs.map Svc.v) (fd, fp, fdp)).ends)).length) aJ), (26, I6 ((wellL ks ((getS (xs.map Svc.v) (fd, fp, fdp)).ends)).length : Int)), (27, I6 (i : Int))] ∧ Cx w [] w_ [(g3, .cells #[I6 ce, I6 cn, .slice AS xs.length cS, .slice AN ns.length cN, .slice AK ks.length cK, .slice AL ls.length cL] 31), (g8, .cells #[I6 fp, U4 fs, I6 fsp, U4 fd, I6 fdp] 55), (aH, .cells #[U4 0, I6 0, I6 0] 47), (aP, .cells #[U4 ((getS (xs.map Svc.v) (fd, fp, fdp)).vip), I6 ((getS (xs.map Svc.v) (fd, fp, fdp)).proto), I6 ((getS (xs.map Svc.v) (fd, fp, fdp)).port), .slice ah ((getS (xs.map Svc.v) (fd, fp, fdp)).ends.length) ai] 43)] [blk (.slice ah ((getS (xs.map Svc.v) (fd, fp, fdp)).ends.length) ai), blk (.slice aI ((wellL ks ((getS (xs.map Svc.v) (fd, fp, fdp)).ends)).length) aJ)] ∧ World.ownsRow w_ 0 47 3 (.slice ah ((getS (xs.map Svc.v) (fd, fp, fdp)).ends.length) ai) ((getS (xs.map Svc.v) (fd, fp, fdp)).ends.length) (((getS (xs.map Svc.v) (fd, fp, fdp)).ends).flatMap cellsE) ∧ World.ownsRow w_ 0 47 3 (.slice aI ((wellL ks ((getS (xs.map Svc.v) (fd, fp, fdp)).ends)).length) aJ) ((wellL ks ((getS (xs.map Svc.v) (fd, fp, fdp)).ends)).length) ((wellL ks ((getS (xs.map Svc.v) (fd, fp, fdp)).ends)).flatMap cellsE) ∧ (i ≤ (wellL ks ((getS (xs.map Svc.v) (fd, fp, fdp)).ends)).length ∧ ∀ y ∈ (wellL ks ((getS (xs.map Svc.v) (fd, fp, fdp)).ends)).take i, y.dip ≠ dip)) ⟨_, _, ⟨0, rfl, rfl, aT, aV, aU, Nat.zero_le _, (fun _ h_ => by simp at h_)⟩, sub_of ⟨rfl, rfl, rfl, rfl, rfl, rfl, rfl, trivial⟩⟩ (fun m57 E_ bo bp aW aX => ?_))))))
 obtain ⟨i, rfl, rfl, ay, srow27_m57, row53_m57, hi, hno⟩ := aX
 refine WCs (fun bq aq => WCg (WLq 1 [(28, .bool (decide ((i : Int) < ((wellL ks ((getS (xs.map Svc.v) (fd, fp, fdp)).ends)).length : Int))))] (WLd rfl (QXn (aq _ _ (WCs (fun br ar => WCa 28 (decide ((i : Int) < ((wellL ks ((getS (xs.map Svc.v) (fd, fp, fdp)).ends)).length : Int))) rfl (fun au => ?_) (fun au => ?_))))))))
 ·
  have bc : (i : Int) < ((wellL ks ((getS (xs.map Svc.v) (fd, fp, fdp)).ends)).length : Int) := by have q_ := of_decide_eq_true au; omega
  refine WCt rfl (WC.skip (QXn (ar _ _ (WCs (fun bs az => WC.block (WCs (fun bt aA => ?_)))))))
  refine WCg ?_
  have bd := own_count cellsE_len (by decide) row53_m57
  obtain ⟨aa, af⟩ := get_some (xs := (wellL ks ((getS (xs.map Svc.v) (fd, fp, fdp)).ends))) (i := i) (by omega)
  obtain ⟨b71, aB⟩ := own_addr (by decide) cellsE_len row53_m57 af
  refine WLi aI ((wellL ks ((getS (xs.map Svc.v) (fd, fp, fdp)).ends)).length) aJ 29 .i64 (i : Int) b71 0 i 3 (by kernel_rfl) aB (by omega) (by omega) (i * 3) (by first | (simp; done) | omega) (WLo 47 (P0 b71 (i * 3)) (.agg #[U4 aa.dip, I6 aa.port, I6 aa.weight]) 30 (run_rdN (l := [U4 aa.dip, I6 aa.port, I6 aa.weight]) rfl rfl (fun j u hu => by have hq_ := Rd.cell (own_rd row53_m57 cellsE_len (by decide)) aB af j u hu; simpa [Nat.add_assoc] using hq_)) (WLb ay (.cells #[U4 0, I6 0, I6 0] 47) 11 (fun aK bu be aC av => ?_)))
  have aY := own_fr srow27_m57 aC (by simp)
  have aZ := own_fr row53_m57 aC (by simp)
  refine WLv (c' := #[U4 aa.dip, I6 aa.port, I6 aa.weight]) av 4 47 aK 0 (.agg #[U4 aa.dip, I6 aa.port, I6 aa.weight]) (fun bv aD ag => ?_)
  have a0 := own_fr aY aD (av.apartM 0 4 rfl rfl)
  have a1 := own_fr aZ aD (av.apartM 1 4 rfl rfl)
  refine WLd rfl (QXn (aA _ _ (WCs (fun bw aE => WCg (WLq 1 [(31, P0 aK 0)] (WLo 40 (P0 aK 0) (U4 aa.dip) 32 (run_ld (ag.get 4 rfl) rfl) (WLz 2 [(34, .bool (aa.dip == dip))] (WLd rfl (QXn (aE _ _ (WCa 34 (aa.dip == dip) rfl (fun ac => ?_) (fun ac => ?_))))))))))))
  ·
   have bf : aa.dip = dip := by simpa using ac
   refine WCt rfl (WCs (fun bx aF => WCg (WLo 47 (P0 aK 0) (.agg #[U4 aa.dip, I6 aa.port, I6 aa.weight]) 35 (run_ld (ag.get 4 rfl) rfl) (WLv (c' := #[U4 aa.dip, I6 aa.port, I6 aa.weight]) ag 2 47 aH 0 (.agg #[U4 aa.dip, I6 aa.port, I6 aa.weight]) (fun bz bg aG => WLq 1 [(7, .bool true)] (WLd rfl (QXn (aF _ _ ?_))))))))
   refine WC.ret (QXk (QXr (QXr (QXk (QXr ?_)))))
   refine (hret' _ _ (.tuple #[.agg #[U4 aa.dip, I6 aa.port, I6 aa.weight], .bool true]) (fun a ha => ?_) ?_).1
   ·
    exact res_run ha ((ResR.cell rfl (run_ld (aG.get 2 rfl) rfl) (ResR.tmp rfl ResR.nil))) rfl
   clear hN hret hret' aF aE aA az ar aq ap ao al hK2
   obtain ⟨ha1_, ha2_⟩ := alw_hit af (by simpa using ac) hno
   rw [ha1_, ha2_]
   exact ⟨rfl, aG.fr⟩
  ·
   have bf : ¬ (aa.dip = dip) := by simpa using ac
   refine WCf rfl (WC.skip (QXb (QXn (az _ _ (WCg (WLq 1 [(36, I6 (IntKind.i64.wrap ((i : Int) + 1)))] (WLt (show (I6 (IntKind.i64.wrap ((i : Int) + 1)) : Value) = I6 ((i : Int) + 1) from by rw [wrap_in_i64 ((i : Int) + 1) (by omega) (by omega)]) (WLq 1 [(27, I6 ((i : Int) + 1))] ?_))))))))
   refine WLd rfl (QXn ?_)
   have a2 := ag.pick [0, 1, 2, 3] [0, 1] rfl rfl
   refine fun a_ ha_ => aW _ _ _ ?_ ⟨i + 1, rfl, rfl, a2, a0, a1, by omega, take_noE af (by simpa using ac) hno⟩ a_ (ha_.weaken (sub_of ⟨rfl, rfl, rfl, rfl, rfl, rfl, rfl, trivial⟩))
   omega
 ·
  have bc : ((wellL ks ((getS (xs.map Svc.v) (fd, fp, fdp)).ends)).length : Int) ≤ (i : Int) := by have q_ := of_decide_eq_false au; omega
  refine WCf rfl (WC.exit (QXe (QXe (QX.block_hit (QXn (ao _ _ ?_))))))
  refine WCs (fun bA aj => WCg (WLq 1 [(37, .agg #[U4 0, I6 0, I6 0])] (WLv (c' := #[U4 0, I6 0, I6 0]) ay 2 47 aH 0 (.agg #[U4 0, I6 0, I6 0]) (fun bh a4 ak => WLq 1 [(7, .bool false)] (WLd rfl (QXn (aj _ _ (WC.ret ?_))))))))
  refine (hret' _ _ (.tuple #[.agg #[U4 0, I6 0, I6 0], .bool false]) (fun a ha => ?_) ?_).1
  ·
   exact res_run ha ((ResR.cell rfl (run_ld (ak.get 2 rfl) rfl) (ResR.tmp rfl ResR.nil))) rfl
  clear hN hret hret' aj ar aq ap ao al hK2
  obtain ⟨ha1_, ha2_⟩ := alw_none (by omega) hno
  rw [ha1_, ha2_]
  exact ⟨rfl, ak.fr⟩

end Go.Proofs.YtfligklljkcbfaaGreatDoor
namespace Go.Proofs.YtfligklljkcbfaaGreatDoor
set_option linter.unusedSimpArgs false
set_option linter.unusedVariables false
set_option linter.unusedSectionVars false
open Go Go.RowKit Go.Tw
set_option linter.unusedVariables false
set_option maxRecDepth 20000
theorem cptN_spec {xs : List Int} (hs : xs.Pairwise (· ≤ ·)) : ∀ j, j ≤ xs.length → (cptN xs j).Pairwise (· < ·) ∧ ∀ x, x ∈ cptN xs j ↔ x ∈ xs.take j
  | 0, _ => by simp [cptN]
  | j + 1, hj => by
    have hlt : j < xs.length := by omega
    obtain ⟨h1, h2⟩ := cptN_spec hs j (by omega)
    have ej : xs[j]? = some xs[j] := List.getElem?_eq_getElem hlt
    unfold cptN
    split
    · rename_i hq
      refine ⟨h1, fun x => ?_⟩
      rw [h2, List.take_succ_eq_append_getElem hlt, List.mem_append, List.mem_singleton]
      refine ⟨.inl, fun h => h.elim id fun e => ?_⟩
      rw [ej] at hq
      subst e
      have h3 : xs[j] ∈ xs.take j := List.mem_iff_getElem?.2 ⟨j - 1, by rw [List.getElem?_take, if_pos (by omega)]; exact hq.2.symm⟩
      exact h3
    · rename_i hq
      rw [ej, Option.toList_some]
      refine ⟨?_, fun x => by rw [List.mem_append, h2, List.take_succ_eq_append_getElem hlt, List.mem_append]⟩
      rw [List.pairwise_append]
      refine ⟨h1, by simp, fun a ha c hc => ?_⟩
      rw [List.mem_singleton] at hc; subst hc
      obtain ⟨k, hk⟩ := List.mem_iff_getElem?.1 ((h2 a).1 ha)
      rw [List.getElem?_take] at hk
      split at hk
      · rename_i hkj
        obtain ⟨hk2, rfl⟩ := List.getElem?_eq_some_iff.1 hk
        have h3 : xs[k] ≤ xs[j - 1] := by
          by_cases e : k = j - 1
          · subst e; exact Int.le_refl _
          · exact List.pairwise_iff_getElem.1 hs k (j - 1) hk2 (by omega) (by omega)
        have h4 : xs[j - 1] ≤ xs[j] := List.pairwise_iff_getElem.1 hs (j - 1) j (by omega) hlt (by omega)
        have h5 : xs[j] ≠ xs[j - 1] := fun e => hq ⟨by omega, by rw [ej, List.getElem?_eq_getElem (by omega : j - 1 < xs.length), e]⟩
        omega
      · cases hk
theorem sortU_le (X : List Int) : (sortU X).Pairwise (· ≤ ·) := by
  have h := List.pairwise_mergeSort (le := fun x y : Int => decide (x ≤ y)) (fun a b c h1 h2 => by simp at *; omega) (fun a b => by simp; omega) X
  exact h.imp (fun h => by simpa using h)
theorem kA_ltI {x y : Int} : lt3 (kA x) (kA y) = true ↔ x < y := by rw [lt3_iff]; simp [kA]
def vipF (vs : List Int) : List Int := vs.foldl (fun o v => putK kA o v false) []
theorem vipF_snoc (vs : List Int) (v : Int) : vipF (vs ++ [v]) = putK kA (vipF vs) v false := by unfold vipF; rw [List.foldl_append]; rfl
theorem vipF_spec (vs : List Int) : sortK kA (vipF vs) ∧ (∀ x, x ∈ vipF vs ↔ x ∈ vs) ∧ (vipF vs).length ≤ vs.length := by
  suffices h : ∀ (r : List Int) (o : List Int), sortK kA o → sortK kA (r.foldl (fun o v => putK kA o v false) o) ∧ (∀ x, x ∈ r.foldl (fun o v => putK kA o v false) o ↔ x ∈ o ∨ x ∈ r) ∧ (r.foldl (fun o v => putK kA o v false) o).length ≤ o.length + r.length by
    obtain ⟨h1, h2, h3⟩ := h vs [] List.Pairwise.nil
    exact ⟨h1, fun x => (h2 x).trans (by simp), by unfold vipF; simpa using h3⟩
  intro r
  induction r with
  | nil => intro o ho; exact ⟨ho, fun x => by simp, Nat.le_add_right _ _⟩
  | cons v r ih =>
    intro o ho
    obtain ⟨h1, h2, h3⟩ := ih (putK kA o v false) (put_sort ho)
    refine ⟨h1, fun x => ?_, ?_⟩
    · rw [List.foldl_cons, h2, put_mem ho, List.mem_cons]
      have hk : kA x ≠ kA v ↔ x ≠ v := ⟨fun h e => h (by rw [e]), fun h e => h (by simpa [kA] using e)⟩
      rw [hk]
      by_cases e : x = v
      · subst e; simp
      · simp [e]
    · rw [List.foldl_cons]
      have := put_len (x := v) (out := false) ho
      simp only [List.length_cons]; omega
theorem lt_ext : ∀ {xs ys : List Int}, xs.Pairwise (· < ·) → ys.Pairwise (· < ·) → (∀ x, x ∈ xs ↔ x ∈ ys) → xs = ys
  | [], [], _, _, _ => rfl
  | [], y :: r, _, _, h => absurd ((h y).2 (by simp)) (by simp)
  | x :: r, [], _, _, h => absurd ((h x).1 (by simp)) (by simp)
  | x :: r, y :: q, h1, h2, h => by
    obtain ⟨a1, a2⟩ := List.pairwise_cons.1 h1
    obtain ⟨b1, b2⟩ := List.pairwise_cons.1 h2
    have e : x = y := by
      have p1 : x ∈ y :: q := (h x).1 (by simp)
      have p2 : y ∈ x :: r := (h y).2 (by simp)
      rcases List.mem_cons.1 p1 with e | p1
      · exact e
      · rcases List.mem_cons.1 p2 with e | p2
        · exact e.symm
        · have := a1 _ p2; have := b1 _ p1; omega
    subst e
    rw [lt_ext a2 b2 fun z => ⟨fun hz => by
      rcases List.mem_cons.1 ((h z).1 (by simp [hz])) with e | h3
      · have := a1 _ hz; omega
      · exact h3, fun hz => by
      rcases List.mem_cons.1 ((h z).2 (by simp [hz])) with e | h3
      · have := b1 _ hz; omega
      · exact h3⟩]
theorem cpt_vipF (vs : List Int) : cpt (sortU vs) = vipF vs := by
  obtain ⟨h1, h2⟩ := cptN_spec (sortU_le vs) _ (Nat.le_refl _)
  obtain ⟨h3, h4, _⟩ := vipF_spec vs
  refine lt_ext h1 (h3.imp fun h => kA_ltI.1 h) fun x => ?_
  show x ∈ cptN (sortU vs) (sortU vs).length ↔ _
  rw [h2, List.take_length, sortU_mem, h4]
set_option maxHeartbeats 1000000 in
theorem Vips_ct (ce cn : Int) (AS : Option Addr) (cS : Nat) (xs : List Svc) (AN : Option Addr) (cN : Nat) (ns : List SnatV) (AK : Option Addr) (cK : Nat) (ks : List Int) (AL : Option Addr) (cL : Nat) (ls : List Lease) (w : World) (hqS : Rd w 4 cellsS AS xs) (hat : ∀ s ∈ xs, svcAt w s) (hqN : Rd w 2 cellsN AN ns) (hqK : Rd w 1 (Go.Tw.encI .u32) AK ks) (hqL : Rd w 4 encL AL ls) (hlS : xs.length ≤ 1099511627776) (hlN : ns.length ≤ 1099511627776) (hlK : ks.length ≤ 1099511627776) (hlL : ls.length ≤ 1099511627776) (hvt : xs.length + (ns.length + ls.length) ≤ 1099511627776) : Calls Tryz.prog 27 #[.agg #[I6 ce, I6 cn, .slice AS xs.length cS, .slice AN ns.length cN, .slice AK ks.length cK, .slice AL ls.length cL]] w fun e w' => ∃ v, e = .returned v ∧ Fr w w' [] ∧ w'.ownsRow w.heap.size 40 1 v (vipF (vL xs ns ls)).length (((vipF (vL xs ns ls)).flatMap (Go.Tw.encI .u32))) := by
 refine enterD (n := 53) Tryz.func27 rfl rfl (Nat.le_of_ble_eq_true rfl) ?_
 intro Q0 hN hret hret'
 have hC := Cx.start w
 refine WCs (fun K1 hK2 => WCg (WLb hC (.cells #[I6 ce, I6 cn, .slice AS xs.length cS, .slice AN ns.length cN, .slice AK ks.length cK, .slice AL ls.length cL] 31) 1 (fun g3 w4 hb7 hF5 hC6 => WLq 1 [(2, .slice none 0 0)] (WLd rfl (QXn (hK2 _ _ (WCs (fun K8 hK9 => WCg (WLq 1 [(3, .slice none 0 0)] (WLd rfl (QXn (hK9 _ _ ?_))))))))))))
 refine WCs (fun cE aK => WCs (fun cF aL => WCg (WLq 1 [(10, P0 g3 2)] (WLo 26 (P0 g3 2) (.slice AS xs.length cS) 11 (run_ld (hC6.get 0 rfl) rfl) (WLq 2 [(13, I6 0), (12, I6 (xs.length : Int))] (WLd rfl (QXn (aL _ _ (WC.block ?_)))))))))
 have bv := hC6.addNil
 refine WC.loop (fun m_ E_ w_ => ∃ (i : Nat) (A0 : Option Addr) (n0 c0 : Nat), m_ = xs.length - i ∧ E_ = [(1, P0 g3 0), (3, .slice A0 n0 c0), (11, .slice AS xs.length cS), (12, I6 (xs.length : Int)), (13, I6 (i : Int))] ∧ Cx w [] w_ [(g3, .cells #[I6 ce, I6 cn, .slice AS xs.length cS, .slice AN ns.length cN, .slice AK ks.length cK, .slice AL ls.length cL] 31)] [blk (.slice A0 n0 c0)] ∧ World.ownsRow w_ 0 40 1 (.slice A0 n0 c0) n0 ((vL (xs.take i) [] []).flatMap (Go.Tw.encI .u32)) ∧ (i ≤ xs.length)) ⟨_, _, ⟨0, none, 0, 0, rfl, rfl, bv, own_nil _ _ _ _, Nat.zero_le _⟩, sub_of ⟨rfl, rfl, rfl, rfl, rfl, trivial⟩⟩ (fun m18 E_ cG cH bw bx => ?_)
 obtain ⟨i, A0, n0, c0, rfl, rfl, ai, hrow0, hi⟩ := bx
 have hon0_ := own_count (Go.Tw.encI_len .u32) (by decide) hrow0
 rw [vL_len] at hon0_
 simp only [List.length_take, List.length_nil] at hon0_
 refine WCs (fun cI aM => WCg (WLq 1 [(14, .bool (decide ((i : Int) < (xs.length : Int))))] (WLd rfl (QXn (aM _ _ (WCs (fun cJ aN => WCa 14 (decide ((i : Int) < (xs.length : Int))) rfl (fun aB => ?_) (fun aB => ?_))))))))
 ·
  have cf : (i : Int) < (xs.length : Int) := by have q_ := of_decide_eq_true aB; omega
  refine WCt rfl (WC.skip (QXn (aN _ _ (WCs (fun cM bz => WC.block (WCs (fun cO bA => ?_)))))))
  refine WCg ?_
  obtain ⟨ab, aC⟩ := get_some (xs := xs) (i := i) (by omega)
  obtain ⟨b32, o34, bB, bC⟩ := hqS.at_ _ _ aC
  have aj := hat _ (List.mem_of_getElem? aC)
  have bq := aj.lim
  refine WLi AS xs.length cS 15 .i64 (i : Int) b32 o34 i 4 (by kernel_rfl) bB (by omega) (by omega) (o34 + i * 4) (by first | (simp; done) | omega) (WLo 43 (P0 b32 (o34 + i * 4)) (.agg #[U4 ab.v.vip, I6 ab.v.proto, I6 ab.v.port, .slice ab.a ab.v.ends.length ab.c]) 16 (run_rdN (l := [U4 ab.v.vip, I6 ab.v.proto, I6 ab.v.port, .slice ab.a ab.v.ends.length ab.c]) rfl rfl (fun j u hu => by have hq_ := ai.fr.cell (bC j u hu) (by simp); simpa [Nat.add_assoc] using hq_)) (WLb ai (.cells #[U4 0, I6 0, I6 0, .slice none 0 0] 43) 5 (fun bD cP cg bE aO => ?_)))
  have bF := own_fr hrow0 bE (by simp)
  refine WLv (c' := #[U4 ab.v.vip, I6 ab.v.proto, I6 ab.v.port, .slice ab.a ab.v.ends.length ab.c]) aO 1 43 bD 0 (.agg #[U4 ab.v.vip, I6 ab.v.proto, I6 ab.v.port, .slice ab.a ab.v.ends.length ab.c]) (fun cQ bG aP => ?_)
  have bH := own_fr bF bG (aO.apartM 0 1 rfl rfl)
  refine WLd rfl (QXn (bA _ _ (WCg (WLq 2 [(18, P0 bD 0), (17, .slice A0 n0 c0)] (WLo 40 (P0 bD 0) (U4 ab.v.vip) 19 (run_ld (aP.get 1 rfl) rfl) (WL.newM aP (fun b => .slice (some ⟨b, 0, none⟩) 1 1) (.cells #[U4 ab.v.vip] 40) 20 (fun _ => by kernel_rfl) (fun b7 cR ch bI aQ => ?_)))))))
  have bJ := own_fr bH bI (by simp)
  obtain ⟨cT, cU, bK, bL, ci, bM, bN, bO⟩ := app_run Tryz.prog aQ 0 (v := .slice A0 n0 c0) rfl 28 28 40 1 4 n0 1 1 (some ⟨b7, 0, none⟩) rfl bJ [U4 ab.v.vip] rfl (srcOk.blk 1 (aQ.get 2 rfl)) rfl (by simp only [maxLen]; omega) (by omega)
  have aR := own_snoc (enc := (Go.Tw.encI .u32)) (ys := (vL (xs.take i) [] [])) ab.v.vip bL
  obtain ⟨bP, bQ, rfl, b8⟩ := own_form aR
  refine WLS 21 bK (WLq 1 [(3, .slice bP (n0 + 1) bQ)] (WLd rfl (QXb (QXn (bz _ _ (WCg (WLq 1 [(22, I6 (IntKind.i64.wrap ((i : Int) + 1)))] ?_)))))))
  refine WLt (show (I6 (IntKind.i64.wrap ((i : Int) + 1)) : Value) = I6 ((i : Int) + 1) from by rw [wrap_in_i64 ((i : Int) + 1) (by omega) (by omega)]) (WLq 1 [(13, I6 ((i : Int) + 1))] (WLd rfl (QXn ?_)))
  have bR := bM.pick [0] [0] rfl rfl
  refine fun a_ ha_ => bw _ _ _ ?_ ⟨i + 1, bP, n0 + 1, bQ, rfl, rfl, bR, (by rw [vL_1 aC]; exact aR), by omega⟩ a_ (ha_.weaken (sub_of ⟨rfl, rfl, rfl, rfl, rfl, trivial⟩))
  omega
 ·
  have cf : (xs.length : Int) ≤ (i : Int) := by have q_ := of_decide_eq_false aB; omega
  refine WCf rfl (WC.exit (QXe (QXe (QX.block_hit (QXn (aK _ _ ?_))))))
  refine WCs (fun cV aS => WCs (fun cW aT => WCg (WLq 1 [(23, P0 g3 3)] (WLo 27 (P0 g3 3) (.slice AN ns.length cN) 24 (run_ld (ai.get 0 rfl) rfl) (WLq 2 [(26, I6 0), (25, I6 (ns.length : Int))] (WLd rfl (QXn (aT _ _ (WC.block ?_)))))))))
  refine WC.loop (fun m_ E_ w_ => ∃ (j : Nat) (A1 : Option Addr) (n1 c1 : Nat), m_ = ns.length - j ∧ E_ = [(1, P0 g3 0), (3, .slice A1 n1 c1), (24, .slice AN ns.length cN), (25, I6 (ns.length : Int)), (26, I6 (j : Int))] ∧ Cx w [] w_ [(g3, .cells #[I6 ce, I6 cn, .slice AS xs.length cS, .slice AN ns.length cN, .slice AK ks.length cK, .slice AL ls.length cL] 31)] [blk (.slice A1 n1 c1)] ∧ World.ownsRow w_ 0 40 1 (.slice A1 n1 c1) n1 ((vL xs (ns.take j) []).flatMap (Go.Tw.encI .u32)) ∧ (j ≤ ns.length)) ⟨_, _, ⟨0, A0, n0, c0, rfl, rfl, ai, (by have ho_ := hrow0; rw [List.take_of_length_le (by omega)] at ho_; simpa using ho_), Nat.zero_le _⟩, sub_of ⟨rfl, rfl, rfl, rfl, rfl, trivial⟩⟩ (fun m73 E_ cX cY bS bT => ?_)
  obtain ⟨j, A1, n1, c1, rfl, rfl, ak, hrow1, hj⟩ := bT
  have hon1_ := own_count (Go.Tw.encI_len .u32) (by decide) hrow1
  rw [vL_len] at hon1_
  simp only [List.length_take, List.length_nil] at hon1_
  refine WCs (fun cZ aU => WCg (WLq 1 [(27, .bool (decide ((j : Int) < (ns.length : Int))))] (WLd rfl (QXn (aU _ _ (WCs (fun c3 aV => WCa 27 (decide ((j : Int) < (ns.length : Int))) rfl (fun aD => ?_) (fun aD => ?_))))))))
  ·
   have cj : (j : Int) < (ns.length : Int) := by have q_ := of_decide_eq_true aD; omega
   refine WCt rfl (WC.skip (QXn (aV _ _ (WCs (fun c4 bU => WC.block (WCs (fun c5 bV => ?_)))))))
   refine WCg ?_
   obtain ⟨ac, aW⟩ := get_some (xs := ns) (i := j) (by omega)
   obtain ⟨b87, o89, bW, bX⟩ := hqN.at_ _ _ aW
   refine WLi AN ns.length cN 28 .i64 (j : Int) b87 o89 j 2 (by kernel_rfl) bW (by omega) (by omega) (o89 + j * 2) (by first | (simp; done) | omega) (WLo 79 (P0 b87 (o89 + j * 2)) (.agg #[U4 ac.dip, U4 ac.vip]) 29 (run_rdN (l := [U4 ac.dip, U4 ac.vip]) rfl rfl (fun j u hu => by have hq_ := ak.fr.cell (bX j u hu) (by simp); simpa [Nat.add_assoc] using hq_)) (WLb ak (.cells #[U4 0, U4 0] 79) 7 (fun bY c6 ck bZ aX => ?_)))
   have b0 := own_fr hrow1 bZ (by simp)
   refine WLv (c' := #[U4 ac.dip, U4 ac.vip]) aX 1 79 bY 0 (.agg #[U4 ac.dip, U4 ac.vip]) (fun c7 b1 al => ?_)
   have aY := own_fr b0 b1 (aX.apartM 0 1 rfl rfl)
   refine WLd rfl (QXn (bV _ _ (WCg (WLq 2 [(31, P0 bY 1), (30, .slice A1 n1 c1)] (WLo 40 (P0 bY 1) (U4 ac.vip) 32 (run_ld (al.get 1 rfl) rfl) (WL.newM al (fun b => .slice (some ⟨b, 0, none⟩) 1 1) (.cells #[U4 ac.vip] 40) 33 (fun _ => by kernel_rfl) (fun aZ cl b9 a0 am => ?_)))))))
   have a1 := own_fr aY a0 (by simp)
   obtain ⟨cm, co, a2, a3, ca, a4, br, bs⟩ := app_run Tryz.prog am 0 (v := .slice A1 n1 c1) rfl 28 28 40 1 4 n1 1 1 (some ⟨aZ, 0, none⟩) rfl a1 [U4 ac.vip] rfl (srcOk.blk 1 (am.get 2 rfl)) rfl (by simp only [maxLen]; omega) (by omega)
   have an := own_snoc (enc := (Go.Tw.encI .u32)) (ys := (vL xs (ns.take j) [])) ac.vip a3
   obtain ⟨aE, aF, rfl, b2⟩ := own_form an
   refine WLS 34 a2 (WLq 1 [(3, .slice aE (n1 + 1) aF)] (WLd rfl (QXb (QXn (bU _ _ (WCg (WLq 1 [(35, I6 (IntKind.i64.wrap ((j : Int) + 1)))] ?_)))))))
   refine WLt (show (I6 (IntKind.i64.wrap ((j : Int) + 1)) : Value) = I6 ((j : Int) + 1) from by rw [wrap_in_i64 ((j : Int) + 1) (by omega) (by omega)]) (WLq 1 [(26, I6 ((j : Int) + 1))] (WLd rfl (QXn ?_)))
   have a5 := a4.pick [0] [0] rfl rfl
   refine fun a_ ha_ => bS _ _ _ ?_ ⟨j + 1, aE, n1 + 1, aF, rfl, rfl, a5, (by rw [vL_2 aW]; exact an), by omega⟩ a_ (ha_.weaken (sub_of ⟨rfl, rfl, rfl, rfl, rfl, trivial⟩))
   omega
  ·
   have cj : (ns.length : Int) ≤ (j : Int) := by have q_ := of_decide_eq_false aD; omega
   refine WCf rfl (WC.exit (QXe (QXe (QX.block_hit (QXn (aS _ _ ?_))))))
   refine WCs (fun cp ao => WCs (fun cq ap => WCg (WLq 1 [(36, P0 g3 5)] (WLo 29 (P0 g3 5) (.slice AL ls.length cL) 37 (run_ld (ak.get 0 rfl) rfl) (WLq 2 [(39, I6 0), (38, I6 (ls.length : Int))] (WLd rfl (QXn (ap _ _ (WC.block ?_)))))))))
   refine WC.loop (fun m_ E_ w_ => ∃ (k : Nat) (A2 : Option Addr) (n2 c2 : Nat), m_ = ls.length - k ∧ E_ = [(1, P0 g3 0), (3, .slice A2 n2 c2), (37, .slice AL ls.length cL), (38, I6 (ls.length : Int)), (39, I6 (k : Int))] ∧ Cx w [] w_ [(g3, .cells #[I6 ce, I6 cn, .slice AS xs.length cS, .slice AN ns.length cN, .slice AK ks.length cK, .slice AL ls.length cL] 31)] [blk (.slice A2 n2 c2)] ∧ World.ownsRow w_ 0 40 1 (.slice A2 n2 c2) n2 ((vL xs ns (ls.take k)).flatMap (Go.Tw.encI .u32)) ∧ (k ≤ ls.length)) ⟨_, _, ⟨0, A1, n1, c1, rfl, rfl, ak, (by have ho_ := hrow1; rw [List.take_of_length_le (by omega)] at ho_; simpa using ho_), Nat.zero_le _⟩, sub_of ⟨rfl, rfl, rfl, rfl, rfl, trivial⟩⟩ (fun m128 E_ b3 cr a6 a7 => ?_)
   obtain ⟨k, A2, n2, c2, rfl, rfl, ad, hrow2, hk⟩ := a7
   have hon2_ := own_count (Go.Tw.encI_len .u32) (by decide) hrow2
   rw [vL_len] at hon2_
   simp only [List.length_take, List.length_nil] at hon2_
   refine WCs (fun cs aq => WCg (WLq 1 [(40, .bool (decide ((k : Int) < (ls.length : Int))))] (WLd rfl (QXn (aq _ _ (WCs (fun ct ar => WCa 40 (decide ((k : Int) < (ls.length : Int))) rfl (fun ae => ?_) (fun ae => ?_))))))))
   ·
    have b4 : (k : Int) < (ls.length : Int) := by have q_ := of_decide_eq_true ae; omega
    refine WCt rfl (WC.skip (QXn (ar _ _ (WCs (fun cu a8 => WC.block (WCs (fun cv a9 => ?_)))))))
    refine WCg ?_
    obtain ⟨aa, au⟩ := get_some (xs := ls) (i := k) (by omega)
    obtain ⟨b142, o144, ba, bb⟩ := hqL.at_ _ _ au
    refine WLi AL ls.length cL 41 .i64 (k : Int) b142 o144 k 4 (by kernel_rfl) ba (by omega) (by omega) (o144 + k * 4) (by first | (simp; done) | omega) (WLo 50 (P0 b142 (o144 + k * 4)) (.agg #[U4 aa.vip, I6 aa.first, U4 aa.dip, I6 aa.exp]) 42 (run_rdN (l := [U4 aa.vip, I6 aa.first, U4 aa.dip, I6 aa.exp]) rfl rfl (fun j u hu => by have hq_ := ad.fr.cell (bb j u hu) (by simp); simpa [Nat.add_assoc] using hq_)) (WLb ad (.cells #[U4 0, I6 0, U4 0, I6 0] 50) 9 (fun aG cw cb bc av => ?_)))
    have bd := own_fr hrow2 bc (by simp)
    refine WLv (c' := #[U4 aa.vip, I6 aa.first, U4 aa.dip, I6 aa.exp]) av 1 50 aG 0 (.agg #[U4 aa.vip, I6 aa.first, U4 aa.dip, I6 aa.exp]) (fun cx be aw => ?_)
    have bf := own_fr bd be (av.apartM 0 1 rfl rfl)
    refine WLd rfl (QXn (a9 _ _ (WCg (WLq 2 [(44, P0 aG 0), (43, .slice A2 n2 c2)] (WLo 40 (P0 aG 0) (U4 aa.vip) 45 (run_ld (aw.get 1 rfl) rfl) (WL.newM aw (fun b => .slice (some ⟨b, 0, none⟩) 1 1) (.cells #[U4 aa.vip] 40) 46 (fun _ => by kernel_rfl) (fun bg cy cc bh ax => ?_)))))))
    have bi := own_fr bf bh (by simp)
    obtain ⟨cz, cA, bj, bk, cd, bl, bt, bu⟩ := app_run Tryz.prog ax 0 (v := .slice A2 n2 c2) rfl 28 28 40 1 4 n2 1 1 (some ⟨bg, 0, none⟩) rfl bi [U4 aa.vip] rfl (srcOk.blk 1 (ax.get 2 rfl)) rfl (by simp only [maxLen]; omega) (by omega)
    have ay := own_snoc (enc := (Go.Tw.encI .u32)) (ys := (vL xs ns (ls.take k))) aa.vip bk
    obtain ⟨aH, aI, rfl, b5⟩ := own_form ay
    refine WLS 47 bj (WLq 1 [(3, .slice aH (n2 + 1) aI)] (WLd rfl (QXb (QXn (a8 _ _ (WCg (WLq 1 [(48, I6 (IntKind.i64.wrap ((k : Int) + 1)))] ?_)))))))
    refine WLt (show (I6 (IntKind.i64.wrap ((k : Int) + 1)) : Value) = I6 ((k : Int) + 1) from by rw [wrap_in_i64 ((k : Int) + 1) (by omega) (by omega)]) (WLq 1 [(39, I6 ((k : Int) + 1))] (WLd rfl (QXn ?_)))
    have bm := bl.pick [0] [0] rfl rfl
    refine fun a_ ha_ => a6 _ _ _ ?_ ⟨k + 1, aH, n2 + 1, aI, rfl, rfl, bm, (by rw [vL_3 au]; exact ay), by omega⟩ a_ (ha_.weaken (sub_of ⟨rfl, rfl, rfl, rfl, rfl, trivial⟩))
    omega
   ·
    have b4 : (ls.length : Int) ≤ (k : Int) := by have q_ := of_decide_eq_false ae; omega
    refine WCf rfl (WC.exit (QXe (QXe (QX.block_hit (QXn (ao _ _ ?_))))))
    refine WCs (fun cB az => WCg (WLq 1 [(49, .slice A2 n2 c2)] ?_))
    have aJ := hrow2
    rw [List.take_of_length_le (by omega)] at aJ
    refine WLk (SortU_n A2 c2 n2 (vL xs ns ls) (own_count (Go.Tw.encI_len .u32) (by decide) aJ) b3 aJ (by omega)) ?_
    rintro _ b6 ⟨rfl, bn, af⟩
    have bo := ad.callF 0 rfl bn (fun _ h_ => .inl h_) (own_lt af)
    refine ⟨_, rfl, ?_⟩
    refine WLd rfl (QXn (az _ _ (WCs (fun cC aA => WCg (WLq 1 [(51, .slice A2 n2 c2)] (WLk (CptU_n A2 c2 n2 (sortU (vL xs ns ls)) (own_count (Go.Tw.encI_len .u32) (by decide) af) b6 af (by omega)) ?_))))))
    rintro _ cD ⟨rfl, bp, ag⟩
    have ah := bo.callF 0 rfl bp (fun _ h_ => .inl (by rw [blk_n A2 n2 c2 (cpt (sortU (vL xs ns ls))).length c2]; exact h_)) (own_lt ag)
    refine ⟨_, rfl, ?_⟩
    refine WLq 1 [(2, .slice A2 ((cpt (sortU (vL xs ns ls))).length) c2)] (WLd rfl (QXn (aA _ _ (WC.ret ?_))))
    refine (hret _ _ _ rfl ?_).1
    clear hN hret hret' aA az ar aq ap ao aV aU aT aS aN aM aL aK hK9 hK2
    have hz_ := ag
    rw [cpt_vipF] at hz_
    have hb_ := ah
    exact ⟨_, rfl, ah.fr, own_base (by rw [← cpt_vipF]; exact ag) (ah.geF 0 rfl)⟩

end Go.Proofs.YtfligklljkcbfaaGreatDoor
