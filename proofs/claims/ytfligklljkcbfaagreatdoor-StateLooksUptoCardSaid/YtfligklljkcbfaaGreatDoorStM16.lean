/- Contracts of functions of the program, each proved by a walk through its code; conditions stand in the statements. -/
import Derived.Test.YtfligklljkcbfaaGreatDoorStL16
namespace Go.Proofs.YtfligklljkcbfaaGreatDoor
set_option linter.unusedSimpArgs false
set_option linter.unusedVariables false
set_option linter.unusedSectionVars false
open Go Go.RowKit Go.Tw
set_option linter.unusedVariables false
set_option maxRecDepth 20000
structure CfgV where
  epoch : Int
  now : Int
  svcs : List SvcV
  snats : List SnatV
  sick : List Int
  leases : List Lease
deriving DecidableEq
structure ResV where
  err : Int
  lease : Lease
deriving DecidableEq
def noL : Lease := ⟨0, 0, 0, 0⟩
def okR : ResV := ⟨0, noL⟩
def errR (e : Int) : ResV := ⟨e, noL⟩
def cellsR (r : ResV) : List Value := [.int .i64 r.err, .int .u32 r.lease.vip, .int .i64 r.lease.first, .int .u32 r.lease.dip, .int .i64 r.lease.exp]
theorem cellsR_len (r : ResV) : (cellsR r).length = 5 := rfl
def thereS (C : CfgV) (s : SvcV) : Bool := hasK kV (kV s) C.svcs
def svcC (C : CfgV) (s : SvcV) : CfgV := if 0 < s.ends.length ∧ thereS C s = false ∧ 32 ≤ C.svcs.length then C else { C with svcs := putK kV C.svcs s (decide (s.ends.length = 0)) }
def svcR (C : CfgV) (s : SvcV) : ResV := if 0 < s.ends.length ∧ thereS C s = false ∧ 32 ≤ C.svcs.length then errR 5 else if s.ends.length = 0 ∧ thereS C s = false then errR 6 else okR
def snatC (C : CfgV) (x : SnatV) (up : Bool) : CfgV := { C with snats := putK kN C.snats x (!up) }
def snatR (C : CfgV) (x : SnatV) (up : Bool) : ResV := if up = false ∧ hasK kN (kN x) C.snats = false then errR 6 else okR
def sickC (C : CfgV) (d : Int) (up : Bool) : CfgV := { C with sick := putK kA C.sick d up }
def outF (ns : List SnatV) (dip : Int) : Option SnatV := ns.find? (fun s => decide (s.dip = dip))
def outV (ns : List SnatV) (dip : Int) : Int := ((outF ns dip).map (·.vip)).getD 0
def outB (ns : List SnatV) (dip : Int) : Bool := (outF ns dip).isSome
def lcmp (a b : Lease) : Int := orI [cmpI a.exp b.exp, cmpI a.first b.first]
def minFrom (m : Lease) : List Lease → Lease
  | [] => m
  | x :: r => minFrom (if lcmp x m < 0 then x else m) r
def minL : List Lease → Lease
  | [] => noL
  | x :: r => minFrom x r
def oldP (vip now : Int) (l : Lease) : Bool := decide (l.vip = vip) && decide (l.exp - now < 32)
def leaL (C : CfgV) : List Lease := C.leases.filter (pruneP C.now)
def oldL (C : CfgV) (vip dip : Int) : List Lease := ((leaL C).filter (ofP dip C.now)).filter (oldP vip C.now)
/-- the lease's answer: (error, lease, leases) -/
def lendE (C : CfgV) (vip dip : Int) : Int := if oldL C vip dip = [] then grE (leaL C) vip dip C.now else rnE (leaL C) vip (minL (oldL C vip dip)).first dip C.now
def lendL (C : CfgV) (vip dip : Int) : Lease := if oldL C vip dip = [] then grL (leaL C) vip dip C.now else rnL (leaL C) vip (minL (oldL C vip dip)).first dip C.now
def lendX (C : CfgV) (vip dip : Int) : List Lease := if oldL C vip dip = [] then grX (leaL C) vip dip C.now else rnX (leaL C) vip (minL (oldL C vip dip)).first dip C.now
def leaseC (C : CfgV) (dip : Int) : CfgV := if outB C.snats dip = false then C else { C with leases := if lendE C (outV C.snats dip) dip = 0 then lendX C (outV C.snats dip) dip else leaL C }
def leaseR (C : CfgV) (dip : Int) : ResV := if outB C.snats dip = false then errR 6 else ⟨lendE C (outV C.snats dip) dip, if lendE C (outV C.snats dip) dip = 0 then lendL C (outV C.snats dip) dip else noL⟩
def tickC (C : CfgV) (t : Int) : CfgV := { C with now := max C.now t }
def cntC (C : CfgV) : CfgV := { C with epoch := C.epoch + 1 }
def svcOf (c : CmdV) : SvcV := ⟨c.svip, c.sproto, c.sport, c.ends⟩
def applyC (C : CfgV) (c : CmdV) : CfgV :=
  if goodC c = false then cntC C else
  if c.kind = 1 then svcC (tickC (cntC C) c.time) (svcOf c) else
  if c.kind = 2 then snatC (tickC (cntC C) c.time) ⟨c.dip, c.vip⟩ c.up else
  if c.kind = 3 then sickC (tickC (cntC C) c.time) c.dip c.up else leaseC (tickC (cntC C) c.time) c.dip
def applyR (C : CfgV) (c : CmdV) : ResV :=
  if goodC c = false then errR 9 else
  if c.kind = 1 then svcR (tickC (cntC C) c.time) (svcOf c) else
  if c.kind = 2 then snatR (tickC (cntC C) c.time) ⟨c.dip, c.vip⟩ c.up else
  if c.kind = 3 then okR else leaseR (tickC (cntC C) c.time) c.dip
def zeroC : CfgV := ⟨0, 0, [], [], [], []⟩
def foldFrom (C : CfgV) : List CmdV → CfgV
  | [] => C
  | c :: r => foldFrom (applyC C c) r
def resFrom (C : CfgV) : List CmdV → List ResV
  | [] => []
  | c :: r => applyR C c :: resFrom (applyC C c) r
def foldC (cs : List CmdV) : CfgV := foldFrom zeroC cs
def resC (cs : List CmdV) : List ResV := resFrom zeroC cs
theorem foldFrom_app (C : CfgV) (a b : List CmdV) : foldFrom C (a ++ b) = foldFrom (foldFrom C a) b := by
  induction a generalizing C with
  | nil => rfl
  | cons x r ih => exact ih _
theorem resFrom_app (C : CfgV) (a b : List CmdV) : resFrom C (a ++ b) = resFrom C a ++ resFrom (foldFrom C a) b := by
  induction a generalizing C with
  | nil => rfl
  | cons x r ih => simp only [List.cons_append, resFrom, foldFrom, ih]
theorem resFrom_len (C : CfgV) (a : List CmdV) : (resFrom C a).length = a.length := by
  induction a generalizing C with
  | nil => rfl
  | cons x r ih => simp only [resFrom, List.length_cons, ih]
theorem foldC_snoc (a : List CmdV) (c : CmdV) : foldC (a ++ [c]) = applyC (foldC a) c := foldFrom_app _ _ _
theorem resC_snoc (a : List CmdV) (c : CmdV) : resC (a ++ [c]) = resC a ++ [applyR (foldC a) c] := resFrom_app _ _ _
theorem minFrom_step {xs : List Lease} {m x : Lease} {k : Nat} (hx : xs[k]? = some x) : minFrom m (xs.drop k) = minFrom (if lcmp x m < 0 then x else m) (xs.drop (k + 1)) := by
  obtain ⟨hk, rfl⟩ := List.getElem?_eq_some_iff.1 hx
  rw [List.drop_eq_getElem_cons hk]; rfl
theorem minL_drop {xs : List Lease} {x : Lease} (hx : xs[0]? = some x) : minL xs = minFrom x (xs.drop 1) := by
  cases xs with
  | nil => cases hx
  | cons a r => simp at hx; subst hx; rfl
theorem outF_hit {ns : List SnatV} {dip : Int} {i : Nat} {x : SnatV} (hx : ns[i]? = some x) (hd : x.dip = dip) (hno : ∀ y ∈ ns.take i, y.dip ≠ dip) : outF ns dip = some x := by
  unfold outF
  rw [List.find?_eq_some_iff_append]
  obtain ⟨hi, rfl⟩ := List.getElem?_eq_some_iff.1 hx
  refine ⟨decide_eq_true hd, ns.take i, ns.drop (i + 1), ?_, fun a ha => by simpa using hno a ha⟩
  rw [List.getElem_cons_drop, List.take_append_drop]
theorem outF_none {ns : List SnatV} {dip : Int} (hno : ∀ y ∈ ns, y.dip ≠ dip) : outF ns dip = none := by
  unfold outF
  rw [List.find?_eq_none]
  intro x hx; simpa using hno x hx
theorem take_no {ns : List SnatV} {dip : Int} {i : Nat} {x : SnatV} (hx : ns[i]? = some x) (hd : x.dip ≠ dip) (hno : ∀ y ∈ ns.take i, y.dip ≠ dip) : ∀ y ∈ ns.take (i + 1), y.dip ≠ dip := by
  obtain ⟨hi, rfl⟩ := List.getElem?_eq_some_iff.1 hx
  rw [List.take_succ_eq_append_getElem hi]
  intro y hy
  rcases List.mem_append.1 hy with h | h
  · exact hno y h
  · rw [List.mem_singleton] at h; subst h; exact hd
theorem filt_snoc {α : Type} (p : α → Bool) {xs : List α} {k : Nat} {x : α} (h : xs[k]? = some x) : (xs.take (k + 1)).filter p = (xs.take k).filter p ++ if p x then [x] else [] := by
  obtain ⟨hk, rfl⟩ := List.getElem?_eq_some_iff.1 h
  rw [List.take_succ_eq_append_getElem hk, List.filter_append]
  by_cases hp : p xs[k] <;> simp [hp]
/-! ### the configuration in memory -/
def svcB (s : Svc) : List Nat := blk (.slice s.a s.v.ends.length s.c)
structure svcAt (w : World) (s : Svc) : Prop where
  rd : Rd w 3 cellsE s.a s.v.ends
  wfe : ∀ e ∈ s.v.ends, wfE e
  vip : isU32 s.v.vip
  proto : isI64 s.v.proto
  port : isI64 s.v.port
  lim : s.v.ends.length ≤ 1099511627776
  cap : s.v.ends.length ≤ s.c
theorem svcAt.fr {w w' : World} {s : Svc} {G : List Nat} (h : svcAt w s) (hf : Fr w w' G) (hd : ∀ x ∈ svcB s, x ∉ G) : svcAt w' s :=
  ⟨h.rd.frN hf fun b off hA => hd b (by simp [svcB, blk, Value.ownBlock, hA]), h.wfe, h.vip, h.proto, h.port, h.lim, h.cap⟩
structure svcsIn (w : World) (R : List Nat) (xs : List Svc) : Prop where
  at_ : ∀ s ∈ xs, svcAt w s
  sub : ∀ s ∈ xs, ∀ x ∈ svcB s, x ∈ R
theorem svcsIn.fr {w w' : World} {R : List Nat} {xs : List Svc} {G : List Nat} (h : svcsIn w R xs) (hf : Fr w w' G) (hd : ∀ x ∈ R, x ∉ G) : svcsIn w' R xs :=
  ⟨fun s hs => (h.at_ s hs).fr hf fun x hx => hd x (h.sub s hs x hx), h.sub⟩
theorem svcsIn.nil (w : World) (R : List Nat) : svcsIn w R [] := ⟨fun _ h => (nomatch h), fun _ h => (nomatch h)⟩
theorem svcsIn.put {w : World} {R : List Nat} {xs : List Svc} {x : Svc} {out : Bool} (h : svcsIn w R xs) (hs : sortK kS xs) (hx : svcAt w x) : svcsIn w (R ++ svcB x) (putK kS xs x out) := by
  refine ⟨fun y hy => ?_, fun y hy z hz => ?_⟩
  · rcases (put_mem hs).1 hy with ⟨h1, _⟩ | ⟨_, rfl⟩
    · exact h.at_ y h1
    · exact hx
  · rcases (put_mem hs).1 hy with ⟨h1, _⟩ | ⟨_, rfl⟩
    · exact List.mem_append.2 (.inl (h.sub y h1 z hz))
    · exact List.mem_append.2 (.inr hz)
theorem hasK_map (k : K3) (xs : List Svc) : hasK kS k xs = hasK kV k (xs.map (·.v)) := by
  unfold hasK; rw [List.any_map]; rfl
theorem rankK_map (k : K3) (xs : List Svc) : rankK kS k xs = rankK kV k (xs.map (·.v)) := by
  unfold rankK
  rw [List.takeWhile_map, List.length_map]; rfl
theorem putK_map (xs : List Svc) (x : Svc) (out : Bool) : (putK kS xs x out).map (·.v) = putK kV (xs.map (·.v)) x.v out := by
  unfold putK
  rw [show kS x = kV x.v from rfl, hasK_map, rankK_map]
  split
  · split
    · rw [List.map_append, List.map_take, List.map_drop]
    · rw [List.map_set]
  · split
    · rfl
    · rw [List.map_append, List.map_cons, List.map_take, List.map_drop]
theorem sortK_map {xs : List Svc} (h : sortK kV (xs.map (·.v))) : sortK kS xs := by
  unfold sortK at *
  rw [List.pairwise_map] at h
  exact h
structure wfCfg (C : CfgV) (n : Nat) : Prop where
  ssort : sortK kV C.svcs
  nsort : sortK kN C.snats
  ksort : sortK kA C.sick
  lok : ∀ l ∈ C.leases, okL l
  nok : ∀ x ∈ C.snats, isU32 x.dip ∧ isU32 x.vip
  sn : C.svcs.length ≤ n
  nn : C.snats.length ≤ n
  kn : C.sick.length ≤ n
  ln : C.leases.length ≤ n
  ep0 : 0 ≤ C.epoch
  ep1 : C.epoch ≤ (n : Int)
  now0 : 0 ≤ C.now
  now1 : C.now ≤ 1099511627776
theorem result_nil  (w : World) : Calls Tryz.prog 58 #[.nilIface] w fun e w' => e = .returned (.agg #[I6 0, U4 0, I6 0, U4 0, I6 0]) ∧ Fr w w' [] := by
 refine enterD (n := 12) Tryz.func58 rfl rfl (Nat.le_of_ble_eq_true rfl) ?_
 intro Q0 hN hret hret'
 have hC := Cx.start w
 refine WCs (fun K1 hK2 => WCg (WLb hC (.cells #[I6 0, U4 0, I6 0, U4 0, I6 0] 52) 2 (fun g3 w4 hb7 hF5 hC6 => WLd rfl (QXn (hK2 _ _ (WCs (fun K8 hK9 => WCg ?_)))))))
 refine WLz 7 [(3, I6 0)] (WLd rfl (QXn (hK9 _ _ (WCs (fun ad ab => WCg (WLz 2 [(11, .agg #[I6 0, U4 0, I6 0, U4 0, I6 0])] (WLv (c' := #[I6 0, U4 0, I6 0, U4 0, I6 0]) hC6 0 52 g3 0 (.agg #[I6 0, U4 0, I6 0, U4 0, I6 0]) (fun ae ac aa => WLd rfl (QXn (ab _ _ ?_))))))))))
 refine WC.ret ?_
 refine (hret' _ _ (.agg #[I6 0, U4 0, I6 0, U4 0, I6 0]) (fun a ha => ?_) ?_).1
 ·
  exact res_run ha ((ResR.cell rfl (run_ld (aa.get 0 rfl) rfl) ResR.nil)) rfl
 exact ⟨rfl, aa.fr⟩

theorem result_err (c : Int) (w : World) : Calls Tryz.prog 58 #[.iface 118 (I6 c)] w fun e w' => e = .returned (.agg #[I6 c, U4 0, I6 0, U4 0, I6 0]) ∧ Fr w w' [] := by
 refine enterD (n := 12) Tryz.func58 rfl rfl (Nat.le_of_ble_eq_true rfl) ?_
 intro Q0 hN hret hret'
 have hC := Cx.start w
 refine WCs (fun K1 hK2 => WCg (WLb hC (.cells #[I6 0, U4 0, I6 0, U4 0, I6 0] 52) 2 (fun g3 w4 hb7 hF5 hC6 => WLd rfl (QXn (hK2 _ _ (WCs (fun K8 hK9 => WCg ?_)))))))
 refine WLz 7 [(3, I6 c)] (WLd rfl (QXn (hK9 _ _ (WCs (fun ad ab => WCg (WLz 2 [(11, .agg #[I6 c, U4 0, I6 0, U4 0, I6 0])] (WLv (c' := #[I6 c, U4 0, I6 0, U4 0, I6 0]) hC6 0 52 g3 0 (.agg #[I6 c, U4 0, I6 0, U4 0, I6 0]) (fun ae ac aa => WLd rfl (QXn (ab _ _ ?_))))))))))
 refine WC.ret ?_
 refine (hret' _ _ (.agg #[I6 c, U4 0, I6 0, U4 0, I6 0]) (fun a ha => ?_) ?_).1
 ·
  exact res_run ha ((ResR.cell rfl (run_ld (aa.get 0 rfl) rfl) ResR.nil)) rfl
 exact ⟨rfl, aa.fr⟩

theorem result_ct (c : Int) (w : World) : Calls Tryz.prog 58 #[errV 118 c] w fun e w' => e = .returned (.agg #[.int .i64 c, .int .u32 0, .int .i64 0, .int .u32 0, .int .i64 0]) ∧ Fr w w' [] := by
  unfold errV
  by_cases h : c = 0
  · subst h; exact result_nil w
  · rw [if_neg h]; exact result_err c w
theorem outIs_ct (s : SnatV) (b1 : Nat) (dip : Int) (w : World) (h1 : w.cell? ⟨b1, 0, none⟩ = some (U4 dip)) : Calls Tryz.prog 53 #[.agg #[U4 s.dip, U4 s.vip], P0 b1 0] w fun e w' => e = .returned (.bool (s.dip == dip)) ∧ Fr w w' [] := by
 refine enterD (n := 8) Tryz.func53 rfl rfl (Nat.le_of_ble_eq_true rfl) ?_
 intro Q0 hN hret hret'
 have hC := Cx.start w
 refine WCs (fun K1 hK2 => WCg (WLb hC (.cells #[U4 s.dip, U4 s.vip] 79) 2 (fun g3 w4 hb7 hF5 hC6 => WLq 1 [(3, .bool false)] (WLd rfl (QXn (hK2 _ _ (WCs (fun K8 hK9 => WCg (WLq 1 [(4, P0 g3 0)] ?_)))))))))
 refine WLo 40 (P0 g3 0) (U4 s.dip) 5 (run_ld (hC6.get 0 rfl) rfl) (WLo 40 (P0 b1 0) (U4 dip) 6 (run_load1 rfl (hC6.fr.cell (h1) (by simp))) (WLz 2 [(3, .bool (s.dip == dip))] (WLd rfl (QXn (hK9 _ _ (WC.ret ?_))))))
 refine (hret _ _ _ rfl ?_).1
 exact ⟨rfl, hC6.fr⟩

theorem outI_ct (A : Option Addr) (c : Nat) (ns : List SnatV) (b1 : Nat) (dip : Int) (w : World) (h1 : w.cell? ⟨b1, 0, none⟩ = some (U4 dip)) (hr : Rd w 2 cellsN A ns) (hl : ns.length ≤ 1099511627776) : Calls Tryz.prog 52 #[.slice A ns.length c, .func (.func 53) #[] #[P0 b1 0]] w fun e w' => ∃ r : Int, e = .returned (I6 r) ∧ Fr w w' [] ∧ ((r = -1 ∧ outF ns dip = none) ∨ ∃ (i : Nat) (x : SnatV), r = (i : Int) ∧ ns[i]? = some x ∧ outF ns dip = some x) := by
 refine enterD (n := 19) Tryz.func52 rfl rfl (Nat.le_of_ble_eq_true rfl) ?_
 intro Q0 hN hret hret'
 have hC := Cx.start w
 refine WCs (fun K1 hK2 => WCg (WLq 1 [(4, I6 0)] (WLd rfl (QXn (hK2 _ _ (WCs (fun K3 hK4 => WCs (fun K5 hK6 => WCg (WLz 3 [(8, I6 0), (7, I6 (ns.length : Int))] (WLd rfl (QXn (hK6 _ _ ?_))))))))))))
 refine WC.block (WC.loop (fun m_ E_ w_ => ∃ (i : Nat), m_ = ns.length - i ∧ E_ = [(0, .slice A ns.length c), (1, .func (.func 53) #[] #[P0 b1 0]), (7, I6 (ns.length : Int)), (8, I6 (i : Int))] ∧ Cx w [] w_ [] [] ∧ (i ≤ ns.length ∧ ∀ y ∈ ns.take i, y.dip ≠ dip)) ⟨_, _, ⟨0, rfl, rfl, hC, Nat.zero_le _, (fun _ h_ => by simp at h_)⟩, sub_of ⟨rfl, rfl, rfl, rfl, trivial⟩⟩ (fun m10 E_ ar K7 hK8 hI9 => ?_))
 obtain ⟨i, rfl, rfl, ab, hi, hno⟩ := hI9
 refine WCs (fun aw af => WCg (WLq 1 [(9, .bool (decide ((i : Int) < (ns.length : Int))))] (WLd rfl (QXn (af _ _ (WCs (fun ax ag => WCa 9 (decide ((i : Int) < (ns.length : Int))) rfl (fun ae => ?_) (fun ae => ?_))))))))
 ·
  have au : (i : Int) < (ns.length : Int) := by have q_ := of_decide_eq_true ae; omega
  refine WCt rfl (WC.skip (QXn (ag _ _ (WCs (fun ay aj => WC.block (WCs (fun az ak => ?_)))))))
  refine WCg (WLz 2 [(5, I6 (i : Int))] (WLd rfl (QXn (ak _ _ (WCs (fun aA al => WCg (WLq 3 [(13, I6 (i : Int)), (12, .slice A ns.length c), (11, .func (.func 53) #[] #[P0 b1 0])] ?_)))))))
  obtain ⟨ad, ac⟩ := get_some (xs := ns) (i := i) (by omega)
  obtain ⟨b26, o28, am, an⟩ := hr.at_ _ _ ac
  refine WLi A ns.length c 14 .i64 (i : Int) b26 o28 i 2 (by kernel_rfl) am (by omega) (by omega) (o28 + i * 2) (by first | (simp; done) | omega) (WLo 79 (P0 b26 (o28 + i * 2)) (.agg #[U4 ad.dip, U4 ad.vip]) 15 (run_rdN (l := [U4 ad.dip, U4 ad.vip]) rfl rfl (fun j u hu => by have hq_ := ab.fr.cell (an j u hu) (by simp); simpa [Nat.add_assoc] using hq_)) (WLk (outIs_ct ad b1 dip ar (ab.fr.cell h1 (by simp))) ?_))
  rintro _ aB ⟨rfl, ao⟩
  refine ⟨_, rfl, ?_⟩
  have ah := ab.call ao
  refine WLd rfl (QXn (al _ _ (WCa 16 (ad.dip == dip) rfl (fun aa => ?_) (fun aa => ?_))))
  ·
   have av : ad.dip = dip := by simpa using aa
   refine WCt rfl (WCs (fun aC ap => WCg (WLz 2 [(4, I6 (i : Int))] (WLd rfl (QXn (ap _ _ (WC.ret (QXk ?_))))))))
   refine QXr (QXr (QXk (QXr ?_)))
   refine (hret _ _ _ rfl ?_).1
   exact ⟨_, rfl, ah.fr, .inr ⟨i, _, rfl, ac, outF_hit ac (by simpa using aa) hno⟩⟩
  ·
   have av : ¬ (ad.dip = dip) := by simpa using aa
   refine WCf rfl (WC.skip (QXb (QXn (aj _ _ (WCg (WLq 1 [(18, I6 (IntKind.i64.wrap ((i : Int) + 1)))] (WLt (show (I6 (IntKind.i64.wrap ((i : Int) + 1)) : Value) = I6 ((i : Int) + 1) from by rw [wrap_in_i64 ((i : Int) + 1) (by omega) (by omega)]) (WLq 1 [(8, I6 ((i : Int) + 1))] ?_))))))))
   refine WLd rfl (QXn ?_)
   have aq := ah.pick [] [] rfl rfl
   refine fun a_ ha_ => hK8 _ _ _ ?_ ⟨i + 1, rfl, rfl, aq, by omega, take_no ac (by simpa using aa) hno⟩ a_ (ha_.weaken (sub_of ⟨rfl, rfl, rfl, rfl, trivial⟩))
   omega
 ·
  have au : (ns.length : Int) ≤ (i : Int) := by have q_ := of_decide_eq_false ae; omega
  refine WCf rfl (WC.exit (QXe (QXe (QX.block_hit (QXn (hK4 _ _ ?_))))))
  refine WCs (fun aD ai => WCg (WLq 1 [(4, I6 (-1))] (WLd rfl (QXn (ai _ _ (WC.ret ?_))))))
  refine (hret _ _ _ rfl ?_).1
  clear hN hret hret' ai ag af hK6 hK4 hK2
  rw [List.take_of_length_le (by omega)] at hno
  exact ⟨-1, rfl, ab.fr, .inl ⟨rfl, outF_none hno⟩⟩

theorem Outside_ct (ce cn : Int) (AS AK AL : Option Addr) (nS cS nK cK nL cL : Nat) (A : Option Addr) (c : Nat) (ns : List SnatV) (dip : Int) (w : World) (hr : Rd w 2 cellsN A ns) (hl : ns.length ≤ 1099511627776) : Calls Tryz.prog 24 #[.agg #[I6 ce, I6 cn, .slice AS nS cS, .slice A ns.length c, .slice AK nK cK, .slice AL nL cL], U4 dip] w fun e w' => e = .returned (.tuple #[U4 (outV ns dip), .bool (outB ns dip)]) ∧ Fr w w' [] := by
 refine enterD (n := 19) Tryz.func24 rfl rfl (Nat.le_of_ble_eq_true rfl) ?_
 intro Q0 hN hret hret'
 have hlx_ : ∀ {i_ : Nat} {x_ : SnatV}, ns[i_]? = some x_ → i_ < ns.length := fun h_ => (List.getElem?_eq_some_iff.1 h_).1
 have hC := Cx.start w
 refine WCs (fun K1 hK2 => WCg (WLb hC (.cells #[I6 ce, I6 cn, .slice AS nS cS, .slice A ns.length c, .slice AK nK cK, .slice AL nL cL] 31) 2 (fun g3 w4 hb7 hF5 hC6 => WLb hC6 (.cells #[U4 dip] 40) 3 (fun g8 w9 an ao aa => WLq 2 [(5, .bool false), (4, U4 0)] (WLd rfl (QXn (hK2 _ _ (WCs (fun aq ac => ?_)))))))))
 refine WCg (WLq 1 [(7, P0 g3 3)] (WLo 27 (P0 g3 3) (.slice A ns.length c) 8 (run_ld (aa.get 0 rfl) rfl) (WLq 1 [(9, .func (.func 53) #[] #[P0 g8 0])] (WLk (outI_ct A c ns g8 dip w9 (by rw [cell_blk (aa.get 1 rfl)]; rfl) (Rd.fr hr aa.fr) hl) ?_))))
 rintro _ ar ⟨r_, rfl, ah, hcase_⟩
 refine ⟨_, rfl, ?_⟩
 have ab := aa.call ah
 rcases hcase_ with ⟨rfl, hof_⟩ | ⟨i_, x_, rfl, hx_, hof_⟩
 ·
  refine WLq 1 [(6, I6 (-1))] (WLd rfl (QXn (ac _ _ (WCs (fun au ap => WCs (fun av ai => WCg (WLz 2 [(12, .bool true)] (WLd rfl (QXn (ai _ _ (WCt rfl ?_)))))))))))
  refine WCs (fun aw aj => WCg (WLq 2 [(5, .bool false), (4, U4 0)] (WLd rfl (QXn (aj _ _ (WC.ret (QXr ?_)))))))
  refine (hret _ _ _ rfl ?_).1
  exact ⟨by unfold outV outB; rw [hof_]; rfl, ab.fr⟩
 ·
  have hil_ := hlx_ hx_
  refine WLq 1 [(6, I6 (i_ : Int))] (WLd rfl (QXn (ac _ _ (WCs (fun ax ad => WCs (fun ay ae => WCg (WLz 2 [(12, .bool (decide ((i_ : Int) < 0)))] (WLd rfl (QXn (ae _ _ (WC.know 12 (.bool (decide ((i_ : Int) < 0))) (.bool false) rfl (congrArg Value.bool (by simp <;> omega)) ?_)))))))))))
  refine WCf rfl (WC.skip (QXn (ad _ _ (WCs (fun az af => WCg (WLq 1 [(13, P0 g3 3)] (WLo 27 (P0 g3 3) (.slice A ns.length c) 14 (run_ld (ab.get 0 rfl) rfl) (WLq 1 [(15, I6 (i_ : Int))] ?_))))))))
  obtain ⟨ak, ag⟩ := get_some (xs := ns) (i := i_) (by omega)
  obtain ⟨b32, o34, al, am⟩ := hr.at_ _ _ ag
  refine WLi A ns.length c 16 .i64 (i_ : Int) b32 o34 i_ 2 (by kernel_rfl) al (by omega) (by omega) (o34 + i_ * 2) (by first | (simp; done) | omega) (WLq 1 [(17, P0 b32 (o34 + i_ * 2 + 1))] (WLo 40 (P0 b32 (o34 + i_ * 2 + 1)) (U4 ak.vip) 18 (run_load1 rfl (by simpa [Nat.add_assoc] using ab.fr.cell (am 1 _ rfl) (by simp))) (WLq 2 [(5, .bool true), (4, U4 ak.vip)] (WLd rfl (QXn (af _ _ (WC.ret ?_)))))))
  refine (hret _ _ _ rfl ?_).1
  clear hN hret hret' af ae ad ac hK2
  have he_ : ak = x_ := by have q_ := ag; rw [hx_] at q_; exact (Option.some.inj q_).symm
  exact ⟨by unfold outV outB; rw [hof_, he_]; rfl, ab.fr⟩

theorem Outside_n (ce cn : Int) (AS AK AL : Option Addr) (nS cS nK cK nL cL : Nat) (A : Option Addr) (n c : Nat) (ns : List SnatV) (dip : Int) (w : World) (hr : Rd w 2 cellsN A ns) (hn : ns.length = n) (hl : n ≤ 1099511627776) : Calls Tryz.prog 24 #[.agg #[.int .i64 ce, .int .i64 cn, .slice AS nS cS, .slice A n c, .slice AK nK cK, .slice AL nL cL], .int .u32 dip] w fun e w' => e = .returned (.tuple #[.int .u32 (outV ns dip), .bool (outB ns dip)]) ∧ Fr w w' [] := by subst hn; exact Outside_ct ce cn AS AK AL nS cS nK cK nL cL A c ns dip w hr hl
theorem lcmp_ct (a b : Lease) (w : World) : Calls Tryz.prog 86 #[.agg #[U4 a.vip, I6 a.first, U4 a.dip, I6 a.exp], .agg #[U4 b.vip, I6 b.first, U4 b.dip, I6 b.exp]] w fun e w' => e = .returned (I6 (lcmp a b)) ∧ Fr w w' [] := by
 refine enterD (n := 17) Tryz.func86 rfl rfl (Nat.le_of_ble_eq_true rfl) ?_
 intro Q0 hN hret hret'
 have hC := Cx.start w
 refine WCs (fun K1 hK2 => WCg (WLb hC (.cells #[U4 a.vip, I6 a.first, U4 a.dip, I6 a.exp] 50) 2 (fun g3 w4 hb7 hF5 hC6 => WLb hC6 (.cells #[U4 b.vip, I6 b.first, U4 b.dip, I6 b.exp] 50) 3 (fun g8 w9 au av al => WLq 1 [(4, I6 0)] (WLd rfl (QXn (hK2 _ _ (WCs (fun aC am => ?_)))))))))
 refine WC.drawC al [] (by kernel_rfl) (fun aw ax ab aa => WDx 4 [(0, 5, P0 g3 3), (2, 7, P0 g8 3), (5, 10, P0 g3 1), (7, 12, P0 g8 1)] aa (WDm 1 3 (P0 g3 3) (I6 a.exp) 6 (fun _ hS_ => run_ld (Fr.has hS_ (ab.get 0 rfl) (by simp)) rfl) aa (WDm 3 3 (P0 g8 3) (I6 b.exp) 8 (fun _ hS_ => run_ld (Fr.has hS_ (ab.get 1 rfl) (by simp)) rfl) aa (WDm 6 3 (P0 g3 1) (I6 a.first) 11 (fun _ hS_ => run_ld (Fr.has hS_ (ab.get 0 rfl) (by simp)) rfl) aa (WDm 8 3 (P0 g8 1) (I6 b.first) 13 (fun _ hS_ => run_ld (Fr.has hS_ (ab.get 1 rfl) (by simp)) rfl) aa ?_)))))
 refine WDc 4 (compare_int a.exp b.exp aw) ?_
 rintro _ ay ⟨rfl, ac⟩
 have ad := aa.trans ac (by simp)
 refine ⟨_, rfl, ad, ?_⟩
 have an := ab.call ac
 refine WDc 9 (compare_int a.first b.first ay) ?_
 rintro _ aD ⟨rfl, ae⟩
 have af := ad.trans ae (by simp)
 refine ⟨_, rfl, af, ?_⟩
 have ao := an.call ae
 refine WD.new 10 (fun b => .slice (some ⟨b, 0, none⟩) 2 2) (.cells #[I6 (cmpI a.exp b.exp), I6 (cmpI a.first b.first)] 3) (by kernel_rfl) rfl rfl rfl rfl rfl (fun _ => by kernel_rfl) (fun az aA ap aB ag aq => ?_)
 have ah := ao.callB ag ap aq
 have ai := af.trans ag (by simp)
 refine ⟨ai, ?_⟩
 refine WDc 11 (or_int (some ⟨az, 0, none⟩) 2 [cmpI a.exp b.exp, cmpI a.first b.first] aA (Rd.blk (ah.get 2 rfl) (encI_len _) rfl) (by simp)) ?_
 rintro _ aE ⟨rfl, aj⟩
 have ak := ai.trans aj (by simp)
 refine ⟨_, rfl, ak, ?_⟩
 have ar := ah.call aj
 refine WDq 12 4 (I6 (orI [cmpI a.exp b.exp, cmpI a.first b.first])) ak (WDd (QXn (am _ _ (WC.ret ?_))))
 refine (hret _ _ _ rfl ?_).1
 exact ⟨rfl, ar.fr⟩

theorem Min_ct (A : Option Addr) (c : Nat) (xs : List Lease) (w : World) (hr : Rd w 4 encL A xs) (hl : xs.length ≤ 1099511627776) (h0 : 1 ≤ xs.length) : Calls Tryz.prog 85 #[.slice A xs.length c, .func (.func 86) #[] #[]] w fun e w' => e = .returned (.agg #[U4 ((minL xs).vip), I6 ((minL xs).first), U4 ((minL xs).dip), I6 ((minL xs).exp)]) ∧ Fr w w' [] := by
 refine enterD (n := 33) Tryz.func85 rfl rfl (Nat.le_of_ble_eq_true rfl) ?_
 intro Q0 hN hret hret'
 have hC := Cx.start w
 refine WCs (fun K1 hK2 => WCg (WLb hC (.cells #[U4 0, I6 0, U4 0, I6 0] 50) 4 (fun g3 w4 hb7 hF5 hC6 => WLd rfl (QXn (hK2 _ _ (WCs (fun K8 hK9 => WCs (fun aT ak => ?_))))))))
 refine WCg (WLz 3 [(9, .bool (decide ((xs.length : Int) < 1)))] (WLd rfl (QXn (ak _ _ (WC.know 9 (.bool (decide ((xs.length : Int) < 1))) (.bool false) rfl (congrArg Value.bool (by simp; omega)) (WCf rfl (WC.skip (QXn (hK9 _ _ (WCs (fun aU al => WCg (WLq 1 [(11, .slice A xs.length c)] ?_))))))))))))
 obtain ⟨ab, am⟩ := get_some (xs := xs) (i := 0) (by omega)
 obtain ⟨b16, o18, aB, aC⟩ := hr.at_ _ _ am
 refine WLi A xs.length c 12 .i64 0 b16 o18 0 4 (by kernel_rfl) aB (by omega) (by omega) (o18 + 0 * 4) (by first | (simp; done) | omega) (WLo 50 (P0 b16 (o18 + 0 * 4)) (.agg #[U4 ab.vip, I6 ab.first, U4 ab.dip, I6 ab.exp]) 13 (run_rdN (l := [U4 ab.vip, I6 ab.first, U4 ab.dip, I6 ab.exp]) rfl rfl (fun j u hu => by have hq_ := hC6.fr.cell (aC j u hu) (by simp); simpa [Nat.add_assoc] using hq_)) (WLb hC6 (.cells #[U4 0, I6 0, U4 0, I6 0] 50) 5 (fun aj aV aK aL aD => WLv (c' := #[U4 ab.vip, I6 ab.first, U4 ab.dip, I6 ab.exp]) aD 1 50 aj 0 (.agg #[U4 ab.vip, I6 ab.first, U4 ab.dip, I6 ab.exp]) (fun aW aM aE => WLd rfl (QXn (al _ _ (WCs (fun aX an => ?_))))))))
 refine WCs (fun aY ao => WCg (WLq 1 [(6, I6 1)] (WLd rfl (QXn (ao _ _ (WC.block ?_))))))
 have hm0_ := minL_drop am
 refine WC.loop (fun m_ E_ w_ => ∃ (k : Nat) (m0 : Lease), m_ = xs.length - k ∧ E_ = [(0, .slice A xs.length c), (1, .func (.func 86) #[] #[]), (4, P0 g3 0), (5, P0 aj 0), (6, I6 (k : Int))] ∧ Cx w [] w_ [(g3, .cells #[U4 0, I6 0, U4 0, I6 0] 50), (aj, .cells #[U4 m0.vip, I6 m0.first, U4 m0.dip, I6 m0.exp] 50)] [] ∧ (1 ≤ k ∧ k ≤ xs.length ∧ minL xs = minFrom m0 (xs.drop k))) ⟨_, _, ⟨1, ab, rfl, rfl, aE, Nat.le_refl _, by omega, hm0_⟩, sub_of ⟨rfl, rfl, rfl, rfl, rfl, trivial⟩⟩ (fun m36 E_ aZ a0 ap aF => ?_)
 obtain ⟨k, m0, rfl, rfl, ae, hk1, hk, hmin⟩ := aF
 refine WCs (fun a1 aq => WCs (fun a2 ar => WCg (WLz 4 [(17, .bool (decide ((k : Int) < (xs.length : Int))))] (WLd rfl (QXn (ar _ _ (WCa 17 (decide ((k : Int) < (xs.length : Int))) rfl (fun af => ?_) (fun af => ?_))))))))
 ·
  have aN : (k : Int) < (xs.length : Int) := by have q_ := of_decide_eq_true af; omega
  refine WCt rfl (WC.skip (QXn (aq _ _ (WCs (fun a3 au => WC.block (WCs (fun a4 aG => ?_)))))))
  refine WC.drawC ae [] (by kernel_rfl) (fun aO aP ag ac => WDx 3 [(0, 20, .func (.func 86) #[] #[]), (1, 21, .slice A xs.length c), (2, 22, I6 (k : Int))] ac ?_)
  obtain ⟨aa, ah⟩ := get_some (xs := xs) (i := k) (by omega)
  obtain ⟨b54, o56, av, aw⟩ := hr.at_ _ _ ah
  refine WDi (NPt (NPb (NPt (NPt (NPb (NPt hN)))))) 3 A xs.length c 23 .i64 (k : Int) b54 o56 k 4 (by kernel_rfl) (by kernel_rfl) av (by omega) (by omega) (o56 + k * 4) (by first | (simp; done) | omega) ac (WDm 4 50 (P0 b54 (o56 + k * 4)) (.agg #[U4 aa.vip, I6 aa.first, U4 aa.dip, I6 aa.exp]) 24 (fun _ hS_ => run_rdN (l := [U4 aa.vip, I6 aa.first, U4 aa.dip, I6 aa.exp]) rfl rfl (fun j u hu => by have hq_ := Fr.cell hS_ (ag.fr.cell (aw j u hu) (by simp)) (by simp); simpa [Nat.add_assoc] using hq_)) ac (WDm 5 50 (P0 aj 0) (.agg #[U4 m0.vip, I6 m0.first, U4 m0.dip, I6 m0.exp]) 25 (fun _ hS_ => run_ld (Fr.has hS_ (ag.get 1 rfl) (by simp)) rfl) ac (WDc 6 (lcmp_ct aa m0 aO) ?_)))
  rintro _ a5 ⟨rfl, ax⟩
  have ay := ac.trans ax (by simp)
  refine ⟨_, rfl, ay, ?_⟩
  have ai := ag.call ax
  refine WDq 7 27 (.bool (decide ((lcmp aa m0) < 0))) ay (WDd (QXn (aG _ _ (WCa 27 (decide ((lcmp aa m0) < 0)) rfl (fun ad => ?_) (fun ad => ?_)))))
  ·
   have aQ : (lcmp aa m0) < 0 := by have q_ := of_decide_eq_true ad; omega
   refine WCt rfl (WCg (WLq 2 [(29, I6 (k : Int)), (28, .slice A xs.length c)] (WLi A xs.length c 30 .i64 (k : Int) b54 o56 k 4 (by kernel_rfl) av (by omega) (by omega) (o56 + k * 4) (by first | (simp; done) | omega) (WLo 50 (P0 b54 (o56 + k * 4)) (.agg #[U4 aa.vip, I6 aa.first, U4 aa.dip, I6 aa.exp]) 31 (run_rdN (l := [U4 aa.vip, I6 aa.first, U4 aa.dip, I6 aa.exp]) rfl rfl (fun j u hu => by have hq_ := ai.fr.cell (aw j u hu) (by simp); simpa [Nat.add_assoc] using hq_)) (WLv (c' := #[U4 aa.vip, I6 aa.first, U4 aa.dip, I6 aa.exp]) ai 1 50 aj 0 (.agg #[U4 aa.vip, I6 aa.first, U4 aa.dip, I6 aa.exp]) (fun a6 aR aH => WLd rfl ?_))))))
   refine QXb (QXn (au _ _ (WCg (WLz 2 [(19, I6 (IntKind.i64.wrap ((k : Int) + 1)))] (WLt (show (I6 (IntKind.i64.wrap ((k : Int) + 1)) : Value) = I6 ((k : Int) + 1) from by rw [wrap_in_i64 ((k : Int) + 1) (by omega) (by omega)]) (WLq 1 [(6, I6 ((k : Int) + 1))] ?_))))))
   refine WLd rfl (QXn ?_)
   have aI := aH.pick [0, 1] [] rfl rfl
   refine fun a_ ha_ => ap _ _ _ ?_ ⟨k + 1, aa, rfl, rfl, aI, by omega, by omega, by rw [hmin, minFrom_step ah, if_pos (by simpa using ad)]⟩ a_ (ha_.weaken (sub_of ⟨rfl, rfl, rfl, rfl, rfl, trivial⟩))
   omega
  ·
   have aQ : (0 : Int) ≤ (lcmp aa m0) := by have q_ := of_decide_eq_false ad; omega
   refine WCf rfl (WC.skip (QXb (QXn (au _ _ (WCg (WLz 2 [(19, I6 (IntKind.i64.wrap ((k : Int) + 1)))] (WLt (show (I6 (IntKind.i64.wrap ((k : Int) + 1)) : Value) = I6 ((k : Int) + 1) from by rw [wrap_in_i64 ((k : Int) + 1) (by omega) (by omega)]) ?_)))))))
   refine WLq 1 [(6, I6 ((k : Int) + 1))] (WLd rfl (QXn ?_))
   have aJ := ai.pick [0, 1] [] rfl rfl
   refine fun a_ ha_ => ap _ _ _ ?_ ⟨k + 1, m0, rfl, rfl, aJ, by omega, by omega, by rw [hmin, minFrom_step ah, if_neg (by simpa using ad)]⟩ a_ (ha_.weaken (sub_of ⟨rfl, rfl, rfl, rfl, rfl, trivial⟩))
   omega
 ·
  have aN : (xs.length : Int) ≤ (k : Int) := by have q_ := of_decide_eq_false af; omega
  refine WCf rfl (WC.exit (QXe (QXe (QX.block_hit (QXn (an _ _ ?_))))))
  refine WCs (fun a7 az => WCg (WLo 50 (P0 aj 0) (.agg #[U4 m0.vip, I6 m0.first, U4 m0.dip, I6 m0.exp]) 32 (run_ld (ae.get 1 rfl) rfl) (WLv (c' := #[U4 m0.vip, I6 m0.first, U4 m0.dip, I6 m0.exp]) ae 0 50 g3 0 (.agg #[U4 m0.vip, I6 m0.first, U4 m0.dip, I6 m0.exp]) (fun a8 aS aA => WLd rfl (QXn (az _ _ (WC.ret ?_)))))))
  refine (hret' _ _ (.agg #[U4 m0.vip, I6 m0.first, U4 m0.dip, I6 m0.exp]) (fun a ha => ?_) ?_).1
  ·
   exact res_run ha ((ResR.cell rfl (run_ld (aA.get 0 rfl) rfl) ResR.nil)) rfl
  clear hN hret hret' az ar aq ao an al ak hK9 hK2
  rw [List.drop_of_length_le (by omega)] at hmin
  exact ⟨by rw [hmin]; rfl, aA.fr⟩

theorem Min_n (A : Option Addr) (n c : Nat) (xs : List Lease) (w : World) (hr : Rd w 4 encL A xs) (hn : xs.length = n) (hl : n ≤ 1099511627776) (h0 : 1 ≤ n) : Calls Tryz.prog 85 #[.slice A n c, .func (.func 86) #[] #[]] w fun e w' => e = .returned (.agg #[.int .u32 ((minL xs).vip), .int .i64 ((minL xs).first), .int .u32 ((minL xs).dip), .int .i64 ((minL xs).exp)]) ∧ Fr w w' [] := by subst hn; exact Min_ct A c xs w hr hl h0
theorem blk_in2 {A : Option Addr} {n c n' c' x : Nat} (h : x ∈ blk (.slice A n c)) : x ∈ blk (.slice A n' c') := by cases A <;> exact h
theorem CloneE_ct (A : Option Addr) (c : Nat) (xs : List EndV) (w : World) (hr : Rd w 3 cellsE A xs) (hl : xs.length ≤ 1099511627776) : Calls Tryz.prog 49 #[.slice A xs.length c] w fun e w' => ∃ (A2 : Option Addr) (c2 : Nat), e = .returned (.slice A2 xs.length c2) ∧ Fr w w' [] ∧ w'.ownsRow w.heap.size 47 3 (.slice A2 xs.length c2) xs.length (xs.flatMap cellsE) := by
 refine enterD (n := 8) Tryz.func49 rfl rfl (Nat.le_of_ble_eq_true rfl) ?_
 intro Q0 hN hret hret'
 have hC := Cx.start w
 refine WCs (fun K1 hK2 => WCg (WLq 1 [(2, .slice none 0 0)] (WLd rfl (QXn (hK2 _ _ (WCs (fun K3 hK4 => WCs (fun K5 hK6 => WCg (WLq 1 [(3, .slice A xs.length c)] ?_)))))))))
 have hr7 : ∀ w_, Sem.run Tryz.prog (do eqGuard .eql 41 (Operand.tmp 3) (Operand.const (.slice none 0 0)) (.slice A xs.length c) (.slice none 0 0); binOp .eql 41 (.slice A xs.length c) (.slice none 0 0)) w_ = .ok (.bool (Option.isNone A)) w_ := fun w_ => (by cases (A : Option Addr) <;> kernel_rfl)
 refine WL.sem (do eqGuard .eql 41 (Operand.tmp 3) (Operand.const (.slice none 0 0)) (.slice A xs.length c) (.slice none 0 0); binOp .eql 41 (.slice A xs.length c) (.slice none 0 0)) 4 (.bool (Option.isNone A)) (by kernel_rfl) (hr7 _) (WLd rfl (QXn (hK6 _ _ (WCa 4 (Option.isNone A) rfl (fun t8b => ?_) (fun t8b => ?_)))))
 ·
  refine WCt rfl (WCs (fun K9 aa => WCg (WLq 1 [(2, .slice none 0 0)] (WLd rfl (QXn (aa _ _ (WC.ret (QXr ?_))))))))
  refine (hret _ _ _ rfl ?_).1
  clear hN hret hret' aa hK6 hK4 hK2
  have hA_ : A = none := by simpa using t8b
  subst hA_
  obtain rfl := Rd.of_none hr
  exact ⟨none, 0, rfl, hC.fr, own_nil _ _ _ _⟩
 ·
  refine WCf rfl (WC.skip (QXn (hK4 _ _ (WCs (fun av ab => WCg (WL.newM hC (fun b => .slice (some ⟨b, 0, none⟩) 0 0) (.cells #[] 47) 5 (fun _ => by kernel_rfl) (fun ag ap aq ar ac => WLq 1 [(6, .slice A xs.length c)] ?_)))))))
  have ah : World.ownsRow ap 0 47 3 (.slice (some ⟨ag, 0, none⟩) 0 0) 0 [] := own_of_blk (Nat.zero_le _) (ac.get 0 rfl) (Nat.le_refl _) (Nat.zero_le _) (by simp) rfl
  have ad := ac.toF 0 rfl
  obtain ⟨aw, ax, ai, aj, au, ae, ak, al⟩ := app_run Tryz.prog ad 0 (v := .slice (some ⟨ag, 0, none⟩) 0 0) rfl 41 41 47 3 24 0 xs.length c A rfl ah (xs.flatMap cellsE) (flat_len_n cellsE_len (by first | rfl | assumption | (simp; done) | (simp; omega))) (Rd.src_n (Rd.fr hr ad.fr) cellsE_len (by decide) (by first | rfl | assumption | (simp; done) | (simp; omega))) (flat_one cellsE_one _) (by simp only [maxLen]; omega) (by omega)
  have af := own_app (enc := cellsE) (ys := []) (zs := xs) aj
  obtain ⟨am, an, rfl, ao⟩ := own_form af
  refine WLS 7 ai (WLq 1 [(2, .slice am (0 + xs.length) an)] (WLd rfl (QXn (ab _ _ (WC.ret ?_)))))
  refine (hret _ _ _ rfl ?_).1
  clear hN hret hret' ab hK6 hK4 hK2
  have ho_ := af
  rw [show (0 + xs.length : Nat) = xs.length from by omega, show ([] : List EndV) ++ xs = xs from rfl] at ho_
  exact ⟨am, an, by show Ending.returned (.slice _ (0 + xs.length) _) = _; rw [Nat.zero_add], ae.fr, own_base ho_ (fun x_ hx_ => newF_of ae 0 rfl (fun _ h_ => nomatch h_) (fun _ h_ => nomatch h_) x_ (blk_in2 hx_))⟩

theorem CloneE_n (A : Option Addr) (n c : Nat) (xs : List EndV) (w : World) (hr : Rd w 3 cellsE A xs) (hn : xs.length = n) (hl : n ≤ 1099511627776) : Calls Tryz.prog 49 #[.slice A n c] w fun e w' => ∃ (A2 : Option Addr) (c2 : Nat), e = .returned (.slice A2 xs.length c2) ∧ Fr w w' [] ∧ w'.ownsRow w.heap.size 47 3 (.slice A2 xs.length c2) xs.length (xs.flatMap cellsE) := by subst hn; exact CloneE_ct A c xs w hr hl
end Go.Proofs.YtfligklljkcbfaaGreatDoor
