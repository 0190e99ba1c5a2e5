/- Contracts of functions of the program, each proved by a walk through its code; conditions stand in the statements. -/
import Derived.Test.YtfligklljkcbfaaDoorStL16
namespace Go.Proofs.YtfligklljkcbfaaDoor
set_option linter.unusedSimpArgs false
set_option linter.unusedVariables false
set_option linter.unusedSectionVars false
open Go Go.RowKit Go.Tw
set_option linter.unusedVariables false
set_option maxRecDepth 20000
structure CfgV where
  epoch : Int
  now : Int
  svcs : List SvcV
  snats : List SnatV
  sick : List Int
  leases : List Lease
deriving DecidableEq
structure ResV where
  err : Int
  lease : Lease
deriving DecidableEq
def noL : Lease := ⟨0, 0, 0, 0⟩
def okR : ResV := ⟨0, noL⟩
def errR (e : Int) : ResV := ⟨e, noL⟩
def cellsR (r : ResV) : List Value := [.int .i64 r.err, .int .u32 r.lease.vip, .int .i64 r.lease.first, .int .u32 r.lease.dip, .int .i64 r.lease.exp]
theorem cellsR_len (r : ResV) : (cellsR r).length = 5 := rfl
def thereS (C : CfgV) (s : SvcV) : Bool := hasK kV (kV s) C.svcs
def svcC (C : CfgV) (s : SvcV) : CfgV := if 0 < s.ends.length ∧ thereS C s = false ∧ 32 ≤ C.svcs.length then C else { C with svcs := putK kV C.svcs s (decide (s.ends.length = 0)) }
def svcR (C : CfgV) (s : SvcV) : ResV := if 0 < s.ends.length ∧ thereS C s = false ∧ 32 ≤ C.svcs.length then errR 5 else if s.ends.length = 0 ∧ thereS C s = false then errR 6 else okR
def snatC (C : CfgV) (x : SnatV) (up : Bool) : CfgV := { C with snats := putK kN C.snats x (!up) }
def snatR (C : CfgV) (x : SnatV) (up : Bool) : ResV := if up = false ∧ hasK kN (kN x) C.snats = false then errR 6 else okR
def sickC (C : CfgV) (d : Int) (up : Bool) : CfgV := { C with sick := putK kA C.sick d up }
def outF (ns : List SnatV) (dip : Int) : Option SnatV := ns.find? (fun s => decide (s.dip = dip))
def outV (ns : List SnatV) (dip : Int) : Int := ((outF ns dip).map (·.vip)).getD 0
def outB (ns : List SnatV) (dip : Int) : Bool := (outF ns dip).isSome
def lcmp (a b : Lease) : Int := orI [cmpI a.exp b.exp, cmpI a.first b.first]
def minFrom (m : Lease) : List Lease → Lease
  | [] => m
  | x :: r => minFrom (if lcmp x m < 0 then x else m) r
def minL : List Lease → Lease
  | [] => noL
  | x :: r => minFrom x r
def oldP (vip now : Int) (l : Lease) : Bool := decide (l.vip = vip) && decide (l.exp - now < 32)
def leaL (C : CfgV) : List Lease := C.leases.filter (pruneP C.now)
def oldL (C : CfgV) (vip dip : Int) : List Lease := ((leaL C).filter (ofP dip C.now)).filter (oldP vip C.now)
/-- the lease's answer: (error, lease, leases) -/
def lendE (C : CfgV) (vip dip : Int) : Int := if oldL C vip dip = [] then grE (leaL C) vip dip C.now else rnE (leaL C) vip (minL (oldL C vip dip)).first dip C.now
def lendL (C : CfgV) (vip dip : Int) : Lease := if oldL C vip dip = [] then grL (leaL C) vip dip C.now else rnL (leaL C) vip (minL (oldL C vip dip)).first dip C.now
def lendX (C : CfgV) (vip dip : Int) : List Lease := if oldL C vip dip = [] then grX (leaL C) vip dip C.now else rnX (leaL C) vip (minL (oldL C vip dip)).first dip C.now
def leaseC (C : CfgV) (dip : Int) : CfgV := if outB C.snats dip = false then C else { C with leases := if lendE C (outV C.snats dip) dip = 0 then lendX C (outV C.snats dip) dip else leaL C }
def leaseR (C : CfgV) (dip : Int) : ResV := if outB C.snats dip = false then errR 6 else ⟨lendE C (outV C.snats dip) dip, if lendE C (outV C.snats dip) dip = 0 then lendL C (outV C.snats dip) dip else noL⟩
def tickC (C : CfgV) (t : Int) : CfgV := { C with now := max C.now t }
def cntC (C : CfgV) : CfgV := { C with epoch := C.epoch + 1 }
def svcOf (c : CmdV) : SvcV := ⟨c.svip, c.sproto, c.sport, c.ends⟩
def applyC (C : CfgV) (c : CmdV) : CfgV :=
  if goodC c = false then cntC C else
  if c.kind = 1 then svcC (tickC (cntC C) c.time) (svcOf c) else
  if c.kind = 2 then snatC (tickC (cntC C) c.time) ⟨c.dip, c.vip⟩ c.up else
  if c.kind = 3 then sickC (tickC (cntC C) c.time) c.dip c.up else leaseC (tickC (cntC C) c.time) c.dip
def applyR (C : CfgV) (c : CmdV) : ResV :=
  if goodC c = false then errR 9 else
  if c.kind = 1 then svcR (tickC (cntC C) c.time) (svcOf c) else
  if c.kind = 2 then snatR (tickC (cntC C) c.time) ⟨c.dip, c.vip⟩ c.up else
  if c.kind = 3 then okR else leaseR (tickC (cntC C) c.time) c.dip
def zeroC : CfgV := ⟨0, 0, [], [], [], []⟩
def foldFrom (C : CfgV) : List CmdV → CfgV
  | [] => C
  | c :: r => foldFrom (applyC C c) r
def resFrom (C : CfgV) : List CmdV → List ResV
  | [] => []
  | c :: r => applyR C c :: resFrom (applyC C c) r
def foldC (cs : List CmdV) : CfgV := foldFrom zeroC cs
def resC (cs : List CmdV) : List ResV := resFrom zeroC cs
theorem foldFrom_app (C : CfgV) (a b : List CmdV) : foldFrom C (a ++ b) = foldFrom (foldFrom C a) b := by
  induction a generalizing C with
  | nil => rfl
  | cons x r ih => exact ih _
theorem resFrom_app (C : CfgV) (a b : List CmdV) : resFrom C (a ++ b) = resFrom C a ++ resFrom (foldFrom C a) b := by
  induction a generalizing C with
  | nil => rfl
  | cons x r ih => simp only [List.cons_append, resFrom, foldFrom, ih]
theorem resFrom_len (C : CfgV) (a : List CmdV) : (resFrom C a).length = a.length := by
  induction a generalizing C with
  | nil => rfl
  | cons x r ih => simp only [resFrom, List.length_cons, ih]
theorem foldC_snoc (a : List CmdV) (c : CmdV) : foldC (a ++ [c]) = applyC (foldC a) c := foldFrom_app _ _ _
theorem resC_snoc (a : List CmdV) (c : CmdV) : resC (a ++ [c]) = resC a ++ [applyR (foldC a) c] := resFrom_app _ _ _
theorem minFrom_step {xs : List Lease} {m x : Lease} {k : Nat} (hx : xs[k]? = some x) : minFrom m (xs.drop k) = minFrom (if lcmp x m < 0 then x else m) (xs.drop (k + 1)) := by
  obtain ⟨hk, rfl⟩ := List.getElem?_eq_some_iff.1 hx
  rw [List.drop_eq_getElem_cons hk]; rfl
theorem minL_drop {xs : List Lease} {x : Lease} (hx : xs[0]? = some x) : minL xs = minFrom x (xs.drop 1) := by
  cases xs with
  | nil => cases hx
  | cons a r => simp at hx; subst hx; rfl
theorem outF_hit {ns : List SnatV} {dip : Int} {i : Nat} {x : SnatV} (hx : ns[i]? = some x) (hd : x.dip = dip) (hno : ∀ y ∈ ns.take i, y.dip ≠ dip) : outF ns dip = some x := by
  unfold outF
  rw [List.find?_eq_some_iff_append]
  obtain ⟨hi, rfl⟩ := List.getElem?_eq_some_iff.1 hx
  refine ⟨decide_eq_true hd, ns.take i, ns.drop (i + 1), ?_, fun a ha => by simpa using hno a ha⟩
  rw [List.getElem_cons_drop, List.take_append_drop]
theorem outF_none {ns : List SnatV} {dip : Int} (hno : ∀ y ∈ ns, y.dip ≠ dip) : outF ns dip = none := by
  unfold outF
  rw [List.find?_eq_none]
  intro x hx; simpa using hno x hx
theorem take_no {ns : List SnatV} {dip : Int} {i : Nat} {x : SnatV} (hx : ns[i]? = some x) (hd : x.dip ≠ dip) (hno : ∀ y ∈ ns.take i, y.dip ≠ dip) : ∀ y ∈ ns.take (i + 1), y.dip ≠ dip := by
  obtain ⟨hi, rfl⟩ := List.getElem?_eq_some_iff.1 hx
  rw [List.take_succ_eq_append_getElem hi]
  intro y hy
  rcases List.mem_append.1 hy with h | h
  · exact hno y h
  · rw [List.mem_singleton] at h; subst h; exact hd
theorem filt_snoc {α : Type} (p : α → Bool) {xs : List α} {k : Nat} {x : α} (h : xs[k]? = some x) : (xs.take (k + 1)).filter p = (xs.take k).filter p ++ if p x then [x] else [] := by
  obtain ⟨hk, rfl⟩ := List.getElem?_eq_some_iff.1 h
  rw [List.take_succ_eq_append_getElem hk, List.filter_append]
  by_cases hp : p xs[k] <;> simp [hp]
/-! ### the configuration in memory -/
def svcB (s : Svc) : List Nat := blk (.slice s.a s.v.ends.length s.c)
structure svcAt (w : World) (s : Svc) : Prop where
  rd : Rd w 3 cellsE s.a s.v.ends
  wfe : ∀ e ∈ s.v.ends, wfE e
  vip : isU32 s.v.vip
  proto : isI64 s.v.proto
  port : isI64 s.v.port
  lim : s.v.ends.length ≤ 1099511627776
  cap : s.v.ends.length ≤ s.c
theorem svcAt.fr {w w' : World} {s : Svc} {G : List Nat} (h : svcAt w s) (hf : Fr w w' G) (hd : ∀ x ∈ svcB s, x ∉ G) : svcAt w' s :=
  ⟨h.rd.frN hf fun b off hA => hd b (by simp [svcB, blk, Value.ownBlock, hA]), h.wfe, h.vip, h.proto, h.port, h.lim, h.cap⟩
structure svcsIn (w : World) (R : List Nat) (xs : List Svc) : Prop where
  at_ : ∀ s ∈ xs, svcAt w s
  sub : ∀ s ∈ xs, ∀ x ∈ svcB s, x ∈ R
theorem svcsIn.fr {w w' : World} {R : List Nat} {xs : List Svc} {G : List Nat} (h : svcsIn w R xs) (hf : Fr w w' G) (hd : ∀ x ∈ R, x ∉ G) : svcsIn w' R xs :=
  ⟨fun s hs => (h.at_ s hs).fr hf fun x hx => hd x (h.sub s hs x hx), h.sub⟩
theorem svcsIn.nil (w : World) (R : List Nat) : svcsIn w R [] := ⟨fun _ h => (nomatch h), fun _ h => (nomatch h)⟩
theorem svcsIn.put {w : World} {R : List Nat} {xs : List Svc} {x : Svc} {out : Bool} (h : svcsIn w R xs) (hs : sortK kS xs) (hx : svcAt w x) : svcsIn w (R ++ svcB x) (putK kS xs x out) := by
  refine ⟨fun y hy => ?_, fun y hy z hz => ?_⟩
  · rcases (put_mem hs).1 hy with ⟨h1, _⟩ | ⟨_, rfl⟩
    · exact h.at_ y h1
    · exact hx
  · rcases (put_mem hs).1 hy with ⟨h1, _⟩ | ⟨_, rfl⟩
    · exact List.mem_append.2 (.inl (h.sub y h1 z hz))
    · exact List.mem_append.2 (.inr hz)
theorem hasK_map (k : K3) (xs : List Svc) : hasK kS k xs = hasK kV k (xs.map (·.v)) := by
  unfold hasK; rw [List.any_map]; rfl
theorem rankK_map (k : K3) (xs : List Svc) : rankK kS k xs = rankK kV k (xs.map (·.v)) := by
  unfold rankK
  rw [List.takeWhile_map, List.length_map]; rfl
theorem putK_map (xs : List Svc) (x : Svc) (out : Bool) : (putK kS xs x out).map (·.v) = putK kV (xs.map (·.v)) x.v out := by
  unfold putK
  rw [show kS x = kV x.v from rfl, hasK_map, rankK_map]
  split
  · split
    · rw [List.map_append, List.map_take, List.map_drop]
    · rw [List.map_set]
  · split
    · rfl
    · rw [List.map_append, List.map_cons, List.map_take, List.map_drop]
theorem sortK_map {xs : List Svc} (h : sortK kV (xs.map (·.v))) : sortK kS xs := by
  unfold sortK at *
  rw [List.pairwise_map] at h
  exact h
structure wfCfg (C : CfgV) (n : Nat) : Prop where
  ssort : sortK kV C.svcs
  nsort : sortK kN C.snats
  ksort : sortK kA C.sick
  lok : ∀ l ∈ C.leases, okL l
  nok : ∀ x ∈ C.snats, isU32 x.dip ∧ isU32 x.vip
  sn : C.svcs.length ≤ n
  nn : C.snats.length ≤ n
  kn : C.sick.length ≤ n
  ln : C.leases.length ≤ n
  ep0 : 0 ≤ C.epoch
  ep1 : C.epoch ≤ (n : Int)
  now0 : 0 ≤ C.now
  now1 : C.now ≤ 1099511627776
theorem result_nil  (w : World) : Calls Tryd.prog 45 #[.nilIface] w fun e w' => e = .returned (.agg #[.int .i64 0, .int .u32 0, .int .i64 0, .int .u32 0, .int .i64 0]) ∧ Fr w w' [] := by
 refine enterD (n := 12) Tryd.func45 rfl rfl (Nat.le_of_ble_eq_true rfl) ?_
 intro Q0 hN hret hret'
 have hC := Cx.start w
 refine WCs (fun K1 hK2 => ?_)
 refine WCg ?_
 refine WL.newM hC (fun b => .pointer (some ⟨b, 0, none⟩)) (.cells #[.int .i64 0, .int .u32 0, .int .i64 0, .int .u32 0, .int .i64 0] 47) 2 (fun _ => by kernel_rfl) (fun g3 w4 hb7 hF5 hC6 => ?_)
 refine WLd rfl (QXn (hK2 _ _ ?_))
 refine WCs (fun K8 hK9 => ?_)
 refine WCg (WLr 7 [(4, .bool false), (3, .int .i64 0), (9, .bool false), (8, .int .i64 0), (5, .tuple #[.int .i64 0, .bool false]), (7, .tuple #[.int .i64 0, .bool false]), (6, .nilIface)] (fun _ => by kernel_rfl) (WLd rfl (QXn (hK9 _ _ ?_))))
 refine WCs (fun K10 hK11 => ?_)
 refine WCg (WLr 2 [(11, .agg #[.int .i64 0, .int .u32 0, .int .i64 0, .int .u32 0, .int .i64 0]), (10, .int .i64 0)] (fun _ => by kernel_rfl) ?_)
 refine WLs (c' := #[.int .i64 0, .int .u32 0, .int .i64 0, .int .u32 0, .int .i64 0]) hC6 0 47 g3 0 (.agg #[.int .i64 0, .int .u32 0, .int .i64 0, .int .u32 0, .int .i64 0]) (by kernel_rfl) rfl (by kernel_rfl) (fun w12 hF14 hC15 => ?_)
 refine WLd rfl (QXn (hK11 _ _ ?_))
 refine WC.ret ?_
 refine (hret' _ _ (.agg #[.int .i64 0, .int .u32 0, .int .i64 0, .int .u32 0, .int .i64 0]) (fun a ha => ?_) ?_).1
 ·
  exact res_run ha ((ResR.cell rfl (run_ld (hC15.get 0 rfl) rfl) ResR.nil)) rfl
 exact ⟨rfl, hC15.fr⟩

theorem result_err (c : Int) (w : World) : Calls Tryd.prog 45 #[.iface 73 (.int .i64 c)] w fun e w' => e = .returned (.agg #[.int .i64 c, .int .u32 0, .int .i64 0, .int .u32 0, .int .i64 0]) ∧ Fr w w' [] := by
 refine enterD (n := 12) Tryd.func45 rfl rfl (Nat.le_of_ble_eq_true rfl) ?_
 intro Q0 hN hret hret'
 have hC := Cx.start w
 refine WCs (fun K1 hK2 => ?_)
 refine WCg ?_
 refine WL.newM hC (fun b => .pointer (some ⟨b, 0, none⟩)) (.cells #[.int .i64 0, .int .u32 0, .int .i64 0, .int .u32 0, .int .i64 0] 47) 2 (fun _ => by kernel_rfl) (fun g3 w4 hb7 hF5 hC6 => ?_)
 refine WLd rfl (QXn (hK2 _ _ ?_))
 refine WCs (fun K8 hK9 => ?_)
 refine WCg (WLr 7 [(4, .bool true), (3, .int .i64 c), (9, .bool true), (8, .int .i64 c), (5, .tuple #[.int .i64 c, .bool true]), (7, .tuple #[.int .i64 c, .bool true]), (6, .iface 73 (.int .i64 c))] (fun _ => by kernel_rfl) (WLd rfl (QXn (hK9 _ _ ?_))))
 refine WCs (fun K10 hK11 => ?_)
 refine WCg (WLr 2 [(11, .agg #[.int .i64 c, .int .u32 0, .int .i64 0, .int .u32 0, .int .i64 0]), (10, .int .i64 c)] (fun _ => by kernel_rfl) ?_)
 refine WLs (c' := #[.int .i64 c, .int .u32 0, .int .i64 0, .int .u32 0, .int .i64 0]) hC6 0 47 g3 0 (.agg #[.int .i64 c, .int .u32 0, .int .i64 0, .int .u32 0, .int .i64 0]) (by kernel_rfl) rfl (by kernel_rfl) (fun w12 hF14 hC15 => ?_)
 refine WLd rfl (QXn (hK11 _ _ ?_))
 refine WC.ret ?_
 refine (hret' _ _ (.agg #[.int .i64 c, .int .u32 0, .int .i64 0, .int .u32 0, .int .i64 0]) (fun a ha => ?_) ?_).1
 ·
  exact res_run ha ((ResR.cell rfl (run_ld (hC15.get 0 rfl) rfl) ResR.nil)) rfl
 exact ⟨rfl, hC15.fr⟩

theorem result_ct (c : Int) (w : World) : Calls Tryd.prog 45 #[errV 73 c] w fun e w' => e = .returned (.agg #[.int .i64 c, .int .u32 0, .int .i64 0, .int .u32 0, .int .i64 0]) ∧ Fr w w' [] := by
  unfold errV
  by_cases h : c = 0
  · subst h; exact result_nil w
  · rw [if_neg h]; exact result_err c w
theorem outIs_ct (s : SnatV) (b1 : Nat) (dip : Int) (w : World) (h1 : w.cell? ⟨b1, 0, none⟩ = some (.int .u32 dip)) : Calls Tryd.prog 41 #[.agg #[.int .u32 s.dip, .int .u32 s.vip], .pointer (some ⟨b1, 0, none⟩)] w fun e w' => e = .returned (.bool (s.dip == dip)) ∧ Fr w w' [] := by
 refine enterD (n := 8) Tryd.func41 rfl rfl (Nat.le_of_ble_eq_true rfl) ?_
 intro Q0 hN hret hret'
 have hC := Cx.start w
 refine WCs (fun K1 hK2 => ?_)
 refine WCg ?_
 refine WL.newM hC (fun b => .pointer (some ⟨b, 0, none⟩)) (.cells #[.int .u32 s.dip, .int .u32 s.vip] 54) 2 (fun _ => by kernel_rfl) (fun g3 w4 hb7 hF5 hC6 => ?_)
 refine WLr 1 [(3, .bool false)] (fun _ => by kernel_rfl) (WLd rfl (QXn (hK2 _ _ ?_)))
 refine WCs (fun K8 hK9 => ?_)
 refine WCg (WLr 1 [(4, .pointer (some ⟨g3, 0, none⟩))] (fun _ => by kernel_rfl) ?_)
 refine WL.load 41 (.pointer (some ⟨g3, 0, none⟩)) (.int .u32 s.dip) 5 (by kernel_rfl) (run_ld (hC6.get 0 rfl) rfl) ?_
 refine WL.load 41 (.pointer (some ⟨b1, 0, none⟩)) (.int .u32 dip) 6 (by kernel_rfl) (run_load1 rfl (hC6.fr.cell (h1) (by simp))) ?_
 refine WLr 2 [(3, .bool (s.dip == dip)), (7, .bool (s.dip == dip))] (fun _ => by kernel_rfl) (WLd rfl (QXn (hK9 _ _ ?_)))
 refine WC.ret ?_
 refine (hret _ _ _ rfl ?_).1
 exact ⟨rfl, hC6.fr⟩

theorem outI_ct (A : Option Addr) (c : Nat) (ns : List SnatV) (b1 : Nat) (dip : Int) (w : World) (h1 : w.cell? ⟨b1, 0, none⟩ = some (.int .u32 dip)) (hr : Rd w 2 cellsN A ns) (hl : ns.length ≤ 1099511627776) : Calls Tryd.prog 40 #[.slice A ns.length c, .func (.func 41) #[] #[.pointer (some ⟨b1, 0, none⟩)]] w fun e w' => ∃ r : Int, e = .returned (.int .i64 r) ∧ Fr w w' [] ∧ ((r = -1 ∧ outF ns dip = none) ∨ ∃ (i : Nat) (x : SnatV), r = (i : Int) ∧ ns[i]? = some x ∧ outF ns dip = some x) := by
 refine enterD (n := 19) Tryd.func40 rfl rfl (Nat.le_of_ble_eq_true rfl) ?_
 intro Q0 hN hret hret'
 have hC := Cx.start w
 refine WCs (fun K1 hK2 => ?_)
 refine WCg (WLr 1 [(4, .int .i64 0)] (fun _ => by kernel_rfl) (WLd rfl (QXn (hK2 _ _ ?_))))
 refine WCs (fun K3 hK4 => ?_)
 refine WCs (fun K5 hK6 => ?_)
 refine WCg (WLr 3 [(8, .int .i64 0), (7, .int .i64 (ns.length : Int)), (6, .slice A ns.length c)] (fun _ => by kernel_rfl) (WLd rfl (QXn (hK6 _ _ ?_))))
 refine WC.block ?_
 refine WC.loop (fun m_ E_ w_ => ∃ (i : Nat), m_ = ns.length - i ∧ E_ = [(0, .slice A ns.length c), (1, .func (.func 41) #[] #[.pointer (some ⟨b1, 0, none⟩)]), (6, .slice A ns.length c), (7, .int .i64 (ns.length : Int)), (8, .int .i64 (i : Int))] ∧ Cx w [] w_ [] [] ∧ (i ≤ ns.length ∧ ∀ y ∈ ns.take i, y.dip ≠ dip)) ⟨_, _, ⟨0, rfl, rfl, hC, Nat.zero_le _, (fun _ h_ => by simp at h_)⟩, sub_of ⟨rfl, rfl, rfl, rfl, rfl, trivial⟩⟩ (fun m10 E_ w11 K7 hK8 hI9 => ?_)
 obtain ⟨i, rfl, rfl, hC12, hi, hno⟩ := hI9
 refine WCs (fun K13 hK14 => ?_)
 refine WCg (WLr 1 [(9, .bool (decide ((i : Int) < (ns.length : Int))))] (fun _ => by kernel_rfl) (WLd rfl (QXn (hK14 _ _ ?_))))
 refine WCs (fun K15 hK16 => ?_)
 refine WCa 9 (decide ((i : Int) < (ns.length : Int))) rfl (fun t17b => ?_) (fun t17b => ?_)
 ·
  have t17 : (i : Int) < (ns.length : Int) := by have q_ := of_decide_eq_true t17b; omega
  refine WCt rfl ?_
  refine WC.skip ?_
  refine QXn (hK16 _ _ ?_)
  refine WCs (fun K18 hK19 => ?_)
  refine WC.block ?_
  refine WCs (fun K20 hK21 => ?_)
  refine WCg (WLr 2 [(5, .int .i64 (i : Int)), (10, .int .i64 (i : Int))] (fun _ => by kernel_rfl) (WLd rfl (QXn (hK21 _ _ ?_))))
  refine WCs (fun K22 hK23 => ?_)
  refine WCg (WLr 3 [(13, .int .i64 (i : Int)), (12, .slice A ns.length c), (11, .func (.func 41) #[] #[.pointer (some ⟨b1, 0, none⟩)])] (fun _ => by kernel_rfl) ?_)
  obtain ⟨e24, he25⟩ := get_some (xs := ns) (i := i) (by omega)
  obtain ⟨b26, o28, hA27, hc29⟩ := hr.at_ _ _ he25
  refine WLi A ns.length c 14 .i64 (i : Int) b26 o28 i 2 (by kernel_rfl) hA27 (by omega) (by omega) (o28 + i * 2) (by first | (simp; done) | omega) ?_
  refine WL.load 54 (.pointer (some ⟨b26, o28 + i * 2, none⟩)) (.agg #[.int .u32 e24.dip, .int .u32 e24.vip]) 15 (by kernel_rfl) (run_rdN (l := [.int .u32 e24.dip, .int .u32 e24.vip]) rfl rfl (fun j u hu => by have hq_ := hC12.fr.cell (hc29 j u hu) (by simp); simpa [Nat.add_assoc] using hq_)) ?_
  refine WLc rfl rfl rfl rfl rfl (by kernel_rfl) (outIs_ct e24 b1 dip w11 (hC12.fr.cell h1 (by simp))) ?_
  rintro _ w31 ⟨rfl, hF30⟩
  refine ⟨_, rfl, ?_⟩
  have hC32 := hC12.call hF30
  refine WLd rfl (QXn (hK23 _ _ ?_))
  refine WCa 16 (e24.dip == dip) rfl (fun t33b => ?_) (fun t33b => ?_)
  ·
   have t33 : e24.dip = dip := by simpa using t33b
   refine WCt rfl ?_
   refine WCs (fun K34 hK35 => ?_)
   refine WCg (WLr 2 [(4, .int .i64 (i : Int)), (17, .int .i64 (i : Int))] (fun _ => by kernel_rfl) (WLd rfl (QXn (hK35 _ _ ?_))))
   refine WC.ret ?_
   refine QXk ?_
   refine QXr ?_
   refine QXr ?_
   refine QXk ?_
   refine QXr ?_
   refine (hret _ _ _ rfl ?_).1
   exact ⟨_, rfl, hC32.fr, .inr ⟨i, _, rfl, he25, outF_hit he25 (by simpa using t33b) hno⟩⟩
  ·
   have t33 : ¬ (e24.dip = dip) := by simpa using t33b
   refine WCf rfl (WC.skip ?_)
   refine QXb ?_
   refine QXn (hK19 _ _ ?_)
   refine WCg (WLr 1 [(18, .int .i64 (IntKind.i64.wrap ((i : Int) + 1)))] (fun _ => by kernel_rfl) ?_)
   refine WLt (show (.int .i64 (IntKind.i64.wrap ((i : Int) + 1)) : Value) = .int .i64 ((i : Int) + 1) from by rw [wrap_in_i64 ((i : Int) + 1) (by omega) (by omega)]) ?_
   refine WLr 1 [(8, .int .i64 ((i : Int) + 1))] (fun _ => by kernel_rfl) ?_
   refine WLd rfl ?_
   refine QXn ?_
   have hC36 := hC32.pick [] [] rfl rfl
   refine fun a_ ha_ => hK8 _ _ _ ?_ ⟨i + 1, rfl, rfl, hC36, by omega, take_no he25 (by simpa using t33b) hno⟩ a_ (ha_.weaken (sub_of ⟨rfl, rfl, rfl, rfl, rfl, trivial⟩))
   omega
 ·
  have t17 : (ns.length : Int) ≤ (i : Int) := by have q_ := of_decide_eq_false t17b; omega
  refine WCf rfl ?_
  refine WC.exit ?_
  refine QXe ?_
  refine QXe ?_
  refine QX.block_hit ?_
  refine QXn (hK4 _ _ ?_)
  refine WCs (fun K37 hK38 => ?_)
  refine WCg (WLr 1 [(4, .int .i64 (-1))] (fun _ => by kernel_rfl) (WLd rfl (QXn (hK38 _ _ ?_))))
  refine WC.ret ?_
  refine (hret _ _ _ rfl ?_).1
  clear hN hret hret' hK38 hK16 hK14 hK6 hK4 hK2
  rw [List.take_of_length_le (by omega)] at hno
  exact ⟨-1, rfl, hC12.fr, .inl ⟨rfl, outF_none hno⟩⟩

theorem Outside_ct (ce cn : Int) (AS AK AL : Option Addr) (nS cS nK cK nL cL : Nat) (A : Option Addr) (c : Nat) (ns : List SnatV) (dip : Int) (w : World) (hr : Rd w 2 cellsN A ns) (hl : ns.length ≤ 1099511627776) : Calls Tryd.prog 18 #[.agg #[.int .i64 ce, .int .i64 cn, .slice AS nS cS, .slice A ns.length c, .slice AK nK cK, .slice AL nL cL], .int .u32 dip] w fun e w' => e = .returned (.tuple #[.int .u32 (outV ns dip), .bool (outB ns dip)]) ∧ Fr w w' [] := by
 refine enterD (n := 19) Tryd.func18 rfl rfl (Nat.le_of_ble_eq_true rfl) ?_
 intro Q0 hN hret hret'
 have hlx_ : ∀ {i_ : Nat} {x_ : SnatV}, ns[i_]? = some x_ → i_ < ns.length := fun h_ => (List.getElem?_eq_some_iff.1 h_).1
 have hC := Cx.start w
 refine WCs (fun K1 hK2 => ?_)
 refine WCg ?_
 refine WL.newM hC (fun b => .pointer (some ⟨b, 0, none⟩)) (.cells #[.int .i64 ce, .int .i64 cn, .slice AS nS cS, .slice A ns.length c, .slice AK nK cK, .slice AL nL cL] 31) 2 (fun _ => by kernel_rfl) (fun g3 w4 hb7 hF5 hC6 => ?_)
 refine WL.newM hC6 (fun b => .pointer (some ⟨b, 0, none⟩)) (.cells #[.int .u32 dip] 41) 3 (fun _ => by kernel_rfl) (fun g8 w9 hb12 hF10 hC11 => ?_)
 refine WLr 2 [(5, .bool false), (4, .int .u32 0)] (fun _ => by kernel_rfl) (WLd rfl (QXn (hK2 _ _ ?_)))
 refine WCs (fun K13 hK14 => ?_)
 refine WCg (WLr 1 [(7, .pointer (some ⟨g3, 3, none⟩))] (fun _ => by kernel_rfl) ?_)
 refine WL.load 27 (.pointer (some ⟨g3, 3, none⟩)) (.slice A ns.length c) 8 (by kernel_rfl) (run_ld (hC11.get 0 rfl) rfl) ?_
 refine WLr 1 [(9, .func (.func 41) #[] #[.pointer (some ⟨g8, 0, none⟩)])] (fun _ => by kernel_rfl) ?_
 refine WLc rfl rfl rfl rfl rfl (by kernel_rfl) (outI_ct A c ns g8 dip w9 (by rw [cell_blk (hC11.get 1 rfl)]; rfl) (Rd.fr hr hC11.fr) hl) ?_
 rintro _ w16 ⟨r_, rfl, hF15, hcase_⟩
 refine ⟨_, rfl, ?_⟩
 have hC17 := hC11.call hF15
 rcases hcase_ with ⟨rfl, hof_⟩ | ⟨i_, x_, rfl, hx_, hof_⟩
 ·
  refine WLr 1 [(6, .int .i64 (-1))] (fun _ => by kernel_rfl) (WLd rfl (QXn (hK14 _ _ ?_)))
  refine WCs (fun K18 hK19 => ?_)
  refine WCs (fun K20 hK21 => ?_)
  refine WCg (WLr 2 [(12, .bool true), (11, .int .i64 (-1))] (fun _ => by kernel_rfl) (WLd rfl (QXn (hK21 _ _ ?_))))
  refine WCt rfl ?_
  refine WCs (fun K22 hK23 => ?_)
  refine WCg (WLr 2 [(5, .bool false), (4, .int .u32 0)] (fun _ => by kernel_rfl) (WLd rfl (QXn (hK23 _ _ ?_))))
  refine WC.ret ?_
  refine QXr ?_
  refine (hret _ _ _ rfl ?_).1
  exact ⟨by unfold outV outB; rw [hof_]; rfl, hC17.fr⟩
 ·
  have hil_ := hlx_ hx_
  refine WLr 1 [(6, .int .i64 (i_ : Int))] (fun _ => by kernel_rfl) (WLd rfl (QXn (hK14 _ _ ?_)))
  refine WCs (fun K24 hK25 => ?_)
  refine WCs (fun K26 hK27 => ?_)
  refine WCg (WLr 2 [(12, .bool (decide ((i_ : Int) < 0))), (11, .int .i64 (i_ : Int))] (fun _ => by kernel_rfl) (WLd rfl (QXn (hK27 _ _ ?_))))
  refine WC.know 12 (.bool (decide ((i_ : Int) < 0))) (.bool false) rfl (congrArg Value.bool (by simp <;> omega)) ?_
  refine WCf rfl (WC.skip (QXn (hK25 _ _ ?_)))
  refine WCs (fun K28 hK29 => ?_)
  refine WCg (WLr 1 [(13, .pointer (some ⟨g3, 3, none⟩))] (fun _ => by kernel_rfl) ?_)
  refine WL.load 27 (.pointer (some ⟨g3, 3, none⟩)) (.slice A ns.length c) 14 (by kernel_rfl) (run_ld (hC17.get 0 rfl) rfl) ?_
  refine WLr 1 [(15, .int .i64 (i_ : Int))] (fun _ => by kernel_rfl) ?_
  obtain ⟨e30, he31⟩ := get_some (xs := ns) (i := i_) (by omega)
  obtain ⟨b32, o34, hA33, hc35⟩ := hr.at_ _ _ he31
  refine WLi A ns.length c 16 .i64 (i_ : Int) b32 o34 i_ 2 (by kernel_rfl) hA33 (by omega) (by omega) (o34 + i_ * 2) (by first | (simp; done) | omega) ?_
  refine WLr 1 [(17, .pointer (some ⟨b32, o34 + i_ * 2 + 1, none⟩))] (fun _ => by kernel_rfl) ?_
  refine WL.load 41 (.pointer (some ⟨b32, o34 + i_ * 2 + 1, none⟩)) (.int .u32 e30.vip) 18 (by kernel_rfl) (run_load1 rfl (by simpa [Nat.add_assoc] using hC17.fr.cell (hc35 1 _ rfl) (by simp))) ?_
  refine WLr 2 [(5, .bool true), (4, .int .u32 e30.vip)] (fun _ => by kernel_rfl) (WLd rfl (QXn (hK29 _ _ ?_)))
  refine WC.ret ?_
  refine (hret _ _ _ rfl ?_).1
  clear hN hret hret' hK29 hK27 hK25 hK14 hK2
  have he_ : e30 = x_ := by have q_ := he31; rw [hx_] at q_; exact (Option.some.inj q_).symm
  exact ⟨by unfold outV outB; rw [hof_, he_]; rfl, hC17.fr⟩

theorem Outside_n (ce cn : Int) (AS AK AL : Option Addr) (nS cS nK cK nL cL : Nat) (A : Option Addr) (n c : Nat) (ns : List SnatV) (dip : Int) (w : World) (hr : Rd w 2 cellsN A ns) (hn : ns.length = n) (hl : n ≤ 1099511627776) : Calls Tryd.prog 18 #[.agg #[.int .i64 ce, .int .i64 cn, .slice AS nS cS, .slice A n c, .slice AK nK cK, .slice AL nL cL], .int .u32 dip] w fun e w' => e = .returned (.tuple #[.int .u32 (outV ns dip), .bool (outB ns dip)]) ∧ Fr w w' [] := by subst hn; exact Outside_ct ce cn AS AK AL nS cS nK cK nL cL A c ns dip w hr hl
theorem lcmp_ct (a b : Lease) (w : World) : Calls Tryd.prog 68 #[.agg #[.int .u32 a.vip, .int .i64 a.first, .int .u32 a.dip, .int .i64 a.exp], .agg #[.int .u32 b.vip, .int .i64 b.first, .int .u32 b.dip, .int .i64 b.exp]] w fun e w' => e = .returned (.int .i64 (lcmp a b)) ∧ Fr w w' [] := by
 refine enterD (n := 17) Tryd.func68 rfl rfl (Nat.le_of_ble_eq_true rfl) ?_
 intro Q0 hN hret hret'
 have hC := Cx.start w
 refine WCs (fun K1 hK2 => ?_)
 refine WCg ?_
 refine WL.newM hC (fun b => .pointer (some ⟨b, 0, none⟩)) (.cells #[.int .u32 a.vip, .int .i64 a.first, .int .u32 a.dip, .int .i64 a.exp] 43) 2 (fun _ => by kernel_rfl) (fun g3 w4 hb7 hF5 hC6 => ?_)
 refine WL.newM hC6 (fun b => .pointer (some ⟨b, 0, none⟩)) (.cells #[.int .u32 b.vip, .int .i64 b.first, .int .u32 b.dip, .int .i64 b.exp] 43) 3 (fun _ => by kernel_rfl) (fun g8 w9 hb12 hF10 hC11 => ?_)
 refine WLr 1 [(4, .int .i64 0)] (fun _ => by kernel_rfl) (WLd rfl (QXn (hK2 _ _ ?_)))
 refine WCs (fun K13 hK14 => ?_)
 refine WC.drawC hC11 [] (by kernel_rfl) (fun w15 hF16 hC17 hS18 => ?_)
 refine WDp (NPt hN) 0 5 (.pointer (some ⟨g3, 3, none⟩)) (by kernel_rfl) (fun _ => by kernel_rfl) hS18 ?_
 refine WDp (NPt hN) 2 7 (.pointer (some ⟨g8, 3, none⟩)) (by kernel_rfl) (fun _ => by kernel_rfl) hS18 ?_
 refine WDp (NPt hN) 5 10 (.pointer (some ⟨g3, 1, none⟩)) (by kernel_rfl) (fun _ => by kernel_rfl) hS18 ?_
 refine WDp (NPt hN) 7 12 (.pointer (some ⟨g8, 1, none⟩)) (by kernel_rfl) (fun _ => by kernel_rfl) hS18 ?_
 refine WDl (NPt hN) 1 3 (.pointer (some ⟨g3, 3, none⟩)) (.int .i64 a.exp) 6 (by kernel_rfl) (by kernel_rfl) (fun _ hS_ => run_ld (Fr.has hS_ (hC17.get 0 rfl) (by simp)) rfl) hS18 ?_
 refine WDl (NPt hN) 3 3 (.pointer (some ⟨g8, 3, none⟩)) (.int .i64 b.exp) 8 (by kernel_rfl) (by kernel_rfl) (fun _ hS_ => run_ld (Fr.has hS_ (hC17.get 1 rfl) (by simp)) rfl) hS18 ?_
 refine WDl (NPt hN) 6 3 (.pointer (some ⟨g3, 1, none⟩)) (.int .i64 a.first) 11 (by kernel_rfl) (by kernel_rfl) (fun _ hS_ => run_ld (Fr.has hS_ (hC17.get 0 rfl) (by simp)) rfl) hS18 ?_
 refine WDl (NPt hN) 8 3 (.pointer (some ⟨g8, 1, none⟩)) (.int .i64 b.first) 13 (by kernel_rfl) (by kernel_rfl) (fun _ hS_ => run_ld (Fr.has hS_ (hC17.get 1 rfl) (by simp)) rfl) hS18 ?_
 refine WD.call 4 (by kernel_rfl) rfl rfl rfl rfl rfl (by kernel_rfl) (compare_int a.exp b.exp w15) ?_
 rintro _ w20 ⟨rfl, hF19⟩
 have hS22 := hS18.trans hF19 (by simp)
 refine ⟨_, rfl, hS22, ?_⟩
 have hC21 := hC17.call hF19
 refine WD.call 9 (by kernel_rfl) rfl rfl rfl rfl rfl (by kernel_rfl) (compare_int a.first b.first w20) ?_
 rintro _ w24 ⟨rfl, hF23⟩
 have hS26 := hS22.trans hF23 (by simp)
 refine ⟨_, rfl, hS26, ?_⟩
 have hC25 := hC21.call hF23
 refine WD.new 10 (fun b => .slice (some ⟨b, 0, none⟩) 2 2) (.cells #[.int .i64 (cmpI a.exp b.exp), .int .i64 (cmpI a.first b.first)] 3) (by kernel_rfl) rfl rfl rfl rfl rfl (fun _ => by kernel_rfl) (fun g27 w28 hb31 hl32 hF29 ho33 => ?_)
 have hC30 := hC25.callB hF29 hb31 ho33
 have hS34 := hS26.trans hF29 (by simp)
 refine ⟨hS34, ?_⟩
 refine WD.call 11 (by kernel_rfl) rfl rfl rfl rfl rfl (by kernel_rfl) (or_int (some ⟨g27, 0, none⟩) 2 [cmpI a.exp b.exp, cmpI a.first b.first] w28 (Rd.blk (hC30.get 2 rfl) (encI_len _) rfl) (by simp)) ?_
 rintro _ w36 ⟨rfl, hF35⟩
 have hS38 := hS34.trans hF35 (by simp)
 refine ⟨_, rfl, hS38, ?_⟩
 have hC37 := hC30.call hF35
 refine WDp (NPt hN) 12 4 (.int .i64 (orI [cmpI a.exp b.exp, cmpI a.first b.first])) (by kernel_rfl) (fun _ => by kernel_rfl) hS38 ?_
 refine WD.done (by kernel_rfl) ?_
 refine QXn (hK14 _ _ ?_)
 refine WC.ret ?_
 refine (hret _ _ _ rfl ?_).1
 exact ⟨rfl, hC37.fr⟩

theorem Min_ct (A : Option Addr) (c : Nat) (xs : List Lease) (w : World) (hr : Rd w 4 encL A xs) (hl : xs.length ≤ 1099511627776) (h0 : 1 ≤ xs.length) : Calls Tryd.prog 67 #[.slice A xs.length c, .func (.func 68) #[] #[]] w fun e w' => e = .returned (.agg #[.int .u32 ((minL xs).vip), .int .i64 ((minL xs).first), .int .u32 ((minL xs).dip), .int .i64 ((minL xs).exp)]) ∧ Fr w w' [] := by
 refine enterD (n := 33) Tryd.func67 rfl rfl (Nat.le_of_ble_eq_true rfl) ?_
 intro Q0 hN hret hret'
 have hC := Cx.start w
 refine WCs (fun K1 hK2 => ?_)
 refine WCg ?_
 refine WL.newM hC (fun b => .pointer (some ⟨b, 0, none⟩)) (.cells #[.int .u32 0, .int .i64 0, .int .u32 0, .int .i64 0] 43) 4 (fun _ => by kernel_rfl) (fun g3 w4 hb7 hF5 hC6 => ?_)
 refine WLd rfl (QXn (hK2 _ _ ?_))
 refine WCs (fun K8 hK9 => ?_)
 refine WCs (fun K10 hK11 => ?_)
 refine WCg (WLr 3 [(9, .bool (decide ((xs.length : Int) < 1))), (8, .int .i64 (xs.length : Int)), (7, .slice A xs.length c)] (fun _ => by kernel_rfl) (WLd rfl (QXn (hK11 _ _ ?_))))
 refine WC.know 9 (.bool (decide ((xs.length : Int) < 1))) (.bool false) rfl (congrArg Value.bool (by simp; omega)) ?_
 refine WCf rfl (WC.skip (QXn (hK9 _ _ ?_)))
 refine WCs (fun K12 hK13 => ?_)
 refine WCg (WLr 1 [(11, .slice A xs.length c)] (fun _ => by kernel_rfl) ?_)
 obtain ⟨e14, he15⟩ := get_some (xs := xs) (i := 0) (by omega)
 obtain ⟨b16, o18, hA17, hc19⟩ := hr.at_ _ _ he15
 refine WLi A xs.length c 12 .i64 0 b16 o18 0 4 (by kernel_rfl) hA17 (by omega) (by omega) (o18 + 0 * 4) (by first | (simp; done) | omega) ?_
 refine WL.load 43 (.pointer (some ⟨b16, o18 + 0 * 4, none⟩)) (.agg #[.int .u32 e14.vip, .int .i64 e14.first, .int .u32 e14.dip, .int .i64 e14.exp]) 13 (by kernel_rfl) (run_rdN (l := [.int .u32 e14.vip, .int .i64 e14.first, .int .u32 e14.dip, .int .i64 e14.exp]) rfl rfl (fun j u hu => by have hq_ := hC6.fr.cell (hc19 j u hu) (by simp); simpa [Nat.add_assoc] using hq_)) ?_
 refine WL.newM hC6 (fun b => .pointer (some ⟨b, 0, none⟩)) (.cells #[.int .u32 0, .int .i64 0, .int .u32 0, .int .i64 0] 43) 5 (fun _ => by kernel_rfl) (fun g20 w21 hb24 hF22 hC23 => ?_)
 refine WLs (c' := #[.int .u32 e14.vip, .int .i64 e14.first, .int .u32 e14.dip, .int .i64 e14.exp]) hC23 1 43 g20 0 (.agg #[.int .u32 e14.vip, .int .i64 e14.first, .int .u32 e14.dip, .int .i64 e14.exp]) (by kernel_rfl) rfl (by kernel_rfl) (fun w25 hF27 hC28 => ?_)
 refine WLd rfl (QXn (hK13 _ _ ?_))
 refine WCs (fun K29 hK30 => ?_)
 refine WCs (fun K31 hK32 => ?_)
 refine WCg (WLr 1 [(6, .int .i64 1)] (fun _ => by kernel_rfl) (WLd rfl (QXn (hK32 _ _ ?_))))
 refine WC.block ?_
 have hm0_ := minL_drop he15
 refine WC.loop (fun m_ E_ w_ => ∃ (k : Nat) (m0 : Lease), m_ = xs.length - k ∧ E_ = [(0, .slice A xs.length c), (1, .func (.func 68) #[] #[]), (4, .pointer (some ⟨g3, 0, none⟩)), (5, .pointer (some ⟨g20, 0, none⟩)), (6, .int .i64 (k : Int))] ∧ Cx w [] w_ [(g3, .cells #[.int .u32 0, .int .i64 0, .int .u32 0, .int .i64 0] 43), (g20, .cells #[.int .u32 m0.vip, .int .i64 m0.first, .int .u32 m0.dip, .int .i64 m0.exp] 43)] [] ∧ (1 ≤ k ∧ k ≤ xs.length ∧ minL xs = minFrom m0 (xs.drop k))) ⟨_, _, ⟨1, e14, rfl, rfl, hC28, Nat.le_refl _, by omega, hm0_⟩, sub_of ⟨rfl, rfl, rfl, rfl, rfl, trivial⟩⟩ (fun m36 E_ w37 K33 hK34 hI35 => ?_)
 obtain ⟨k, m0, rfl, rfl, hC38, hk1, hk, hmin⟩ := hI35
 refine WCs (fun K39 hK40 => ?_)
 refine WCs (fun K41 hK42 => ?_)
 refine WCg (WLr 4 [(17, .bool (decide ((k : Int) < (xs.length : Int)))), (16, .int .i64 (xs.length : Int)), (15, .slice A xs.length c), (14, .int .i64 (k : Int))] (fun _ => by kernel_rfl) (WLd rfl (QXn (hK42 _ _ ?_))))
 refine WCa 17 (decide ((k : Int) < (xs.length : Int))) rfl (fun t43b => ?_) (fun t43b => ?_)
 ·
  have t43 : (k : Int) < (xs.length : Int) := by have q_ := of_decide_eq_true t43b; omega
  refine WCt rfl ?_
  refine WC.skip ?_
  refine QXn (hK40 _ _ ?_)
  refine WCs (fun K44 hK45 => ?_)
  refine WC.block ?_
  refine WCs (fun K46 hK47 => ?_)
  refine WC.drawC hC38 [] (by kernel_rfl) (fun w48 hF49 hC50 hS51 => ?_)
  refine WDp (NPt (NPb (NPt (NPt (NPb (NPt hN)))))) 0 20 (.func (.func 68) #[] #[]) (by kernel_rfl) (fun _ => by kernel_rfl) hS51 ?_
  refine WDp (NPt (NPb (NPt (NPt (NPb (NPt hN)))))) 1 21 (.slice A xs.length c) (by kernel_rfl) (fun _ => by kernel_rfl) hS51 ?_
  refine WDp (NPt (NPb (NPt (NPt (NPb (NPt hN)))))) 2 22 (.int .i64 (k : Int)) (by kernel_rfl) (fun _ => by kernel_rfl) hS51 ?_
  obtain ⟨e52, he53⟩ := get_some (xs := xs) (i := k) (by omega)
  obtain ⟨b54, o56, hA55, hc57⟩ := hr.at_ _ _ he53
  refine WDi (NPt (NPb (NPt (NPt (NPb (NPt hN)))))) 3 A xs.length c 23 .i64 (k : Int) b54 o56 k 4 (by kernel_rfl) (by kernel_rfl) hA55 (by omega) (by omega) (o56 + k * 4) (by first | (simp; done) | omega) hS51 ?_
  refine WDl (NPt (NPb (NPt (NPt (NPb (NPt hN)))))) 4 43 (.pointer (some ⟨b54, o56 + k * 4, none⟩)) (.agg #[.int .u32 e52.vip, .int .i64 e52.first, .int .u32 e52.dip, .int .i64 e52.exp]) 24 (by kernel_rfl) (by kernel_rfl) (fun _ hS_ => run_rdN (l := [.int .u32 e52.vip, .int .i64 e52.first, .int .u32 e52.dip, .int .i64 e52.exp]) rfl rfl (fun j u hu => by have hq_ := Fr.cell hS_ (hC50.fr.cell (hc57 j u hu) (by simp)) (by simp); simpa [Nat.add_assoc] using hq_)) hS51 ?_
  refine WDl (NPt (NPb (NPt (NPt (NPb (NPt hN)))))) 5 43 (.pointer (some ⟨g20, 0, none⟩)) (.agg #[.int .u32 m0.vip, .int .i64 m0.first, .int .u32 m0.dip, .int .i64 m0.exp]) 25 (by kernel_rfl) (by kernel_rfl) (fun _ hS_ => run_ld (Fr.has hS_ (hC50.get 1 rfl) (by simp)) rfl) hS51 ?_
  refine WD.call 6 (by kernel_rfl) rfl rfl rfl rfl rfl (by kernel_rfl) (lcmp_ct e52 m0 w48) ?_
  rintro _ w59 ⟨rfl, hF58⟩
  have hS61 := hS51.trans hF58 (by simp)
  refine ⟨_, rfl, hS61, ?_⟩
  have hC60 := hC50.call hF58
  refine WDp (NPt (NPb (NPt (NPt (NPb (NPt hN)))))) 7 27 (.bool (decide ((lcmp e52 m0) < 0))) (by kernel_rfl) (fun _ => by kernel_rfl) hS61 ?_
  refine WD.done (by kernel_rfl) ?_
  refine QXn (hK47 _ _ ?_)
  refine WCa 27 (decide ((lcmp e52 m0) < 0)) rfl (fun t62b => ?_) (fun t62b => ?_)
  ·
   have t62 : (lcmp e52 m0) < 0 := by have q_ := of_decide_eq_true t62b; omega
   refine WCt rfl ?_
   refine WCg (WLr 2 [(29, .int .i64 (k : Int)), (28, .slice A xs.length c)] (fun _ => by kernel_rfl) ?_)
   refine WLi A xs.length c 30 .i64 (k : Int) b54 o56 k 4 (by kernel_rfl) hA55 (by omega) (by omega) (o56 + k * 4) (by first | (simp; done) | omega) ?_
   refine WL.load 43 (.pointer (some ⟨b54, o56 + k * 4, none⟩)) (.agg #[.int .u32 e52.vip, .int .i64 e52.first, .int .u32 e52.dip, .int .i64 e52.exp]) 31 (by kernel_rfl) (run_rdN (l := [.int .u32 e52.vip, .int .i64 e52.first, .int .u32 e52.dip, .int .i64 e52.exp]) rfl rfl (fun j u hu => by have hq_ := hC60.fr.cell (hc57 j u hu) (by simp); simpa [Nat.add_assoc] using hq_)) ?_
   refine WLs (c' := #[.int .u32 e52.vip, .int .i64 e52.first, .int .u32 e52.dip, .int .i64 e52.exp]) hC60 1 43 g20 0 (.agg #[.int .u32 e52.vip, .int .i64 e52.first, .int .u32 e52.dip, .int .i64 e52.exp]) (by kernel_rfl) rfl (by kernel_rfl) (fun w67 hF69 hC70 => ?_)
   refine WLd rfl ?_
   refine QXb ?_
   refine QXn (hK45 _ _ ?_)
   refine WCg (WLr 2 [(19, .int .i64 (IntKind.i64.wrap ((k : Int) + 1))), (18, .int .i64 (k : Int))] (fun _ => by kernel_rfl) ?_)
   refine WLt (show (.int .i64 (IntKind.i64.wrap ((k : Int) + 1)) : Value) = .int .i64 ((k : Int) + 1) from by rw [wrap_in_i64 ((k : Int) + 1) (by omega) (by omega)]) ?_
   refine WLr 1 [(6, .int .i64 ((k : Int) + 1))] (fun _ => by kernel_rfl) ?_
   refine WLd rfl ?_
   refine QXn ?_
   have hC71 := hC70.pick [0, 1] [] rfl rfl
   refine fun a_ ha_ => hK34 _ _ _ ?_ ⟨k + 1, e52, rfl, rfl, hC71, by omega, by omega, by rw [hmin, minFrom_step he53, if_pos (by simpa using t62b)]⟩ a_ (ha_.weaken (sub_of ⟨rfl, rfl, rfl, rfl, rfl, trivial⟩))
   omega
  ·
   have t62 : (0 : Int) ≤ (lcmp e52 m0) := by have q_ := of_decide_eq_false t62b; omega
   refine WCf rfl (WC.skip ?_)
   refine QXb ?_
   refine QXn (hK45 _ _ ?_)
   refine WCg (WLr 2 [(19, .int .i64 (IntKind.i64.wrap ((k : Int) + 1))), (18, .int .i64 (k : Int))] (fun _ => by kernel_rfl) ?_)
   refine WLt (show (.int .i64 (IntKind.i64.wrap ((k : Int) + 1)) : Value) = .int .i64 ((k : Int) + 1) from by rw [wrap_in_i64 ((k : Int) + 1) (by omega) (by omega)]) ?_
   refine WLr 1 [(6, .int .i64 ((k : Int) + 1))] (fun _ => by kernel_rfl) ?_
   refine WLd rfl ?_
   refine QXn ?_
   have hC72 := hC60.pick [0, 1] [] rfl rfl
   refine fun a_ ha_ => hK34 _ _ _ ?_ ⟨k + 1, m0, rfl, rfl, hC72, by omega, by omega, by rw [hmin, minFrom_step he53, if_neg (by simpa using t62b)]⟩ a_ (ha_.weaken (sub_of ⟨rfl, rfl, rfl, rfl, rfl, trivial⟩))
   omega
 ·
  have t43 : (xs.length : Int) ≤ (k : Int) := by have q_ := of_decide_eq_false t43b; omega
  refine WCf rfl ?_
  refine WC.exit ?_
  refine QXe ?_
  refine QXe ?_
  refine QX.block_hit ?_
  refine QXn (hK30 _ _ ?_)
  refine WCs (fun K73 hK74 => ?_)
  refine WCg ?_
  refine WL.load 43 (.pointer (some ⟨g20, 0, none⟩)) (.agg #[.int .u32 m0.vip, .int .i64 m0.first, .int .u32 m0.dip, .int .i64 m0.exp]) 32 (by kernel_rfl) (run_ld (hC38.get 1 rfl) rfl) ?_
  refine WLs (c' := #[.int .u32 m0.vip, .int .i64 m0.first, .int .u32 m0.dip, .int .i64 m0.exp]) hC38 0 43 g3 0 (.agg #[.int .u32 m0.vip, .int .i64 m0.first, .int .u32 m0.dip, .int .i64 m0.exp]) (by kernel_rfl) rfl (by kernel_rfl) (fun w75 hF77 hC78 => ?_)
  refine WLd rfl (QXn (hK74 _ _ ?_))
  refine WC.ret ?_
  refine (hret' _ _ (.agg #[.int .u32 m0.vip, .int .i64 m0.first, .int .u32 m0.dip, .int .i64 m0.exp]) (fun a ha => ?_) ?_).1
  ·
   exact res_run ha ((ResR.cell rfl (run_ld (hC78.get 0 rfl) rfl) ResR.nil)) rfl
  clear hN hret hret' hK74 hK42 hK40 hK32 hK30 hK13 hK11 hK9 hK2
  rw [List.drop_of_length_le (by omega)] at hmin
  exact ⟨by rw [hmin]; rfl, hC78.fr⟩

theorem Min_n (A : Option Addr) (n c : Nat) (xs : List Lease) (w : World) (hr : Rd w 4 encL A xs) (hn : xs.length = n) (hl : n ≤ 1099511627776) (h0 : 1 ≤ n) : Calls Tryd.prog 67 #[.slice A n c, .func (.func 68) #[] #[]] w fun e w' => e = .returned (.agg #[.int .u32 ((minL xs).vip), .int .i64 ((minL xs).first), .int .u32 ((minL xs).dip), .int .i64 ((minL xs).exp)]) ∧ Fr w w' [] := by subst hn; exact Min_ct A c xs w hr hl h0
theorem blk_in2 {A : Option Addr} {n c n' c' x : Nat} (h : x ∈ blk (.slice A n c)) : x ∈ blk (.slice A n' c') := by cases A <;> exact h
theorem CloneE_ct (A : Option Addr) (c : Nat) (xs : List EndV) (w : World) (hr : Rd w 3 cellsE A xs) (hl : xs.length ≤ 1099511627776) : Calls Tryd.prog 39 #[.slice A xs.length c] w fun e w' => ∃ (A2 : Option Addr) (c2 : Nat), e = .returned (.slice A2 xs.length c2) ∧ Fr w w' [] ∧ w'.ownsRow w.heap.size 64 3 (.slice A2 xs.length c2) xs.length (xs.flatMap cellsE) := by
 refine enterD (n := 8) Tryd.func39 rfl rfl (Nat.le_of_ble_eq_true rfl) ?_
 intro Q0 hN hret hret'
 have hC := Cx.start w
 refine WCs (fun K1 hK2 => ?_)
 refine WCg (WLr 1 [(2, .slice none 0 0)] (fun _ => by kernel_rfl) (WLd rfl (QXn (hK2 _ _ ?_))))
 refine WCs (fun K3 hK4 => ?_)
 refine WCs (fun K5 hK6 => ?_)
 refine WCg (WLr 1 [(3, .slice A xs.length c)] (fun _ => by kernel_rfl) ?_)
 have hr7 : ∀ w_, Sem.run Tryd.prog (do eqGuard .eql 50 (Operand.tmp 3) (Operand.const (.slice none 0 0)) (.slice A xs.length c) (.slice none 0 0); binOp .eql 50 (.slice A xs.length c) (.slice none 0 0)) w_ = .ok (.bool (Option.isNone A)) w_ := fun w_ => (by cases (A : Option Addr) <;> kernel_rfl)
 refine WL.sem (do eqGuard .eql 50 (Operand.tmp 3) (Operand.const (.slice none 0 0)) (.slice A xs.length c) (.slice none 0 0); binOp .eql 50 (.slice A xs.length c) (.slice none 0 0)) 4 (.bool (Option.isNone A)) (by kernel_rfl) (hr7 _) ?_
 refine WLd rfl (QXn (hK6 _ _ ?_))
 refine WCa 4 (Option.isNone A) rfl (fun t8b => ?_) (fun t8b => ?_)
 ·
  refine WCt rfl ?_
  refine WCs (fun K9 hK10 => ?_)
  refine WCg (WLr 1 [(2, .slice none 0 0)] (fun _ => by kernel_rfl) (WLd rfl (QXn (hK10 _ _ ?_))))
  refine WC.ret ?_
  refine QXr ?_
  refine (hret _ _ _ rfl ?_).1
  clear hN hret hret' hK10 hK6 hK4 hK2
  have hA_ : A = none := by simpa using t8b
  subst hA_
  obtain rfl := Rd.of_none hr
  exact ⟨none, 0, rfl, hC.fr, own_nil _ _ _ _⟩
 ·
  refine WCf rfl (WC.skip (QXn (hK4 _ _ ?_)))
  refine WCs (fun K11 hK12 => ?_)
  refine WCg ?_
  refine WL.newM hC (fun b => .slice (some ⟨b, 0, none⟩) 0 0) (.cells #[] 64) 5 (fun _ => by kernel_rfl) (fun g13 w14 hb17 hF15 hC16 => ?_)
  refine WLr 1 [(6, .slice A xs.length c)] (fun _ => by kernel_rfl) ?_
  have ho19 : World.ownsRow w14 0 64 3 (.slice (some ⟨g13, 0, none⟩) 0 0) 0 [] := own_of_blk (Nat.zero_le _) (hC16.get 0 rfl) (Nat.le_refl _) (Nat.zero_le _) (by simp) rfl
  have hC18 := hC16.toF 0 rfl
  obtain ⟨v21, w22, hr23, ho24, hF25, hC26, hnil27, hsub28⟩ := app_run Tryd.prog hC18 0 (v := .slice (some ⟨g13, 0, none⟩) 0 0) rfl 50 50 64 3 24 0 xs.length c A rfl ho19 (xs.flatMap cellsE) (flat_len_n cellsE_len (by first | rfl | assumption | (simp; done) | (simp; omega))) (Rd.src_n (Rd.fr hr hC18.fr) cellsE_len (by decide) (by first | rfl | assumption | (simp; done) | (simp; omega))) (flat_one cellsE_one _) (by simp only [maxLen]; omega) (by omega)
  have ho32 := own_app (enc := cellsE) (ys := []) (zs := xs) ho24
  obtain ⟨A29, c30, rfl, hle31⟩ := own_form ho32
  refine WL.sem (Builtin.append_ #[50, 50] 50 #[.slice (some ⟨g13, 0, none⟩) 0 0, .slice A xs.length c]) 7 (.slice A29 (0 + xs.length) c30) (by kernel_rfl) hr23 ?_
  refine WLr 1 [(2, .slice A29 (0 + xs.length) c30)] (fun _ => by kernel_rfl) (WLd rfl (QXn (hK12 _ _ ?_)))
  refine WC.ret ?_
  refine (hret _ _ _ rfl ?_).1
  clear hN hret hret' hK12 hK6 hK4 hK2
  have ho_ := ho32
  rw [show (0 + xs.length : Nat) = xs.length from by omega, show ([] : List EndV) ++ xs = xs from rfl] at ho_
  exact ⟨A29, c30, by show Ending.returned (.slice _ (0 + xs.length) _) = _; rw [Nat.zero_add], hC26.fr, own_base ho_ (fun x_ hx_ => newF_of hC26 0 rfl (fun _ h_ => nomatch h_) (fun _ h_ => nomatch h_) x_ (blk_in2 hx_))⟩

theorem CloneE_n (A : Option Addr) (n c : Nat) (xs : List EndV) (w : World) (hr : Rd w 3 cellsE A xs) (hn : xs.length = n) (hl : n ≤ 1099511627776) : Calls Tryd.prog 39 #[.slice A n c] w fun e w' => ∃ (A2 : Option Addr) (c2 : Nat), e = .returned (.slice A2 xs.length c2) ∧ Fr w w' [] ∧ w'.ownsRow w.heap.size 64 3 (.slice A2 xs.length c2) xs.length (xs.flatMap cellsE) := by subst hn; exact CloneE_ct A c xs w hr hl
end Go.Proofs.YtfligklljkcbfaaDoor
