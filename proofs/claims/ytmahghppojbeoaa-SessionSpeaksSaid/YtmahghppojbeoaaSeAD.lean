/- Contracts of functions of the program, each proved by a walk through its code; conditions stand in the statements. -/
import Derived.Test.YtmahghppojbeoaaSeAC
namespace Go.Proofs.Ytmahghppojbeoaa
set_option linter.unusedSimpArgs false
set_option linter.unusedVariables false
set_option linter.unusedSectionVars false
open Go Go.RowKit Go.Tw
set_option linter.unusedVariables false
set_option maxRecDepth 20000
open Go.Sort
theorem rd_lt {α : Type} {w : World} {sz : Nat} {enc : α → List Value} {A : Option Addr} {xs : List α} (h : Rd w sz enc A xs) (hz : ∀ x, 0 < (enc x).length) (hne : xs ≠ []) {b off : Nat} (hA : A = some ⟨b, off, none⟩) : b < w.heap.size := by
  cases xs with
  | nil => exact absurd rfl hne
  | cons x r =>
    obtain ⟨b2, off2, h1, h2⟩ := h.at_ 0 x rfl
    rw [h1] at hA; cases hA
    have h3 := h2 0 _ (List.getElem?_eq_getElem (hz x))
    exact Nat.not_le.1 fun q => by
      rw [World.cell?, Array.getElem?_eq_none q] at h3
      cases h3
theorem tickV_le (b : Int) (o : Bool) (vs : List Int) (now : Int) : ([] ++ tickV b o vs now).length ≤ 1099511627776 := by
  unfold tickV; (repeat' split) <;> simp
theorem annM_le (b : Int) (o : Bool) (vs X : List Int) : ([] ++ annM b o vs X).length ≤ 1099511627776 := by
  unfold annM; split <;> simp
theorem recvM_le (b k : Int) (vs N : List Int) : ([] ++ recvM b k vs N).length ≤ 1099511627776 := by
  unfold recvM; split <;> simp
theorem own_rd_pre {α : Type} {enc : α → List Value} {w : World} {base e sz n c : Nat} {A : Option Addr} {xs ys : List α} (hl : ∀ x, (enc x).length = sz) (hz : 0 < sz) (h : w.ownsRow base e sz (.slice A n c) n ((xs ++ ys).flatMap enc)) : Rd w sz enc A xs := by
  have hn : (xs ++ ys).length = n := own_count hl hz h
  rw [List.length_append] at hn
  have h2 := own_rd (own_takeE (m := xs.length) hl h (by omega)) hl hz
  rw [List.take_left' rfl] at h2; exact h2
def zeroT (L X : List Int) (j n : Nat) : Prop := L.length = n + 1 ∧ ∀ k, j ≤ k → L[k]? = (X ++ [7])[k]?
theorem zeroT_0 {X L : List Int} {n : Nat} (hL : L = X ++ [7]) (h : X.length = n) : zeroT L X 0 n := by subst hL; exact ⟨by simp [h], fun _ _ => rfl⟩
theorem zeroT_step {L X : List Int} {j n : Nat} (h : zeroT L X j n) (y : Int) : zeroT (L.set j y) X (j + 1) n :=
  ⟨by rw [List.length_set]; exact h.1, fun k hk => by rw [List.getElem?_set_ne (by omega)]; exact h.2 k (by omega)⟩
theorem zeroT_eq {L X : List Int} {j n : Nat} (h : zeroT L X j n) (hX : X.length = n) (hj : j < n) {x y : Int} (hx : L[j]? = some x) (hy : X[j]? = some y) : x = y := by
  have h1 := h.2 j (Nat.le_refl _)
  rw [List.getElem?_append_left (by omega), hx, hy] at h1
  exact Option.some.inj h1
theorem zeroT_end {L X : List Int} {j n m : Nat} (h : zeroT L X j n) (hX : X.length = n) (hj : j ≤ n) (hm : n < m) {x : Int} (hx : (L.take m)[n]? = some x) : x = 7 := by
  rw [List.getElem?_take, if_pos hm] at hx
  have h1 := h.2 n hj
  rw [hx, List.getElem?_append_right (by omega), hX, Nat.sub_self] at h1
  exact Option.some.inj h1
theorem RAnn_n (F : List Nat) (p : Nat) (b : Int) (o : Bool) (vs : List Int) (V : List (Int × List Int)) (A : Option Addr) (n c : Nat) (xs : List Int) (hn : xs.length = n) (w : World) (ht : spAt 36 w F p b o vs V) (hvk : vs.length ≤ 39 ∧ ∀ x ∈ vs, 0 ≤ x ∧ x ≤ 4294967295) (hml : V.length ≤ 1099511627776) (hr : Rd w 1 (Go.Tw.encI .u32) A xs) (hlen : n ≤ 1099511627776) (hx32 : ∀ x ∈ xs, 0 ≤ x ∧ x ≤ 4294967295) : Calls Try.prog 13 #[.pointer (some ⟨p, 0, none⟩), .slice A n c] w fun e w' => ∃ F', e = .returned (.tuple #[]) ∧ Fr w w' F ∧ spAt 36 w' F' p b o (annV xs) (V ++ annM b o vs xs) ∧ ∀ x ∈ F', x ∈ F ∨ w.heap.size ≤ x := by subst hn; exact RAnn_ct F p b o vs V A c xs w ht hvk hml hr hlen hx32
theorem mg_eq {ms ns : List Mg} {i : Nat} {a b : Mg} (h : ms.map mgV = ns.map mgV) (ha : ms[i]? = some a) (hb : ns[i]? = some b) : a.kind = b.kind ∧ a.nums = b.nums := by
  have h1 : (ms.map mgV)[i]? = (ns.map mgV)[i]? := by rw [h]
  rw [List.getElem?_map, List.getElem?_map, ha, hb] at h1
  have h2 := Option.some.inj h1
  exact ⟨congrArg Prod.fst h2, congrArg Prod.snd h2⟩
theorem msgs_ct (R1 R2 : List Nat) (A B : Option Addr) (n c n2 d : Nat) (V : List (Int × List Int)) (w : World) (h1 : outAt w R1 A n c V) (h2 : outAt w R2 B n2 d V) : Calls Try.prog 19 #[.slice A n c, .slice B n2 d] w fun e w' => e = .returned (.bool true) ∧ Fr w w' [] := by
 refine enterD (n := 27) Try.func19 rfl rfl (Nat.le_of_ble_eq_true rfl) ?_
 intro Q0 hN hret hret'
 have hC := Cx.start w
 obtain ⟨ms, hm1, hml_, hmc, hmx, hmr, hmb, hmg⟩ := h1
 obtain ⟨ns, hn1, hnl_, hnc, hnx, hnr, hnb, hng⟩ := h2
 have hmn_ : ms.length = ns.length := by rw [← List.length_map (f := mgV), hm1, ← hn1, List.length_map]
 have hnn_ : n = n2 := by omega
 refine WCs (fun K1 hK2 => ?_)
 refine WCg (WLq 1 [(4, .bool false)] (WLd rfl (QXn (hK2 _ _ ?_))))
 refine WCs (fun K3 hK4 => ?_)
 refine WCs (fun K5 hK6 => ?_)
 refine WCg (WLq 5 [(10, .bool ((n : Int) != (n2 : Int))), (9, .int .i64 (n2 : Int)), (8, .slice B n2 d), (7, .int .i64 (n : Int)), (6, .slice A n c)] (WLd rfl (QXn (hK6 _ _ ?_))))
 refine WC.know 10 (.bool ((n : Int) != (n2 : Int))) (.bool false) rfl (congrArg Value.bool (by simp [hnn_])) ?_
 refine WCf rfl (WC.skip (QXn (hK4 _ _ ?_)))
 refine WCs (fun K7 hK8 => ?_)
 refine WCs (fun K9 ak => ?_)
 refine WCg (WLq 3 [(13, .int .i64 0), (12, .int .i64 (n : Int)), (11, .slice A n c)] (WLd rfl (QXn (ak _ _ ?_))))
 refine WC.block ?_
 refine WC.loop (fun m_ E_ w_ => ∃ (i : Nat), m_ = ms.length - i ∧ E_ = [(0, .slice A n c), (1, .slice B n2 d), (12, .int .i64 (n : Int)), (13, .int .i64 (i : Int))] ∧ Cx w [] w_ [] [] ∧ (i ≤ ms.length)) ⟨_, _, ⟨0, rfl, rfl, hC, Nat.zero_le _⟩, sub_of ⟨rfl, rfl, rfl, rfl, trivial⟩⟩ (fun m14 E_ aE aF al am => ?_)
 obtain ⟨i, rfl, rfl, ah, hi⟩ := am
 refine WCs (fun aG an => ?_)
 refine WCg (WLq 1 [(14, .bool (decide ((i : Int) < (n : Int))))] (WLd rfl (QXn (an _ _ ?_))))
 refine WCs (fun aH ao => ?_)
 refine WCa 14 (decide ((i : Int) < (n : Int))) rfl (fun ae => ?_) (fun ae => ?_)
 ·
  have aB : (i : Int) < (n : Int) := by have q_ := of_decide_eq_true ae; omega
  refine WCt rfl ?_
  refine WC.skip ?_
  refine QXn (ao _ _ ?_)
  refine WCs (fun aI ap => ?_)
  refine WC.block ?_
  refine WCs (fun aJ aq => ?_)
  refine WCg (WLq 2 [(5, .int .i64 (i : Int)), (15, .int .i64 (i : Int))] (WLd rfl (QXn (aq _ _ ?_))))
  refine WCs (fun aK ar => ?_)
  refine WC.drawC ah [] (by kernel_rfl) (fun aC aD ad aa => ?_)
  refine WDq (NPt (NPb (NPt (NPt (NPb (NPt hN)))))) 0 16 (.slice A n c) aa ?_
  refine WDq (NPt (NPb (NPt (NPt (NPb (NPt hN)))))) 1 17 (.int .i64 (i : Int)) aa ?_
  obtain ⟨ab, af⟩ := get_some (xs := ms) (i := i) (by omega)
  obtain ⟨b34, o36, au, av⟩ := hmr.at_ _ _ af
  refine WDi (NPt (NPb (NPt (NPt (NPb (NPt hN)))))) 2 A n c 18 .i64 (i : Int) b34 o36 i 3 (by kernel_rfl) (by kernel_rfl) au (by omega) (by omega) (o36 + i * 3) (by first | (simp; done) | omega) aa ?_
  refine WDq (NPt (NPb (NPt (NPt (NPb (NPt hN)))))) 4 20 (.slice B n2 d) aa ?_
  refine WDq (NPt (NPb (NPt (NPt (NPb (NPt hN)))))) 5 21 (.int .i64 (i : Int)) aa ?_
  obtain ⟨ac, ag⟩ := get_some (xs := ns) (i := i) (by omega)
  obtain ⟨b40, o42, aw, ax⟩ := hnr.at_ _ _ ag
  refine WDi (NPt (NPb (NPt (NPt (NPb (NPt hN)))))) 6 B n2 d 22 .i64 (i : Int) b40 o42 i 3 (by kernel_rfl) (by kernel_rfl) aw (by omega) (by omega) (o42 + i * 3) (by first | (simp; done) | omega) aa ?_
  refine WDm (NPt (NPb (NPt (NPt (NPb (NPt hN)))))) 3 40 (.pointer (some ⟨b34, o36 + i * 3, none⟩)) (.agg #[.int .i64 ab.kind, .slice ab.a ab.nums.length ab.c, .slice none 0 0]) 19 (fun _ hS_ => run_rdN (l := [.int .i64 ab.kind, .slice ab.a ab.nums.length ab.c, .slice none 0 0]) rfl rfl (fun j u hu => by have hq_ := Fr.cell hS_ (ad.fr.cell (av j u hu) (by simp)) (by simp); simpa [Nat.add_assoc] using hq_)) aa ?_
  refine WDm (NPt (NPb (NPt (NPt (NPb (NPt hN)))))) 7 40 (.pointer (some ⟨b40, o42 + i * 3, none⟩)) (.agg #[.int .i64 ac.kind, .slice ac.a ac.nums.length ac.c, .slice none 0 0]) 23 (fun _ hS_ => run_rdN (l := [.int .i64 ac.kind, .slice ac.a ac.nums.length ac.c, .slice none 0 0]) rfl rfl (fun j u hu => by have hq_ := Fr.cell hS_ (ad.fr.cell (ax j u hu) (by simp)) (by simp); simpa [Nat.add_assoc] using hq_)) aa ?_
  have hee_ := mg_eq (hm1.trans hn1.symm) af ag
  have hma_ := hmg.1 _ (List.mem_of_getElem? af)
  have hmb_ := hng.1 _ (List.mem_of_getElem? ag)
  rw [show ac.kind = ab.kind from hee_.1.symm]
  refine WD.call 8 (by kernel_rfl) rfl rfl rfl rfl rfl (by kernel_rfl) (Same_n ab.kind ab.a ac.a _ ab.c _ ac.c ab.nums ac.nums aC (Rd.fr hma_.1 ad.fr) rfl (Rd.fr hmb_.1 ad.fr) rfl hee_.2.symm (Nat.le_trans hma_.2.1 (by decide))) ?_
  rintro _ aL ⟨rfl, ai⟩
  have aj := aa.trans ai (by simp)
  refine ⟨_, rfl, aj, ?_⟩
  have ay := ad.call ai
  refine WDq (NPt (NPb (NPt (NPt (NPb (NPt hN)))))) 9 25 (.bool false) aj ?_
  refine WD.done (by kernel_rfl) ?_
  refine QXn (ar _ _ ?_)
  refine WCf rfl (WC.skip ?_)
  refine QXb ?_
  refine QXn (ap _ _ ?_)
  refine WCg (WLq 1 [(26, .int .i64 (IntKind.i64.wrap ((i : Int) + 1)))] ?_)
  refine WLt (show (.int .i64 (IntKind.i64.wrap ((i : Int) + 1)) : Value) = .int .i64 ((i : Int) + 1) from by rw [wrap_in_i64 ((i : Int) + 1) (by omega) (by omega)]) ?_
  refine WLq 1 [(13, .int .i64 ((i : Int) + 1))] ?_
  refine WLd rfl ?_
  refine QXn ?_
  have az := ay.pick [] [] rfl rfl
  refine fun a_ ha_ => al _ _ _ ?_ ⟨i + 1, rfl, rfl, az, by omega⟩ a_ (ha_.weaken (sub_of ⟨rfl, rfl, rfl, rfl, trivial⟩))
  omega
 ·
  have aB : (n : Int) ≤ (i : Int) := by have q_ := of_decide_eq_false ae; omega
  refine WCf rfl ?_
  refine WC.exit ?_
  refine QXe ?_
  refine QXe ?_
  refine QX.block_hit ?_
  refine QXn (hK8 _ _ ?_)
  refine WCs (fun aM aA => ?_)
  refine WCg (WLq 1 [(4, .bool true)] (WLd rfl (QXn (aA _ _ ?_))))
  refine WC.ret ?_
  refine (hret _ _ _ rfl ?_).1
  exact ⟨rfl, ah.fr⟩

set_option maxHeartbeats 2000000 in
theorem SessionSpeaks_ct (node boot : Int) (C : Option Addr) (c : Nat) (ops : List SOp) (w : World) (hnode : isI64 node) (hops : Rd w 7 cellS C ops) (hok : ∀ o ∈ ops, sopAt w o) (hol : ops.length ≤ 9223372036854775807) : Calls Try.prog 3 #[.int .i64 node, .int .i64 boot, .slice C ops.length c] w fun e w' => e = .returned (.bool true) ∧ Fr w w' [] := by
 refine enterD (n := 153) Try.func3 rfl rfl (Nat.le_of_ble_eq_true rfl) ?_
 intro Q0 hN hret hret'
 have hC := Cx.start w
 refine WCs (fun K1 hK2 => ?_)
 refine WCg (WLq 1 [(6, .bool false)] (WLd rfl (QXn (hK2 _ _ ?_))))
 refine WCs (fun K3 hK4 => ?_)
 refine WCs (fun K5 hK6 => ?_)
 refine WCg ?_
 refine WLc rfl rfl rfl rfl rfl (by kernel_rfl) (alive_ct w) ?_
 rintro _ w8 ⟨rfl, hF7⟩
 refine ⟨_, rfl, ?_⟩
 have hC9 := hC.call hF7
 refine WLq 1 [(15, .bool false)] (WLd rfl (QXn (hK6 _ _ ?_)))
 refine WCf rfl (WC.skip (QXn (hK4 _ _ ?_)))
 refine WCs (fun qh g7 => ?_)
 refine WCg (WLq 2 [(18, .int .i64 boot), (17, .int .i64 node)] ?_)
 refine WLc rfl rfl rfl rfl rfl (by kernel_rfl) (NewSG_ct node boot w8 hnode) ?_
 rintro _ od (⟨g8, rfl, f2⟩ | ⟨⟨g9, ha⟩, p12, rfl, f2, hb, eG⟩)
 ·
  have f3 := hC9.call f2
  refine ⟨_, rfl, ?_⟩
  refine WLq 5 [(8, .iface 30 (.int .i64 12)), (7, .pointer none), (21, .iface 30 (.int .i64 12)), (20, .pointer none), (16, .tuple #[.pointer none, .iface 30 (.int .i64 12)])] (WLd rfl (QXn (g7 _ _ ?_)))
  refine WCs (fun qi oS => ?_)
  refine WCs (fun qj f4 => ?_)
  refine WCg (WLq 1 [(22, .int .i64 node)] ?_)
  refine WLc rfl rfl rfl rfl rfl (by kernel_rfl) (RMux_ct node od) ?_
  rintro _ qk ⟨rfl, l4⟩
  refine ⟨_, rfl, ?_⟩
  have f5 := f3.call l4
  refine WLq 2 [(25, .bool (!(muxB node))), (24, .bool (!(muxB node)))] ?_
  refine WLa 25 (!(muxB node)) rfl (fun ci => ?_) (fun ci => ?_)
  ·
   have oe : (muxB node) = false := by first | (simpa only [Bool.not_eq_true', Bool.not_eq_false'] using ci) | simpa using ci
   refine WLq 7 [(32, .bool true), (31, undef), (30, undef), (29, .bool true), (28, .bool true), (27, undef), (26, undef)] (WLd rfl (QXn (f4 _ _ ?_)))
   refine WCt rfl ?_
   refine WCs (fun ql l5 => ?_)
   refine WCg (WLq 8 [(6, .bool true), (39, .bool true), (38, .bool true), (37, .iface 30 (.int .i64 12)), (36, .iface 30 (.int .i64 12)), (35, .bool true), (34, .bool true), (33, .pointer none)] (WLd rfl (QXn (l5 _ _ ?_))))
   refine WC.ret ?_
   refine QXr ?_
   refine (hret _ _ _ rfl ?_).1
   exact ⟨rfl, f5.fr⟩
  ·
   have oe : (muxB node) = true := by first | (simpa only [Bool.not_eq_true', Bool.not_eq_false'] using ci) | simpa using ci
   refine WLq 4 [(29, .bool (decide (boot < 0))), (28, .bool (decide (boot < 0))), (27, .bool (decide (boot < 0))), (26, .int .i64 boot)] ?_
   refine WLa 29 (decide (boot < 0)) rfl (fun f6 => ?_) (fun f6 => ?_)
   ·
    have oT : boot < 0 := by have q_ := of_decide_eq_true f6; omega
    refine WLq 3 [(32, .bool true), (31, undef), (30, undef)] (WLd rfl (QXn (f4 _ _ ?_)))
    refine WCt rfl ?_
    refine WCs (fun qm l6 => ?_)
    refine WCg (WLq 8 [(6, .bool true), (39, .bool true), (38, .bool true), (37, .iface 30 (.int .i64 12)), (36, .iface 30 (.int .i64 12)), (35, .bool true), (34, .bool true), (33, .pointer none)] (WLd rfl (QXn (l6 _ _ ?_))))
    refine WC.ret ?_
    refine QXr ?_
    refine (hret _ _ _ rfl ?_).1
    exact ⟨rfl, f5.fr⟩
   ·
    have oT : (0 : Int) ≤ boot := by have q_ := of_decide_eq_false f6; omega
    refine WLq 3 [(32, .bool (decide (boot > 1099511627776))), (31, .bool (decide (boot > 1099511627776))), (30, .int .i64 boot)] (WLd rfl (QXn (f4 _ _ ?_)))
    refine WC.know 32 (.bool (decide (boot > 1099511627776))) (.bool true) rfl (congrArg Value.bool (by exact decide_eq_true (Int.not_le.1 fun q_ => g8 ⟨oe, decide_eq_true ⟨by omega, q_⟩⟩))) ?_
    refine WCt rfl ?_
    refine WCs (fun qn l7 => ?_)
    refine WCg (WLq 8 [(6, .bool true), (39, .bool true), (38, .bool true), (37, .iface 30 (.int .i64 12)), (36, .iface 30 (.int .i64 12)), (35, .bool true), (34, .bool true), (33, .pointer none)] (WLd rfl (QXn (l7 _ _ ?_))))
    refine WC.ret ?_
    refine QXr ?_
    refine (hret _ _ _ rfl ?_).1
    exact ⟨rfl, f5.fr⟩
 ·
  have f3 := hC9.callN (G := [p12]) f2 (fun x_ h_ => by rw [List.mem_singleton] at h_; subst h_; exact hb) (spAt_lt eG)
  refine ⟨_, rfl, ?_⟩
  obtain ⟨hbt0_, hbt1_⟩ := tim_b ha
  refine WLq 5 [(8, .nilIface), (7, .pointer (some ⟨p12, 0, none⟩)), (21, .nilIface), (20, .pointer (some ⟨p12, 0, none⟩)), (16, .tuple #[.pointer (some ⟨p12, 0, none⟩), .nilIface])] (WLd rfl (QXn (g7 _ _ ?_)))
  refine WCs (fun qo l8 => ?_)
  refine WCs (fun qp l9 => ?_)
  refine WCg (WLq 1 [(22, .int .i64 node)] ?_)
  refine WLc rfl rfl rfl rfl rfl (by kernel_rfl) (RMux_ct node od) ?_
  rintro _ oU ⟨rfl, hc⟩
  refine ⟨_, rfl, ?_⟩
  have f7 := f3.call hc
  have ma := spAt_fr eG hc (by simp)
  refine WLq 2 [(25, .bool (!(muxB node))), (24, .bool (!(muxB node)))] ?_
  refine WL.know 25 (.bool (!(muxB node))) (.bool false) rfl (congrArg Value.bool (by rw [g9]; rfl)) ?_
  refine WLq 4 [(29, .bool (decide (boot < 0))), (28, .bool (decide (boot < 0))), (27, .bool (decide (boot < 0))), (26, .int .i64 boot)] ?_
  refine WL.know 29 (.bool (decide (boot < 0))) (.bool false) rfl (congrArg Value.bool (by exact decide_eq_false (by omega))) ?_
  refine WLq 3 [(32, .bool (decide (boot > 1099511627776))), (31, .bool (decide (boot > 1099511627776))), (30, .int .i64 boot)] (WLd rfl (QXn (l9 _ _ ?_)))
  refine WC.know 32 (.bool (decide (boot > 1099511627776))) (.bool false) rfl (congrArg Value.bool (by exact decide_eq_false (by omega))) ?_
  refine WCf rfl (WC.skip (QXn (l8 _ _ ?_)))
  refine WCs (fun qq mb => ?_)
  refine WCs (fun qr mc => ?_)
  refine WCg (WLq 8 [(47, .slice C ops.length c), (46, .bool false), (45, .bool false), (44, .bool false), (43, .pointer (some ⟨p12, 0, none⟩)), (42, .bool false), (41, .bool false), (40, .nilIface)] ?_)
  refine WLc rfl rfl rfl rfl rfl (by kernel_rfl) (large_ct C c ops oU (Rd.fr hops f7.fr) (fun o_ h_ => (hok o_ h_).fr' f7.fr) hol) ?_
  rintro _ qs ⟨b49, rfl, hd, hbig_⟩
  refine ⟨_, rfl, ?_⟩
  have he := f7.call hd
  have md := spAt_fr ma hd (by simp)
  refine WLq 1 [(49, .bool b49)] (WLd rfl (QXn (mc _ _ ?_)))
  refine WCa 49 (b49) rfl (fun hf => ?_) (fun hf => ?_)
  ·
   refine WCt rfl ?_
   refine WCs (fun qt me => ?_)
   refine WCg (WLq 7 [(6, .bool true), (55, .bool true), (54, .bool true), (53, .pointer (some ⟨p12, 0, none⟩)), (52, .bool true), (51, .bool true), (50, .nilIface)] (WLd rfl (QXn (me _ _ ?_))))
   refine WC.ret ?_
   refine QXr ?_
   refine (hret _ _ _ rfl ?_).1
   exact ⟨rfl, he.fr⟩
  ·
   have hbig2_ := hbig_ hf
   refine WCf rfl (WC.skip (QXn (mb _ _ ?_)))
   refine WCs (fun qu mf => ?_)
   refine WCg (WLq 2 [(57, .agg #[.int .i64 boot, .bool false, .slice none 0 0, .slice none 0 0]), (56, .int .i64 boot)] ?_)
   refine WL.newM he (fun b => .pointer (some ⟨b, 0, none⟩)) (.cells #[.int .i64 boot, .bool false, .slice none 0 0, .slice none 0 0] 36) 58 (fun _ => by kernel_rfl) (fun ab qv oV mg hg => ?_)
   have mh := spAt_fr md mg (by simp)
   refine WLq 1 [(9, .pointer (some ⟨ab, 0, none⟩))] (WLd rfl (QXn (mf _ _ ?_)))
   refine WCs (fun qw mi => ?_)
   refine WCs (fun qx mj => ?_)
   refine WCg (WLq 3 [(61, .int .i64 0), (60, .int .i64 (ops.length : Int)), (59, .slice C ops.length c)] (WLd rfl (QXn (mj _ _ ?_))))
   refine WC.block ?_
   have hh := sp_new (T := 36) (hg.get 0 rfl)
   have mk := hg.toF 0 rfl
   refine WC.loop (fun m_ E_ w_ => ∃ (i : Nat) (F5 F6 : List Nat) (o5 : Bool) (vs5 : List Int), m_ = ops.length - i ∧ E_ = [(7, .pointer (some ⟨p12, 0, none⟩)), (8, .nilIface), (9, .pointer (some ⟨ab, 0, none⟩)), (59, .slice C ops.length c), (60, .int .i64 (ops.length : Int)), (61, .int .i64 (i : Int))] ∧ Cx w [] w_ [] [F5, F6] ∧ spAt 78 w_ F5 p12 boot o5 vs5 [] ∧ spAt 36 w_ F6 ab boot o5 vs5 [] ∧ (i ≤ ops.length ∧ (vs5.length ≤ 39 ∧ ∀ x ∈ vs5, 0 ≤ x ∧ x ≤ 4294967295))) ⟨_, _, ⟨0, [p12], [ab], false, [], rfl, rfl, mk, mh, hh, Nat.zero_le _, ⟨by decide, by simp⟩⟩, sub_of ⟨rfl, rfl, rfl, rfl, rfl, rfl, trivial⟩⟩ (fun m74 E_ qy qz aH ml => ?_)
   obtain ⟨i, F5, F6, o5, vs5, rfl, rfl, f8, hsp5, hsp6, hi, hvk5⟩ := ml
   refine WCs (fun qA mm => ?_)
   refine WCg (WLq 1 [(62, .bool (decide ((i : Int) < (ops.length : Int))))] (WLd rfl (QXn (mm _ _ ?_))))
   refine WCs (fun qB mn => ?_)
   refine WCa 62 (decide ((i : Int) < (ops.length : Int))) rfl (fun f9 => ?_) (fun f9 => ?_)
   ·
    have oW : (i : Int) < (ops.length : Int) := by have q_ := of_decide_eq_true f9; omega
    refine WCt rfl ?_
    refine WC.skip ?_
    refine QXn (mn _ _ ?_)
    refine WCs (fun qC aI => ?_)
    refine WC.block ?_
    refine WCs (fun qD mo => ?_)
    refine WCg ?_
    obtain ⟨aa, ga⟩ := get_some (xs := ops) (i := i) (by omega)
    obtain ⟨b88, o90, mp, mq⟩ := hops.at_ _ _ ga
    have hop_e86 := hok _ (List.mem_of_getElem? ga)
    obtain ⟨hf0_e86, hf1_e86⟩ := hop_e86.fr
    have hnl_e86 := hop_e86.nl
    have hnm_e86 := hop_e86.nm
    have hvm_e86 := hop_e86.vm
    simp only [maxLen] at hnm_e86 hvm_e86
    obtain ⟨hn33_e86, hv30_e86⟩ := hbig2_ _ (List.mem_of_getElem? ga)
    refine WLi C ops.length c 63 .i64 (i : Int) b88 o90 i 7 (by kernel_rfl) mp (by omega) (by omega) (o90 + i * 7) (by first | (simp; done) | omega) ?_
    refine WLo 42 (.pointer (some ⟨b88, o90 + i * 7, none⟩)) (.agg #[.int .i64 aa.kind, .slice aa.va aa.vips.length aa.vc, .int .i64 aa.from_, .int .i64 aa.mki, .slice aa.na aa.nums.length aa.nc, .slice aa.da aa.dn aa.dc, .int .i64 aa.now]) 64 (run_rdN (l := [.int .i64 aa.kind, .slice aa.va aa.vips.length aa.vc, .int .i64 aa.from_, .int .i64 aa.mki, .slice aa.na aa.nums.length aa.nc, .slice aa.da aa.dn aa.dc, .int .i64 aa.now]) rfl rfl (fun j u hu => by have hq_ := f8.fr.cell (mq j u hu) (by simp); simpa [Nat.add_assoc] using hq_)) ?_
    refine WL.newM f8 (fun b => .pointer (some ⟨b, 0, none⟩)) (.cells #[.int .i64 0, .slice none 0 0, .int .i64 0, .int .i64 0, .slice none 0 0, .slice none 0 0, .int .i64 0] 42) 11 (fun _ => by kernel_rfl) (fun ai qE oX hk gb => ?_)
    have mr := spAt_fr hsp5 hk (by simp)
    have ms := spAt_fr hsp6 hk (by simp)
    refine WLs (c' := #[.int .i64 aa.kind, .slice aa.va aa.vips.length aa.vc, .int .i64 aa.from_, .int .i64 aa.mki, .slice aa.na aa.nums.length aa.nc, .slice aa.da aa.dn aa.dc, .int .i64 aa.now]) gb 0 42 ai 0 (.agg #[.int .i64 aa.kind, .slice aa.va aa.vips.length aa.vc, .int .i64 aa.from_, .int .i64 aa.mki, .slice aa.na aa.nums.length aa.nc, .slice aa.da aa.dn aa.dc, .int .i64 aa.now]) (by kernel_rfl) rfl (by kernel_rfl) (fun of eH ak => ?_)
    have cj := spAt_fr mr eH (gb.apartM 0 0 rfl rfl)
    have ck := spAt_fr ms eH (gb.apartM 1 0 rfl rfl)
    refine WLd rfl (QXn (mo _ _ ?_))
    refine WCs (fun oY bb => ?_)
    refine WCs (fun oZ hl => ?_)
    refine WCg (WLq 1 [(65, .pointer (some ⟨ai, 0, none⟩))] ?_)
    refine WLo 3 (.pointer (some ⟨ai, 0, none⟩)) (.int .i64 aa.kind) 66 (run_ld (ak.get 0 rfl) rfl) ?_
    refine WLd rfl (QXn (hl _ _ ?_))
    refine WC.block ?_
    refine WCs (fun o0 hm => ?_)
    refine WCg (WLq 2 [(75, .bool (aa.kind == 0)), (76, .bool (aa.kind == 0))] (WLd rfl (QXn (hm _ _ ?_))))
    refine WCa 75 (aa.kind == 0) rfl (fun cl => ?_) (fun cl => ?_)
    ·
     have mt : aa.kind = 0 := by simpa using cl
     refine WCt rfl ?_
     refine WCs (fun o1 cm => ?_)
     refine WC.drawC ak [] (by kernel_rfl) (fun aX eI bc aj => ?_)
     have eJ := spAt_fr cj eI (by simp)
     have eK := spAt_fr ck eI (by simp)
     refine WDq (NPt (NPb (NPt (NPb (NPt (NPt (NPb (NPt hN)))))))) 0 77 (.pointer (some ⟨ai, 1, none⟩)) aj ?_
     refine WDq (NPt (NPb (NPt (NPb (NPt (NPt (NPb (NPt hN)))))))) 5 82 (.pointer (some ⟨ai, 1, none⟩)) aj ?_
     refine WDq (NPt (NPb (NPt (NPb (NPt (NPt (NPb (NPt hN)))))))) 10 87 (.pointer (some ⟨ai, 1, none⟩)) aj ?_
     refine WDm (NPt (NPb (NPt (NPb (NPt (NPt (NPb (NPt hN)))))))) 1 33 (.pointer (some ⟨ai, 1, none⟩)) (.slice aa.va aa.vips.length aa.vc) 78 (fun _ hS_ => run_ld (Fr.has hS_ (bc.get 0 rfl) (by simp)) rfl) aj ?_
     refine WDq (NPt (NPb (NPt (NPb (NPt (NPt (NPb (NPt hN)))))))) 2 79 (.int .i64 (aa.vips.length : Int)) aj ?_
     refine WDq (NPt (NPb (NPt (NPb (NPt (NPt (NPb (NPt hN)))))))) 3 80 (.int .i64 (IntKind.i64.wrap ((aa.vips.length : Int) + 1))) aj ?_
     refine WD.recast (show (.int .i64 (IntKind.i64.wrap ((aa.vips.length : Int) + 1)) : Value) = .int .i64 ((aa.vips.length : Int) + 1) from by rw [wrap_in_i64 ((aa.vips.length : Int) + 1) (by omega) (by omega)]) ?_
     refine WDm (NPt (NPb (NPt (NPb (NPt (NPt (NPb (NPt hN)))))))) 6 33 (.pointer (some ⟨ai, 1, none⟩)) (.slice aa.va aa.vips.length aa.vc) 83 (fun _ hS_ => run_ld (Fr.has hS_ (bc.get 0 rfl) (by simp)) rfl) aj ?_
     refine WDm (NPt (NPb (NPt (NPb (NPt (NPt (NPb (NPt hN)))))))) 11 33 (.pointer (some ⟨ai, 1, none⟩)) (.slice aa.va aa.vips.length aa.vc) 88 (fun _ hS_ => run_ld (Fr.has hS_ (bc.get 0 rfl) (by simp)) rfl) aj ?_
     refine WDq (NPt (NPb (NPt (NPb (NPt (NPt (NPb (NPt hN)))))))) 12 89 (.int .i64 (aa.vips.length : Int)) aj ?_
     refine WD.all2 4 8 (by kernel_rfl) ?_ ?_
     ·
      obtain ⟨bs, o2, hn, eL, cn, bd, mu⟩ := make0_run Try.prog bc 33 44 1 4 (aa.vips.length + 1) .i64 .i64 ((aa.vips.length : Int) + 1) rfl (by omega) (by omega) (by simp only [maxLen]; omega)
      have bD := aj.trans cn (by simp)
      refine WO.sem 4 (Instr.makeSlice 33 (.int .i64 0) (.int .i64 ((aa.vips.length : Int) + 1))) 81 (.slice (some ⟨bs, 0, none⟩) 0 (aa.vips.length + 1)) (by kernel_rfl) (by kernel_rfl) hn bD ?_
      have eM := spAt_fr eJ cn (by simp)
      have eN := spAt_fr eK cn (by simp)
      refine WD.all2 7 8 (by kernel_rfl) ?_ ?_
      ·
       obtain ⟨o3, o4, ho, hp, co, hq, lY, ej⟩ := app_run Try.prog bd 2 (v := .slice (some ⟨bs, 0, none⟩) 0 (aa.vips.length + 1)) rfl 33 33 44 1 4 0 aa.vips.length aa.vc aa.va rfl eL (aa.vips.flatMap (Go.Tw.encI .u32)) (flat_len_n (Go.Tw.encI_len _) (by first | rfl | assumption | (simp; done) | (simp; omega))) (Rd.src_n (Rd.fr hop_e86.vr bd.fr) (Go.Tw.encI_len _) (by decide) (by first | rfl | assumption | (simp; done) | (simp; omega))) (flat_one (Go.Tw.encI_one _) _) (by simp only [maxLen]; omega) (by omega)
       have eO := own_app (enc := (Go.Tw.encI .u32)) (ys := []) (zs := aa.vips) hp
       obtain ⟨ek, em, rfl, mv⟩ := own_form eO
       have cp : ∀ x_ ∈ blk (.slice (some ⟨bs, 0, none⟩) 0 (aa.vips.length + 1)), aX.heap.size ≤ x_ := by first | (simp [blk, Value.ownBlock, *]; done) | (intro x_ hx_; simp [blk, Value.ownBlock] at hx_; omega)
       have cq : ∀ x_ ∈ blk (.slice ek (0 + aa.vips.length) em), aX.heap.size ≤ x_ := fun x_ hx_ => (ej x_ hx_).elim (cp x_) (fun h_ => Nat.le_trans bD.size h_)
       have eP := bD.trans co (fun x_ hx_ => .inr (cp x_ hx_))
       refine WO.sem 7 (Builtin.append_ #[33, 33] 33 #[.slice (some ⟨bs, 0, none⟩) 0 (aa.vips.length + 1), .slice aa.va aa.vips.length aa.vc]) 84 (.slice ek (0 + aa.vips.length) em) (by kernel_rfl) (by kernel_rfl) ho eP ?_
       have hr := spAt_fr eM co (bd.disj 0 2 rfl rfl (by decide))
       have hs := spAt_fr eN co (bd.disj 1 2 rfl rfl (by decide))
       refine WD.new 8 (fun b => .slice (some ⟨b, 0, none⟩) 1 1) (.cells #[.int .u32 7] 44) (by kernel_rfl) rfl rfl rfl rfl rfl (fun _ => by kernel_rfl) (fun gc o6 ht og be hv => ?_)
       have bE := hq.callB be ht hv
       have cr := eP.trans be (by simp)
       refine ⟨cr, ?_⟩
       have hw := spAt_fr hr be (by simp)
       have hx := spAt_fr hs be (by simp)
       have hy := own_fr eO be (by simp)
       obtain ⟨o7, mw, hA, hB, cs, ct, lZ, en⟩ := app_run Try.prog bE 2 (v := .slice ek (0 + aa.vips.length) em) rfl 33 33 44 1 4 (0 + aa.vips.length) 1 1 (some ⟨gc, 0, none⟩) rfl hy [.int .u32 7] rfl (srcOk.blk 1 (bE.get 1 rfl)) rfl (by simp only [maxLen]; omega) (by omega)
       have bf := own_snoc (enc := (Go.Tw.encI .u32)) (ys := [] ++ aa.vips) 7 hB
       obtain ⟨af, ac, rfl, mx⟩ := own_form bf
       have my : ∀ x_ ∈ blk (.slice af (0 + aa.vips.length + 1) ac), aX.heap.size ≤ x_ := fun x_ hx_ => (en x_ hx_).elim (cq x_) (fun h_ => Nat.le_trans cr.size h_)
       have cu := cr.trans cs (fun x_ hx_ => .inr (cq x_ hx_))
       refine WD.sem 9 (Builtin.append_ #[33, 33] 33 #[.slice ek (0 + aa.vips.length) em, .slice (some ⟨gc, 0, none⟩) 1 1]) 86 (.slice af (0 + aa.vips.length + 1) ac) (by kernel_rfl) (by kernel_rfl) hA cu ?_
       have hD := spAt_fr hw cs (bE.disj 0 2 rfl rfl (by decide))
       have hE := spAt_fr hx cs (bE.disj 1 2 rfl rfl (by decide))
       have hle_ := own_le bf
       have hF : aa.vips.length ≤ ac := by omega
       refine WD.slc (NPt (NPb (NPt (NPb (NPt (NPt (NPb (NPt hN)))))))) 13 33 44 1 af af (0 + aa.vips.length + 1) ac 0 aa.vips.length aa.vips.length ac none (some (.int .i64 (aa.vips.length : Int))) 90 (by kernel_rfl) (by kernel_rfl) (by kernel_rfl) bnd.no (bnd.yes (by omega)) (by omega) hF (slcAt_pre _ _ _) (by first | rfl | omega) (by first | rfl | omega) cu ?_
       have oh := own_takeE (m := aa.vips.length) (Go.Tw.encI_len _) bf (by omega)
       refine WDq (NPt (NPb (NPt (NPb (NPt (NPt (NPb (NPt hN)))))))) 14 12 (.slice af aa.vips.length ac) cu ?_
       refine WD.done (by kernel_rfl) ?_
       refine QXn (cm _ _ ?_)
       refine WCs (fun o8 hG => ?_)
       refine WCg (WLq 2 [(92, .slice af aa.vips.length ac), (91, .pointer (some ⟨p12, 0, none⟩))] ?_)
       refine WLc rfl rfl rfl rfl rfl (by kernel_rfl) (AnnG_n F5 p12 boot o5 vs5 [] af aa.vips.length ac aa.vips rfl mw hD hvk5 (Nat.zero_le _) (own_rd_pre (ys := [7]) (Go.Tw.encI_len _) (by decide) bf) (by omega) hop_e86.v32) ?_
       rintro _ mz ⟨F180, rfl, cv, cw, eo⟩
       have bg := ct.callF 0 rfl cv eo (spAt_lt cw)
       refine ⟨_, rfl, ?_⟩
       have hH := spAt_fr hE cv (ct.disj 1 0 rfl rfl (by decide))
       have hI := own_fr bf cv (ct.disj 2 0 rfl rfl (by decide))
       refine WLd rfl (QXn (hG _ _ ?_))
       refine WCs (fun o9 hJ => ?_)
       refine WCg (WLq 2 [(95, .pointer (some ⟨ai, 1, none⟩)), (94, .pointer (some ⟨ab, 0, none⟩))] ?_)
       refine WLo 33 (.pointer (some ⟨ai, 1, none⟩)) (.slice aa.va aa.vips.length aa.vc) 96 (run_ld (bg.get 0 rfl) rfl) ?_
       refine WLc rfl rfl rfl rfl rfl (by kernel_rfl) (RAnn_n F6 ab boot o5 vs5 [] aa.va aa.vips.length aa.vc aa.vips rfl mz hH hvk5 (Nat.zero_le _) (Rd.fr hop_e86.vr bg.fr) (by omega) hop_e86.v32) ?_
       rintro _ pa ⟨F190, rfl, cx, cy, ep⟩
       have hK := bg.callF 1 rfl cx ep (spAt_lt cy)
       refine ⟨_, rfl, ?_⟩
       have hL := spAt_fr cw cx (bg.disj 0 1 rfl rfl (by decide))
       have hM := own_fr hI cx (bg.disj 2 1 rfl rfl (by decide))
       refine WLd rfl (QXn (hJ _ _ ?_))
       refine WCs (fun pb hO => ?_)
       refine WCs (fun pc hP => ?_)
       refine WCg (WLq 3 [(100, .int .i64 0), (99, .int .i64 (aa.vips.length : Int)), (98, .slice af aa.vips.length ac)] (WLd rfl (QXn (hP _ _ ?_))))
       refine WC.block ?_
       refine WC.loop (fun m_ E_ w_ => ∃ (j : Nat) (L : List Int), m_ = aa.vips.length - j ∧ E_ = [(7, .pointer (some ⟨p12, 0, none⟩)), (8, .nilIface), (9, .pointer (some ⟨ab, 0, none⟩)), (11, .pointer (some ⟨ai, 0, none⟩)), (12, .slice af aa.vips.length ac), (59, .slice C ops.length c), (60, .int .i64 (ops.length : Int)), (61, .int .i64 (i : Int)), (99, .int .i64 (aa.vips.length : Int)), (100, .int .i64 (j : Int))] ∧ Cx w [] w_ [(ai, .cells #[.int .i64 aa.kind, .slice aa.va aa.vips.length aa.vc, .int .i64 aa.from_, .int .i64 aa.mki, .slice aa.na aa.nums.length aa.nc, .slice aa.da aa.dn aa.dc, .int .i64 aa.now] 42), (gc, .cells #[.int .u32 7] 44)] [F180, F190, blk (.slice af (0 + aa.vips.length + 1) ac)] ∧ spAt 78 w_ F180 p12 boot o5 (annV aa.vips) ([] ++ annM boot o5 vs5 aa.vips) ∧ spAt 36 w_ F190 ab boot o5 (annV aa.vips) ([] ++ annM boot o5 vs5 aa.vips) ∧ World.ownsRow w_ 0 44 1 (.slice af (0 + aa.vips.length + 1) ac) (0 + aa.vips.length + 1) (L.flatMap (Go.Tw.encI .u32)) ∧ (j ≤ aa.vips.length ∧ zeroT L aa.vips j aa.vips.length)) ⟨_, _, ⟨0, [] ++ aa.vips ++ [7], rfl, rfl, hK, hL, cy, hM, Nat.zero_le _, zeroT_0 rfl rfl⟩, sub_of ⟨rfl, rfl, rfl, rfl, rfl, rfl, rfl, rfl, rfl, rfl, trivial⟩⟩ (fun m205 E_ pd pe hQ hR => ?_)
       obtain ⟨j, L, rfl, rfl, eQ, sp36_m205, m_m205, hrow, hj, hz⟩ := hR
       have hzl_ := hz.1
       refine WCs (fun pf hS => ?_)
       refine WCg (WLq 1 [(101, .bool (decide ((j : Int) < (aa.vips.length : Int))))] (WLd rfl (QXn (hS _ _ ?_))))
       refine WCs (fun pg hT => ?_)
       refine WCa 101 (decide ((j : Int) < (aa.vips.length : Int))) rfl (fun cz => ?_) (fun cz => ?_)
       ·
        have mA : (j : Int) < (aa.vips.length : Int) := by have q_ := of_decide_eq_true cz; omega
        refine WCt rfl ?_
        refine WC.skip ?_
        refine QXn (hT _ _ ?_)
        refine WCs (fun ph hU => ?_)
        refine WC.block ?_
        refine WCs (fun pi hV => ?_)
        refine WCg (WLq 2 [(13, .int .i64 (j : Int)), (102, .int .i64 (j : Int))] (WLd rfl (QXn (hV _ _ ?_))))
        refine WCs (fun pj hW => ?_)
        refine WCs (fun pk hX => ?_)
        refine WC.drawC eQ [] (by kernel_rfl) (fun pl cA bh al => ?_)
        have hY := spAt_fr sp36_m205 cA (by simp)
        have hZ := spAt_fr m_m205 cA (by simp)
        have aJ := own_fr hrow cA (by simp)
        refine WDq (NPt (NPt (NPb (NPt (NPt (NPb (NPt (NPb (NPt (NPb (NPt (NPt (NPb (NPt hN)))))))))))))) 0 103 (.slice af aa.vips.length ac) al ?_
        refine WDq (NPt (NPt (NPb (NPt (NPt (NPb (NPt (NPb (NPt (NPb (NPt (NPt (NPb (NPt hN)))))))))))))) 1 104 (.int .i64 (j : Int)) al ?_
        have oi := own_count (Go.Tw.encI_len _) (by decide) aJ
        obtain ⟨gd, cB⟩ := get_some (xs := L) (i := j) (by omega)
        obtain ⟨b230, eR⟩ := own_addr (by decide) (Go.Tw.encI_len _) aJ cB
        refine WDi (NPt (NPt (NPb (NPt (NPt (NPb (NPt (NPb (NPt (NPb (NPt (NPt (NPb (NPt hN)))))))))))))) 2 af aa.vips.length ac 105 .i64 (j : Int) b230 0 j 1 (by kernel_rfl) (by kernel_rfl) eR (by omega) (by omega) j (by first | (simp; done) | omega) al ?_
        refine WDq (NPt (NPt (NPb (NPt (NPt (NPb (NPt (NPb (NPt (NPb (NPt (NPt (NPb (NPt hN)))))))))))))) 4 107 (.pointer (some ⟨ai, 1, none⟩)) al ?_
        refine WDq (NPt (NPt (NPb (NPt (NPt (NPb (NPt (NPb (NPt (NPb (NPt (NPt (NPb (NPt hN)))))))))))))) 6 109 (.int .i64 (j : Int)) al ?_
        refine WDm (NPt (NPt (NPb (NPt (NPt (NPb (NPt (NPb (NPt (NPb (NPt (NPt (NPb (NPt hN)))))))))))))) 3 44 (.pointer (some ⟨b230, j, none⟩)) (.int .u32 gd) 106 (fun _ hS_ => run_load1 rfl (by simpa [Nat.add_assoc] using Rd.cell (own_rd (own_fr aJ hS_ (by simp)) (Go.Tw.encI_len _) (by decide)) eR cB 0 _ rfl)) al ?_
        refine WDm (NPt (NPt (NPb (NPt (NPt (NPb (NPt (NPb (NPt (NPb (NPt (NPt (NPb (NPt hN)))))))))))))) 5 33 (.pointer (some ⟨ai, 1, none⟩)) (.slice aa.va aa.vips.length aa.vc) 108 (fun _ hS_ => run_ld (Fr.has hS_ (bh.get 0 rfl) (by simp)) rfl) al ?_
        obtain ⟨gf, eS⟩ := get_some (xs := aa.vips) (i := j) (by omega)
        obtain ⟨b235, o237, h0, h1⟩ := hop_e86.vr.at_ _ _ eS
        refine WDi (NPt (NPt (NPb (NPt (NPt (NPb (NPt (NPb (NPt (NPb (NPt (NPt (NPb (NPt hN)))))))))))))) 7 aa.va aa.vips.length aa.vc 110 .i64 (j : Int) b235 o237 j 1 (by kernel_rfl) (by kernel_rfl) h0 (by omega) (by omega) (o237 + j) (by first | (simp; done) | omega) al ?_
        refine WDm (NPt (NPt (NPb (NPt (NPt (NPb (NPt (NPb (NPt (NPb (NPt (NPt (NPb (NPt hN)))))))))))))) 8 44 (.pointer (some ⟨b235, o237 + j, none⟩)) (.int .u32 gf) 111 (fun _ hS_ => run_load1 rfl (by simpa [Nat.add_assoc] using Fr.cell hS_ (bh.fr.cell (h1 0 _ rfl) (by simp)) (by simp))) al ?_
        refine WDq (NPt (NPt (NPb (NPt (NPt (NPb (NPt (NPb (NPt (NPb (NPt (NPt (NPb (NPt hN)))))))))))))) 9 112 (.bool (gd != gf)) al ?_
        refine WD.done (by kernel_rfl) ?_
        refine QXn (hX _ _ ?_)
        refine WC.know 112 (.bool (gd != gf)) (.bool false) rfl (congrArg Value.bool (by rw [zeroT_eq hz rfl (by omega) cB eS]; simp)) ?_
        refine WCf rfl (WC.skip (QXn (hW _ _ ?_)))
        refine WCg (WLq 2 [(114, .int .i64 (j : Int)), (113, .slice af aa.vips.length ac)] ?_)
        have oj := own_count (Go.Tw.encI_len _) (by decide) aJ
        obtain ⟨mB, eT⟩ := get_some (xs := L) (i := j) (by omega)
        obtain ⟨b241, eU⟩ := own_addr (by decide) (Go.Tw.encI_len _) aJ eT
        refine WLi af aa.vips.length ac 115 .i64 (j : Int) b241 0 j 1 (by kernel_rfl) eU (by omega) (by omega) j (by first | (simp; done) | omega) ?_
        obtain ⟨pm, h2, eV, h3, h4⟩ := stoE_run Try.prog (Go.Tw.encI_len _) bh 2 eU rfl aJ j 0 (x := mB) eT 0 [.int .u32 0] rfl 44 (.int .u32 0) (j) rfl rfl rfl (by first | rfl | simp [Nat.add_assoc])
        refine WL.semU (Instr.storeAt 44 (.pointer (some ⟨b241, j, none⟩)) (.int .u32 0)) (by kernel_rfl) h2 ?_
        have h5 := spAt_fr hY eV (bh.disj 0 2 rfl rfl (by decide))
        have h6 := spAt_fr hZ eV (bh.disj 1 2 rfl rfl (by decide))
        refine WLd rfl ?_
        refine QXb ?_
        refine QXn (hU _ _ ?_)
        refine WCg (WLq 1 [(116, .int .i64 (IntKind.i64.wrap ((j : Int) + 1)))] ?_)
        refine WLt (show (.int .i64 (IntKind.i64.wrap ((j : Int) + 1)) : Value) = .int .i64 ((j : Int) + 1) from by rw [wrap_in_i64 ((j : Int) + 1) (by omega) (by omega)]) ?_
        refine WLq 1 [(100, .int .i64 ((j : Int) + 1))] ?_
        refine WLd rfl ?_
        refine QXn ?_
        have h7 := h4.pick [0, 1] [0, 1, 2] rfl rfl
        refine fun a_ ha_ => hQ _ _ _ ?_ ⟨j + 1, L.set j 0, rfl, rfl, h7, h5, h6, h3, by omega, zeroT_step hz 0⟩ a_ (ha_.weaken (sub_of ⟨rfl, rfl, rfl, rfl, rfl, rfl, rfl, rfl, rfl, rfl, trivial⟩))
        omega
       ·
        have mA : (aa.vips.length : Int) ≤ (j : Int) := by have q_ := of_decide_eq_false cz; omega
        refine WCf rfl ?_
        refine WC.exit ?_
        refine QXe ?_
        refine QXe ?_
        refine QX.block_hit ?_
        refine QXn (hO _ _ ?_)
        refine WCs (fun pn h8 => ?_)
        refine WCg (WLq 4 [(120, .int .i64 (IntKind.i64.wrap ((aa.vips.length : Int) + 1))), (119, .int .i64 (aa.vips.length : Int)), (118, .slice af aa.vips.length ac), (117, .slice af aa.vips.length ac)] ?_)
        refine WLt (show (.int .i64 (IntKind.i64.wrap ((aa.vips.length : Int) + 1)) : Value) = .int .i64 ((aa.vips.length : Int) + 1) from by rw [wrap_in_i64 ((aa.vips.length : Int) + 1) (by omega) (by omega)]) ?_
        have hle_ := own_le hrow
        have h9 : aa.vips.length + 1 ≤ ac := by omega
        refine WL.slc 33 44 1 af af aa.vips.length ac 0 (aa.vips.length + 1) (aa.vips.length + 1) ac none (some (.int .i64 ((aa.vips.length : Int) + 1))) 121 (by kernel_rfl) (by kernel_rfl) bnd.no (bnd.yes (by omega)) (by omega) h9 (slcAt_pre _ _ _) (by first | rfl | omega) (by first | rfl | omega) ?_
        have cC := own_takeE (m := aa.vips.length + 1) (Go.Tw.encI_len _) hrow (by omega)
        refine WLq 2 [(123, .int .i64 (aa.vips.length : Int)), (122, .slice af aa.vips.length ac)] ?_
        have ok := own_count (Go.Tw.encI_len _) (by decide) cC
        obtain ⟨gg, cD⟩ := get_some (xs := L.take (aa.vips.length + 1)) (i := aa.vips.length) (by omega)
        obtain ⟨b259, eW⟩ := own_addr (by decide) (Go.Tw.encI_len _) cC cD
        refine WLi af (aa.vips.length + 1) ac 124 .i64 (aa.vips.length : Int) b259 0 aa.vips.length 1 (by kernel_rfl) eW (by omega) (by omega) aa.vips.length (by first | (simp; done) | omega) ?_
        refine WLo 44 (.pointer (some ⟨b259, aa.vips.length, none⟩)) (.int .u32 gg) 125 (run_load1 rfl (by simpa [Nat.add_assoc] using Rd.cell (own_rd cC (Go.Tw.encI_len _) (by decide)) eW cD 0 _ rfl)) ?_
        refine WLq 1 [(126, .bool (gg != 7))] (WLd rfl (QXn (h8 _ _ ?_)))
        refine WC.know 126 (.bool (gg != 7)) (.bool false) rfl (congrArg Value.bool (by rw [zeroT_end hz rfl hj (by omega) cD]; rfl)) ?_
        refine WCf rfl (WC.skip ?_)
        refine QXb ?_
        refine QXn (bb _ _ ?_)
        refine WCs (fun po eX => ?_)
        refine WC.drawC eQ (F180 ++ F190) (by kernel_rfl) (fun ia eY eZ aw => ?_)
        have bF := spAt_fr sp36_m205 eY (by simp)
        have cE := spAt_fr m_m205 eY (by simp)
        refine WDq (NPt (NPb (NPt (NPt (NPb (NPt hN)))))) 0 137 (.pointer (some ⟨p12, 0, none⟩)) aw ?_
        refine WDq (NPt (NPb (NPt (NPt (NPb (NPt hN)))))) 2 139 (.pointer (some ⟨ab, 0, none⟩)) aw ?_
        refine WDq (NPt (NPb (NPt (NPt (NPb (NPt hN)))))) 3 140 (.pointer (some ⟨ab, 0, none⟩)) aw ?_
        refine WDq (NPt (NPb (NPt (NPt (NPb (NPt hN)))))) 4 141 (.pointer (some ⟨ab, 1, none⟩)) aw ?_
        refine WD.all2 1 5 (by kernel_rfl) ?_ ?_
        ·
         refine WO.call 1 (by kernel_rfl) rfl rfl rfl rfl rfl (by kernel_rfl) (OpenG_ct F180 p12 boot o5 (annV aa.vips) ([] ++ annM boot o5 vs5 aa.vips) ia bF) ?_
         rintro _ mC ⟨rfl, bG⟩
         have ax := aw.trans bG (by simp)
         refine ⟨_, rfl, ax, ?_⟩
         have e0 := eZ.call bG
         have ib := spAt_fr bF bG (by simp)
         have e1 := spAt_fr cE bG (by simp)
         refine WD.sem 5 (Instr.loadAt 4 (.pointer (some ⟨ab, 1, none⟩))) 142 (.bool o5) (by kernel_rfl) (by kernel_rfl) (sp_ld e1) ax ?_
         refine WDq (NPt (NPb (NPt (NPt (NPb (NPt hN)))))) 6 143 (.bool (o5 != o5)) ax ?_
         refine WDq (NPt (NPb (NPt (NPt (NPb (NPt hN)))))) 7 144 (.bool (o5 != o5)) ax ?_
         refine WD.know 144 (.bool (o5 != o5)) (.bool false) rfl (congrArg Value.bool (by simp)) ?_
         refine WDq (NPt (NPb (NPt (NPt (NPb (NPt hN)))))) 8 145 (.pointer (some ⟨p12, 0, none⟩)) ax ?_
         refine WDq (NPt (NPb (NPt (NPt (NPb (NPt hN)))))) 10 147 (.pointer (some ⟨ab, 0, none⟩)) ax ?_
         refine WD.call 9 (by kernel_rfl) rfl rfl rfl rfl rfl (by kernel_rfl) (OutG78_ct F180 p12 boot o5 (annV aa.vips) ([] ++ annM boot o5 vs5 aa.vips) mC ib (annM_le _ _ _ _)) ?_
         rintro _ mD ⟨F280, R281, mE, mF, mG, rfl, cF, cG, bH, ic, ie, ig⟩
         have e2 := ax.trans cF (fun x_ h_ => .inl (List.mem_append_left _ h_))
         refine ⟨_, rfl, e2, ?_⟩
         have cH := Cx.callSplit e0 0 rfl cF ic ie ig (spAt_lt cG) (outAt_lt bH)
         have ih := spAt_fr e1 cF (e0.disj 1 0 rfl rfl (by decide))
         refine WD.call 11 (by kernel_rfl) rfl rfl rfl rfl rfl (by kernel_rfl) (ROut_ct F190 ab boot o5 (annV aa.vips) ([] ++ annM boot o5 vs5 aa.vips) mD ih (annM_le _ _ _ _)) ?_
         rintro _ mH ⟨F298, R299, mI, mJ, mK, rfl, bI, cI, aY, ii, ij, ik⟩
         have e3 := e2.trans bI (fun x_ h_ => .inl (List.mem_append_right _ h_))
         refine ⟨_, rfl, e3, ?_⟩
         have il := Cx.callSplit cH 1 rfl bI ii ij ik (spAt_lt cI) (outAt_lt aY)
         have im := spAt_fr cG bI (cH.disj 0 1 rfl rfl (by decide))
         have e4 := outAt.fr bH bI (cH.disj 3 1 rfl rfl (by decide))
         refine WD.call 12 (by kernel_rfl) rfl rfl rfl rfl rfl (by kernel_rfl) (msgs_ct R281 R299 mE mI mF mG mJ mK ([] ++ annM boot o5 vs5 aa.vips) mH e4 aY) ?_
         rintro _ pp ⟨rfl, aK⟩
         have cJ := e3.trans aK (by simp)
         refine ⟨_, rfl, cJ, ?_⟩
         have io := il.call aK
         have ip := spAt_fr im aK (by simp)
         have iq := spAt_fr cI aK (by simp)
         have ol := outAt.fr e4 aK (by simp)
         have om := outAt.fr aY aK (by simp)
         refine WDq (NPt (NPb (NPt (NPt (NPb (NPt hN)))))) 13 150 (.bool false) cJ ?_
         refine WDq (NPt (NPb (NPt (NPt (NPb (NPt hN)))))) 14 151 (.bool false) cJ ?_
         refine WD.done (by kernel_rfl) ?_
         refine QXn (eX _ _ ?_)
         refine WCf rfl (WC.skip ?_)
         refine QXb ?_
         refine QXn (aI _ _ ?_)
         refine WCg (WLq 1 [(152, .int .i64 (IntKind.i64.wrap ((i : Int) + 1)))] ?_)
         refine WLt (show (.int .i64 (IntKind.i64.wrap ((i : Int) + 1)) : Value) = .int .i64 ((i : Int) + 1) from by rw [wrap_in_i64 ((i : Int) + 1) (by omega) (by omega)]) ?_
         refine WLq 1 [(61, .int .i64 ((i : Int) + 1))] ?_
         refine WLd rfl ?_
         refine QXn ?_
         have ir := io.pick [] [0, 1] rfl rfl
         refine fun a_ ha_ => aH _ _ _ ?_ ⟨i + 1, F280, F298, o5, (annV aa.vips), rfl, rfl, ir, ip, iq, by omega, annV_ok hop_e86.v32⟩ a_ (ha_.weaken (sub_of ⟨rfl, rfl, rfl, rfl, rfl, rfl, trivial⟩))
         omega
        ·
         refine WO.sem 5 (Instr.loadAt 4 (.pointer (some ⟨ab, 1, none⟩))) 142 (.bool o5) (by kernel_rfl) (by kernel_rfl) (sp_ld cE) aw ?_
         refine WD.call 1 (by kernel_rfl) rfl rfl rfl rfl rfl (by kernel_rfl) (OpenG_ct F180 p12 boot o5 (annV aa.vips) ([] ++ annM boot o5 vs5 aa.vips) ia bF) ?_
         rintro _ mL ⟨rfl, bJ⟩
         have aL := aw.trans bJ (by simp)
         refine ⟨_, rfl, aL, ?_⟩
         have e5 := eZ.call bJ
         have it := spAt_fr bF bJ (by simp)
         have iu := spAt_fr cE bJ (by simp)
         refine WDq (NPt (NPb (NPt (NPt (NPb (NPt hN)))))) 6 143 (.bool (o5 != o5)) aL ?_
         refine WDq (NPt (NPb (NPt (NPt (NPb (NPt hN)))))) 7 144 (.bool (o5 != o5)) aL ?_
         refine WD.know 144 (.bool (o5 != o5)) (.bool false) rfl (congrArg Value.bool (by simp)) ?_
         refine WDq (NPt (NPb (NPt (NPt (NPb (NPt hN)))))) 8 145 (.pointer (some ⟨p12, 0, none⟩)) aL ?_
         refine WDq (NPt (NPb (NPt (NPt (NPb (NPt hN)))))) 10 147 (.pointer (some ⟨ab, 0, none⟩)) aL ?_
         refine WD.call 9 (by kernel_rfl) rfl rfl rfl rfl rfl (by kernel_rfl) (OutG78_ct F180 p12 boot o5 (annV aa.vips) ([] ++ annM boot o5 vs5 aa.vips) mL it (annM_le _ _ _ _)) ?_
         rintro _ mM ⟨F336, R337, mN, mO, mP, rfl, cK, cL, bK, iv, iw, ix⟩
         have e6 := aL.trans cK (fun x_ h_ => .inl (List.mem_append_left _ h_))
         refine ⟨_, rfl, e6, ?_⟩
         have cM := Cx.callSplit e5 0 rfl cK iv iw ix (spAt_lt cL) (outAt_lt bK)
         have iy := spAt_fr iu cK (e5.disj 1 0 rfl rfl (by decide))
         refine WD.call 11 (by kernel_rfl) rfl rfl rfl rfl rfl (by kernel_rfl) (ROut_ct F190 ab boot o5 (annV aa.vips) ([] ++ annM boot o5 vs5 aa.vips) mM iy (annM_le _ _ _ _)) ?_
         rintro _ mQ ⟨F354, R355, mR, mS, mT, rfl, bL, cN, aZ, iz, iA, iB⟩
         have e7 := e6.trans bL (fun x_ h_ => .inl (List.mem_append_right _ h_))
         refine ⟨_, rfl, e7, ?_⟩
         have iC := Cx.callSplit cM 1 rfl bL iz iA iB (spAt_lt cN) (outAt_lt aZ)
         have iD := spAt_fr cL bL (cM.disj 0 1 rfl rfl (by decide))
         have e8 := outAt.fr bK bL (cM.disj 3 1 rfl rfl (by decide))
         refine WD.call 12 (by kernel_rfl) rfl rfl rfl rfl rfl (by kernel_rfl) (msgs_ct R337 R355 mN mR mO mP mS mT ([] ++ annM boot o5 vs5 aa.vips) mQ e8 aZ) ?_
         rintro _ pq ⟨rfl, aM⟩
         have cO := e7.trans aM (by simp)
         refine ⟨_, rfl, cO, ?_⟩
         have iE := iC.call aM
         have iF := spAt_fr iD aM (by simp)
         have iG := spAt_fr cN aM (by simp)
         have on := outAt.fr e8 aM (by simp)
         have oo := outAt.fr aZ aM (by simp)
         refine WDq (NPt (NPb (NPt (NPt (NPb (NPt hN)))))) 13 150 (.bool false) cO ?_
         refine WDq (NPt (NPb (NPt (NPt (NPb (NPt hN)))))) 14 151 (.bool false) cO ?_
         refine WD.done (by kernel_rfl) ?_
         refine QXn (eX _ _ ?_)
         refine WCf rfl (WC.skip ?_)
         refine QXb ?_
         refine QXn (aI _ _ ?_)
         refine WCg (WLq 1 [(152, .int .i64 (IntKind.i64.wrap ((i : Int) + 1)))] ?_)
         refine WLt (show (.int .i64 (IntKind.i64.wrap ((i : Int) + 1)) : Value) = .int .i64 ((i : Int) + 1) from by rw [wrap_in_i64 ((i : Int) + 1) (by omega) (by omega)]) ?_
         refine WLq 1 [(61, .int .i64 ((i : Int) + 1))] ?_
         refine WLd rfl ?_
         refine QXn ?_
         have iH := iE.pick [] [0, 1] rfl rfl
         refine fun a_ ha_ => aH _ _ _ ?_ ⟨i + 1, F336, F354, o5, (annV aa.vips), rfl, rfl, iH, iF, iG, by omega, annV_ok hop_e86.v32⟩ a_ (ha_.weaken (sub_of ⟨rfl, rfl, rfl, rfl, rfl, rfl, trivial⟩))
         omega
      ·
       refine WO.new 8 (fun b => .slice (some ⟨b, 0, none⟩) 1 1) (.cells #[.int .u32 7] 44) (by kernel_rfl) rfl rfl rfl rfl rfl (fun _ => by kernel_rfl) (fun gh pr iI op bi iJ => ?_)
       have bM := bd.callB bi iI iJ
       have cP := bD.trans bi (by simp)
       refine ⟨cP, ?_⟩
       have iK := spAt_fr eM bi (by simp)
       have iL := spAt_fr eN bi (by simp)
       have iM := own_fr eL bi (by simp)
       obtain ⟨ps, pt, iN, iO, cQ, bN, l0, er⟩ := app_run Try.prog bM 2 (v := .slice (some ⟨bs, 0, none⟩) 0 (aa.vips.length + 1)) rfl 33 33 44 1 4 0 aa.vips.length aa.vc aa.va rfl iM (aa.vips.flatMap (Go.Tw.encI .u32)) (flat_len_n (Go.Tw.encI_len _) (by first | rfl | assumption | (simp; done) | (simp; omega))) (Rd.src_n (Rd.fr hop_e86.vr bM.fr) (Go.Tw.encI_len _) (by decide) (by first | rfl | assumption | (simp; done) | (simp; omega))) (flat_one (Go.Tw.encI_one _) _) (by simp only [maxLen]; omega) (by omega)
       have e9 := own_app (enc := (Go.Tw.encI .u32)) (ys := []) (zs := aa.vips) iO
       obtain ⟨es, et, rfl, mU⟩ := own_form e9
       have cR : ∀ x_ ∈ blk (.slice (some ⟨bs, 0, none⟩) 0 (aa.vips.length + 1)), aX.heap.size ≤ x_ := by first | (simp [blk, Value.ownBlock, *]; done) | (intro x_ hx_; simp [blk, Value.ownBlock] at hx_; omega)
       have cS : ∀ x_ ∈ blk (.slice es (0 + aa.vips.length) et), aX.heap.size ≤ x_ := fun x_ hx_ => (er x_ hx_).elim (cR x_) (fun h_ => Nat.le_trans cP.size h_)
       have cT := cP.trans cQ (fun x_ hx_ => .inr (cR x_ hx_))
       refine WD.sem 7 (Builtin.append_ #[33, 33] 33 #[.slice (some ⟨bs, 0, none⟩) 0 (aa.vips.length + 1), .slice aa.va aa.vips.length aa.vc]) 84 (.slice es (0 + aa.vips.length) et) (by kernel_rfl) (by kernel_rfl) iN cT ?_
       have iP := spAt_fr iK cQ (bM.disj 0 2 rfl rfl (by decide))
       have iQ := spAt_fr iL cQ (bM.disj 1 2 rfl rfl (by decide))
       obtain ⟨pu, mV, iR, iS, cU, cV, l1, eu⟩ := app_run Try.prog bN 2 (v := .slice es (0 + aa.vips.length) et) rfl 33 33 44 1 4 (0 + aa.vips.length) 1 1 (some ⟨gh, 0, none⟩) rfl e9 [.int .u32 7] rfl (srcOk.blk 1 (bN.get 1 rfl)) rfl (by simp only [maxLen]; omega) (by omega)
       have bj := own_snoc (enc := (Go.Tw.encI .u32)) (ys := [] ++ aa.vips) 7 iS
       obtain ⟨ag, ad, rfl, mW⟩ := own_form bj
       have mX : ∀ x_ ∈ blk (.slice ag (0 + aa.vips.length + 1) ad), aX.heap.size ≤ x_ := fun x_ hx_ => (eu x_ hx_).elim (cS x_) (fun h_ => Nat.le_trans cT.size h_)
       have cW := cT.trans cU (fun x_ hx_ => .inr (cS x_ hx_))
       refine WD.sem 9 (Builtin.append_ #[33, 33] 33 #[.slice es (0 + aa.vips.length) et, .slice (some ⟨gh, 0, none⟩) 1 1]) 86 (.slice ag (0 + aa.vips.length + 1) ad) (by kernel_rfl) (by kernel_rfl) iR cW ?_
       have iT := spAt_fr iP cU (bN.disj 0 2 rfl rfl (by decide))
       have iU := spAt_fr iQ cU (bN.disj 1 2 rfl rfl (by decide))
       have hle_ := own_le bj
       have iV : aa.vips.length ≤ ad := by omega
       refine WD.slc (NPt (NPb (NPt (NPb (NPt (NPt (NPb (NPt hN)))))))) 13 33 44 1 ag ag (0 + aa.vips.length + 1) ad 0 aa.vips.length aa.vips.length ad none (some (.int .i64 (aa.vips.length : Int))) 90 (by kernel_rfl) (by kernel_rfl) (by kernel_rfl) bnd.no (bnd.yes (by omega)) (by omega) iV (slcAt_pre _ _ _) (by first | rfl | omega) (by first | rfl | omega) cW ?_
       have oq := own_takeE (m := aa.vips.length) (Go.Tw.encI_len _) bj (by omega)
       refine WDq (NPt (NPb (NPt (NPb (NPt (NPt (NPb (NPt hN)))))))) 14 12 (.slice ag aa.vips.length ad) cW ?_
       refine WD.done (by kernel_rfl) ?_
       refine QXn (cm _ _ ?_)
       refine WCs (fun pv iW => ?_)
       refine WCg (WLq 2 [(92, .slice ag aa.vips.length ad), (91, .pointer (some ⟨p12, 0, none⟩))] ?_)
       refine WLc rfl rfl rfl rfl rfl (by kernel_rfl) (AnnG_n F5 p12 boot o5 vs5 [] ag aa.vips.length ad aa.vips rfl mV iT hvk5 (Nat.zero_le _) (own_rd_pre (ys := [7]) (Go.Tw.encI_len _) (by decide) bj) (by omega) hop_e86.v32) ?_
       rintro _ mY ⟨F433, rfl, cX, cY, ev⟩
       have bk := cV.callF 0 rfl cX ev (spAt_lt cY)
       refine ⟨_, rfl, ?_⟩
       have iX := spAt_fr iU cX (cV.disj 1 0 rfl rfl (by decide))
       have iY := own_fr bj cX (cV.disj 2 0 rfl rfl (by decide))
       refine WLd rfl (QXn (iW _ _ ?_))
       refine WCs (fun pw iZ => ?_)
       refine WCg (WLq 2 [(95, .pointer (some ⟨ai, 1, none⟩)), (94, .pointer (some ⟨ab, 0, none⟩))] ?_)
       refine WLo 33 (.pointer (some ⟨ai, 1, none⟩)) (.slice aa.va aa.vips.length aa.vc) 96 (run_ld (bk.get 0 rfl) rfl) ?_
       refine WLc rfl rfl rfl rfl rfl (by kernel_rfl) (RAnn_n F6 ab boot o5 vs5 [] aa.va aa.vips.length aa.vc aa.vips rfl mY iX hvk5 (Nat.zero_le _) (Rd.fr hop_e86.vr bk.fr) (by omega) hop_e86.v32) ?_
       rintro _ px ⟨F443, rfl, cZ, c0, ew⟩
       have i0 := bk.callF 1 rfl cZ ew (spAt_lt c0)
       refine ⟨_, rfl, ?_⟩
       have i1 := spAt_fr cY cZ (bk.disj 0 1 rfl rfl (by decide))
       have i2 := own_fr iY cZ (bk.disj 2 1 rfl rfl (by decide))
       refine WLd rfl (QXn (iZ _ _ ?_))
       refine WCs (fun py i3 => ?_)
       refine WCs (fun pz i4 => ?_)
       refine WCg (WLq 3 [(100, .int .i64 0), (99, .int .i64 (aa.vips.length : Int)), (98, .slice ag aa.vips.length ad)] (WLd rfl (QXn (i4 _ _ ?_))))
       refine WC.block ?_
       refine WC.loop (fun m_ E_ w_ => ∃ (j : Nat) (L : List Int), m_ = aa.vips.length - j ∧ E_ = [(7, .pointer (some ⟨p12, 0, none⟩)), (8, .nilIface), (9, .pointer (some ⟨ab, 0, none⟩)), (11, .pointer (some ⟨ai, 0, none⟩)), (12, .slice ag aa.vips.length ad), (59, .slice C ops.length c), (60, .int .i64 (ops.length : Int)), (61, .int .i64 (i : Int)), (99, .int .i64 (aa.vips.length : Int)), (100, .int .i64 (j : Int))] ∧ Cx w [] w_ [(ai, .cells #[.int .i64 aa.kind, .slice aa.va aa.vips.length aa.vc, .int .i64 aa.from_, .int .i64 aa.mki, .slice aa.na aa.nums.length aa.nc, .slice aa.da aa.dn aa.dc, .int .i64 aa.now] 42), (gh, .cells #[.int .u32 7] 44)] [F433, F443, blk (.slice ag (0 + aa.vips.length + 1) ad)] ∧ spAt 78 w_ F433 p12 boot o5 (annV aa.vips) ([] ++ annM boot o5 vs5 aa.vips) ∧ spAt 36 w_ F443 ab boot o5 (annV aa.vips) ([] ++ annM boot o5 vs5 aa.vips) ∧ World.ownsRow w_ 0 44 1 (.slice ag (0 + aa.vips.length + 1) ad) (0 + aa.vips.length + 1) (L.flatMap (Go.Tw.encI .u32)) ∧ (j ≤ aa.vips.length ∧ zeroT L aa.vips j aa.vips.length)) ⟨_, _, ⟨0, [] ++ aa.vips ++ [7], rfl, rfl, i0, i1, c0, i2, Nat.zero_le _, zeroT_0 rfl rfl⟩, sub_of ⟨rfl, rfl, rfl, rfl, rfl, rfl, rfl, rfl, rfl, rfl, trivial⟩⟩ (fun m458 E_ pA pB i5 i6 => ?_)
       obtain ⟨j, L, rfl, rfl, fa, sp36_m458, m_m458, hrow, hj, hz⟩ := i6
       have hzl_ := hz.1
       refine WCs (fun pC i7 => ?_)
       refine WCg (WLq 1 [(101, .bool (decide ((j : Int) < (aa.vips.length : Int))))] (WLd rfl (QXn (i7 _ _ ?_))))
       refine WCs (fun pD i8 => ?_)
       refine WCa 101 (decide ((j : Int) < (aa.vips.length : Int))) rfl (fun c1 => ?_) (fun c1 => ?_)
       ·
        have mZ : (j : Int) < (aa.vips.length : Int) := by have q_ := of_decide_eq_true c1; omega
        refine WCt rfl ?_
        refine WC.skip ?_
        refine QXn (i8 _ _ ?_)
        refine WCs (fun pE i9 => ?_)
        refine WC.block ?_
        refine WCs (fun pF ja => ?_)
        refine WCg (WLq 2 [(13, .int .i64 (j : Int)), (102, .int .i64 (j : Int))] (WLd rfl (QXn (ja _ _ ?_))))
        refine WCs (fun pG jb => ?_)
        refine WCs (fun pH jc => ?_)
        refine WC.drawC fa [] (by kernel_rfl) (fun pI c2 bl am => ?_)
        have jd := spAt_fr sp36_m458 c2 (by simp)
        have je := spAt_fr m_m458 c2 (by simp)
        have aN := own_fr hrow c2 (by simp)
        refine WDq (NPt (NPt (NPb (NPt (NPt (NPb (NPt (NPb (NPt (NPb (NPt (NPt (NPb (NPt hN)))))))))))))) 0 103 (.slice ag aa.vips.length ad) am ?_
        refine WDq (NPt (NPt (NPb (NPt (NPt (NPb (NPt (NPb (NPt (NPb (NPt (NPt (NPb (NPt hN)))))))))))))) 1 104 (.int .i64 (j : Int)) am ?_
        have ot := own_count (Go.Tw.encI_len _) (by decide) aN
        obtain ⟨gi, c3⟩ := get_some (xs := L) (i := j) (by omega)
        obtain ⟨b483, fb⟩ := own_addr (by decide) (Go.Tw.encI_len _) aN c3
        refine WDi (NPt (NPt (NPb (NPt (NPt (NPb (NPt (NPb (NPt (NPb (NPt (NPt (NPb (NPt hN)))))))))))))) 2 ag aa.vips.length ad 105 .i64 (j : Int) b483 0 j 1 (by kernel_rfl) (by kernel_rfl) fb (by omega) (by omega) j (by first | (simp; done) | omega) am ?_
        refine WDq (NPt (NPt (NPb (NPt (NPt (NPb (NPt (NPb (NPt (NPb (NPt (NPt (NPb (NPt hN)))))))))))))) 4 107 (.pointer (some ⟨ai, 1, none⟩)) am ?_
        refine WDq (NPt (NPt (NPb (NPt (NPt (NPb (NPt (NPb (NPt (NPb (NPt (NPt (NPb (NPt hN)))))))))))))) 6 109 (.int .i64 (j : Int)) am ?_
        refine WDm (NPt (NPt (NPb (NPt (NPt (NPb (NPt (NPb (NPt (NPb (NPt (NPt (NPb (NPt hN)))))))))))))) 3 44 (.pointer (some ⟨b483, j, none⟩)) (.int .u32 gi) 106 (fun _ hS_ => run_load1 rfl (by simpa [Nat.add_assoc] using Rd.cell (own_rd (own_fr aN hS_ (by simp)) (Go.Tw.encI_len _) (by decide)) fb c3 0 _ rfl)) am ?_
        refine WDm (NPt (NPt (NPb (NPt (NPt (NPb (NPt (NPb (NPt (NPb (NPt (NPt (NPb (NPt hN)))))))))))))) 5 33 (.pointer (some ⟨ai, 1, none⟩)) (.slice aa.va aa.vips.length aa.vc) 108 (fun _ hS_ => run_ld (Fr.has hS_ (bl.get 0 rfl) (by simp)) rfl) am ?_
        obtain ⟨gj, fc⟩ := get_some (xs := aa.vips) (i := j) (by omega)
        obtain ⟨b488, o490, jf, jg⟩ := hop_e86.vr.at_ _ _ fc
        refine WDi (NPt (NPt (NPb (NPt (NPt (NPb (NPt (NPb (NPt (NPb (NPt (NPt (NPb (NPt hN)))))))))))))) 7 aa.va aa.vips.length aa.vc 110 .i64 (j : Int) b488 o490 j 1 (by kernel_rfl) (by kernel_rfl) jf (by omega) (by omega) (o490 + j) (by first | (simp; done) | omega) am ?_
        refine WDm (NPt (NPt (NPb (NPt (NPt (NPb (NPt (NPb (NPt (NPb (NPt (NPt (NPb (NPt hN)))))))))))))) 8 44 (.pointer (some ⟨b488, o490 + j, none⟩)) (.int .u32 gj) 111 (fun _ hS_ => run_load1 rfl (by simpa [Nat.add_assoc] using Fr.cell hS_ (bl.fr.cell (jg 0 _ rfl) (by simp)) (by simp))) am ?_
        refine WDq (NPt (NPt (NPb (NPt (NPt (NPb (NPt (NPb (NPt (NPb (NPt (NPt (NPb (NPt hN)))))))))))))) 9 112 (.bool (gi != gj)) am ?_
        refine WD.done (by kernel_rfl) ?_
        refine QXn (jc _ _ ?_)
        refine WC.know 112 (.bool (gi != gj)) (.bool false) rfl (congrArg Value.bool (by rw [zeroT_eq hz rfl (by omega) c3 fc]; simp)) ?_
        refine WCf rfl (WC.skip (QXn (jb _ _ ?_)))
        refine WCg (WLq 2 [(114, .int .i64 (j : Int)), (113, .slice ag aa.vips.length ad)] ?_)
        have ou := own_count (Go.Tw.encI_len _) (by decide) aN
        obtain ⟨m0, fd⟩ := get_some (xs := L) (i := j) (by omega)
        obtain ⟨b494, fe⟩ := own_addr (by decide) (Go.Tw.encI_len _) aN fd
        refine WLi ag aa.vips.length ad 115 .i64 (j : Int) b494 0 j 1 (by kernel_rfl) fe (by omega) (by omega) j (by first | (simp; done) | omega) ?_
        obtain ⟨pJ, jh, ff, ji, jj⟩ := stoE_run Try.prog (Go.Tw.encI_len _) bl 2 fe rfl aN j 0 (x := m0) fd 0 [.int .u32 0] rfl 44 (.int .u32 0) (j) rfl rfl rfl (by first | rfl | simp [Nat.add_assoc])
        refine WL.semU (Instr.storeAt 44 (.pointer (some ⟨b494, j, none⟩)) (.int .u32 0)) (by kernel_rfl) jh ?_
        have jk := spAt_fr jd ff (bl.disj 0 2 rfl rfl (by decide))
        have jl := spAt_fr je ff (bl.disj 1 2 rfl rfl (by decide))
        refine WLd rfl ?_
        refine QXb ?_
        refine QXn (i9 _ _ ?_)
        refine WCg (WLq 1 [(116, .int .i64 (IntKind.i64.wrap ((j : Int) + 1)))] ?_)
        refine WLt (show (.int .i64 (IntKind.i64.wrap ((j : Int) + 1)) : Value) = .int .i64 ((j : Int) + 1) from by rw [wrap_in_i64 ((j : Int) + 1) (by omega) (by omega)]) ?_
        refine WLq 1 [(100, .int .i64 ((j : Int) + 1))] ?_
        refine WLd rfl ?_
        refine QXn ?_
        have jm := jj.pick [0, 1] [0, 1, 2] rfl rfl
        refine fun a_ ha_ => i5 _ _ _ ?_ ⟨j + 1, L.set j 0, rfl, rfl, jm, jk, jl, ji, by omega, zeroT_step hz 0⟩ a_ (ha_.weaken (sub_of ⟨rfl, rfl, rfl, rfl, rfl, rfl, rfl, rfl, rfl, rfl, trivial⟩))
        omega
       ·
        have mZ : (aa.vips.length : Int) ≤ (j : Int) := by have q_ := of_decide_eq_false c1; omega
        refine WCf rfl ?_
        refine WC.exit ?_
        refine QXe ?_
        refine QXe ?_
        refine QX.block_hit ?_
        refine QXn (i3 _ _ ?_)
        refine WCs (fun pK jn => ?_)
        refine WCg (WLq 4 [(120, .int .i64 (IntKind.i64.wrap ((aa.vips.length : Int) + 1))), (119, .int .i64 (aa.vips.length : Int)), (118, .slice ag aa.vips.length ad), (117, .slice ag aa.vips.length ad)] ?_)
        refine WLt (show (.int .i64 (IntKind.i64.wrap ((aa.vips.length : Int) + 1)) : Value) = .int .i64 ((aa.vips.length : Int) + 1) from by rw [wrap_in_i64 ((aa.vips.length : Int) + 1) (by omega) (by omega)]) ?_
        have hle_ := own_le hrow
        have jo : aa.vips.length + 1 ≤ ad := by omega
        refine WL.slc 33 44 1 ag ag aa.vips.length ad 0 (aa.vips.length + 1) (aa.vips.length + 1) ad none (some (.int .i64 ((aa.vips.length : Int) + 1))) 121 (by kernel_rfl) (by kernel_rfl) bnd.no (bnd.yes (by omega)) (by omega) jo (slcAt_pre _ _ _) (by first | rfl | omega) (by first | rfl | omega) ?_
        have c4 := own_takeE (m := aa.vips.length + 1) (Go.Tw.encI_len _) hrow (by omega)
        refine WLq 2 [(123, .int .i64 (aa.vips.length : Int)), (122, .slice ag aa.vips.length ad)] ?_
        have ov := own_count (Go.Tw.encI_len _) (by decide) c4
        obtain ⟨gk, c5⟩ := get_some (xs := L.take (aa.vips.length + 1)) (i := aa.vips.length) (by omega)
        obtain ⟨b512, fg⟩ := own_addr (by decide) (Go.Tw.encI_len _) c4 c5
        refine WLi ag (aa.vips.length + 1) ad 124 .i64 (aa.vips.length : Int) b512 0 aa.vips.length 1 (by kernel_rfl) fg (by omega) (by omega) aa.vips.length (by first | (simp; done) | omega) ?_
        refine WLo 44 (.pointer (some ⟨b512, aa.vips.length, none⟩)) (.int .u32 gk) 125 (run_load1 rfl (by simpa [Nat.add_assoc] using Rd.cell (own_rd c4 (Go.Tw.encI_len _) (by decide)) fg c5 0 _ rfl)) ?_
        refine WLq 1 [(126, .bool (gk != 7))] (WLd rfl (QXn (jn _ _ ?_)))
        refine WC.know 126 (.bool (gk != 7)) (.bool false) rfl (congrArg Value.bool (by rw [zeroT_end hz rfl hj (by omega) c5]; rfl)) ?_
        refine WCf rfl (WC.skip ?_)
        refine QXb ?_
        refine QXn (bb _ _ ?_)
        refine WCs (fun pL fh => ?_)
        refine WC.drawC fa (F433 ++ F443) (by kernel_rfl) (fun jp fi fj ay => ?_)
        have bO := spAt_fr sp36_m458 fi (by simp)
        have c6 := spAt_fr m_m458 fi (by simp)
        refine WDq (NPt (NPb (NPt (NPt (NPb (NPt hN)))))) 0 137 (.pointer (some ⟨p12, 0, none⟩)) ay ?_
        refine WDq (NPt (NPb (NPt (NPt (NPb (NPt hN)))))) 2 139 (.pointer (some ⟨ab, 0, none⟩)) ay ?_
        refine WDq (NPt (NPb (NPt (NPt (NPb (NPt hN)))))) 3 140 (.pointer (some ⟨ab, 0, none⟩)) ay ?_
        refine WDq (NPt (NPb (NPt (NPt (NPb (NPt hN)))))) 4 141 (.pointer (some ⟨ab, 1, none⟩)) ay ?_
        refine WD.all2 1 5 (by kernel_rfl) ?_ ?_
        ·
         refine WO.call 1 (by kernel_rfl) rfl rfl rfl rfl rfl (by kernel_rfl) (OpenG_ct F433 p12 boot o5 (annV aa.vips) ([] ++ annM boot o5 vs5 aa.vips) jp bO) ?_
         rintro _ m1 ⟨rfl, bP⟩
         have az := ay.trans bP (by simp)
         refine ⟨_, rfl, az, ?_⟩
         have fk := fj.call bP
         have jq := spAt_fr bO bP (by simp)
         have fl := spAt_fr c6 bP (by simp)
         refine WD.sem 5 (Instr.loadAt 4 (.pointer (some ⟨ab, 1, none⟩))) 142 (.bool o5) (by kernel_rfl) (by kernel_rfl) (sp_ld fl) az ?_
         refine WDq (NPt (NPb (NPt (NPt (NPb (NPt hN)))))) 6 143 (.bool (o5 != o5)) az ?_
         refine WDq (NPt (NPb (NPt (NPt (NPb (NPt hN)))))) 7 144 (.bool (o5 != o5)) az ?_
         refine WD.know 144 (.bool (o5 != o5)) (.bool false) rfl (congrArg Value.bool (by simp)) ?_
         refine WDq (NPt (NPb (NPt (NPt (NPb (NPt hN)))))) 8 145 (.pointer (some ⟨p12, 0, none⟩)) az ?_
         refine WDq (NPt (NPb (NPt (NPt (NPb (NPt hN)))))) 10 147 (.pointer (some ⟨ab, 0, none⟩)) az ?_
         refine WD.call 9 (by kernel_rfl) rfl rfl rfl rfl rfl (by kernel_rfl) (OutG78_ct F433 p12 boot o5 (annV aa.vips) ([] ++ annM boot o5 vs5 aa.vips) m1 jq (annM_le _ _ _ _)) ?_
         rintro _ m2 ⟨F533, R534, m3, m4, m5, rfl, c7, c8, bQ, jr, js, jt⟩
         have fm := az.trans c7 (fun x_ h_ => .inl (List.mem_append_left _ h_))
         refine ⟨_, rfl, fm, ?_⟩
         have c9 := Cx.callSplit fk 0 rfl c7 jr js jt (spAt_lt c8) (outAt_lt bQ)
         have ju := spAt_fr fl c7 (fk.disj 1 0 rfl rfl (by decide))
         refine WD.call 11 (by kernel_rfl) rfl rfl rfl rfl rfl (by kernel_rfl) (ROut_ct F443 ab boot o5 (annV aa.vips) ([] ++ annM boot o5 vs5 aa.vips) m2 ju (annM_le _ _ _ _)) ?_
         rintro _ m6 ⟨F551, R552, m7, m8, m9, rfl, bR, db, a0, jv, jw, jx⟩
         have fn := fm.trans bR (fun x_ h_ => .inl (List.mem_append_right _ h_))
         refine ⟨_, rfl, fn, ?_⟩
         have jy := Cx.callSplit c9 1 rfl bR jv jw jx (spAt_lt db) (outAt_lt a0)
         have jz := spAt_fr c8 bR (c9.disj 0 1 rfl rfl (by decide))
         have fo := outAt.fr bQ bR (c9.disj 3 1 rfl rfl (by decide))
         refine WD.call 12 (by kernel_rfl) rfl rfl rfl rfl rfl (by kernel_rfl) (msgs_ct R534 R552 m3 m7 m4 m5 m8 m9 ([] ++ annM boot o5 vs5 aa.vips) m6 fo a0) ?_
         rintro _ pM ⟨rfl, aO⟩
         have dd := fn.trans aO (by simp)
         refine ⟨_, rfl, dd, ?_⟩
         have jA := jy.call aO
         have jB := spAt_fr jz aO (by simp)
         have jC := spAt_fr db aO (by simp)
         have ow := outAt.fr fo aO (by simp)
         have ox := outAt.fr a0 aO (by simp)
         refine WDq (NPt (NPb (NPt (NPt (NPb (NPt hN)))))) 13 150 (.bool false) dd ?_
         refine WDq (NPt (NPb (NPt (NPt (NPb (NPt hN)))))) 14 151 (.bool false) dd ?_
         refine WD.done (by kernel_rfl) ?_
         refine QXn (fh _ _ ?_)
         refine WCf rfl (WC.skip ?_)
         refine QXb ?_
         refine QXn (aI _ _ ?_)
         refine WCg (WLq 1 [(152, .int .i64 (IntKind.i64.wrap ((i : Int) + 1)))] ?_)
         refine WLt (show (.int .i64 (IntKind.i64.wrap ((i : Int) + 1)) : Value) = .int .i64 ((i : Int) + 1) from by rw [wrap_in_i64 ((i : Int) + 1) (by omega) (by omega)]) ?_
         refine WLq 1 [(61, .int .i64 ((i : Int) + 1))] ?_
         refine WLd rfl ?_
         refine QXn ?_
         have jD := jA.pick [] [0, 1] rfl rfl
         refine fun a_ ha_ => aH _ _ _ ?_ ⟨i + 1, F533, F551, o5, (annV aa.vips), rfl, rfl, jD, jB, jC, by omega, annV_ok hop_e86.v32⟩ a_ (ha_.weaken (sub_of ⟨rfl, rfl, rfl, rfl, rfl, rfl, trivial⟩))
         omega
        ·
         refine WO.sem 5 (Instr.loadAt 4 (.pointer (some ⟨ab, 1, none⟩))) 142 (.bool o5) (by kernel_rfl) (by kernel_rfl) (sp_ld c6) ay ?_
         refine WD.call 1 (by kernel_rfl) rfl rfl rfl rfl rfl (by kernel_rfl) (OpenG_ct F433 p12 boot o5 (annV aa.vips) ([] ++ annM boot o5 vs5 aa.vips) jp bO) ?_
         rintro _ nb ⟨rfl, bS⟩
         have aP := ay.trans bS (by simp)
         refine ⟨_, rfl, aP, ?_⟩
         have fp := fj.call bS
         have jE := spAt_fr bO bS (by simp)
         have jF := spAt_fr c6 bS (by simp)
         refine WDq (NPt (NPb (NPt (NPt (NPb (NPt hN)))))) 6 143 (.bool (o5 != o5)) aP ?_
         refine WDq (NPt (NPb (NPt (NPt (NPb (NPt hN)))))) 7 144 (.bool (o5 != o5)) aP ?_
         refine WD.know 144 (.bool (o5 != o5)) (.bool false) rfl (congrArg Value.bool (by simp)) ?_
         refine WDq (NPt (NPb (NPt (NPt (NPb (NPt hN)))))) 8 145 (.pointer (some ⟨p12, 0, none⟩)) aP ?_
         refine WDq (NPt (NPb (NPt (NPt (NPb (NPt hN)))))) 10 147 (.pointer (some ⟨ab, 0, none⟩)) aP ?_
         refine WD.call 9 (by kernel_rfl) rfl rfl rfl rfl rfl (by kernel_rfl) (OutG78_ct F433 p12 boot o5 (annV aa.vips) ([] ++ annM boot o5 vs5 aa.vips) nb jE (annM_le _ _ _ _)) ?_
         rintro _ nd ⟨F589, R590, nf, ng, nh, rfl, de, df, bT, jG, jH, jI⟩
         have fq := aP.trans de (fun x_ h_ => .inl (List.mem_append_left _ h_))
         refine ⟨_, rfl, fq, ?_⟩
         have dg := Cx.callSplit fp 0 rfl de jG jH jI (spAt_lt df) (outAt_lt bT)
         have jJ := spAt_fr jF de (fp.disj 1 0 rfl rfl (by decide))
         refine WD.call 11 (by kernel_rfl) rfl rfl rfl rfl rfl (by kernel_rfl) (ROut_ct F443 ab boot o5 (annV aa.vips) ([] ++ annM boot o5 vs5 aa.vips) nd jJ (annM_le _ _ _ _)) ?_
         rintro _ ni ⟨F607, R608, nj, nk, nn, rfl, bU, dh, a1, jK, jL, jM⟩
         have fs := fq.trans bU (fun x_ h_ => .inl (List.mem_append_right _ h_))
         refine ⟨_, rfl, fs, ?_⟩
         have jN := Cx.callSplit dg 1 rfl bU jK jL jM (spAt_lt dh) (outAt_lt a1)
         have jO := spAt_fr df bU (dg.disj 0 1 rfl rfl (by decide))
         have ft := outAt.fr bT bU (dg.disj 3 1 rfl rfl (by decide))
         refine WD.call 12 (by kernel_rfl) rfl rfl rfl rfl rfl (by kernel_rfl) (msgs_ct R590 R608 nf nj ng nh nk nn ([] ++ annM boot o5 vs5 aa.vips) ni ft a1) ?_
         rintro _ pN ⟨rfl, aQ⟩
         have di := fs.trans aQ (by simp)
         refine ⟨_, rfl, di, ?_⟩
         have jP := jN.call aQ
         have jQ := spAt_fr jO aQ (by simp)
         have jR := spAt_fr dh aQ (by simp)
         have oy := outAt.fr ft aQ (by simp)
         have oz := outAt.fr a1 aQ (by simp)
         refine WDq (NPt (NPb (NPt (NPt (NPb (NPt hN)))))) 13 150 (.bool false) di ?_
         refine WDq (NPt (NPb (NPt (NPt (NPb (NPt hN)))))) 14 151 (.bool false) di ?_
         refine WD.done (by kernel_rfl) ?_
         refine QXn (fh _ _ ?_)
         refine WCf rfl (WC.skip ?_)
         refine QXb ?_
         refine QXn (aI _ _ ?_)
         refine WCg (WLq 1 [(152, .int .i64 (IntKind.i64.wrap ((i : Int) + 1)))] ?_)
         refine WLt (show (.int .i64 (IntKind.i64.wrap ((i : Int) + 1)) : Value) = .int .i64 ((i : Int) + 1) from by rw [wrap_in_i64 ((i : Int) + 1) (by omega) (by omega)]) ?_
         refine WLq 1 [(61, .int .i64 ((i : Int) + 1))] ?_
         refine WLd rfl ?_
         refine QXn ?_
         have jS := jP.pick [] [0, 1] rfl rfl
         refine fun a_ ha_ => aH _ _ _ ?_ ⟨i + 1, F589, F607, o5, (annV aa.vips), rfl, rfl, jS, jQ, jR, by omega, annV_ok hop_e86.v32⟩ a_ (ha_.weaken (sub_of ⟨rfl, rfl, rfl, rfl, rfl, rfl, trivial⟩))
         omega
     ·
      refine WO.new 8 (fun b => .slice (some ⟨b, 0, none⟩) 1 1) (.cells #[.int .u32 7] 44) (by kernel_rfl) rfl rfl rfl rfl rfl (fun _ => by kernel_rfl) (fun gl pO jT oA bV jU => ?_)
      have jV := bc.callB bV jT jU
      have fu := aj.trans bV (by simp)
      refine ⟨fu, ?_⟩
      have jW := spAt_fr eJ bV (by simp)
      have jX := spAt_fr eK bV (by simp)
      obtain ⟨ex, pP, jY, jZ, dj, bW, np⟩ := make0_run Try.prog jV 33 44 1 4 (aa.vips.length + 1) .i64 .i64 ((aa.vips.length : Int) + 1) rfl (by omega) (by omega) (by simp only [maxLen]; omega)
      have dk := fu.trans dj (by simp)
      refine WD.sem 4 (Instr.makeSlice 33 (.int .i64 0) (.int .i64 ((aa.vips.length : Int) + 1))) 81 (.slice (some ⟨ex, 0, none⟩) 0 (aa.vips.length + 1)) (by kernel_rfl) (by kernel_rfl) jY dk ?_
      have j0 := spAt_fr jW dj (by simp)
      have j1 := spAt_fr jX dj (by simp)
      obtain ⟨pQ, pR, j2, j3, dl, bX, l2, ey⟩ := app_run Try.prog bW 2 (v := .slice (some ⟨ex, 0, none⟩) 0 (aa.vips.length + 1)) rfl 33 33 44 1 4 0 aa.vips.length aa.vc aa.va rfl jZ (aa.vips.flatMap (Go.Tw.encI .u32)) (flat_len_n (Go.Tw.encI_len _) (by first | rfl | assumption | (simp; done) | (simp; omega))) (Rd.src_n (Rd.fr hop_e86.vr bW.fr) (Go.Tw.encI_len _) (by decide) (by first | rfl | assumption | (simp; done) | (simp; omega))) (flat_one (Go.Tw.encI_one _) _) (by simp only [maxLen]; omega) (by omega)
      have fv := own_app (enc := (Go.Tw.encI .u32)) (ys := []) (zs := aa.vips) j3
      obtain ⟨ez, eA, rfl, nq⟩ := own_form fv
      have dm : ∀ x_ ∈ blk (.slice (some ⟨ex, 0, none⟩) 0 (aa.vips.length + 1)), aX.heap.size ≤ x_ := by first | (simp [blk, Value.ownBlock, *]; done) | (intro x_ hx_; simp [blk, Value.ownBlock] at hx_; omega)
      have dp : ∀ x_ ∈ blk (.slice ez (0 + aa.vips.length) eA), aX.heap.size ≤ x_ := fun x_ hx_ => (ey x_ hx_).elim (dm x_) (fun h_ => Nat.le_trans dk.size h_)
      have dq := dk.trans dl (fun x_ hx_ => .inr (dm x_ hx_))
      refine WD.sem 7 (Builtin.append_ #[33, 33] 33 #[.slice (some ⟨ex, 0, none⟩) 0 (aa.vips.length + 1), .slice aa.va aa.vips.length aa.vc]) 84 (.slice ez (0 + aa.vips.length) eA) (by kernel_rfl) (by kernel_rfl) j2 dq ?_
      have j4 := spAt_fr j0 dl (bW.disj 0 2 rfl rfl (by decide))
      have j5 := spAt_fr j1 dl (bW.disj 1 2 rfl rfl (by decide))
      obtain ⟨pS, ns, j6, j7, dr, ds, l3, eB⟩ := app_run Try.prog bX 2 (v := .slice ez (0 + aa.vips.length) eA) rfl 33 33 44 1 4 (0 + aa.vips.length) 1 1 (some ⟨gl, 0, none⟩) rfl fv [.int .u32 7] rfl (srcOk.blk 1 (bX.get 1 rfl)) rfl (by simp only [maxLen]; omega) (by omega)
      have bm := own_snoc (enc := (Go.Tw.encI .u32)) (ys := [] ++ aa.vips) 7 j7
      obtain ⟨ah, ae, rfl, nt⟩ := own_form bm
      have nu : ∀ x_ ∈ blk (.slice ah (0 + aa.vips.length + 1) ae), aX.heap.size ≤ x_ := fun x_ hx_ => (eB x_ hx_).elim (dp x_) (fun h_ => Nat.le_trans dq.size h_)
      have dt := dq.trans dr (fun x_ hx_ => .inr (dp x_ hx_))
      refine WD.sem 9 (Builtin.append_ #[33, 33] 33 #[.slice ez (0 + aa.vips.length) eA, .slice (some ⟨gl, 0, none⟩) 1 1]) 86 (.slice ah (0 + aa.vips.length + 1) ae) (by kernel_rfl) (by kernel_rfl) j6 dt ?_
      have j8 := spAt_fr j4 dr (bX.disj 0 2 rfl rfl (by decide))
      have j9 := spAt_fr j5 dr (bX.disj 1 2 rfl rfl (by decide))
      have hle_ := own_le bm
      have ka : aa.vips.length ≤ ae := by omega
      refine WD.slc (NPt (NPb (NPt (NPb (NPt (NPt (NPb (NPt hN)))))))) 13 33 44 1 ah ah (0 + aa.vips.length + 1) ae 0 aa.vips.length aa.vips.length ae none (some (.int .i64 (aa.vips.length : Int))) 90 (by kernel_rfl) (by kernel_rfl) (by kernel_rfl) bnd.no (bnd.yes (by omega)) (by omega) ka (slcAt_pre _ _ _) (by first | rfl | omega) (by first | rfl | omega) dt ?_
      have oB := own_takeE (m := aa.vips.length) (Go.Tw.encI_len _) bm (by omega)
      refine WDq (NPt (NPb (NPt (NPb (NPt (NPt (NPb (NPt hN)))))))) 14 12 (.slice ah aa.vips.length ae) dt ?_
      refine WD.done (by kernel_rfl) ?_
      refine QXn (cm _ _ ?_)
      refine WCs (fun pT kb => ?_)
      refine WCg (WLq 2 [(92, .slice ah aa.vips.length ae), (91, .pointer (some ⟨p12, 0, none⟩))] ?_)
      refine WLc rfl rfl rfl rfl rfl (by kernel_rfl) (AnnG_n F5 p12 boot o5 vs5 [] ah aa.vips.length ae aa.vips rfl ns j8 hvk5 (Nat.zero_le _) (own_rd_pre (ys := [7]) (Go.Tw.encI_len _) (by decide) bm) (by omega) hop_e86.v32) ?_
      rintro _ nv ⟨F696, rfl, du, dv, eC⟩
      have bn := ds.callF 0 rfl du eC (spAt_lt dv)
      refine ⟨_, rfl, ?_⟩
      have kc := spAt_fr j9 du (ds.disj 1 0 rfl rfl (by decide))
      have kd := own_fr bm du (ds.disj 2 0 rfl rfl (by decide))
      refine WLd rfl (QXn (kb _ _ ?_))
      refine WCs (fun pU ke => ?_)
      refine WCg (WLq 2 [(95, .pointer (some ⟨ai, 1, none⟩)), (94, .pointer (some ⟨ab, 0, none⟩))] ?_)
      refine WLo 33 (.pointer (some ⟨ai, 1, none⟩)) (.slice aa.va aa.vips.length aa.vc) 96 (run_ld (bn.get 0 rfl) rfl) ?_
      refine WLc rfl rfl rfl rfl rfl (by kernel_rfl) (RAnn_n F6 ab boot o5 vs5 [] aa.va aa.vips.length aa.vc aa.vips rfl nv kc hvk5 (Nat.zero_le _) (Rd.fr hop_e86.vr bn.fr) (by omega) hop_e86.v32) ?_
      rintro _ pV ⟨F706, rfl, dw, dx, eD⟩
      have kf := bn.callF 1 rfl dw eD (spAt_lt dx)
      refine ⟨_, rfl, ?_⟩
      have kg := spAt_fr dv dw (bn.disj 0 1 rfl rfl (by decide))
      have kh := own_fr kd dw (bn.disj 2 1 rfl rfl (by decide))
      refine WLd rfl (QXn (ke _ _ ?_))
      refine WCs (fun pW ki => ?_)
      refine WCs (fun pX kj => ?_)
      refine WCg (WLq 3 [(100, .int .i64 0), (99, .int .i64 (aa.vips.length : Int)), (98, .slice ah aa.vips.length ae)] (WLd rfl (QXn (kj _ _ ?_))))
      refine WC.block ?_
      refine WC.loop (fun m_ E_ w_ => ∃ (j : Nat) (L : List Int), m_ = aa.vips.length - j ∧ E_ = [(7, .pointer (some ⟨p12, 0, none⟩)), (8, .nilIface), (9, .pointer (some ⟨ab, 0, none⟩)), (11, .pointer (some ⟨ai, 0, none⟩)), (12, .slice ah aa.vips.length ae), (59, .slice C ops.length c), (60, .int .i64 (ops.length : Int)), (61, .int .i64 (i : Int)), (99, .int .i64 (aa.vips.length : Int)), (100, .int .i64 (j : Int))] ∧ Cx w [] w_ [(ai, .cells #[.int .i64 aa.kind, .slice aa.va aa.vips.length aa.vc, .int .i64 aa.from_, .int .i64 aa.mki, .slice aa.na aa.nums.length aa.nc, .slice aa.da aa.dn aa.dc, .int .i64 aa.now] 42), (gl, .cells #[.int .u32 7] 44)] [F696, F706, blk (.slice ah (0 + aa.vips.length + 1) ae)] ∧ spAt 78 w_ F696 p12 boot o5 (annV aa.vips) ([] ++ annM boot o5 vs5 aa.vips) ∧ spAt 36 w_ F706 ab boot o5 (annV aa.vips) ([] ++ annM boot o5 vs5 aa.vips) ∧ World.ownsRow w_ 0 44 1 (.slice ah (0 + aa.vips.length + 1) ae) (0 + aa.vips.length + 1) (L.flatMap (Go.Tw.encI .u32)) ∧ (j ≤ aa.vips.length ∧ zeroT L aa.vips j aa.vips.length)) ⟨_, _, ⟨0, [] ++ aa.vips ++ [7], rfl, rfl, kf, kg, dx, kh, Nat.zero_le _, zeroT_0 rfl rfl⟩, sub_of ⟨rfl, rfl, rfl, rfl, rfl, rfl, rfl, rfl, rfl, rfl, trivial⟩⟩ (fun m721 E_ pY pZ kk kl => ?_)
      obtain ⟨j, L, rfl, rfl, fw, sp36_m721, m_m721, hrow, hj, hz⟩ := kl
      have hzl_ := hz.1
      refine WCs (fun p0 km => ?_)
      refine WCg (WLq 1 [(101, .bool (decide ((j : Int) < (aa.vips.length : Int))))] (WLd rfl (QXn (km _ _ ?_))))
      refine WCs (fun p1 kn => ?_)
      refine WCa 101 (decide ((j : Int) < (aa.vips.length : Int))) rfl (fun dy => ?_) (fun dy => ?_)
      ·
       have nw : (j : Int) < (aa.vips.length : Int) := by have q_ := of_decide_eq_true dy; omega
       refine WCt rfl ?_
       refine WC.skip ?_
       refine QXn (kn _ _ ?_)
       refine WCs (fun p2 ko => ?_)
       refine WC.block ?_
       refine WCs (fun p3 kp => ?_)
       refine WCg (WLq 2 [(13, .int .i64 (j : Int)), (102, .int .i64 (j : Int))] (WLd rfl (QXn (kp _ _ ?_))))
       refine WCs (fun p4 kq => ?_)
       refine WCs (fun p5 kr => ?_)
       refine WC.drawC fw [] (by kernel_rfl) (fun p6 dz bo an => ?_)
       have kt := spAt_fr sp36_m721 dz (by simp)
       have ku := spAt_fr m_m721 dz (by simp)
       have aR := own_fr hrow dz (by simp)
       refine WDq (NPt (NPt (NPb (NPt (NPt (NPb (NPt (NPb (NPt (NPb (NPt (NPt (NPb (NPt hN)))))))))))))) 0 103 (.slice ah aa.vips.length ae) an ?_
       refine WDq (NPt (NPt (NPb (NPt (NPt (NPb (NPt (NPb (NPt (NPb (NPt (NPt (NPb (NPt hN)))))))))))))) 1 104 (.int .i64 (j : Int)) an ?_
       have oC := own_count (Go.Tw.encI_len _) (by decide) aR
       obtain ⟨gm, dA⟩ := get_some (xs := L) (i := j) (by omega)
       obtain ⟨b746, fx⟩ := own_addr (by decide) (Go.Tw.encI_len _) aR dA
       refine WDi (NPt (NPt (NPb (NPt (NPt (NPb (NPt (NPb (NPt (NPb (NPt (NPt (NPb (NPt hN)))))))))))))) 2 ah aa.vips.length ae 105 .i64 (j : Int) b746 0 j 1 (by kernel_rfl) (by kernel_rfl) fx (by omega) (by omega) j (by first | (simp; done) | omega) an ?_
       refine WDq (NPt (NPt (NPb (NPt (NPt (NPb (NPt (NPb (NPt (NPb (NPt (NPt (NPb (NPt hN)))))))))))))) 4 107 (.pointer (some ⟨ai, 1, none⟩)) an ?_
       refine WDq (NPt (NPt (NPb (NPt (NPt (NPb (NPt (NPb (NPt (NPb (NPt (NPt (NPb (NPt hN)))))))))))))) 6 109 (.int .i64 (j : Int)) an ?_
       refine WDm (NPt (NPt (NPb (NPt (NPt (NPb (NPt (NPb (NPt (NPb (NPt (NPt (NPb (NPt hN)))))))))))))) 3 44 (.pointer (some ⟨b746, j, none⟩)) (.int .u32 gm) 106 (fun _ hS_ => run_load1 rfl (by simpa [Nat.add_assoc] using Rd.cell (own_rd (own_fr aR hS_ (by simp)) (Go.Tw.encI_len _) (by decide)) fx dA 0 _ rfl)) an ?_
       refine WDm (NPt (NPt (NPb (NPt (NPt (NPb (NPt (NPb (NPt (NPb (NPt (NPt (NPb (NPt hN)))))))))))))) 5 33 (.pointer (some ⟨ai, 1, none⟩)) (.slice aa.va aa.vips.length aa.vc) 108 (fun _ hS_ => run_ld (Fr.has hS_ (bo.get 0 rfl) (by simp)) rfl) an ?_
       obtain ⟨gn, fy⟩ := get_some (xs := aa.vips) (i := j) (by omega)
       obtain ⟨b751, o753, kv, kw⟩ := hop_e86.vr.at_ _ _ fy
       refine WDi (NPt (NPt (NPb (NPt (NPt (NPb (NPt (NPb (NPt (NPb (NPt (NPt (NPb (NPt hN)))))))))))))) 7 aa.va aa.vips.length aa.vc 110 .i64 (j : Int) b751 o753 j 1 (by kernel_rfl) (by kernel_rfl) kv (by omega) (by omega) (o753 + j) (by first | (simp; done) | omega) an ?_
       refine WDm (NPt (NPt (NPb (NPt (NPt (NPb (NPt (NPb (NPt (NPb (NPt (NPt (NPb (NPt hN)))))))))))))) 8 44 (.pointer (some ⟨b751, o753 + j, none⟩)) (.int .u32 gn) 111 (fun _ hS_ => run_load1 rfl (by simpa [Nat.add_assoc] using Fr.cell hS_ (bo.fr.cell (kw 0 _ rfl) (by simp)) (by simp))) an ?_
       refine WDq (NPt (NPt (NPb (NPt (NPt (NPb (NPt (NPb (NPt (NPb (NPt (NPt (NPb (NPt hN)))))))))))))) 9 112 (.bool (gm != gn)) an ?_
       refine WD.done (by kernel_rfl) ?_
       refine QXn (kr _ _ ?_)
       refine WC.know 112 (.bool (gm != gn)) (.bool false) rfl (congrArg Value.bool (by rw [zeroT_eq hz rfl (by omega) dA fy]; simp)) ?_
       refine WCf rfl (WC.skip (QXn (kq _ _ ?_)))
       refine WCg (WLq 2 [(114, .int .i64 (j : Int)), (113, .slice ah aa.vips.length ae)] ?_)
       have oD := own_count (Go.Tw.encI_len _) (by decide) aR
       obtain ⟨nx, fz⟩ := get_some (xs := L) (i := j) (by omega)
       obtain ⟨b757, fA⟩ := own_addr (by decide) (Go.Tw.encI_len _) aR fz
       refine WLi ah aa.vips.length ae 115 .i64 (j : Int) b757 0 j 1 (by kernel_rfl) fA (by omega) (by omega) j (by first | (simp; done) | omega) ?_
       obtain ⟨p7, kx, fB, ky, kz⟩ := stoE_run Try.prog (Go.Tw.encI_len _) bo 2 fA rfl aR j 0 (x := nx) fz 0 [.int .u32 0] rfl 44 (.int .u32 0) (j) rfl rfl rfl (by first | rfl | simp [Nat.add_assoc])
       refine WL.semU (Instr.storeAt 44 (.pointer (some ⟨b757, j, none⟩)) (.int .u32 0)) (by kernel_rfl) kx ?_
       have kA := spAt_fr kt fB (bo.disj 0 2 rfl rfl (by decide))
       have kB := spAt_fr ku fB (bo.disj 1 2 rfl rfl (by decide))
       refine WLd rfl ?_
       refine QXb ?_
       refine QXn (ko _ _ ?_)
       refine WCg (WLq 1 [(116, .int .i64 (IntKind.i64.wrap ((j : Int) + 1)))] ?_)
       refine WLt (show (.int .i64 (IntKind.i64.wrap ((j : Int) + 1)) : Value) = .int .i64 ((j : Int) + 1) from by rw [wrap_in_i64 ((j : Int) + 1) (by omega) (by omega)]) ?_
       refine WLq 1 [(100, .int .i64 ((j : Int) + 1))] ?_
       refine WLd rfl ?_
       refine QXn ?_
       have kC := kz.pick [0, 1] [0, 1, 2] rfl rfl
       refine fun a_ ha_ => kk _ _ _ ?_ ⟨j + 1, L.set j 0, rfl, rfl, kC, kA, kB, ky, by omega, zeroT_step hz 0⟩ a_ (ha_.weaken (sub_of ⟨rfl, rfl, rfl, rfl, rfl, rfl, rfl, rfl, rfl, rfl, trivial⟩))
       omega
      ·
       have nw : (aa.vips.length : Int) ≤ (j : Int) := by have q_ := of_decide_eq_false dy; omega
       refine WCf rfl ?_
       refine WC.exit ?_
       refine QXe ?_
       refine QXe ?_
       refine QX.block_hit ?_
       refine QXn (ki _ _ ?_)
       refine WCs (fun p8 kD => ?_)
       refine WCg (WLq 4 [(120, .int .i64 (IntKind.i64.wrap ((aa.vips.length : Int) + 1))), (119, .int .i64 (aa.vips.length : Int)), (118, .slice ah aa.vips.length ae), (117, .slice ah aa.vips.length ae)] ?_)
       refine WLt (show (.int .i64 (IntKind.i64.wrap ((aa.vips.length : Int) + 1)) : Value) = .int .i64 ((aa.vips.length : Int) + 1) from by rw [wrap_in_i64 ((aa.vips.length : Int) + 1) (by omega) (by omega)]) ?_
       have hle_ := own_le hrow
       have kE : aa.vips.length + 1 ≤ ae := by omega
       refine WL.slc 33 44 1 ah ah aa.vips.length ae 0 (aa.vips.length + 1) (aa.vips.length + 1) ae none (some (.int .i64 ((aa.vips.length : Int) + 1))) 121 (by kernel_rfl) (by kernel_rfl) bnd.no (bnd.yes (by omega)) (by omega) kE (slcAt_pre _ _ _) (by first | rfl | omega) (by first | rfl | omega) ?_
       have dB := own_takeE (m := aa.vips.length + 1) (Go.Tw.encI_len _) hrow (by omega)
       refine WLq 2 [(123, .int .i64 (aa.vips.length : Int)), (122, .slice ah aa.vips.length ae)] ?_
       have oE := own_count (Go.Tw.encI_len _) (by decide) dB
       obtain ⟨go, dC⟩ := get_some (xs := L.take (aa.vips.length + 1)) (i := aa.vips.length) (by omega)
       obtain ⟨b775, fC⟩ := own_addr (by decide) (Go.Tw.encI_len _) dB dC
       refine WLi ah (aa.vips.length + 1) ae 124 .i64 (aa.vips.length : Int) b775 0 aa.vips.length 1 (by kernel_rfl) fC (by omega) (by omega) aa.vips.length (by first | (simp; done) | omega) ?_
       refine WLo 44 (.pointer (some ⟨b775, aa.vips.length, none⟩)) (.int .u32 go) 125 (run_load1 rfl (by simpa [Nat.add_assoc] using Rd.cell (own_rd dB (Go.Tw.encI_len _) (by decide)) fC dC 0 _ rfl)) ?_
       refine WLq 1 [(126, .bool (go != 7))] (WLd rfl (QXn (kD _ _ ?_)))
       refine WC.know 126 (.bool (go != 7)) (.bool false) rfl (congrArg Value.bool (by rw [zeroT_end hz rfl hj (by omega) dC]; rfl)) ?_
       refine WCf rfl (WC.skip ?_)
       refine QXb ?_
       refine QXn (bb _ _ ?_)
       refine WCs (fun p9 fD => ?_)
       refine WC.drawC fw (F696 ++ F706) (by kernel_rfl) (fun kF fE fF aA => ?_)
       have bY := spAt_fr sp36_m721 fE (by simp)
       have dD := spAt_fr m_m721 fE (by simp)
       refine WDq (NPt (NPb (NPt (NPt (NPb (NPt hN)))))) 0 137 (.pointer (some ⟨p12, 0, none⟩)) aA ?_
       refine WDq (NPt (NPb (NPt (NPt (NPb (NPt hN)))))) 2 139 (.pointer (some ⟨ab, 0, none⟩)) aA ?_
       refine WDq (NPt (NPb (NPt (NPt (NPb (NPt hN)))))) 3 140 (.pointer (some ⟨ab, 0, none⟩)) aA ?_
       refine WDq (NPt (NPb (NPt (NPt (NPb (NPt hN)))))) 4 141 (.pointer (some ⟨ab, 1, none⟩)) aA ?_
       refine WD.all2 1 5 (by kernel_rfl) ?_ ?_
       ·
        refine WO.call 1 (by kernel_rfl) rfl rfl rfl rfl rfl (by kernel_rfl) (OpenG_ct F696 p12 boot o5 (annV aa.vips) ([] ++ annM boot o5 vs5 aa.vips) kF bY) ?_
        rintro _ ny ⟨rfl, bZ⟩
        have aB := aA.trans bZ (by simp)
        refine ⟨_, rfl, aB, ?_⟩
        have fG := fF.call bZ
        have kG := spAt_fr bY bZ (by simp)
        have fH := spAt_fr dD bZ (by simp)
        refine WD.sem 5 (Instr.loadAt 4 (.pointer (some ⟨ab, 1, none⟩))) 142 (.bool o5) (by kernel_rfl) (by kernel_rfl) (sp_ld fH) aB ?_
        refine WDq (NPt (NPb (NPt (NPt (NPb (NPt hN)))))) 6 143 (.bool (o5 != o5)) aB ?_
        refine WDq (NPt (NPb (NPt (NPt (NPb (NPt hN)))))) 7 144 (.bool (o5 != o5)) aB ?_
        refine WD.know 144 (.bool (o5 != o5)) (.bool false) rfl (congrArg Value.bool (by simp)) ?_
        refine WDq (NPt (NPb (NPt (NPt (NPb (NPt hN)))))) 8 145 (.pointer (some ⟨p12, 0, none⟩)) aB ?_
        refine WDq (NPt (NPb (NPt (NPt (NPb (NPt hN)))))) 10 147 (.pointer (some ⟨ab, 0, none⟩)) aB ?_
        refine WD.call 9 (by kernel_rfl) rfl rfl rfl rfl rfl (by kernel_rfl) (OutG78_ct F696 p12 boot o5 (annV aa.vips) ([] ++ annM boot o5 vs5 aa.vips) ny kG (annM_le _ _ _ _)) ?_
        rintro _ nz ⟨F796, R797, nA, nB, nC, rfl, dE, dF, b0, kH, kI, kJ⟩
        have fI := aB.trans dE (fun x_ h_ => .inl (List.mem_append_left _ h_))
        refine ⟨_, rfl, fI, ?_⟩
        have dG := Cx.callSplit fG 0 rfl dE kH kI kJ (spAt_lt dF) (outAt_lt b0)
        have kK := spAt_fr fH dE (fG.disj 1 0 rfl rfl (by decide))
        refine WD.call 11 (by kernel_rfl) rfl rfl rfl rfl rfl (by kernel_rfl) (ROut_ct F706 ab boot o5 (annV aa.vips) ([] ++ annM boot o5 vs5 aa.vips) nz kK (annM_le _ _ _ _)) ?_
        rintro _ nD ⟨F814, R815, nE, nF, nG, rfl, b1, dH, a2, kL, kM, kN⟩
        have fJ := fI.trans b1 (fun x_ h_ => .inl (List.mem_append_right _ h_))
        refine ⟨_, rfl, fJ, ?_⟩
        have kO := Cx.callSplit dG 1 rfl b1 kL kM kN (spAt_lt dH) (outAt_lt a2)
        have kP := spAt_fr dF b1 (dG.disj 0 1 rfl rfl (by decide))
        have fK := outAt.fr b0 b1 (dG.disj 3 1 rfl rfl (by decide))
        refine WD.call 12 (by kernel_rfl) rfl rfl rfl rfl rfl (by kernel_rfl) (msgs_ct R797 R815 nA nE nB nC nF nG ([] ++ annM boot o5 vs5 aa.vips) nD fK a2) ?_
        rintro _ qa ⟨rfl, aS⟩
        have dI := fJ.trans aS (by simp)
        refine ⟨_, rfl, dI, ?_⟩
        have kQ := kO.call aS
        have kR := spAt_fr kP aS (by simp)
        have kS := spAt_fr dH aS (by simp)
        have oF := outAt.fr fK aS (by simp)
        have oG := outAt.fr a2 aS (by simp)
        refine WDq (NPt (NPb (NPt (NPt (NPb (NPt hN)))))) 13 150 (.bool false) dI ?_
        refine WDq (NPt (NPb (NPt (NPt (NPb (NPt hN)))))) 14 151 (.bool false) dI ?_
        refine WD.done (by kernel_rfl) ?_
        refine QXn (fD _ _ ?_)
        refine WCf rfl (WC.skip ?_)
        refine QXb ?_
        refine QXn (aI _ _ ?_)
        refine WCg (WLq 1 [(152, .int .i64 (IntKind.i64.wrap ((i : Int) + 1)))] ?_)
        refine WLt (show (.int .i64 (IntKind.i64.wrap ((i : Int) + 1)) : Value) = .int .i64 ((i : Int) + 1) from by rw [wrap_in_i64 ((i : Int) + 1) (by omega) (by omega)]) ?_
        refine WLq 1 [(61, .int .i64 ((i : Int) + 1))] ?_
        refine WLd rfl ?_
        refine QXn ?_
        have kT := kQ.pick [] [0, 1] rfl rfl
        refine fun a_ ha_ => aH _ _ _ ?_ ⟨i + 1, F796, F814, o5, (annV aa.vips), rfl, rfl, kT, kR, kS, by omega, annV_ok hop_e86.v32⟩ a_ (ha_.weaken (sub_of ⟨rfl, rfl, rfl, rfl, rfl, rfl, trivial⟩))
        omega
       ·
        refine WO.sem 5 (Instr.loadAt 4 (.pointer (some ⟨ab, 1, none⟩))) 142 (.bool o5) (by kernel_rfl) (by kernel_rfl) (sp_ld dD) aA ?_
        refine WD.call 1 (by kernel_rfl) rfl rfl rfl rfl rfl (by kernel_rfl) (OpenG_ct F696 p12 boot o5 (annV aa.vips) ([] ++ annM boot o5 vs5 aa.vips) kF bY) ?_
        rintro _ nH ⟨rfl, b2⟩
        have aT := aA.trans b2 (by simp)
        refine ⟨_, rfl, aT, ?_⟩
        have fL := fF.call b2
        have kU := spAt_fr bY b2 (by simp)
        have kV := spAt_fr dD b2 (by simp)
        refine WDq (NPt (NPb (NPt (NPt (NPb (NPt hN)))))) 6 143 (.bool (o5 != o5)) aT ?_
        refine WDq (NPt (NPb (NPt (NPt (NPb (NPt hN)))))) 7 144 (.bool (o5 != o5)) aT ?_
        refine WD.know 144 (.bool (o5 != o5)) (.bool false) rfl (congrArg Value.bool (by simp)) ?_
        refine WDq (NPt (NPb (NPt (NPt (NPb (NPt hN)))))) 8 145 (.pointer (some ⟨p12, 0, none⟩)) aT ?_
        refine WDq (NPt (NPb (NPt (NPt (NPb (NPt hN)))))) 10 147 (.pointer (some ⟨ab, 0, none⟩)) aT ?_
        refine WD.call 9 (by kernel_rfl) rfl rfl rfl rfl rfl (by kernel_rfl) (OutG78_ct F696 p12 boot o5 (annV aa.vips) ([] ++ annM boot o5 vs5 aa.vips) nH kU (annM_le _ _ _ _)) ?_
        rintro _ nI ⟨F852, R853, nJ, nK, nL, rfl, dJ, dK, b3, kW, kX, kY⟩
        have fM := aT.trans dJ (fun x_ h_ => .inl (List.mem_append_left _ h_))
        refine ⟨_, rfl, fM, ?_⟩
        have dL := Cx.callSplit fL 0 rfl dJ kW kX kY (spAt_lt dK) (outAt_lt b3)
        have kZ := spAt_fr kV dJ (fL.disj 1 0 rfl rfl (by decide))
        refine WD.call 11 (by kernel_rfl) rfl rfl rfl rfl rfl (by kernel_rfl) (ROut_ct F706 ab boot o5 (annV aa.vips) ([] ++ annM boot o5 vs5 aa.vips) nI kZ (annM_le _ _ _ _)) ?_
        rintro _ nM ⟨F870, R871, nN, nO, nP, rfl, b4, dM, a3, k0, k1, k2⟩
        have fN := fM.trans b4 (fun x_ h_ => .inl (List.mem_append_right _ h_))
        refine ⟨_, rfl, fN, ?_⟩
        have k3 := Cx.callSplit dL 1 rfl b4 k0 k1 k2 (spAt_lt dM) (outAt_lt a3)
        have k4 := spAt_fr dK b4 (dL.disj 0 1 rfl rfl (by decide))
        have fO := outAt.fr b3 b4 (dL.disj 3 1 rfl rfl (by decide))
        refine WD.call 12 (by kernel_rfl) rfl rfl rfl rfl rfl (by kernel_rfl) (msgs_ct R853 R871 nJ nN nK nL nO nP ([] ++ annM boot o5 vs5 aa.vips) nM fO a3) ?_
        rintro _ qb ⟨rfl, aU⟩
        have dN := fN.trans aU (by simp)
        refine ⟨_, rfl, dN, ?_⟩
        have k5 := k3.call aU
        have k6 := spAt_fr k4 aU (by simp)
        have k7 := spAt_fr dM aU (by simp)
        have oH := outAt.fr fO aU (by simp)
        have oI := outAt.fr a3 aU (by simp)
        refine WDq (NPt (NPb (NPt (NPt (NPb (NPt hN)))))) 13 150 (.bool false) dN ?_
        refine WDq (NPt (NPb (NPt (NPt (NPb (NPt hN)))))) 14 151 (.bool false) dN ?_
        refine WD.done (by kernel_rfl) ?_
        refine QXn (fD _ _ ?_)
        refine WCf rfl (WC.skip ?_)
        refine QXb ?_
        refine QXn (aI _ _ ?_)
        refine WCg (WLq 1 [(152, .int .i64 (IntKind.i64.wrap ((i : Int) + 1)))] ?_)
        refine WLt (show (.int .i64 (IntKind.i64.wrap ((i : Int) + 1)) : Value) = .int .i64 ((i : Int) + 1) from by rw [wrap_in_i64 ((i : Int) + 1) (by omega) (by omega)]) ?_
        refine WLq 1 [(61, .int .i64 ((i : Int) + 1))] ?_
        refine WLd rfl ?_
        refine QXn ?_
        have k8 := k5.pick [] [0, 1] rfl rfl
        refine fun a_ ha_ => aH _ _ _ ?_ ⟨i + 1, F852, F870, o5, (annV aa.vips), rfl, rfl, k8, k6, k7, by omega, annV_ok hop_e86.v32⟩ a_ (ha_.weaken (sub_of ⟨rfl, rfl, rfl, rfl, rfl, rfl, trivial⟩))
        omega
    ·
     have mt : ¬ (aa.kind = 0) := by simpa using cl
     refine WCf rfl ?_
     refine WCs (fun qc k9 => ?_)
     refine WCg (WLq 2 [(127, .bool (aa.kind == 1)), (128, .bool (aa.kind == 1))] (WLd rfl (QXn (k9 _ _ ?_))))
     refine WCa 127 (aa.kind == 1) rfl (fun dO => ?_) (fun dO => ?_)
     ·
      have nQ : aa.kind = 1 := by simpa using dO
      refine WCt rfl ?_
      refine WCs (fun qd la => ?_)
      refine WCg (WLq 2 [(130, .pointer (some ⟨ai, 3, none⟩)), (129, .pointer (some ⟨p12, 0, none⟩))] ?_)
      refine WLo 40 (.pointer (some ⟨ai, 3, none⟩)) (.agg #[.int .i64 aa.mki, .slice aa.na aa.nums.length aa.nc, .slice aa.da aa.dn aa.dc]) 131 (run_ld (ak.get 0 rfl) rfl) ?_
      refine WLc rfl rfl rfl rfl rfl (by kernel_rfl) (RecvG_ct F5 p12 boot o5 vs5 [] aa.mki aa.na aa.nc aa.nums aa.da aa.dn aa.dc of cj hvk5 (Nat.zero_le _) (Rd.fr hop_e86.nr ak.fr) (fun hne_ b_ off_ e_ h_ => absurd (rd_lt hop_e86.nr (fun _ => Nat.one_pos) hne_ e_) (Nat.not_lt.2 (ak.geF 0 rfl _ h_)))) ?_
      rintro _ nR ⟨F905, rfl, fP, dP, eE⟩
      have bp := ak.callF 0 rfl fP eE (spAt_lt dP)
      refine ⟨_, rfl, ?_⟩
      have lb := spAt_fr ck fP (ak.disj 1 0 rfl rfl (by decide))
      refine WLd rfl (QXn (la _ _ ?_))
      refine WCg (WLq 2 [(134, .pointer (some ⟨ai, 3, none⟩)), (133, .pointer (some ⟨ab, 0, none⟩))] ?_)
      refine WLo 40 (.pointer (some ⟨ai, 3, none⟩)) (.agg #[.int .i64 aa.mki, .slice aa.na aa.nums.length aa.nc, .slice aa.da aa.dn aa.dc]) 135 (run_ld (bp.get 0 rfl) rfl) ?_
      refine WLc rfl rfl rfl rfl rfl (by kernel_rfl) (RRecv_ct F6 ab boot o5 vs5 [] aa.mki aa.na aa.nc aa.nums aa.da aa.dn aa.dc nR lb hvk5 (Nat.zero_le _) (Rd.fr hop_e86.nr bp.fr) (fun hne_ b_ off_ e_ h_ => absurd (rd_lt hop_e86.nr (fun _ => Nat.one_pos) hne_ e_) (Nat.not_lt.2 (bp.geF 1 rfl _ h_)))) ?_
      rintro _ qe ⟨F912, rfl, fQ, dQ, eF⟩
      have lc := bp.callF 1 rfl fQ eF (spAt_lt dQ)
      refine ⟨_, rfl, ?_⟩
      have lf := spAt_fr dP fQ (bp.disj 0 1 rfl rfl (by decide))
      refine WLd rfl ?_
      refine QXb ?_
      refine QXn (bb _ _ ?_)
      refine WCs (fun qf fR => ?_)
      refine WC.drawC lc (F905 ++ F912) (by kernel_rfl) (fun lg fS fT aC => ?_)
      have b5 := spAt_fr lf fS (by simp)
      have dR := spAt_fr dQ fS (by simp)
      refine WDq (NPt (NPb (NPt (NPt (NPb (NPt hN)))))) 0 137 (.pointer (some ⟨p12, 0, none⟩)) aC ?_
      refine WDq (NPt (NPb (NPt (NPt (NPb (NPt hN)))))) 2 139 (.pointer (some ⟨ab, 0, none⟩)) aC ?_
      refine WDq (NPt (NPb (NPt (NPt (NPb (NPt hN)))))) 3 140 (.pointer (some ⟨ab, 0, none⟩)) aC ?_
      refine WDq (NPt (NPb (NPt (NPt (NPb (NPt hN)))))) 4 141 (.pointer (some ⟨ab, 1, none⟩)) aC ?_
      refine WD.all2 1 5 (by kernel_rfl) ?_ ?_
      ·
       refine WO.call 1 (by kernel_rfl) rfl rfl rfl rfl rfl (by kernel_rfl) (OpenG_ct F905 p12 boot (recvO boot o5 aa.mki aa.nums) vs5 ([] ++ recvM boot aa.mki vs5 aa.nums) lg b5) ?_
       rintro _ nS ⟨rfl, b6⟩
       have aD := aC.trans b6 (by simp)
       refine ⟨_, rfl, aD, ?_⟩
       have fU := fT.call b6
       have lh := spAt_fr b5 b6 (by simp)
       have fV := spAt_fr dR b6 (by simp)
       refine WD.sem 5 (Instr.loadAt 4 (.pointer (some ⟨ab, 1, none⟩))) 142 (.bool (recvO boot o5 aa.mki aa.nums)) (by kernel_rfl) (by kernel_rfl) (sp_ld fV) aD ?_
       refine WDq (NPt (NPb (NPt (NPt (NPb (NPt hN)))))) 6 143 (.bool ((recvO boot o5 aa.mki aa.nums) != (recvO boot o5 aa.mki aa.nums))) aD ?_
       refine WDq (NPt (NPb (NPt (NPt (NPb (NPt hN)))))) 7 144 (.bool ((recvO boot o5 aa.mki aa.nums) != (recvO boot o5 aa.mki aa.nums))) aD ?_
       refine WD.know 144 (.bool ((recvO boot o5 aa.mki aa.nums) != (recvO boot o5 aa.mki aa.nums))) (.bool false) rfl (congrArg Value.bool (by simp)) ?_
       refine WDq (NPt (NPb (NPt (NPt (NPb (NPt hN)))))) 8 145 (.pointer (some ⟨p12, 0, none⟩)) aD ?_
       refine WDq (NPt (NPb (NPt (NPt (NPb (NPt hN)))))) 10 147 (.pointer (some ⟨ab, 0, none⟩)) aD ?_
       refine WD.call 9 (by kernel_rfl) rfl rfl rfl rfl rfl (by kernel_rfl) (OutG78_ct F905 p12 boot (recvO boot o5 aa.mki aa.nums) vs5 ([] ++ recvM boot aa.mki vs5 aa.nums) nS lh (recvM_le _ _ _ _)) ?_
       rintro _ nT ⟨F933, R934, nU, nV, nW, rfl, dS, dT, b7, li, lj, lk⟩
       have fW := aD.trans dS (fun x_ h_ => .inl (List.mem_append_left _ h_))
       refine ⟨_, rfl, fW, ?_⟩
       have dU := Cx.callSplit fU 0 rfl dS li lj lk (spAt_lt dT) (outAt_lt b7)
       have ll := spAt_fr fV dS (fU.disj 1 0 rfl rfl (by decide))
       refine WD.call 11 (by kernel_rfl) rfl rfl rfl rfl rfl (by kernel_rfl) (ROut_ct F912 ab boot (recvO boot o5 aa.mki aa.nums) vs5 ([] ++ recvM boot aa.mki vs5 aa.nums) nT ll (recvM_le _ _ _ _)) ?_
       rintro _ nX ⟨F949, R950, nY, nZ, n0, rfl, b8, dW, a4, lm, ln, lo⟩
       have fX := fW.trans b8 (fun x_ h_ => .inl (List.mem_append_right _ h_))
       refine ⟨_, rfl, fX, ?_⟩
       have lp := Cx.callSplit dU 1 rfl b8 lm ln lo (spAt_lt dW) (outAt_lt a4)
       have lq := spAt_fr dT b8 (dU.disj 0 1 rfl rfl (by decide))
       have fY := outAt.fr b7 b8 (dU.disj 2 1 rfl rfl (by decide))
       refine WD.call 12 (by kernel_rfl) rfl rfl rfl rfl rfl (by kernel_rfl) (msgs_ct R934 R950 nU nY nV nW nZ n0 ([] ++ recvM boot aa.mki vs5 aa.nums) nX fY a4) ?_
       rintro _ qg ⟨rfl, aV⟩
       have dX := fX.trans aV (by simp)
       refine ⟨_, rfl, dX, ?_⟩
       have lr := lp.call aV
       have ls := spAt_fr lq aV (by simp)
       have lu := spAt_fr dW aV (by simp)
       have oJ := outAt.fr fY aV (by simp)
       have oK := outAt.fr a4 aV (by simp)
       refine WDq (NPt (NPb (NPt (NPt (NPb (NPt hN)))))) 13 150 (.bool false) dX ?_
       refine WDq (NPt (NPb (NPt (NPt (NPb (NPt hN)))))) 14 151 (.bool false) dX ?_
       refine WD.done (by kernel_rfl) ?_
       refine QXn (fR _ _ ?_)
       refine WCf rfl (WC.skip ?_)
       refine QXb ?_
       refine QXn (aI _ _ ?_)
       refine WCg (WLq 1 [(152, .int .i64 (IntKind.i64.wrap ((i : Int) + 1)))] ?_)
       refine WLt (show (.int .i64 (IntKind.i64.wrap ((i : Int) + 1)) : Value) = .int .i64 ((i : Int) + 1) from by rw [wrap_in_i64 ((i : Int) + 1) (by omega) (by omega)]) ?_
       refine WLq 1 [(61, .int .i64 ((i : Int) + 1))] ?_
       refine WLd rfl ?_
       refine QXn ?_
       have lv := lr.pick [] [0, 1] rfl rfl
       refine fun a_ ha_ => aH _ _ _ ?_ ⟨i + 1, F933, F949, (recvO boot o5 aa.mki aa.nums), vs5, rfl, rfl, lv, ls, lu, by omega, hvk5⟩ a_ (ha_.weaken (sub_of ⟨rfl, rfl, rfl, rfl, rfl, rfl, trivial⟩))
       omega
      ·
       refine WO.sem 5 (Instr.loadAt 4 (.pointer (some ⟨ab, 1, none⟩))) 142 (.bool (recvO boot o5 aa.mki aa.nums)) (by kernel_rfl) (by kernel_rfl) (sp_ld dR) aC ?_
       refine WD.call 1 (by kernel_rfl) rfl rfl rfl rfl rfl (by kernel_rfl) (OpenG_ct F905 p12 boot (recvO boot o5 aa.mki aa.nums) vs5 ([] ++ recvM boot aa.mki vs5 aa.nums) lg b5) ?_
       rintro _ n1 ⟨rfl, b9⟩
       have aW := aC.trans b9 (by simp)
       refine ⟨_, rfl, aW, ?_⟩
       have fZ := fT.call b9
       have lw := spAt_fr b5 b9 (by simp)
       have lx := spAt_fr dR b9 (by simp)
       refine WDq (NPt (NPb (NPt (NPt (NPb (NPt hN)))))) 6 143 (.bool ((recvO boot o5 aa.mki aa.nums) != (recvO boot o5 aa.mki aa.nums))) aW ?_
       refine WDq (NPt (NPb (NPt (NPt (NPb (NPt hN)))))) 7 144 (.bool ((recvO boot o5 aa.mki aa.nums) != (recvO boot o5 aa.mki aa.nums))) aW ?_
       refine WD.know 144 (.bool ((recvO boot o5 aa.mki aa.nums) != (recvO boot o5 aa.mki aa.nums))) (.bool false) rfl (congrArg Value.bool (by simp)) ?_
       refine WDq (NPt (NPb (NPt (NPt (NPb (NPt hN)))))) 8 145 (.pointer (some ⟨p12, 0, none⟩)) aW ?_
       refine WDq (NPt (NPb (NPt (NPt (NPb (NPt hN)))))) 10 147 (.pointer (some ⟨ab, 0, none⟩)) aW ?_
       refine WD.call 9 (by kernel_rfl) rfl rfl rfl rfl rfl (by kernel_rfl) (OutG78_ct F905 p12 boot (recvO boot o5 aa.mki aa.nums) vs5 ([] ++ recvM boot aa.mki vs5 aa.nums) n1 lw (recvM_le _ _ _ _)) ?_
       rintro _ n2 ⟨F981, R982, n3, n4, n5, rfl, dY, dZ, ca, ly, lz, lA⟩
       have f0 := aW.trans dY (fun x_ h_ => .inl (List.mem_append_left _ h_))
       refine ⟨_, rfl, f0, ?_⟩
       have d0 := Cx.callSplit fZ 0 rfl dY ly lz lA (spAt_lt dZ) (outAt_lt ca)
       have lB := spAt_fr lx dY (fZ.disj 1 0 rfl rfl (by decide))
       refine WD.call 11 (by kernel_rfl) rfl rfl rfl rfl rfl (by kernel_rfl) (ROut_ct F912 ab boot (recvO boot o5 aa.mki aa.nums) vs5 ([] ++ recvM boot aa.mki vs5 aa.nums) n2 lB (recvM_le _ _ _ _)) ?_
       rintro _ lC ⟨F997, R998, n6, lD, lE, rfl, a5, cb, aE, gp, gq, gr⟩
       have d1 := f0.trans a5 (fun x_ h_ => .inl (List.mem_append_right _ h_))
       refine ⟨_, rfl, d1, ?_⟩
       have gs := Cx.callSplit d0 1 rfl a5 gp gq gr (spAt_lt cb) (outAt_lt aE)
       have gu := spAt_fr dZ a5 (d0.disj 0 1 rfl rfl (by decide))
       have d2 := outAt.fr ca a5 (d0.disj 2 1 rfl rfl (by decide))
       refine WD.call 12 (by kernel_rfl) rfl rfl rfl rfl rfl (by kernel_rfl) (msgs_ct R982 R998 n3 n6 n4 n5 lD lE ([] ++ recvM boot aa.mki vs5 aa.nums) lC d2 aE) ?_
       rintro _ oL ⟨rfl, aq⟩
       have bt := d1.trans aq (by simp)
       refine ⟨_, rfl, bt, ?_⟩
       have gv := gs.call aq
       have gw := spAt_fr gu aq (by simp)
       have gx := spAt_fr cb aq (by simp)
       have n7 := outAt.fr d2 aq (by simp)
       have n8 := outAt.fr aE aq (by simp)
       refine WDq (NPt (NPb (NPt (NPt (NPb (NPt hN)))))) 13 150 (.bool false) bt ?_
       refine WDq (NPt (NPb (NPt (NPt (NPb (NPt hN)))))) 14 151 (.bool false) bt ?_
       refine WD.done (by kernel_rfl) ?_
       refine QXn (fR _ _ ?_)
       refine WCf rfl (WC.skip ?_)
       refine QXb ?_
       refine QXn (aI _ _ ?_)
       refine WCg (WLq 1 [(152, .int .i64 (IntKind.i64.wrap ((i : Int) + 1)))] ?_)
       refine WLt (show (.int .i64 (IntKind.i64.wrap ((i : Int) + 1)) : Value) = .int .i64 ((i : Int) + 1) from by rw [wrap_in_i64 ((i : Int) + 1) (by omega) (by omega)]) ?_
       refine WLq 1 [(61, .int .i64 ((i : Int) + 1))] ?_
       refine WLd rfl ?_
       refine QXn ?_
       have gy := gv.pick [] [0, 1] rfl rfl
       refine fun a_ ha_ => aH _ _ _ ?_ ⟨i + 1, F981, F997, (recvO boot o5 aa.mki aa.nums), vs5, rfl, rfl, gy, gw, gx, by omega, hvk5⟩ a_ (ha_.weaken (sub_of ⟨rfl, rfl, rfl, rfl, rfl, rfl, trivial⟩))
       omega
     ·
      have nQ : ¬ (aa.kind = 1) := by simpa using dO
      refine WCf rfl ?_
      refine WCs (fun oM gz => ?_)
      refine WCg (WLq 2 [(68, .pointer (some ⟨ai, 6, none⟩)), (67, .pointer (some ⟨p12, 0, none⟩))] ?_)
      refine WLo 3 (.pointer (some ⟨ai, 6, none⟩)) (.int .i64 aa.now) 69 (run_ld (ak.get 0 rfl) rfl) ?_
      refine WLc rfl rfl rfl rfl rfl (by kernel_rfl) (TickG_ct F5 p12 boot o5 vs5 [] aa.now of cj hvk5 (Nat.zero_le _)) ?_
      rintro _ lF ⟨F1025, rfl, d3, cc, d4⟩
      have bu := ak.callF 0 rfl d3 d4 (spAt_lt cc)
      refine ⟨_, rfl, ?_⟩
      have gA := spAt_fr ck d3 (ak.disj 1 0 rfl rfl (by decide))
      refine WLd rfl (QXn (gz _ _ ?_))
      refine WCg (WLq 2 [(72, .pointer (some ⟨ai, 6, none⟩)), (71, .pointer (some ⟨ab, 0, none⟩))] ?_)
      refine WLo 3 (.pointer (some ⟨ai, 6, none⟩)) (.int .i64 aa.now) 73 (run_ld (bu.get 0 rfl) rfl) ?_
      refine WLc rfl rfl rfl rfl rfl (by kernel_rfl) (RTick_ct F6 ab boot o5 vs5 [] aa.now lF gA hvk5 (Nat.zero_le _)) ?_
      rintro _ oN ⟨F1032, rfl, d5, cd, d6⟩
      have gB := bu.callF 1 rfl d5 d6 (spAt_lt cd)
      refine ⟨_, rfl, ?_⟩
      have gC := spAt_fr cc d5 (bu.disj 0 1 rfl rfl (by decide))
      refine WLd rfl ?_
      refine QXb ?_
      refine QXn (bb _ _ ?_)
      refine WCs (fun oO d7 => ?_)
      refine WC.drawC gB (F1025 ++ F1032) (by kernel_rfl) (fun f1 d8 d9 ao => ?_)
      have a6 := spAt_fr gC d8 (by simp)
      have bv := spAt_fr cd d8 (by simp)
      refine WDq (NPt (NPb (NPt (NPt (NPb (NPt hN)))))) 0 137 (.pointer (some ⟨p12, 0, none⟩)) ao ?_
      refine WDq (NPt (NPb (NPt (NPt (NPb (NPt hN)))))) 2 139 (.pointer (some ⟨ab, 0, none⟩)) ao ?_
      refine WDq (NPt (NPb (NPt (NPt (NPb (NPt hN)))))) 3 140 (.pointer (some ⟨ab, 0, none⟩)) ao ?_
      refine WDq (NPt (NPb (NPt (NPt (NPb (NPt hN)))))) 4 141 (.pointer (some ⟨ab, 1, none⟩)) ao ?_
      refine WD.all2 1 5 (by kernel_rfl) ?_ ?_
      ·
       refine WO.call 1 (by kernel_rfl) rfl rfl rfl rfl rfl (by kernel_rfl) (OpenG_ct F1025 p12 boot o5 vs5 ([] ++ tickV boot o5 vs5 aa.now) f1 a6) ?_
       rintro _ lG ⟨rfl, a7⟩
       have ap := ao.trans a7 (by simp)
       refine ⟨_, rfl, ap, ?_⟩
       have ea := d9.call a7
       have gD := spAt_fr a6 a7 (by simp)
       have eb := spAt_fr bv a7 (by simp)
       refine WD.sem 5 (Instr.loadAt 4 (.pointer (some ⟨ab, 1, none⟩))) 142 (.bool o5) (by kernel_rfl) (by kernel_rfl) (sp_ld eb) ap ?_
       refine WDq (NPt (NPb (NPt (NPt (NPb (NPt hN)))))) 6 143 (.bool (o5 != o5)) ap ?_
       refine WDq (NPt (NPb (NPt (NPt (NPb (NPt hN)))))) 7 144 (.bool (o5 != o5)) ap ?_
       refine WD.know 144 (.bool (o5 != o5)) (.bool false) rfl (congrArg Value.bool (by simp)) ?_
       refine WDq (NPt (NPb (NPt (NPt (NPb (NPt hN)))))) 8 145 (.pointer (some ⟨p12, 0, none⟩)) ap ?_
       refine WDq (NPt (NPb (NPt (NPt (NPb (NPt hN)))))) 10 147 (.pointer (some ⟨ab, 0, none⟩)) ap ?_
       refine WD.call 9 (by kernel_rfl) rfl rfl rfl rfl rfl (by kernel_rfl) (OutG78_ct F1025 p12 boot o5 vs5 ([] ++ tickV boot o5 vs5 aa.now) lG gD (tickV_le _ _ _ _)) ?_
       rintro _ lH ⟨F1053, R1054, lI, lJ, lK, rfl, bw, ce, bq, gE, gF, gG⟩
       have ec := ap.trans bw (fun x_ h_ => .inl (List.mem_append_left _ h_))
       refine ⟨_, rfl, ec, ?_⟩
       have bx := Cx.callSplit ea 0 rfl bw gE gF gG (spAt_lt ce) (outAt_lt bq)
       have gH := spAt_fr eb bw (ea.disj 1 0 rfl rfl (by decide))
       refine WD.call 11 (by kernel_rfl) rfl rfl rfl rfl rfl (by kernel_rfl) (ROut_ct F1032 ab boot o5 vs5 ([] ++ tickV boot o5 vs5 aa.now) lH gH (tickV_le _ _ _ _)) ?_
       rintro _ lL ⟨F1069, R1070, lM, lN, lO, rfl, a8, cf, aF, gI, gJ, gK⟩
       have ed := ec.trans a8 (fun x_ h_ => .inl (List.mem_append_right _ h_))
       refine ⟨_, rfl, ed, ?_⟩
       have gL := Cx.callSplit bx 1 rfl a8 gI gJ gK (spAt_lt cf) (outAt_lt aF)
       have gM := spAt_fr ce a8 (bx.disj 0 1 rfl rfl (by decide))
       have ee := outAt.fr bq a8 (bx.disj 2 1 rfl rfl (by decide))
       refine WD.call 12 (by kernel_rfl) rfl rfl rfl rfl rfl (by kernel_rfl) (msgs_ct R1054 R1070 lI lM lJ lK lN lO ([] ++ tickV boot o5 vs5 aa.now) lL ee aF) ?_
       rintro _ oP ⟨rfl, ar⟩
       have bz := ed.trans ar (by simp)
       refine ⟨_, rfl, bz, ?_⟩
       have gN := gL.call ar
       have gO := spAt_fr gM ar (by simp)
       have gP := spAt_fr cf ar (by simp)
       have n9 := outAt.fr ee ar (by simp)
       have oa := outAt.fr aF ar (by simp)
       refine WDq (NPt (NPb (NPt (NPt (NPb (NPt hN)))))) 13 150 (.bool false) bz ?_
       refine WDq (NPt (NPb (NPt (NPt (NPb (NPt hN)))))) 14 151 (.bool false) bz ?_
       refine WD.done (by kernel_rfl) ?_
       refine QXn (d7 _ _ ?_)
       refine WCf rfl (WC.skip ?_)
       refine QXb ?_
       refine QXn (aI _ _ ?_)
       refine WCg (WLq 1 [(152, .int .i64 (IntKind.i64.wrap ((i : Int) + 1)))] ?_)
       refine WLt (show (.int .i64 (IntKind.i64.wrap ((i : Int) + 1)) : Value) = .int .i64 ((i : Int) + 1) from by rw [wrap_in_i64 ((i : Int) + 1) (by omega) (by omega)]) ?_
       refine WLq 1 [(61, .int .i64 ((i : Int) + 1))] ?_
       refine WLd rfl ?_
       refine QXn ?_
       have gQ := gN.pick [] [0, 1] rfl rfl
       refine fun a_ ha_ => aH _ _ _ ?_ ⟨i + 1, F1053, F1069, o5, vs5, rfl, rfl, gQ, gO, gP, by omega, hvk5⟩ a_ (ha_.weaken (sub_of ⟨rfl, rfl, rfl, rfl, rfl, rfl, trivial⟩))
       omega
      ·
       refine WO.sem 5 (Instr.loadAt 4 (.pointer (some ⟨ab, 1, none⟩))) 142 (.bool o5) (by kernel_rfl) (by kernel_rfl) (sp_ld bv) ao ?_
       refine WD.call 1 (by kernel_rfl) rfl rfl rfl rfl rfl (by kernel_rfl) (OpenG_ct F1025 p12 boot o5 vs5 ([] ++ tickV boot o5 vs5 aa.now) f1 a6) ?_
       rintro _ lP ⟨rfl, a9⟩
       have au := ao.trans a9 (by simp)
       refine ⟨_, rfl, au, ?_⟩
       have ef := d9.call a9
       have gR := spAt_fr a6 a9 (by simp)
       have gS := spAt_fr bv a9 (by simp)
       refine WDq (NPt (NPb (NPt (NPt (NPb (NPt hN)))))) 6 143 (.bool (o5 != o5)) au ?_
       refine WDq (NPt (NPb (NPt (NPt (NPb (NPt hN)))))) 7 144 (.bool (o5 != o5)) au ?_
       refine WD.know 144 (.bool (o5 != o5)) (.bool false) rfl (congrArg Value.bool (by simp)) ?_
       refine WDq (NPt (NPb (NPt (NPt (NPb (NPt hN)))))) 8 145 (.pointer (some ⟨p12, 0, none⟩)) au ?_
       refine WDq (NPt (NPb (NPt (NPt (NPb (NPt hN)))))) 10 147 (.pointer (some ⟨ab, 0, none⟩)) au ?_
       refine WD.call 9 (by kernel_rfl) rfl rfl rfl rfl rfl (by kernel_rfl) (OutG78_ct F1025 p12 boot o5 vs5 ([] ++ tickV boot o5 vs5 aa.now) lP gR (tickV_le _ _ _ _)) ?_
       rintro _ lQ ⟨F1101, R1102, lR, lS, lT, rfl, bA, cg, br, gT, gU, gV⟩
       have eg := au.trans bA (fun x_ h_ => .inl (List.mem_append_left _ h_))
       refine ⟨_, rfl, eg, ?_⟩
       have bB := Cx.callSplit ef 0 rfl bA gT gU gV (spAt_lt cg) (outAt_lt br)
       have gW := spAt_fr gS bA (ef.disj 1 0 rfl rfl (by decide))
       refine WD.call 11 (by kernel_rfl) rfl rfl rfl rfl rfl (by kernel_rfl) (ROut_ct F1032 ab boot o5 vs5 ([] ++ tickV boot o5 vs5 aa.now) lQ gW (tickV_le _ _ _ _)) ?_
       rintro _ lU ⟨F1117, R1118, lV, lW, lX, rfl, ba, ch, aG, gX, gY, gZ⟩
       have eh := eg.trans ba (fun x_ h_ => .inl (List.mem_append_right _ h_))
       refine ⟨_, rfl, eh, ?_⟩
       have g0 := Cx.callSplit bB 1 rfl ba gX gY gZ (spAt_lt ch) (outAt_lt aG)
       have g1 := spAt_fr cg ba (bB.disj 0 1 rfl rfl (by decide))
       have ei := outAt.fr br ba (bB.disj 2 1 rfl rfl (by decide))
       refine WD.call 12 (by kernel_rfl) rfl rfl rfl rfl rfl (by kernel_rfl) (msgs_ct R1102 R1118 lR lV lS lT lW lX ([] ++ tickV boot o5 vs5 aa.now) lU ei aG) ?_
       rintro _ oQ ⟨rfl, av⟩
       have bC := eh.trans av (by simp)
       refine ⟨_, rfl, bC, ?_⟩
       have g2 := g0.call av
       have g3 := spAt_fr g1 av (by simp)
       have g4 := spAt_fr ch av (by simp)
       have ob := outAt.fr ei av (by simp)
       have oc := outAt.fr aG av (by simp)
       refine WDq (NPt (NPb (NPt (NPt (NPb (NPt hN)))))) 13 150 (.bool false) bC ?_
       refine WDq (NPt (NPb (NPt (NPt (NPb (NPt hN)))))) 14 151 (.bool false) bC ?_
       refine WD.done (by kernel_rfl) ?_
       refine QXn (d7 _ _ ?_)
       refine WCf rfl (WC.skip ?_)
       refine QXb ?_
       refine QXn (aI _ _ ?_)
       refine WCg (WLq 1 [(152, .int .i64 (IntKind.i64.wrap ((i : Int) + 1)))] ?_)
       refine WLt (show (.int .i64 (IntKind.i64.wrap ((i : Int) + 1)) : Value) = .int .i64 ((i : Int) + 1) from by rw [wrap_in_i64 ((i : Int) + 1) (by omega) (by omega)]) ?_
       refine WLq 1 [(61, .int .i64 ((i : Int) + 1))] ?_
       refine WLd rfl ?_
       refine QXn ?_
       have g5 := g2.pick [] [0, 1] rfl rfl
       refine fun a_ ha_ => aH _ _ _ ?_ ⟨i + 1, F1101, F1117, o5, vs5, rfl, rfl, g5, g3, g4, by omega, hvk5⟩ a_ (ha_.weaken (sub_of ⟨rfl, rfl, rfl, rfl, rfl, rfl, trivial⟩))
       omega
   ·
    have oW : (ops.length : Int) ≤ (i : Int) := by have q_ := of_decide_eq_false f9; omega
    refine WCf rfl ?_
    refine WC.exit ?_
    refine QXe ?_
    refine QXe ?_
    refine QX.block_hit ?_
    refine QXn (mi _ _ ?_)
    refine WCs (fun oR g6 => ?_)
    refine WCg (WLq 1 [(6, .bool true)] (WLd rfl (QXn (g6 _ _ ?_))))
    refine WC.ret ?_
    refine (hret _ _ _ rfl ?_).1
    exact ⟨rfl, f8.fr⟩

end Go.Proofs.Ytmahghppojbeoaa
