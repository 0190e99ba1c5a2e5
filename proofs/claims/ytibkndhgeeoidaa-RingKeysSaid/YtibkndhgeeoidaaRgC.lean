/- Contracts of functions of the program, each proved by a walk through its code; conditions stand in the statements. -/
import Derived.Test.YtibkndhgeeoidaaProg
import Derived.Test.YtibkndhgeeoidaaTeEq
import Derived.Sort.Grow
import Derived.Deep.Draws
namespace Go.Proofs.Ytibkndhgeeoidaa.Cp
set_option linter.unusedSimpArgs false
set_option linter.unusedVariables false
set_option linter.unusedSectionVars false
open Go Go.RowKit Go.Te Go.Proofs.Ytibkndhgeeoidaa
set_option linter.unusedVariables false
set_option maxRecDepth 20000
def cmpI (a b : Int) : Int := if a < b then -1 else if a > b then 1 else 0
def orI : List Int → Int
  | [] => 0
  | x :: r => if x ≠ 0 then x else orI r
theorem orI_drop {xs : List Int} {k : Nat} {x : Int} (h : xs[k]? = some x) : orI (xs.drop k) = if x ≠ 0 then x else orI (xs.drop (k + 1)) := by
  obtain ⟨hk, rfl⟩ := List.getElem?_eq_some_iff.1 h
  rw [List.drop_eq_getElem_cons hk, orI]
theorem isNaN_int (x : Int) (w : World) : Calls Try.prog 59 #[.int .i64 x] w fun e w' => e = .returned (.bool false) ∧ Fr w w' [] := by
 refine enterD (n := 6) Try.func59 rfl rfl (Nat.le_of_ble_eq_true rfl) ?_
 intro Q0 hN hret hret'
 have hC := Cx.start w
 refine WCs (fun K1 hK2 => ?_)
 refine WCg (WLq 1 [(2, .bool false)] (WLd rfl (QXn (hK2 _ _ ?_))))
 refine WCs (fun K3 hK4 => ?_)
 refine WCg (WLq 4 [(2, .bool (x != x)), (5, .bool (x != x)), (4, .int .i64 x), (3, .int .i64 x)] (WLd rfl (QXn (hK4 _ _ ?_))))
 refine WC.ret ?_
 refine (hret _ _ _ rfl ?_).1
 exact ⟨by simp [shut], hC.fr⟩

theorem compare_int (x y : Int) (w : World) : Calls Try.prog 37 #[.int .i64 x, .int .i64 y] w fun e w' => e = .returned (.int .i64 (cmpI x y)) ∧ Fr w w' [] := by
 refine enterD (n := 20) Try.func37 rfl rfl (Nat.le_of_ble_eq_true rfl) ?_
 intro Q0 hN hret hret'
 have hC := Cx.start w
 refine WCs (fun K1 hK2 => ?_)
 refine WCg (WLq 1 [(4, .int .i64 0)] (WLd rfl (QXn (hK2 _ _ ?_))))
 refine WCs (fun K3 hK4 => ?_)
 refine WCg (WLq 1 [(7, .int .i64 x)] ?_)
 refine WLc rfl rfl rfl rfl rfl (by kernel_rfl) (isNaN_int x w) ?_
 rintro _ w6 ⟨rfl, hF5⟩
 refine ⟨_, rfl, ?_⟩
 have hC7 := hC.call hF5
 refine WLq 1 [(5, .bool false)] (WLd rfl (QXn (hK4 _ _ ?_)))
 refine WCs (fun K8 hK9 => ?_)
 refine WCg (WLq 1 [(9, .int .i64 y)] ?_)
 refine WLc rfl rfl rfl rfl rfl (by kernel_rfl) (isNaN_int y w6) ?_
 rintro _ ar ⟨rfl, ao⟩
 refine ⟨_, rfl, ?_⟩
 have ag := hC7.call ao
 refine WLq 1 [(6, .bool false)] (WLd rfl (QXn (hK9 _ _ ?_)))
 refine WCs (fun au aa => ?_)
 refine WCs (fun av ab => ?_)
 refine WCg (WLq 1 [(11, .bool false)] (WLd rfl (QXn (ab _ _ ?_))))
 refine WCf rfl (WC.skip (QXn (aa _ _ ?_)))
 refine WCs (fun aw ac => ?_)
 refine WCs (fun ax ad => ?_)
 refine WCg (WLq 1 [(13, .bool false)] (WLd rfl (QXn (ad _ _ ?_))))
 refine WCf rfl (WC.skip (QXn (ac _ _ ?_)))
 refine WCs (fun ay ae => ?_)
 refine WCs (fun az af => ?_)
 refine WCg (WLq 3 [(16, .bool (decide (x < y))), (15, .int .i64 y), (14, .int .i64 x)] (WLd rfl (QXn (af _ _ ?_))))
 refine WCa 16 (decide (x < y)) rfl (fun ah => ?_) (fun ah => ?_)
 ·
  have ap : x < y := by have q_ := of_decide_eq_true ah; omega
  refine WCt rfl ?_
  refine WCs (fun aA al => ?_)
  refine WCg (WLq 1 [(4, .int .i64 (-1))] (WLd rfl (QXn (al _ _ ?_))))
  refine WC.ret ?_
  refine QXr ?_
  refine (hret _ _ _ rfl ?_).1
  clear hN hret hret' al af ae ad ac ab aa hK9 hK4 hK2
  exact ⟨by simp [shut, cmpI]; try grind, ag.fr⟩
 ·
  have ap : y ≤ x := by have q_ := of_decide_eq_false ah; omega
  refine WCf rfl (WC.skip (QXn (ae _ _ ?_)))
  refine WCs (fun aB ai => ?_)
  refine WCs (fun aC aj => ?_)
  refine WCg (WLq 3 [(19, .bool (decide (x > y))), (18, .int .i64 y), (17, .int .i64 x)] (WLd rfl (QXn (aj _ _ ?_))))
  refine WCa 19 (decide (x > y)) rfl (fun ak => ?_) (fun ak => ?_)
  ·
   have aq : y < x := by have q_ := of_decide_eq_true ak; omega
   refine WCt rfl ?_
   refine WCs (fun aD am => ?_)
   refine WCg (WLq 1 [(4, .int .i64 1)] (WLd rfl (QXn (am _ _ ?_))))
   refine WC.ret ?_
   refine QXr ?_
   refine (hret _ _ _ rfl ?_).1
   clear hN hret hret' am aj ai af ae ad ac ab aa hK9 hK4 hK2
   exact ⟨by simp [shut, cmpI]; try grind, ag.fr⟩
  ·
   have aq : x ≤ y := by have q_ := of_decide_eq_false ak; omega
   refine WCf rfl (WC.skip (QXn (ai _ _ ?_)))
   refine WCs (fun aE an => ?_)
   refine WCg (WLq 1 [(4, .int .i64 0)] (WLd rfl (QXn (an _ _ ?_))))
   refine WC.ret ?_
   refine (hret _ _ _ rfl ?_).1
   clear hN hret hret' an aj ai af ae ad ac ab aa hK9 hK4 hK2
   exact ⟨by simp [shut, cmpI]; try grind, ag.fr⟩

theorem isNaN_uint64 (x : Int) (w : World) : Calls Try.prog 58 #[.int .u64 x] w fun e w' => e = .returned (.bool false) ∧ Fr w w' [] := by
 refine enterD (n := 6) Try.func58 rfl rfl (Nat.le_of_ble_eq_true rfl) ?_
 intro Q0 hN hret hret'
 have hC := Cx.start w
 refine WCs (fun K1 hK2 => ?_)
 refine WCg (WLq 1 [(2, .bool false)] (WLd rfl (QXn (hK2 _ _ ?_))))
 refine WCs (fun K3 hK4 => ?_)
 refine WCg (WLq 4 [(2, .bool (x != x)), (5, .bool (x != x)), (4, .int .u64 x), (3, .int .u64 x)] (WLd rfl (QXn (hK4 _ _ ?_))))
 refine WC.ret ?_
 refine (hret _ _ _ rfl ?_).1
 exact ⟨by simp [shut], hC.fr⟩

theorem compare_uint64 (x y : Int) (w : World) : Calls Try.prog 36 #[.int .u64 x, .int .u64 y] w fun e w' => e = .returned (.int .i64 (cmpI x y)) ∧ Fr w w' [] := by
 refine enterD (n := 20) Try.func36 rfl rfl (Nat.le_of_ble_eq_true rfl) ?_
 intro Q0 hN hret hret'
 have hC := Cx.start w
 refine WCs (fun K1 hK2 => ?_)
 refine WCg (WLq 1 [(4, .int .i64 0)] (WLd rfl (QXn (hK2 _ _ ?_))))
 refine WCs (fun K3 hK4 => ?_)
 refine WCg (WLq 1 [(7, .int .u64 x)] ?_)
 refine WLc rfl rfl rfl rfl rfl (by kernel_rfl) (isNaN_uint64 x w) ?_
 rintro _ w6 ⟨rfl, hF5⟩
 refine ⟨_, rfl, ?_⟩
 have hC7 := hC.call hF5
 refine WLq 1 [(5, .bool false)] (WLd rfl (QXn (hK4 _ _ ?_)))
 refine WCs (fun K8 hK9 => ?_)
 refine WCg (WLq 1 [(9, .int .u64 y)] ?_)
 refine WLc rfl rfl rfl rfl rfl (by kernel_rfl) (isNaN_uint64 y w6) ?_
 rintro _ ar ⟨rfl, ao⟩
 refine ⟨_, rfl, ?_⟩
 have ag := hC7.call ao
 refine WLq 1 [(6, .bool false)] (WLd rfl (QXn (hK9 _ _ ?_)))
 refine WCs (fun au aa => ?_)
 refine WCs (fun av ab => ?_)
 refine WCg (WLq 1 [(11, .bool false)] (WLd rfl (QXn (ab _ _ ?_))))
 refine WCf rfl (WC.skip (QXn (aa _ _ ?_)))
 refine WCs (fun aw ac => ?_)
 refine WCs (fun ax ad => ?_)
 refine WCg (WLq 1 [(13, .bool false)] (WLd rfl (QXn (ad _ _ ?_))))
 refine WCf rfl (WC.skip (QXn (ac _ _ ?_)))
 refine WCs (fun ay ae => ?_)
 refine WCs (fun az af => ?_)
 refine WCg (WLq 3 [(16, .bool (decide (x < y))), (15, .int .u64 y), (14, .int .u64 x)] (WLd rfl (QXn (af _ _ ?_))))
 refine WCa 16 (decide (x < y)) rfl (fun ah => ?_) (fun ah => ?_)
 ·
  have ap : x < y := by have q_ := of_decide_eq_true ah; omega
  refine WCt rfl ?_
  refine WCs (fun aA al => ?_)
  refine WCg (WLq 1 [(4, .int .i64 (-1))] (WLd rfl (QXn (al _ _ ?_))))
  refine WC.ret ?_
  refine QXr ?_
  refine (hret _ _ _ rfl ?_).1
  clear hN hret hret' al af ae ad ac ab aa hK9 hK4 hK2
  exact ⟨by simp [shut, cmpI]; try grind, ag.fr⟩
 ·
  have ap : y ≤ x := by have q_ := of_decide_eq_false ah; omega
  refine WCf rfl (WC.skip (QXn (ae _ _ ?_)))
  refine WCs (fun aB ai => ?_)
  refine WCs (fun aC aj => ?_)
  refine WCg (WLq 3 [(19, .bool (decide (x > y))), (18, .int .u64 y), (17, .int .u64 x)] (WLd rfl (QXn (aj _ _ ?_))))
  refine WCa 19 (decide (x > y)) rfl (fun ak => ?_) (fun ak => ?_)
  ·
   have aq : y < x := by have q_ := of_decide_eq_true ak; omega
   refine WCt rfl ?_
   refine WCs (fun aD am => ?_)
   refine WCg (WLq 1 [(4, .int .i64 1)] (WLd rfl (QXn (am _ _ ?_))))
   refine WC.ret ?_
   refine QXr ?_
   refine (hret _ _ _ rfl ?_).1
   clear hN hret hret' am aj ai af ae ad ac ab aa hK9 hK4 hK2
   exact ⟨by simp [shut, cmpI]; try grind, ag.fr⟩
  ·
   have aq : x ≤ y := by have q_ := of_decide_eq_false ak; omega
   refine WCf rfl (WC.skip (QXn (ai _ _ ?_)))
   refine WCs (fun aE an => ?_)
   refine WCg (WLq 1 [(4, .int .i64 0)] (WLd rfl (QXn (an _ _ ?_))))
   refine WC.ret ?_
   refine (hret _ _ _ rfl ?_).1
   clear hN hret hret' an aj ai af ae ad ac ab aa hK9 hK4 hK2
   exact ⟨by simp [shut, cmpI]; try grind, ag.fr⟩

theorem or_int (A : Option Addr) (c : Nat) (xs : List Int) (w : World) (hr : Rd w 1 (encI .i64) A xs) (hm : xs.length < 2 ^ 60) : Calls Try.prog 35 #[.slice A xs.length c] w fun e w' => e = .returned (.int .i64 (orI xs)) ∧ Fr w w' [] := by
 refine enterD (n := 18) Try.func35 rfl rfl (Nat.le_of_ble_eq_true rfl) ?_
 intro Q0 hN hret hret'
 have hC := Cx.start w
 refine WCs (fun K1 hK2 => ?_)
 refine WCg (WLq 1 [(2, .int .i64 0)] (WLd rfl (QXn (hK2 _ _ ?_))))
 refine WCs (fun K3 hK4 => ?_)
 refine WCg (WLq 1 [(3, .int .i64 0)] (WLd rfl (QXn (hK4 _ _ ?_))))
 refine WCs (fun K5 hK6 => ?_)
 refine WCs (fun K7 hK8 => ?_)
 refine WCg (WLq 3 [(8, .int .i64 0), (7, .int .i64 (xs.length : Int)), (6, .slice A xs.length c)] (WLd rfl (QXn (hK8 _ _ ?_))))
 refine WC.block ?_
 refine WC.loop (fun m_ E_ w_ => ∃ (k : Nat), m_ = xs.length - k ∧ E_ = [(0, .slice A xs.length c), (3, .int .i64 0), (6, .slice A xs.length c), (7, .int .i64 (xs.length : Int)), (8, .int .i64 (k : Int))] ∧ Cx w [] w_ [] [] ∧ (k ≤ xs.length ∧ orI xs = orI (xs.drop k))) ⟨_, _, ⟨0, rfl, rfl, hC, Nat.zero_le _, rfl⟩, sub_of ⟨rfl, rfl, rfl, rfl, rfl, trivial⟩⟩ (fun m12 E_ av K9 al am => ?_)
 obtain ⟨k, rfl, rfl, aa, hk, hor⟩ := am
 refine WCs (fun aw af => ?_)
 refine WCg (WLq 1 [(9, .bool (decide ((k : Int) < (xs.length : Int))))] (WLd rfl (QXn (af _ _ ?_))))
 refine WCs (fun ax ag => ?_)
 refine WCa 9 (decide ((k : Int) < (xs.length : Int))) rfl (fun ac => ?_) (fun ac => ?_)
 ·
  have ar : (k : Int) < (xs.length : Int) := by have q_ := of_decide_eq_true ac; omega
  refine WCt rfl ?_
  refine WC.skip ?_
  refine QXn (ag _ _ ?_)
  refine WCs (fun ay ah => ?_)
  refine WC.block ?_
  refine WCs (fun az ai => ?_)
  refine WCg ?_
  obtain ⟨ab, ad⟩ := get_some (xs := xs) (i := k) (by omega)
  obtain ⟨b26, o28, an, ao⟩ := hr.at_ _ _ ad
  refine WLi A xs.length c 10 .i64 (k : Int) b26 o28 k 1 (by kernel_rfl) an (by omega) (by omega) (o28 + k) (by first | (simp; done) | omega) ?_
  refine WLo 3 (.pointer (some ⟨b26, o28 + k, none⟩)) (.int .i64 ab) 11 (run_load1 rfl (by simpa [Nat.add_assoc] using aa.fr.cell (ao 0 _ rfl) (by simp))) ?_
  refine WLq 1 [(5, .int .i64 ab)] (WLd rfl (QXn (ai _ _ ?_)))
  refine WCs (fun aA aj => ?_)
  refine WCg (WLq 3 [(14, .bool (ab != 0)), (13, .int .i64 0), (12, .int .i64 ab)] (WLd rfl (QXn (aj _ _ ?_))))
  refine WCa 14 (ab != 0) rfl (fun ae => ?_) (fun ae => ?_)
  ·
   have au : ab ≠ 0 := by simpa using ae
   refine WCt rfl ?_
   refine WCs (fun aB ak => ?_)
   refine WCg (WLq 2 [(2, .int .i64 ab), (15, .int .i64 ab)] (WLd rfl (QXn (ak _ _ ?_))))
   refine WC.ret ?_
   refine QXk ?_
   refine QXr ?_
   refine QXr ?_
   refine QXk ?_
   refine QXr ?_
   refine (hret _ _ _ rfl ?_).1
   clear hN hret hret' ak aj ai ah ag af hK8 hK6 hK4 hK2
   exact ⟨by simp [shut]; rw [hor, orI_drop ad, if_pos (by assumption)], aa.fr⟩
  ·
   have au : ab = 0 := by simpa using ae
   refine WCf rfl (WC.skip ?_)
   refine QXb ?_
   refine QXn (ah _ _ ?_)
   refine WCg (WLq 1 [(16, .int .i64 (IntKind.i64.wrap ((k : Int) + 1)))] ?_)
   refine WLt (show (.int .i64 (IntKind.i64.wrap ((k : Int) + 1)) : Value) = .int .i64 ((k : Int) + 1) from by rw [wrap_in_i64 ((k : Int) + 1) (by omega) (by omega)]) ?_
   refine WLq 1 [(8, .int .i64 ((k : Int) + 1))] ?_
   refine WLd rfl ?_
   refine QXn ?_
   have ap := aa.pick [] [] rfl rfl
   refine fun a_ ha_ => al _ _ _ ?_ ⟨k + 1, rfl, rfl, ap, by omega, by rw [hor, orI_drop ad]; simp [*]⟩ a_ (ha_.weaken (sub_of ⟨rfl, rfl, rfl, rfl, rfl, trivial⟩))
   omega
 ·
  have ar : (xs.length : Int) ≤ (k : Int) := by have q_ := of_decide_eq_false ac; omega
  refine WCf rfl ?_
  refine WC.exit ?_
  refine QXe ?_
  refine QXe ?_
  refine QX.block_hit ?_
  refine QXn (hK6 _ _ ?_)
  refine WCs (fun aC aq => ?_)
  refine WCg (WLq 2 [(2, .int .i64 0), (17, .int .i64 0)] (WLd rfl (QXn (aq _ _ ?_))))
  refine WC.ret ?_
  refine (hret _ _ _ rfl ?_).1
  exact ⟨by simp [shut]; rw [hor, List.drop_of_length_le (by omega)]; simp [orI], aa.fr⟩

theorem cmpP_ct (a b : Int × Int) (w : World) : Calls Try.prog 34 #[.agg #[.int .u64 a.1, .int .i64 a.2], .agg #[.int .u64 b.1, .int .i64 b.2]] w fun e w' => e = .returned (.int .i64 (orI [cmpI a.1 b.1, cmpI a.2 b.2])) ∧ Fr w w' [] := by
 refine enterD (n := 17) Try.func34 rfl rfl (Nat.le_of_ble_eq_true rfl) ?_
 intro Q0 hN hret hret'
 have hC := Cx.start w
 refine WCs (fun K1 hK2 => ?_)
 refine WCg ?_
 refine WL.newM hC (fun b => .pointer (some ⟨b, 0, none⟩)) (.cells #[.int .u64 a.1, .int .i64 a.2] 74) 2 (fun _ => by kernel_rfl) (fun g3 w4 hb7 hF5 hC6 => ?_)
 refine WL.newM hC6 (fun b => .pointer (some ⟨b, 0, none⟩)) (.cells #[.int .u64 b.1, .int .i64 b.2] 74) 3 (fun _ => by kernel_rfl) (fun g8 w9 au av al => ?_)
 refine WLq 1 [(4, .int .i64 0)] (WLd rfl (QXn (hK2 _ _ ?_)))
 refine WCs (fun aC am => ?_)
 refine WC.drawC al [] (by kernel_rfl) (fun aw ax ab aa => ?_)
 refine WDq (NPt hN) 0 5 (.pointer (some ⟨g3, 0, none⟩)) aa ?_
 refine WDq (NPt hN) 2 7 (.pointer (some ⟨g8, 0, none⟩)) aa ?_
 refine WDq (NPt hN) 5 10 (.pointer (some ⟨g3, 1, none⟩)) aa ?_
 refine WDq (NPt hN) 7 12 (.pointer (some ⟨g8, 1, none⟩)) aa ?_
 refine WDm (NPt hN) 1 32 (.pointer (some ⟨g3, 0, none⟩)) (.int .u64 a.1) 6 (fun _ hS_ => run_ld (Fr.has hS_ (ab.get 0 rfl) (by simp)) rfl) aa ?_
 refine WDm (NPt hN) 3 32 (.pointer (some ⟨g8, 0, none⟩)) (.int .u64 b.1) 8 (fun _ hS_ => run_ld (Fr.has hS_ (ab.get 1 rfl) (by simp)) rfl) aa ?_
 refine WDm (NPt hN) 6 3 (.pointer (some ⟨g3, 1, none⟩)) (.int .i64 a.2) 11 (fun _ hS_ => run_ld (Fr.has hS_ (ab.get 0 rfl) (by simp)) rfl) aa ?_
 refine WDm (NPt hN) 8 3 (.pointer (some ⟨g8, 1, none⟩)) (.int .i64 b.2) 13 (fun _ hS_ => run_ld (Fr.has hS_ (ab.get 1 rfl) (by simp)) rfl) aa ?_
 refine WD.call 4 (by kernel_rfl) rfl rfl rfl rfl rfl (by kernel_rfl) (compare_uint64 a.1 b.1 aw) ?_
 rintro _ ay ⟨rfl, ac⟩
 have ad := aa.trans ac (by simp)
 refine ⟨_, rfl, ad, ?_⟩
 have an := ab.call ac
 refine WD.call 9 (by kernel_rfl) rfl rfl rfl rfl rfl (by kernel_rfl) (compare_int a.2 b.2 ay) ?_
 rintro _ aD ⟨rfl, ae⟩
 have af := ad.trans ae (by simp)
 refine ⟨_, rfl, af, ?_⟩
 have ao := an.call ae
 refine WD.new 10 (fun b => .slice (some ⟨b, 0, none⟩) 2 2) (.cells #[.int .i64 (cmpI a.1 b.1), .int .i64 (cmpI a.2 b.2)] 3) (by kernel_rfl) rfl rfl rfl rfl rfl (fun _ => by kernel_rfl) (fun az aA ap aB ag aq => ?_)
 have ah := ao.callB ag ap aq
 have ai := af.trans ag (by simp)
 refine ⟨ai, ?_⟩
 refine WD.call 11 (by kernel_rfl) rfl rfl rfl rfl rfl (by kernel_rfl) (or_int (some ⟨az, 0, none⟩) 2 [cmpI a.1 b.1, cmpI a.2 b.2] aA (Rd.blk (ah.get 2 rfl) (encI_len _) rfl) (by simp)) ?_
 rintro _ aE ⟨rfl, aj⟩
 have ak := ai.trans aj (by simp)
 refine ⟨_, rfl, ak, ?_⟩
 have ar := ah.call aj
 refine WDq (NPt hN) 12 4 (.int .i64 (orI [cmpI a.1 b.1, cmpI a.2 b.2])) ak ?_
 refine WD.done (by kernel_rfl) ?_
 refine QXn (am _ _ ?_)
 refine WC.ret ?_
 refine (hret _ _ _ rfl ?_).1
 exact ⟨rfl, ar.fr⟩

open Go.Sort in
theorem fr_grow {w w' : World} (h : Fr w w' []) (hdr : DR) : ∃ q os, w' = grow (w.drewN q) os := by
  refine ⟨w'.drawn - w.drawn, w'.heap.extract w.heap.size w'.heap.size, ?_⟩
  have hd := h.drawn hdr
  have hh : w'.heap = w.heap ++ w'.heap.extract w.heap.size w'.heap.size := by
    apply Array.ext_getElem?
    intro k
    rw [Array.getElem?_append]
    split
    · rename_i hk; exact h.block k hk (by simp)
    · rename_i hk
      rw [Array.getElem?_extract]
      have hs := h.size
      split
      · congr 1; omega
      · exact Array.getElem?_eq_none (by omega)
  obtain ⟨heap, tape, drawn, os, output⟩ := w'
  have h1 := h.os; have h2 := h.tape; have h3 := h.output
  simp only at h1 h2 h3 hh hd
  subst h1 h2 h3
  simp only [grow, World.drewN]
  congr 1
  omega
theorem cmpP_lays (x y : Int × Int) (W : World) : Calls Try.prog 34 #[.agg #[.int .u64 x.1, .int .i64 x.2], .agg #[.int .u64 y.1, .int .i64 y.2]] W fun e w' => e = .returned (.int .i64 (orI [cmpI x.1 y.1, cmpI x.2 y.2])) ∧ ∃ q os, w' = Go.Sort.grow (W.drewN q) os :=
  (cmpP_ct x y W).mono fun e w' ⟨he, hf⟩ => ⟨he, fr_grow hf trivial⟩
end Go.Proofs.Ytibkndhgeeoidaa.Cp
