/- Contracts of functions of the program, each proved by a walk through its code; conditions stand in the statements. -/
import Derived.Test.YtibkndhgeeoidaaProg
import Derived.Test.YtibkndhgeeoidaaTwUnr
namespace Go.Proofs.Ytibkndhgeeoidaa
set_option linter.unusedSimpArgs false
set_option linter.unusedVariables false
set_option linter.unusedSectionVars false
open Go Go.RowKit Go.Tw
set_option linter.unusedVariables false
set_option maxRecDepth 20000
structure EndV where
  dip : Int
  port : Int
  weight : Int
deriving DecidableEq
def cellsE (e : EndV) : List Value := [.int .u32 e.dip, .int .i64 e.port, .int .i64 e.weight]
theorem cellsE_len (e : EndV) : (cellsE e).length = 3 := rfl
structure FlowV where
  proto : Int
  src : Int
  sp : Int
  dst : Int
  dp : Int
def isU32 (x : Int) : Prop := 0 ≤ x ∧ x ≤ 4294967295
def isI64 (x : Int) : Prop := -9223372036854775808 ≤ x ∧ x ≤ 9223372036854775807
structure wfE (e : EndV) : Prop where
  dip : isU32 e.dip
  port : isI64 e.port
  weight : isI64 e.weight
structure wfF (f : FlowV) : Prop where
  proto : isI64 f.proto
  src : isU32 f.src
  sp : isI64 f.sp
  dst : isU32 f.dst
  dp : isI64 f.dp
def mixB (h b : Int) : Int := IntKind.u64.wrap (Go.bits .xor .u64 h b * 1099511628211)
def mixL (h : Int) : List Int → Int
  | [] => h
  | b :: r => mixL (mixB h b) r
theorem mixL_snoc (b : Int) : ∀ (bs : List Int) (h : Int), mixL h (bs ++ [b]) = mixB (mixL h bs) b
  | [], _ => rfl
  | _ :: r, _ => mixL_snoc b r _
theorem mixL_take {bs : List Int} {i : Nat} {b h : Int} (hb : bs[i]? = some b) : mixL h (bs.take (i + 1)) = mixB (mixL h (bs.take i)) b := by
  obtain ⟨hi, rfl⟩ := List.getElem?_eq_some_iff.1 hb
  rw [List.take_succ_eq_append_getElem hi, mixL_snoc]
def cmpI (a b : Int) : Int := if a < b then -1 else if a > b then 1 else 0
def orI : List Int → Int
  | [] => 0
  | x :: r => if x ≠ 0 then x else orI r
theorem orI_drop {xs : List Int} {k : Nat} {x : Int} (h : xs[k]? = some x) : orI (xs.drop k) = if x ≠ 0 then x else orI (xs.drop (k + 1)) := by
  obtain ⟨hk, rfl⟩ := List.getElem?_eq_some_iff.1 h
  rw [List.drop_eq_getElem_cons hk, orI]
theorem isNaN_int (x : Int) (w : World) : Calls Try.prog 59 #[.int .i64 x] w fun e w' => e = .returned (.bool false) ∧ Fr w w' [] := by
 refine enterD (n := 6) Try.func59 rfl rfl (Nat.le_of_ble_eq_true rfl) ?_
 intro Q0 hN hret hret'
 have hC := Cx.start w
 refine WCs (fun K1 hK2 => ?_)
 refine WCg (WLq 1 [(2, .bool false)] (WLd rfl (QXn (hK2 _ _ ?_))))
 refine WCs (fun K3 hK4 => ?_)
 refine WCg (WLq 4 [(2, .bool (x != x)), (5, .bool (x != x)), (4, .int .i64 x), (3, .int .i64 x)] (WLd rfl (QXn (hK4 _ _ ?_))))
 refine WC.ret ?_
 refine (hret _ _ _ rfl ?_).1
 exact ⟨by simp [shut], hC.fr⟩

theorem compare_int (x y : Int) (w : World) : Calls Try.prog 37 #[.int .i64 x, .int .i64 y] w fun e w' => e = .returned (.int .i64 (cmpI x y)) ∧ Fr w w' [] := by
 refine enterD (n := 20) Try.func37 rfl rfl (Nat.le_of_ble_eq_true rfl) ?_
 intro Q0 hN hret hret'
 have hC := Cx.start w
 refine WCs (fun K1 hK2 => ?_)
 refine WCg (WLq 1 [(4, .int .i64 0)] (WLd rfl (QXn (hK2 _ _ ?_))))
 refine WCs (fun K3 hK4 => ?_)
 refine WCg (WLq 1 [(7, .int .i64 x)] ?_)
 refine WLc rfl rfl rfl rfl rfl (by kernel_rfl) (isNaN_int x w) ?_
 rintro _ w6 ⟨rfl, hF5⟩
 refine ⟨_, rfl, ?_⟩
 have hC7 := hC.call hF5
 refine WLq 1 [(5, .bool false)] (WLd rfl (QXn (hK4 _ _ ?_)))
 refine WCs (fun K8 hK9 => ?_)
 refine WCg (WLq 1 [(9, .int .i64 y)] ?_)
 refine WLc rfl rfl rfl rfl rfl (by kernel_rfl) (isNaN_int y w6) ?_
 rintro _ ar ⟨rfl, ao⟩
 refine ⟨_, rfl, ?_⟩
 have ag := hC7.call ao
 refine WLq 1 [(6, .bool false)] (WLd rfl (QXn (hK9 _ _ ?_)))
 refine WCs (fun au aa => ?_)
 refine WCs (fun av ab => ?_)
 refine WCg (WLq 1 [(11, .bool false)] (WLd rfl (QXn (ab _ _ ?_))))
 refine WCf rfl (WC.skip (QXn (aa _ _ ?_)))
 refine WCs (fun aw ac => ?_)
 refine WCs (fun ax ad => ?_)
 refine WCg (WLq 1 [(13, .bool false)] (WLd rfl (QXn (ad _ _ ?_))))
 refine WCf rfl (WC.skip (QXn (ac _ _ ?_)))
 refine WCs (fun ay ae => ?_)
 refine WCs (fun az af => ?_)
 refine WCg (WLq 3 [(16, .bool (decide (x < y))), (15, .int .i64 y), (14, .int .i64 x)] (WLd rfl (QXn (af _ _ ?_))))
 refine WCa 16 (decide (x < y)) rfl (fun ah => ?_) (fun ah => ?_)
 ·
  have ap : x < y := by have q_ := of_decide_eq_true ah; omega
  refine WCt rfl ?_
  refine WCs (fun aA al => ?_)
  refine WCg (WLq 1 [(4, .int .i64 (-1))] (WLd rfl (QXn (al _ _ ?_))))
  refine WC.ret ?_
  refine QXr ?_
  refine (hret _ _ _ rfl ?_).1
  clear hN hret hret' al af ae ad ac ab aa hK9 hK4 hK2
  exact ⟨by simp [shut, cmpI]; try grind, ag.fr⟩
 ·
  have ap : y ≤ x := by have q_ := of_decide_eq_false ah; omega
  refine WCf rfl (WC.skip (QXn (ae _ _ ?_)))
  refine WCs (fun aB ai => ?_)
  refine WCs (fun aC aj => ?_)
  refine WCg (WLq 3 [(19, .bool (decide (x > y))), (18, .int .i64 y), (17, .int .i64 x)] (WLd rfl (QXn (aj _ _ ?_))))
  refine WCa 19 (decide (x > y)) rfl (fun ak => ?_) (fun ak => ?_)
  ·
   have aq : y < x := by have q_ := of_decide_eq_true ak; omega
   refine WCt rfl ?_
   refine WCs (fun aD am => ?_)
   refine WCg (WLq 1 [(4, .int .i64 1)] (WLd rfl (QXn (am _ _ ?_))))
   refine WC.ret ?_
   refine QXr ?_
   refine (hret _ _ _ rfl ?_).1
   clear hN hret hret' am aj ai af ae ad ac ab aa hK9 hK4 hK2
   exact ⟨by simp [shut, cmpI]; try grind, ag.fr⟩
  ·
   have aq : x ≤ y := by have q_ := of_decide_eq_false ak; omega
   refine WCf rfl (WC.skip (QXn (ai _ _ ?_)))
   refine WCs (fun aE an => ?_)
   refine WCg (WLq 1 [(4, .int .i64 0)] (WLd rfl (QXn (an _ _ ?_))))
   refine WC.ret ?_
   refine (hret _ _ _ rfl ?_).1
   clear hN hret hret' an aj ai af ae ad ac ab aa hK9 hK4 hK2
   exact ⟨by simp [shut, cmpI]; try grind, ag.fr⟩

theorem isNaN_uint64 (x : Int) (w : World) : Calls Try.prog 58 #[.int .u64 x] w fun e w' => e = .returned (.bool false) ∧ Fr w w' [] := by
 refine enterD (n := 6) Try.func58 rfl rfl (Nat.le_of_ble_eq_true rfl) ?_
 intro Q0 hN hret hret'
 have hC := Cx.start w
 refine WCs (fun K1 hK2 => ?_)
 refine WCg (WLq 1 [(2, .bool false)] (WLd rfl (QXn (hK2 _ _ ?_))))
 refine WCs (fun K3 hK4 => ?_)
 refine WCg (WLq 4 [(2, .bool (x != x)), (5, .bool (x != x)), (4, .int .u64 x), (3, .int .u64 x)] (WLd rfl (QXn (hK4 _ _ ?_))))
 refine WC.ret ?_
 refine (hret _ _ _ rfl ?_).1
 exact ⟨by simp [shut], hC.fr⟩

theorem compare_uint64 (x y : Int) (w : World) : Calls Try.prog 36 #[.int .u64 x, .int .u64 y] w fun e w' => e = .returned (.int .i64 (cmpI x y)) ∧ Fr w w' [] := by
 refine enterD (n := 20) Try.func36 rfl rfl (Nat.le_of_ble_eq_true rfl) ?_
 intro Q0 hN hret hret'
 have hC := Cx.start w
 refine WCs (fun K1 hK2 => ?_)
 refine WCg (WLq 1 [(4, .int .i64 0)] (WLd rfl (QXn (hK2 _ _ ?_))))
 refine WCs (fun K3 hK4 => ?_)
 refine WCg (WLq 1 [(7, .int .u64 x)] ?_)
 refine WLc rfl rfl rfl rfl rfl (by kernel_rfl) (isNaN_uint64 x w) ?_
 rintro _ w6 ⟨rfl, hF5⟩
 refine ⟨_, rfl, ?_⟩
 have hC7 := hC.call hF5
 refine WLq 1 [(5, .bool false)] (WLd rfl (QXn (hK4 _ _ ?_)))
 refine WCs (fun K8 hK9 => ?_)
 refine WCg (WLq 1 [(9, .int .u64 y)] ?_)
 refine WLc rfl rfl rfl rfl rfl (by kernel_rfl) (isNaN_uint64 y w6) ?_
 rintro _ ar ⟨rfl, ao⟩
 refine ⟨_, rfl, ?_⟩
 have ag := hC7.call ao
 refine WLq 1 [(6, .bool false)] (WLd rfl (QXn (hK9 _ _ ?_)))
 refine WCs (fun au aa => ?_)
 refine WCs (fun av ab => ?_)
 refine WCg (WLq 1 [(11, .bool false)] (WLd rfl (QXn (ab _ _ ?_))))
 refine WCf rfl (WC.skip (QXn (aa _ _ ?_)))
 refine WCs (fun aw ac => ?_)
 refine WCs (fun ax ad => ?_)
 refine WCg (WLq 1 [(13, .bool false)] (WLd rfl (QXn (ad _ _ ?_))))
 refine WCf rfl (WC.skip (QXn (ac _ _ ?_)))
 refine WCs (fun ay ae => ?_)
 refine WCs (fun az af => ?_)
 refine WCg (WLq 3 [(16, .bool (decide (x < y))), (15, .int .u64 y), (14, .int .u64 x)] (WLd rfl (QXn (af _ _ ?_))))
 refine WCa 16 (decide (x < y)) rfl (fun ah => ?_) (fun ah => ?_)
 ·
  have ap : x < y := by have q_ := of_decide_eq_true ah; omega
  refine WCt rfl ?_
  refine WCs (fun aA al => ?_)
  refine WCg (WLq 1 [(4, .int .i64 (-1))] (WLd rfl (QXn (al _ _ ?_))))
  refine WC.ret ?_
  refine QXr ?_
  refine (hret _ _ _ rfl ?_).1
  clear hN hret hret' al af ae ad ac ab aa hK9 hK4 hK2
  exact ⟨by simp [shut, cmpI]; try grind, ag.fr⟩
 ·
  have ap : y ≤ x := by have q_ := of_decide_eq_false ah; omega
  refine WCf rfl (WC.skip (QXn (ae _ _ ?_)))
  refine WCs (fun aB ai => ?_)
  refine WCs (fun aC aj => ?_)
  refine WCg (WLq 3 [(19, .bool (decide (x > y))), (18, .int .u64 y), (17, .int .u64 x)] (WLd rfl (QXn (aj _ _ ?_))))
  refine WCa 19 (decide (x > y)) rfl (fun ak => ?_) (fun ak => ?_)
  ·
   have aq : y < x := by have q_ := of_decide_eq_true ak; omega
   refine WCt rfl ?_
   refine WCs (fun aD am => ?_)
   refine WCg (WLq 1 [(4, .int .i64 1)] (WLd rfl (QXn (am _ _ ?_))))
   refine WC.ret ?_
   refine QXr ?_
   refine (hret _ _ _ rfl ?_).1
   clear hN hret hret' am aj ai af ae ad ac ab aa hK9 hK4 hK2
   exact ⟨by simp [shut, cmpI]; try grind, ag.fr⟩
  ·
   have aq : x ≤ y := by have q_ := of_decide_eq_false ak; omega
   refine WCf rfl (WC.skip (QXn (ai _ _ ?_)))
   refine WCs (fun aE an => ?_)
   refine WCg (WLq 1 [(4, .int .i64 0)] (WLd rfl (QXn (an _ _ ?_))))
   refine WC.ret ?_
   refine (hret _ _ _ rfl ?_).1
   clear hN hret hret' an aj ai af ae ad ac ab aa hK9 hK4 hK2
   exact ⟨by simp [shut, cmpI]; try grind, ag.fr⟩

theorem or_int (A : Option Addr) (c : Nat) (xs : List Int) (w : World) (hr : Rd w 1 (encI .i64) A xs) (hm : xs.length < 2 ^ 60) : Calls Try.prog 35 #[.slice A xs.length c] w fun e w' => e = .returned (.int .i64 (orI xs)) ∧ Fr w w' [] := by
 refine enterD (n := 18) Try.func35 rfl rfl (Nat.le_of_ble_eq_true rfl) ?_
 intro Q0 hN hret hret'
 have hC := Cx.start w
 refine WCs (fun K1 hK2 => ?_)
 refine WCg (WLq 1 [(2, .int .i64 0)] (WLd rfl (QXn (hK2 _ _ ?_))))
 refine WCs (fun K3 hK4 => ?_)
 refine WCg (WLq 1 [(3, .int .i64 0)] (WLd rfl (QXn (hK4 _ _ ?_))))
 refine WCs (fun K5 hK6 => ?_)
 refine WCs (fun K7 hK8 => ?_)
 refine WCg (WLq 3 [(8, .int .i64 0), (7, .int .i64 (xs.length : Int)), (6, .slice A xs.length c)] (WLd rfl (QXn (hK8 _ _ ?_))))
 refine WC.block ?_
 refine WC.loop (fun m_ E_ w_ => ∃ (k : Nat), m_ = xs.length - k ∧ E_ = [(0, .slice A xs.length c), (3, .int .i64 0), (6, .slice A xs.length c), (7, .int .i64 (xs.length : Int)), (8, .int .i64 (k : Int))] ∧ Cx w [] w_ [] [] ∧ (k ≤ xs.length ∧ orI xs = orI (xs.drop k))) ⟨_, _, ⟨0, rfl, rfl, hC, Nat.zero_le _, rfl⟩, sub_of ⟨rfl, rfl, rfl, rfl, rfl, trivial⟩⟩ (fun m12 E_ av K9 al am => ?_)
 obtain ⟨k, rfl, rfl, aa, hk, hor⟩ := am
 refine WCs (fun aw af => ?_)
 refine WCg (WLq 1 [(9, .bool (decide ((k : Int) < (xs.length : Int))))] (WLd rfl (QXn (af _ _ ?_))))
 refine WCs (fun ax ag => ?_)
 refine WCa 9 (decide ((k : Int) < (xs.length : Int))) rfl (fun ac => ?_) (fun ac => ?_)
 ·
  have ar : (k : Int) < (xs.length : Int) := by have q_ := of_decide_eq_true ac; omega
  refine WCt rfl ?_
  refine WC.skip ?_
  refine QXn (ag _ _ ?_)
  refine WCs (fun ay ah => ?_)
  refine WC.block ?_
  refine WCs (fun az ai => ?_)
  refine WCg ?_
  obtain ⟨ab, ad⟩ := get_some (xs := xs) (i := k) (by omega)
  obtain ⟨b26, o28, an, ao⟩ := hr.at_ _ _ ad
  refine WLi A xs.length c 10 .i64 (k : Int) b26 o28 k 1 (by kernel_rfl) an (by omega) (by omega) (o28 + k) (by first | (simp; done) | omega) ?_
  refine WLo 3 (.pointer (some ⟨b26, o28 + k, none⟩)) (.int .i64 ab) 11 (run_load1 rfl (by simpa [Nat.add_assoc] using aa.fr.cell (ao 0 _ rfl) (by simp))) ?_
  refine WLq 1 [(5, .int .i64 ab)] (WLd rfl (QXn (ai _ _ ?_)))
  refine WCs (fun aA aj => ?_)
  refine WCg (WLq 3 [(14, .bool (ab != 0)), (13, .int .i64 0), (12, .int .i64 ab)] (WLd rfl (QXn (aj _ _ ?_))))
  refine WCa 14 (ab != 0) rfl (fun ae => ?_) (fun ae => ?_)
  ·
   have au : ab ≠ 0 := by simpa using ae
   refine WCt rfl ?_
   refine WCs (fun aB ak => ?_)
   refine WCg (WLq 2 [(2, .int .i64 ab), (15, .int .i64 ab)] (WLd rfl (QXn (ak _ _ ?_))))
   refine WC.ret ?_
   refine QXk ?_
   refine QXr ?_
   refine QXr ?_
   refine QXk ?_
   refine QXr ?_
   refine (hret _ _ _ rfl ?_).1
   clear hN hret hret' ak aj ai ah ag af hK8 hK6 hK4 hK2
   exact ⟨by simp [shut]; rw [hor, orI_drop ad, if_pos (by assumption)], aa.fr⟩
  ·
   have au : ab = 0 := by simpa using ae
   refine WCf rfl (WC.skip ?_)
   refine QXb ?_
   refine QXn (ah _ _ ?_)
   refine WCg (WLq 1 [(16, .int .i64 (IntKind.i64.wrap ((k : Int) + 1)))] ?_)
   refine WLt (show (.int .i64 (IntKind.i64.wrap ((k : Int) + 1)) : Value) = .int .i64 ((k : Int) + 1) from by rw [wrap_in_i64 ((k : Int) + 1) (by omega) (by omega)]) ?_
   refine WLq 1 [(8, .int .i64 ((k : Int) + 1))] ?_
   refine WLd rfl ?_
   refine QXn ?_
   have ap := aa.pick [] [] rfl rfl
   refine fun a_ ha_ => al _ _ _ ?_ ⟨k + 1, rfl, rfl, ap, by omega, by rw [hor, orI_drop ad]; simp [*]⟩ a_ (ha_.weaken (sub_of ⟨rfl, rfl, rfl, rfl, rfl, trivial⟩))
   omega
 ·
  have ar : (xs.length : Int) ≤ (k : Int) := by have q_ := of_decide_eq_false ac; omega
  refine WCf rfl ?_
  refine WC.exit ?_
  refine QXe ?_
  refine QXe ?_
  refine QX.block_hit ?_
  refine QXn (hK6 _ _ ?_)
  refine WCs (fun aC aq => ?_)
  refine WCg (WLq 2 [(2, .int .i64 0), (17, .int .i64 0)] (WLd rfl (QXn (aq _ _ ?_))))
  refine WC.ret ?_
  refine (hret _ _ _ rfl ?_).1
  exact ⟨by simp [shut]; rw [hor, List.drop_of_length_le (by omega)]; simp [orI], aa.fr⟩

theorem mix_ct (A : Option Addr) (c : Nat) (bs : List Int) (g : Nat) (h : Int) (w : World) (hg : w.heap[g]? = some (.cells #[.int .u64 h] 32 (0, 0))) (hr : Rd w 1 (Go.Tw.encI .u8) A bs) (hA : ∀ b off, A = some ⟨b, off, none⟩ → b ≠ g) (hby : ∀ b ∈ bs, 0 ≤ b ∧ b ≤ 255) (hl : bs.length ≤ 1099511627776) : Calls Try.prog 54 #[.slice A bs.length c, .pointer (some ⟨g, 0, none⟩)] w fun e w' => e = .returned (.tuple #[]) ∧ Fr w w' [g] ∧ w'.heap[g]? = some (.cells #[.int .u64 (mixL h bs)] 32 (0, 0)) := by
 refine enterD (n := 17) Try.func54 rfl rfl (Nat.le_of_ble_eq_true rfl) ?_
 intro Q0 hN hret hret'
 have hC := Cx.startMs w [(g, .cells #[.int .u64 h] 32)] (by simp) (by simp [hg])
 refine WCs (fun K1 hK2 => ?_)
 refine WCg (WLq 3 [(7, .int .i64 0), (6, .int .i64 (bs.length : Int)), (5, .slice A bs.length c)] (WLd rfl (QXn (hK2 _ _ ?_))))
 refine WC.block ?_
 refine WC.loop (fun m_ E_ w_ => ∃ (i : Nat), m_ = bs.length - i ∧ E_ = [(0, .slice A bs.length c), (1, .pointer (some ⟨g, 0, none⟩)), (5, .slice A bs.length c), (6, .int .i64 (bs.length : Int)), (7, .int .i64 (i : Int))] ∧ Cx w [g] w_ [(g, .cells #[.int .u64 (mixL h (bs.take i))] 32)] [] ∧ (i ≤ bs.length)) ⟨_, _, ⟨0, rfl, rfl, hC, Nat.zero_le _⟩, sub_of ⟨rfl, rfl, rfl, rfl, rfl, trivial⟩⟩ (fun m6 E_ w7 K3 hK4 hI5 => ?_)
 obtain ⟨i, rfl, rfl, hC8, hi⟩ := hI5
 refine WCs (fun K9 ad => ?_)
 refine WCg (WLq 1 [(8, .bool (decide ((i : Int) < (bs.length : Int))))] (WLd rfl (QXn (ad _ _ ?_))))
 refine WCs (fun an ae => ?_)
 refine WCa 8 (decide ((i : Int) < (bs.length : Int))) rfl (fun ab => ?_) (fun ab => ?_)
 ·
  have al : (i : Int) < (bs.length : Int) := by have q_ := of_decide_eq_true ab; omega
  refine WCt rfl ?_
  refine WC.skip ?_
  refine QXn (ae _ _ ?_)
  refine WCs (fun ao ag => ?_)
  refine WC.block ?_
  refine WCs (fun ap ah => ?_)
  refine WCg ?_
  obtain ⟨aa, ac⟩ := get_some (xs := bs) (i := i) (by omega)
  obtain ⟨b20, o22, af, ai⟩ := hr.at_ _ _ ac
  refine WLi A bs.length c 9 .i64 (i : Int) b20 o22 i 1 (by kernel_rfl) af (by omega) (by omega) (o22 + i) (by first | (simp; done) | omega) ?_
  refine WLo 5 (.pointer (some ⟨b20, o22 + i, none⟩)) (.int .u8 aa) 10 (run_load1 rfl (by simpa [Nat.add_assoc] using hC8.fr.cell (ai 0 _ rfl) (by simpa using hA _ _ af))) ?_
  refine WLq 1 [(4, .int .u8 aa)] (WLd rfl (QXn (ah _ _ ?_)))
  refine WCg ?_
  refine WLo 32 (.pointer (some ⟨g, 0, none⟩)) (.int .u64 (mixL h (bs.take i))) 11 (run_ld (hC8.get 0 rfl) rfl) ?_
  refine WLq 2 [(13, .int .u64 (IntKind.u64.wrap (aa))), (12, .int .u8 aa)] ?_
  refine WLt (show (.int .u64 (IntKind.u64.wrap (aa)) : Value) = .int .u64 aa from by have q_ := hby _ (List.mem_of_getElem? ac); rw [wrap_in_u64 _ (by omega) (by omega)]) ?_
  refine WLq 2 [(15, .int .u64 (IntKind.u64.wrap ((Go.bits .xor .u64 (mixL h (bs.take i)) aa) * 1099511628211))), (14, .int .u64 (Go.bits .xor .u64 (mixL h (bs.take i)) aa))] ?_
  refine WLt (show (.int .u64 (IntKind.u64.wrap ((Go.bits .xor .u64 (mixL h (bs.take i)) aa) * 1099511628211)) : Value) = .int .u64 (mixL h (bs.take (i + 1))) from congrArg (Value.int .u64) (mixL_take ac).symm) ?_
  refine WLs (c' := #[.int .u64 (mixL h (bs.take (i + 1)))]) hC8 0 32 g 0 (.int .u64 (mixL h (bs.take (i + 1)))) (by kernel_rfl) rfl (by kernel_rfl) (fun aq am aj => ?_)
  refine WLd rfl ?_
  refine QXb ?_
  refine QXn (ag _ _ ?_)
  refine WCg (WLq 1 [(16, .int .i64 (IntKind.i64.wrap ((i : Int) + 1)))] ?_)
  refine WLt (show (.int .i64 (IntKind.i64.wrap ((i : Int) + 1)) : Value) = .int .i64 ((i : Int) + 1) from by rw [wrap_in_i64 ((i : Int) + 1) (by omega) (by omega)]) ?_
  refine WLq 1 [(7, .int .i64 ((i : Int) + 1))] ?_
  refine WLd rfl ?_
  refine QXn ?_
  have ak := aj.pick [0] [] rfl rfl
  refine fun a_ ha_ => hK4 _ _ _ ?_ ⟨i + 1, rfl, rfl, ak, by omega⟩ a_ (ha_.weaken (sub_of ⟨rfl, rfl, rfl, rfl, rfl, trivial⟩))
  omega
 ·
  have al : (bs.length : Int) ≤ (i : Int) := by have q_ := of_decide_eq_false ab; omega
  refine WCf rfl ?_
  refine WC.exit ?_
  refine QXe ?_
  refine QXe ?_
  refine QX.block_hit ?_
  refine (hret _ _ _ rfl ?_).2
  clear hN hret hret' ae ad hK2
  have hie_ : i = bs.length := by omega
  have ho_ := hC8.get 0 rfl
  rw [hie_, List.take_length] at ho_
  exact ⟨rfl, hC8.fr, ho_⟩

theorem b8 (x : Int) : 0 ≤ IntKind.u8.wrap x ∧ IntKind.u8.wrap x ≤ 255 := by rw [IntKind.wrap_u8]; omega
def b4 (a : Int) : List Int := [(IntKind.u8.wrap ((a : Int).fdiv (2 ^ 24))), (IntKind.u8.wrap ((a : Int).fdiv (2 ^ 16))), (IntKind.u8.wrap ((a : Int).fdiv (2 ^ 8))), (IntKind.u8.wrap (a))]
theorem bytesOf_ct (a : Int) (w : World) : Calls Try.prog 55 #[.int .u32 a] w fun e w' => e = .returned (.agg #[.int .u8 (IntKind.u8.wrap ((a : Int).fdiv (2 ^ 24))), .int .u8 (IntKind.u8.wrap ((a : Int).fdiv (2 ^ 16))), .int .u8 (IntKind.u8.wrap ((a : Int).fdiv (2 ^ 8))), .int .u8 (IntKind.u8.wrap (a))]) ∧ Fr w w' [] := by
 refine enterD (n := 15) Try.func55 rfl rfl (Nat.le_of_ble_eq_true rfl) ?_
 intro Q0 hN hret hret'
 have hC := Cx.start w
 refine WCs (fun K1 hK2 => ?_)
 refine WCg ?_
 refine WL.newM hC (fun b => .pointer (some ⟨b, 0, none⟩)) (.cells #[.int .u8 0, .int .u8 0, .int .u8 0, .int .u8 0] 95) 2 (fun _ => by kernel_rfl) (fun g3 w4 hb7 hF5 hC6 => ?_)
 refine WLd rfl (QXn (hK2 _ _ ?_))
 refine WCs (fun K8 hK9 => ?_)
 refine WCg (WLq 2 [(4, .int .u32 ((a : Int).fdiv (2 ^ 24))), (3, .int .u32 a)] ?_)
 refine WLt (show (.int .u32 ((a : Int).fdiv (2 ^ 24)) : Value) = .int .u32 ((a : Int).fdiv (2 ^ 24)) from rfl) ?_
 refine WLq 1 [(5, .int .u8 (IntKind.u8.wrap ((a : Int).fdiv (2 ^ 24))))] ?_
 refine WLt (show (.int .u8 (IntKind.u8.wrap ((a : Int).fdiv (2 ^ 24))) : Value) = .int .u8 (IntKind.u8.wrap ((a : Int).fdiv (2 ^ 24))) from rfl) ?_
 refine WLq 2 [(7, .int .u32 ((a : Int).fdiv (2 ^ 16))), (6, .int .u32 a)] ?_
 refine WLt (show (.int .u32 ((a : Int).fdiv (2 ^ 16)) : Value) = .int .u32 ((a : Int).fdiv (2 ^ 16)) from rfl) ?_
 refine WLq 1 [(8, .int .u8 (IntKind.u8.wrap ((a : Int).fdiv (2 ^ 16))))] ?_
 refine WLt (show (.int .u8 (IntKind.u8.wrap ((a : Int).fdiv (2 ^ 16))) : Value) = .int .u8 (IntKind.u8.wrap ((a : Int).fdiv (2 ^ 16))) from rfl) ?_
 refine WLq 2 [(10, .int .u32 ((a : Int).fdiv (2 ^ 8))), (9, .int .u32 a)] ?_
 refine WLt (show (.int .u32 ((a : Int).fdiv (2 ^ 8)) : Value) = .int .u32 ((a : Int).fdiv (2 ^ 8)) from rfl) ?_
 refine WLq 1 [(11, .int .u8 (IntKind.u8.wrap ((a : Int).fdiv (2 ^ 8))))] ?_
 refine WLt (show (.int .u8 (IntKind.u8.wrap ((a : Int).fdiv (2 ^ 8))) : Value) = .int .u8 (IntKind.u8.wrap ((a : Int).fdiv (2 ^ 8))) from rfl) ?_
 refine WLq 2 [(13, .int .u8 (IntKind.u8.wrap (a))), (12, .int .u32 a)] ?_
 refine WLt (show (.int .u8 (IntKind.u8.wrap (a)) : Value) = .int .u8 (IntKind.u8.wrap (a)) from rfl) ?_
 refine WLq 1 [(14, .agg #[.int .u8 (IntKind.u8.wrap ((a : Int).fdiv (2 ^ 24))), .int .u8 (IntKind.u8.wrap ((a : Int).fdiv (2 ^ 16))), .int .u8 (IntKind.u8.wrap ((a : Int).fdiv (2 ^ 8))), .int .u8 (IntKind.u8.wrap (a))])] ?_
 refine WLs (c' := #[.int .u8 (IntKind.u8.wrap ((a : Int).fdiv (2 ^ 24))), .int .u8 (IntKind.u8.wrap ((a : Int).fdiv (2 ^ 16))), .int .u8 (IntKind.u8.wrap ((a : Int).fdiv (2 ^ 8))), .int .u8 (IntKind.u8.wrap (a))]) hC6 0 95 g3 0 (.agg #[.int .u8 (IntKind.u8.wrap ((a : Int).fdiv (2 ^ 24))), .int .u8 (IntKind.u8.wrap ((a : Int).fdiv (2 ^ 16))), .int .u8 (IntKind.u8.wrap ((a : Int).fdiv (2 ^ 8))), .int .u8 (IntKind.u8.wrap (a))]) (by kernel_rfl) rfl (by kernel_rfl) (fun ac ab aa => ?_)
 refine WLd rfl (QXn (hK9 _ _ ?_))
 refine WC.ret ?_
 refine (hret' _ _ (.agg #[.int .u8 (IntKind.u8.wrap ((a : Int).fdiv (2 ^ 24))), .int .u8 (IntKind.u8.wrap ((a : Int).fdiv (2 ^ 16))), .int .u8 (IntKind.u8.wrap ((a : Int).fdiv (2 ^ 8))), .int .u8 (IntKind.u8.wrap (a))]) (fun a ha => ?_) ?_).1
 ·
  exact res_run ha ((ResR.cell rfl (run_ld (aa.get 0 rfl) rfl) ResR.nil)) rfl
 exact ⟨rfl, aa.fr⟩

def hash0 (s : Int) (f : FlowV) : Int := mixL (mixL (mixL (mixL (Go.bits .xor .u64 s 14695981039346656037) [IntKind.u8.wrap f.proto]) (b4 f.src)) (b4 f.dst)) [IntKind.u8.wrap ((f.sp : Int).fdiv (2 ^ 8)), IntKind.u8.wrap f.sp, IntKind.u8.wrap ((f.dp : Int).fdiv (2 ^ 8)), IntKind.u8.wrap f.dp]
def hash1 (s : Int) (f : FlowV) : Int := Go.bits .xor .u64 (hash0 s f) ((hash0 s f).fdiv (2 ^ 32))
def hash2 (s : Int) (f : FlowV) : Int := IntKind.u64.wrap (hash1 s f * 11400714819323198485)
def hashU (s : Int) (f : FlowV) : Int := Go.bits .xor .u64 (hash2 s f) ((hash2 s f).fdiv (2 ^ 29))
set_option maxHeartbeats 2000000 in
theorem Hash_ct (s : Int) (f : FlowV) (w : World) : Calls Try.prog 32 #[.int .u64 s, .agg #[.int .i64 f.proto, .int .u32 f.src, .int .i64 f.sp, .int .u32 f.dst, .int .i64 f.dp]] w fun e w' => e = .returned (.int .u64 (hashU s f)) ∧ Fr w w' [] := by
 refine enterD (n := 57) Try.func32 rfl rfl (Nat.le_of_ble_eq_true rfl) ?_
 intro Q0 hN hret hret'
 have hC := Cx.start w
 refine WCs (fun K1 hK2 => ?_)
 refine WCg ?_
 refine WL.newM hC (fun b => .pointer (some ⟨b, 0, none⟩)) (.cells #[.int .i64 f.proto, .int .u32 f.src, .int .i64 f.sp, .int .u32 f.dst, .int .i64 f.dp] 25) 3 (fun _ => by kernel_rfl) (fun g3 w4 hb7 hF5 hC6 => ?_)
 refine WLq 1 [(4, .int .u64 0)] (WLd rfl (QXn (hK2 _ _ ?_)))
 refine WCs (fun K8 hK9 => ?_)
 refine WCg (WLq 2 [(10, .int .u64 (Go.bits .xor .u64 s 14695981039346656037)), (9, .int .u64 s)] ?_)
 refine WL.newM hC6 (fun b => .pointer (some ⟨b, 0, none⟩)) (.cells #[.int .u64 0] 32) 5 (fun _ => by kernel_rfl) (fun ab g2 f5 f6 eW => ?_)
 refine WLs (c' := #[.int .u64 (Go.bits .xor .u64 s 14695981039346656037)]) eW 1 32 ab 0 (.int .u64 (Go.bits .xor .u64 s 14695981039346656037)) (by kernel_rfl) rfl (by kernel_rfl) (fun g4 f7 eX => ?_)
 refine WLd rfl (QXn (hK9 _ _ ?_))
 refine WCs (fun g5 eY => ?_)
 refine WCg (WLq 2 [(6, .func (.func 54) #[] #[.pointer (some ⟨ab, 0, none⟩)]), (11, .func (.func 54) #[] #[.pointer (some ⟨ab, 0, none⟩)])] (WLd rfl (QXn (eY _ _ ?_))))
 refine WC.seqI (fun E_ w_ => ∃ (gx7 gx8 : Nat), E_ = [(0, .int .u64 s), (1, .agg #[.int .i64 f.proto, .int .u32 f.src, .int .i64 f.sp, .int .u32 f.dst, .int .i64 f.dp]), (3, .pointer (some ⟨g3, 0, none⟩)), (4, .int .u64 0), (5, .pointer (some ⟨ab, 0, none⟩)), (6, .func (.func 54) #[] #[.pointer (some ⟨ab, 0, none⟩)]), (7, .pointer (some ⟨gx7, 0, none⟩)), (8, .pointer (some ⟨gx8, 0, none⟩))] ∧ Cx w [] w_ [(g3, .cells #[.int .i64 f.proto, .int .u32 f.src, .int .i64 f.sp, .int .u32 f.dst, .int .i64 f.dp] 25), (ab, .cells #[.int .u64 (Go.bits .xor .u64 s 14695981039346656037)] 32), (gx7, .cells #[.int .u8 (IntKind.u8.wrap ((f.src : Int).fdiv (2 ^ 24))), .int .u8 (IntKind.u8.wrap ((f.src : Int).fdiv (2 ^ 16))), .int .u8 (IntKind.u8.wrap ((f.src : Int).fdiv (2 ^ 8))), .int .u8 (IntKind.u8.wrap (f.src))] 95), (gx8, .cells #[.int .u8 (IntKind.u8.wrap ((f.dst : Int).fdiv (2 ^ 24))), .int .u8 (IntKind.u8.wrap ((f.dst : Int).fdiv (2 ^ 16))), .int .u8 (IntKind.u8.wrap ((f.dst : Int).fdiv (2 ^ 8))), .int .u8 (IntKind.u8.wrap (f.dst))] 95)] [] ∧ (True)) (fun g6 aa => ?_) ?_
 ·
  refine WC.drawC eX [] (by kernel_rfl) (fun f8 f9 ar ac => ?_)
  refine WDq (NPt hN) 0 12 (.pointer (some ⟨g3, 1, none⟩)) ac ?_
  refine WDq (NPt hN) 3 15 (.pointer (some ⟨g3, 3, none⟩)) ac ?_
  refine WDm (NPt hN) 1 23 (.pointer (some ⟨g3, 1, none⟩)) (.int .u32 f.src) 13 (fun _ hS_ => run_ld (Fr.has hS_ (ar.get 0 rfl) (by simp)) rfl) ac ?_
  refine WDm (NPt hN) 4 23 (.pointer (some ⟨g3, 3, none⟩)) (.int .u32 f.dst) 16 (fun _ hS_ => run_ld (Fr.has hS_ (ar.get 0 rfl) (by simp)) rfl) ac ?_
  refine WD.all3 2 6 7 (by kernel_rfl) ?_ ?_ ?_
  ·
   refine WO.call 2 (by kernel_rfl) rfl rfl rfl rfl rfl (by kernel_rfl) (bytesOf_ct f.src f8) ?_
   rintro _ ga ⟨rfl, b9⟩
   have ap := ac.trans b9 (by simp)
   refine ⟨_, rfl, ap, ?_⟩
   have bP := ar.call b9
   refine WD.all3 5 6 7 (by kernel_rfl) ?_ ?_ ?_
   ·
    refine WO.call 5 (by kernel_rfl) rfl rfl rfl rfl rfl (by kernel_rfl) (bytesOf_ct f.dst ga) ?_
    rintro _ g7 ⟨rfl, ca⟩
    have au := ap.trans ca (by simp)
    refine ⟨_, rfl, au, ?_⟩
    have cb := bP.call ca
    refine WD.all2 6 7 (by kernel_rfl) ?_ ?_
    ·
     refine WO.new 6 (fun b => .pointer (some ⟨b, 0, none⟩)) (.cells #[.int .u8 0, .int .u8 0, .int .u8 0, .int .u8 0] 95) (by kernel_rfl) rfl rfl rfl rfl rfl (fun _ => by kernel_rfl) (fun eZ g8 cc gb cd e0 => ?_)
     have e1 := cb.callB cd cc e0
     have eQ := Nat.le_trans au.size cc
     have bQ := au.trans cd (by simp)
     refine ⟨bQ, ?_⟩
     refine WD.new 7 (fun b => .pointer (some ⟨b, 0, none⟩)) (.cells #[.int .u8 0, .int .u8 0, .int .u8 0, .int .u8 0] 95) (by kernel_rfl) rfl rfl rfl rfl rfl (fun _ => by kernel_rfl) (fun e2 g9 ce gc cf e3 => ?_)
     have e4 := e1.callB cf ce e3
     have eR := Nat.le_trans bQ.size ce
     have bR := bQ.trans cf (by simp)
     refine ⟨bR, ?_⟩
     obtain ⟨ha, e5, e6, e7⟩ := sto_run (c' := #[.int .u8 (IntKind.u8.wrap ((f.src : Int).fdiv (2 ^ 24))), .int .u8 (IntKind.u8.wrap ((f.src : Int).fdiv (2 ^ 16))), .int .u8 (IntKind.u8.wrap ((f.src : Int).fdiv (2 ^ 8))), .int .u8 (IntKind.u8.wrap (f.src))]) Try.prog e4 2 95 eZ 0 (.agg #[.int .u8 (IntKind.u8.wrap ((f.src : Int).fdiv (2 ^ 24))), .int .u8 (IntKind.u8.wrap ((f.src : Int).fdiv (2 ^ 16))), .int .u8 (IntKind.u8.wrap ((f.src : Int).fdiv (2 ^ 8))), .int .u8 (IntKind.u8.wrap (f.src))]) rfl (by kernel_rfl)
     have bS := bR.trans e6 (by first | (simp; done) | (simp [*]; done) | (have q_ := bR.size; simp; omega))
     refine WD.semU 8 (Instr.storeAt 95 (.pointer (some ⟨eZ, 0, none⟩)) (.agg #[.int .u8 (IntKind.u8.wrap ((f.src : Int).fdiv (2 ^ 24))), .int .u8 (IntKind.u8.wrap ((f.src : Int).fdiv (2 ^ 16))), .int .u8 (IntKind.u8.wrap ((f.src : Int).fdiv (2 ^ 8))), .int .u8 (IntKind.u8.wrap (f.src))])) (by kernel_rfl) (by kernel_rfl) e5 bS ?_
     obtain ⟨hb, e8, e9, fa⟩ := sto_run (c' := #[.int .u8 (IntKind.u8.wrap ((f.dst : Int).fdiv (2 ^ 24))), .int .u8 (IntKind.u8.wrap ((f.dst : Int).fdiv (2 ^ 16))), .int .u8 (IntKind.u8.wrap ((f.dst : Int).fdiv (2 ^ 8))), .int .u8 (IntKind.u8.wrap (f.dst))]) Try.prog e7 3 95 e2 0 (.agg #[.int .u8 (IntKind.u8.wrap ((f.dst : Int).fdiv (2 ^ 24))), .int .u8 (IntKind.u8.wrap ((f.dst : Int).fdiv (2 ^ 16))), .int .u8 (IntKind.u8.wrap ((f.dst : Int).fdiv (2 ^ 8))), .int .u8 (IntKind.u8.wrap (f.dst))]) rfl (by kernel_rfl)
     have fb := bS.trans e9 (by first | (simp; done) | (simp [*]; done) | (have q_ := bS.size; simp; omega))
     refine WD.semU 9 (Instr.storeAt 95 (.pointer (some ⟨e2, 0, none⟩)) (.agg #[.int .u8 (IntKind.u8.wrap ((f.dst : Int).fdiv (2 ^ 24))), .int .u8 (IntKind.u8.wrap ((f.dst : Int).fdiv (2 ^ 16))), .int .u8 (IntKind.u8.wrap ((f.dst : Int).fdiv (2 ^ 8))), .int .u8 (IntKind.u8.wrap (f.dst))])) (by kernel_rfl) (by kernel_rfl) e8 fb ?_
     refine WD.done (by kernel_rfl) ?_
     refine QXn ?_
     have fc := fa.pickM [0, 1, 2, 3] [] (by decide) rfl rfl
     exact fun a_ ha_ => aa _ _ ⟨eZ, e2, rfl, fc, trivial⟩ a_ (ha_.weaken (sub_of ⟨rfl, rfl, rfl, rfl, rfl, rfl, rfl, rfl, trivial⟩))
    ·
     refine WO.new 7 (fun b => .pointer (some ⟨b, 0, none⟩)) (.cells #[.int .u8 0, .int .u8 0, .int .u8 0, .int .u8 0] 95) (by kernel_rfl) rfl rfl rfl rfl rfl (fun _ => by kernel_rfl) (fun fd hc cg gd ch fe => ?_)
     have ff := cb.callB ch cg fe
     have eS := Nat.le_trans au.size cg
     have bT := au.trans ch (by simp)
     refine ⟨bT, ?_⟩
     refine WD.new 6 (fun b => .pointer (some ⟨b, 0, none⟩)) (.cells #[.int .u8 0, .int .u8 0, .int .u8 0, .int .u8 0] 95) (by kernel_rfl) rfl rfl rfl rfl rfl (fun _ => by kernel_rfl) (fun fg hd ci gf cj fh => ?_)
     have fi := ff.callB cj ci fh
     have eT := Nat.le_trans bT.size ci
     have bU := bT.trans cj (by simp)
     refine ⟨bU, ?_⟩
     obtain ⟨he, fj, fk, fl⟩ := sto_run (c' := #[.int .u8 (IntKind.u8.wrap ((f.src : Int).fdiv (2 ^ 24))), .int .u8 (IntKind.u8.wrap ((f.src : Int).fdiv (2 ^ 16))), .int .u8 (IntKind.u8.wrap ((f.src : Int).fdiv (2 ^ 8))), .int .u8 (IntKind.u8.wrap (f.src))]) Try.prog fi 3 95 fg 0 (.agg #[.int .u8 (IntKind.u8.wrap ((f.src : Int).fdiv (2 ^ 24))), .int .u8 (IntKind.u8.wrap ((f.src : Int).fdiv (2 ^ 16))), .int .u8 (IntKind.u8.wrap ((f.src : Int).fdiv (2 ^ 8))), .int .u8 (IntKind.u8.wrap (f.src))]) rfl (by kernel_rfl)
     have bV := bU.trans fk (by first | (simp; done) | (simp [*]; done) | (have q_ := bU.size; simp; omega))
     refine WD.semU 8 (Instr.storeAt 95 (.pointer (some ⟨fg, 0, none⟩)) (.agg #[.int .u8 (IntKind.u8.wrap ((f.src : Int).fdiv (2 ^ 24))), .int .u8 (IntKind.u8.wrap ((f.src : Int).fdiv (2 ^ 16))), .int .u8 (IntKind.u8.wrap ((f.src : Int).fdiv (2 ^ 8))), .int .u8 (IntKind.u8.wrap (f.src))])) (by kernel_rfl) (by kernel_rfl) fj bV ?_
     obtain ⟨hf, fm, fn, fo⟩ := sto_run (c' := #[.int .u8 (IntKind.u8.wrap ((f.dst : Int).fdiv (2 ^ 24))), .int .u8 (IntKind.u8.wrap ((f.dst : Int).fdiv (2 ^ 16))), .int .u8 (IntKind.u8.wrap ((f.dst : Int).fdiv (2 ^ 8))), .int .u8 (IntKind.u8.wrap (f.dst))]) Try.prog fl 2 95 fd 0 (.agg #[.int .u8 (IntKind.u8.wrap ((f.dst : Int).fdiv (2 ^ 24))), .int .u8 (IntKind.u8.wrap ((f.dst : Int).fdiv (2 ^ 16))), .int .u8 (IntKind.u8.wrap ((f.dst : Int).fdiv (2 ^ 8))), .int .u8 (IntKind.u8.wrap (f.dst))]) rfl (by kernel_rfl)
     have fp := bV.trans fn (by first | (simp; done) | (simp [*]; done) | (have q_ := bV.size; simp; omega))
     refine WD.semU 9 (Instr.storeAt 95 (.pointer (some ⟨fd, 0, none⟩)) (.agg #[.int .u8 (IntKind.u8.wrap ((f.dst : Int).fdiv (2 ^ 24))), .int .u8 (IntKind.u8.wrap ((f.dst : Int).fdiv (2 ^ 16))), .int .u8 (IntKind.u8.wrap ((f.dst : Int).fdiv (2 ^ 8))), .int .u8 (IntKind.u8.wrap (f.dst))])) (by kernel_rfl) (by kernel_rfl) fm fp ?_
     refine WD.done (by kernel_rfl) ?_
     refine QXn ?_
     have fq := fo.pickM [0, 1, 3, 2] [] (by decide) rfl rfl
     exact fun a_ ha_ => aa _ _ ⟨fg, fd, rfl, fq, trivial⟩ a_ (ha_.weaken (sub_of ⟨rfl, rfl, rfl, rfl, rfl, rfl, rfl, rfl, trivial⟩))
   ·
    refine WO.new 6 (fun b => .pointer (some ⟨b, 0, none⟩)) (.cells #[.int .u8 0, .int .u8 0, .int .u8 0, .int .u8 0] 95) (by kernel_rfl) rfl rfl rfl rfl rfl (fun _ => by kernel_rfl) (fun b7 gg ck gh cl fs => ?_)
    have cm := bP.callB cl ck fs
    have eU := Nat.le_trans ap.size ck
    have aV := ap.trans cl (by simp)
    refine ⟨aV, ?_⟩
    refine WD.all2 5 7 (by kernel_rfl) ?_ ?_
    ·
     refine WO.call 5 (by kernel_rfl) rfl rfl rfl rfl rfl (by kernel_rfl) (bytesOf_ct f.dst gg) ?_
     rintro _ gi ⟨rfl, aW⟩
     have av := aV.trans aW (by simp)
     refine ⟨_, rfl, av, ?_⟩
     have cn := cm.call aW
     refine WD.new 7 (fun b => .pointer (some ⟨b, 0, none⟩)) (.cells #[.int .u8 0, .int .u8 0, .int .u8 0, .int .u8 0] 95) (by kernel_rfl) rfl rfl rfl rfl rfl (fun _ => by kernel_rfl) (fun bW gj aX fM aY co => ?_)
     have cp := cn.callB aY aX co
     have cq := Nat.le_trans av.size aX
     have aw := av.trans aY (by simp)
     refine ⟨aw, ?_⟩
     obtain ⟨gk, cr, cs, ct⟩ := sto_run (c' := #[.int .u8 (IntKind.u8.wrap ((f.src : Int).fdiv (2 ^ 24))), .int .u8 (IntKind.u8.wrap ((f.src : Int).fdiv (2 ^ 16))), .int .u8 (IntKind.u8.wrap ((f.src : Int).fdiv (2 ^ 8))), .int .u8 (IntKind.u8.wrap (f.src))]) Try.prog cp 2 95 b7 0 (.agg #[.int .u8 (IntKind.u8.wrap ((f.src : Int).fdiv (2 ^ 24))), .int .u8 (IntKind.u8.wrap ((f.src : Int).fdiv (2 ^ 16))), .int .u8 (IntKind.u8.wrap ((f.src : Int).fdiv (2 ^ 8))), .int .u8 (IntKind.u8.wrap (f.src))]) rfl (by kernel_rfl)
     have ax := aw.trans cs (by first | (simp; done) | (simp [*]; done) | (have q_ := aw.size; simp; omega))
     refine WD.semU 8 (Instr.storeAt 95 (.pointer (some ⟨b7, 0, none⟩)) (.agg #[.int .u8 (IntKind.u8.wrap ((f.src : Int).fdiv (2 ^ 24))), .int .u8 (IntKind.u8.wrap ((f.src : Int).fdiv (2 ^ 16))), .int .u8 (IntKind.u8.wrap ((f.src : Int).fdiv (2 ^ 8))), .int .u8 (IntKind.u8.wrap (f.src))])) (by kernel_rfl) (by kernel_rfl) cr ax ?_
     obtain ⟨gl, cu, cv, cw⟩ := sto_run (c' := #[.int .u8 (IntKind.u8.wrap ((f.dst : Int).fdiv (2 ^ 24))), .int .u8 (IntKind.u8.wrap ((f.dst : Int).fdiv (2 ^ 16))), .int .u8 (IntKind.u8.wrap ((f.dst : Int).fdiv (2 ^ 8))), .int .u8 (IntKind.u8.wrap (f.dst))]) Try.prog ct 3 95 bW 0 (.agg #[.int .u8 (IntKind.u8.wrap ((f.dst : Int).fdiv (2 ^ 24))), .int .u8 (IntKind.u8.wrap ((f.dst : Int).fdiv (2 ^ 16))), .int .u8 (IntKind.u8.wrap ((f.dst : Int).fdiv (2 ^ 8))), .int .u8 (IntKind.u8.wrap (f.dst))]) rfl (by kernel_rfl)
     have cx := ax.trans cv (by first | (simp; done) | (simp [*]; done) | (have q_ := ax.size; simp; omega))
     refine WD.semU 9 (Instr.storeAt 95 (.pointer (some ⟨bW, 0, none⟩)) (.agg #[.int .u8 (IntKind.u8.wrap ((f.dst : Int).fdiv (2 ^ 24))), .int .u8 (IntKind.u8.wrap ((f.dst : Int).fdiv (2 ^ 16))), .int .u8 (IntKind.u8.wrap ((f.dst : Int).fdiv (2 ^ 8))), .int .u8 (IntKind.u8.wrap (f.dst))])) (by kernel_rfl) (by kernel_rfl) cu cx ?_
     refine WD.done (by kernel_rfl) ?_
     refine QXn ?_
     have cy := cw.pickM [0, 1, 2, 3] [] (by decide) rfl rfl
     exact fun a_ ha_ => aa _ _ ⟨b7, bW, rfl, cy, trivial⟩ a_ (ha_.weaken (sub_of ⟨rfl, rfl, rfl, rfl, rfl, rfl, rfl, rfl, trivial⟩))
    ·
     refine WO.new 7 (fun b => .pointer (some ⟨b, 0, none⟩)) (.cells #[.int .u8 0, .int .u8 0, .int .u8 0, .int .u8 0] 95) (by kernel_rfl) rfl rfl rfl rfl rfl (fun _ => by kernel_rfl) (fun bX ft aZ fN a0 cz => ?_)
     have cA := cm.callB a0 aZ cz
     have cB := Nat.le_trans aV.size aZ
     have a1 := aV.trans a0 (by simp)
     refine ⟨a1, ?_⟩
     refine WD.call 5 (by kernel_rfl) rfl rfl rfl rfl rfl (by kernel_rfl) (bytesOf_ct f.dst ft) ?_
     rintro _ gm ⟨rfl, a2⟩
     have ay := a1.trans a2 (by simp)
     refine ⟨_, rfl, ay, ?_⟩
     have cC := cA.call a2
     obtain ⟨gn, cD, cE, cF⟩ := sto_run (c' := #[.int .u8 (IntKind.u8.wrap ((f.src : Int).fdiv (2 ^ 24))), .int .u8 (IntKind.u8.wrap ((f.src : Int).fdiv (2 ^ 16))), .int .u8 (IntKind.u8.wrap ((f.src : Int).fdiv (2 ^ 8))), .int .u8 (IntKind.u8.wrap (f.src))]) Try.prog cC 2 95 b7 0 (.agg #[.int .u8 (IntKind.u8.wrap ((f.src : Int).fdiv (2 ^ 24))), .int .u8 (IntKind.u8.wrap ((f.src : Int).fdiv (2 ^ 16))), .int .u8 (IntKind.u8.wrap ((f.src : Int).fdiv (2 ^ 8))), .int .u8 (IntKind.u8.wrap (f.src))]) rfl (by kernel_rfl)
     have az := ay.trans cE (by first | (simp; done) | (simp [*]; done) | (have q_ := ay.size; simp; omega))
     refine WD.semU 8 (Instr.storeAt 95 (.pointer (some ⟨b7, 0, none⟩)) (.agg #[.int .u8 (IntKind.u8.wrap ((f.src : Int).fdiv (2 ^ 24))), .int .u8 (IntKind.u8.wrap ((f.src : Int).fdiv (2 ^ 16))), .int .u8 (IntKind.u8.wrap ((f.src : Int).fdiv (2 ^ 8))), .int .u8 (IntKind.u8.wrap (f.src))])) (by kernel_rfl) (by kernel_rfl) cD az ?_
     obtain ⟨go, cG, cH, cI⟩ := sto_run (c' := #[.int .u8 (IntKind.u8.wrap ((f.dst : Int).fdiv (2 ^ 24))), .int .u8 (IntKind.u8.wrap ((f.dst : Int).fdiv (2 ^ 16))), .int .u8 (IntKind.u8.wrap ((f.dst : Int).fdiv (2 ^ 8))), .int .u8 (IntKind.u8.wrap (f.dst))]) Try.prog cF 3 95 bX 0 (.agg #[.int .u8 (IntKind.u8.wrap ((f.dst : Int).fdiv (2 ^ 24))), .int .u8 (IntKind.u8.wrap ((f.dst : Int).fdiv (2 ^ 16))), .int .u8 (IntKind.u8.wrap ((f.dst : Int).fdiv (2 ^ 8))), .int .u8 (IntKind.u8.wrap (f.dst))]) rfl (by kernel_rfl)
     have cJ := az.trans cH (by first | (simp; done) | (simp [*]; done) | (have q_ := az.size; simp; omega))
     refine WD.semU 9 (Instr.storeAt 95 (.pointer (some ⟨bX, 0, none⟩)) (.agg #[.int .u8 (IntKind.u8.wrap ((f.dst : Int).fdiv (2 ^ 24))), .int .u8 (IntKind.u8.wrap ((f.dst : Int).fdiv (2 ^ 16))), .int .u8 (IntKind.u8.wrap ((f.dst : Int).fdiv (2 ^ 8))), .int .u8 (IntKind.u8.wrap (f.dst))])) (by kernel_rfl) (by kernel_rfl) cG cJ ?_
     refine WD.done (by kernel_rfl) ?_
     refine QXn ?_
     have cK := cI.pickM [0, 1, 2, 3] [] (by decide) rfl rfl
     exact fun a_ ha_ => aa _ _ ⟨b7, bX, rfl, cK, trivial⟩ a_ (ha_.weaken (sub_of ⟨rfl, rfl, rfl, rfl, rfl, rfl, rfl, rfl, trivial⟩))
   ·
    refine WO.new 7 (fun b => .pointer (some ⟨b, 0, none⟩)) (.cells #[.int .u8 0, .int .u8 0, .int .u8 0, .int .u8 0] 95) (by kernel_rfl) rfl rfl rfl rfl rfl (fun _ => by kernel_rfl) (fun aq fu a3 fO a4 cL => ?_)
    have a5 := bP.callB a4 a3 cL
    have cM := Nat.le_trans ap.size a3
    have ag := ap.trans a4 (by simp)
    refine ⟨ag, ?_⟩
    refine WD.all2 5 6 (by kernel_rfl) ?_ ?_
    ·
     refine WO.call 5 (by kernel_rfl) rfl rfl rfl rfl rfl (by kernel_rfl) (bytesOf_ct f.dst fu) ?_
     rintro _ gp ⟨rfl, a6⟩
     have aA := ag.trans a6 (by simp)
     refine ⟨_, rfl, aA, ?_⟩
     have cN := a5.call a6
     refine WD.new 6 (fun b => .pointer (some ⟨b, 0, none⟩)) (.cells #[.int .u8 0, .int .u8 0, .int .u8 0, .int .u8 0] 95) (by kernel_rfl) rfl rfl rfl rfl rfl (fun _ => by kernel_rfl) (fun bY gq a7 fP a8 cO => ?_)
     have cP := cN.callB a8 a7 cO
     have cQ := Nat.le_trans aA.size a7
     have aB := aA.trans a8 (by simp)
     refine ⟨aB, ?_⟩
     obtain ⟨gr, cR, cS, cT⟩ := sto_run (c' := #[.int .u8 (IntKind.u8.wrap ((f.src : Int).fdiv (2 ^ 24))), .int .u8 (IntKind.u8.wrap ((f.src : Int).fdiv (2 ^ 16))), .int .u8 (IntKind.u8.wrap ((f.src : Int).fdiv (2 ^ 8))), .int .u8 (IntKind.u8.wrap (f.src))]) Try.prog cP 3 95 bY 0 (.agg #[.int .u8 (IntKind.u8.wrap ((f.src : Int).fdiv (2 ^ 24))), .int .u8 (IntKind.u8.wrap ((f.src : Int).fdiv (2 ^ 16))), .int .u8 (IntKind.u8.wrap ((f.src : Int).fdiv (2 ^ 8))), .int .u8 (IntKind.u8.wrap (f.src))]) rfl (by kernel_rfl)
     have aC := aB.trans cS (by first | (simp; done) | (simp [*]; done) | (have q_ := aB.size; simp; omega))
     refine WD.semU 8 (Instr.storeAt 95 (.pointer (some ⟨bY, 0, none⟩)) (.agg #[.int .u8 (IntKind.u8.wrap ((f.src : Int).fdiv (2 ^ 24))), .int .u8 (IntKind.u8.wrap ((f.src : Int).fdiv (2 ^ 16))), .int .u8 (IntKind.u8.wrap ((f.src : Int).fdiv (2 ^ 8))), .int .u8 (IntKind.u8.wrap (f.src))])) (by kernel_rfl) (by kernel_rfl) cR aC ?_
     obtain ⟨gs, cU, cV, cW⟩ := sto_run (c' := #[.int .u8 (IntKind.u8.wrap ((f.dst : Int).fdiv (2 ^ 24))), .int .u8 (IntKind.u8.wrap ((f.dst : Int).fdiv (2 ^ 16))), .int .u8 (IntKind.u8.wrap ((f.dst : Int).fdiv (2 ^ 8))), .int .u8 (IntKind.u8.wrap (f.dst))]) Try.prog cT 2 95 aq 0 (.agg #[.int .u8 (IntKind.u8.wrap ((f.dst : Int).fdiv (2 ^ 24))), .int .u8 (IntKind.u8.wrap ((f.dst : Int).fdiv (2 ^ 16))), .int .u8 (IntKind.u8.wrap ((f.dst : Int).fdiv (2 ^ 8))), .int .u8 (IntKind.u8.wrap (f.dst))]) rfl (by kernel_rfl)
     have cX := aC.trans cV (by first | (simp; done) | (simp [*]; done) | (have q_ := aC.size; simp; omega))
     refine WD.semU 9 (Instr.storeAt 95 (.pointer (some ⟨aq, 0, none⟩)) (.agg #[.int .u8 (IntKind.u8.wrap ((f.dst : Int).fdiv (2 ^ 24))), .int .u8 (IntKind.u8.wrap ((f.dst : Int).fdiv (2 ^ 16))), .int .u8 (IntKind.u8.wrap ((f.dst : Int).fdiv (2 ^ 8))), .int .u8 (IntKind.u8.wrap (f.dst))])) (by kernel_rfl) (by kernel_rfl) cU cX ?_
     refine WD.done (by kernel_rfl) ?_
     refine QXn ?_
     have cY := cW.pickM [0, 1, 3, 2] [] (by decide) rfl rfl
     exact fun a_ ha_ => aa _ _ ⟨bY, aq, rfl, cY, trivial⟩ a_ (ha_.weaken (sub_of ⟨rfl, rfl, rfl, rfl, rfl, rfl, rfl, rfl, trivial⟩))
    ·
     refine WO.new 6 (fun b => .pointer (some ⟨b, 0, none⟩)) (.cells #[.int .u8 0, .int .u8 0, .int .u8 0, .int .u8 0] 95) (by kernel_rfl) rfl rfl rfl rfl rfl (fun _ => by kernel_rfl) (fun bZ fv a9 fQ ba cZ => ?_)
     have c3 := a5.callB ba a9 cZ
     have c4 := Nat.le_trans ag.size a9
     have bb := ag.trans ba (by simp)
     refine ⟨bb, ?_⟩
     refine WD.call 5 (by kernel_rfl) rfl rfl rfl rfl rfl (by kernel_rfl) (bytesOf_ct f.dst fv) ?_
     rintro _ gu ⟨rfl, bc⟩
     have aD := bb.trans bc (by simp)
     refine ⟨_, rfl, aD, ?_⟩
     have c5 := c3.call bc
     obtain ⟨gv, c6, c7, c8⟩ := sto_run (c' := #[.int .u8 (IntKind.u8.wrap ((f.src : Int).fdiv (2 ^ 24))), .int .u8 (IntKind.u8.wrap ((f.src : Int).fdiv (2 ^ 16))), .int .u8 (IntKind.u8.wrap ((f.src : Int).fdiv (2 ^ 8))), .int .u8 (IntKind.u8.wrap (f.src))]) Try.prog c5 3 95 bZ 0 (.agg #[.int .u8 (IntKind.u8.wrap ((f.src : Int).fdiv (2 ^ 24))), .int .u8 (IntKind.u8.wrap ((f.src : Int).fdiv (2 ^ 16))), .int .u8 (IntKind.u8.wrap ((f.src : Int).fdiv (2 ^ 8))), .int .u8 (IntKind.u8.wrap (f.src))]) rfl (by kernel_rfl)
     have aE := aD.trans c7 (by first | (simp; done) | (simp [*]; done) | (have q_ := aD.size; simp; omega))
     refine WD.semU 8 (Instr.storeAt 95 (.pointer (some ⟨bZ, 0, none⟩)) (.agg #[.int .u8 (IntKind.u8.wrap ((f.src : Int).fdiv (2 ^ 24))), .int .u8 (IntKind.u8.wrap ((f.src : Int).fdiv (2 ^ 16))), .int .u8 (IntKind.u8.wrap ((f.src : Int).fdiv (2 ^ 8))), .int .u8 (IntKind.u8.wrap (f.src))])) (by kernel_rfl) (by kernel_rfl) c6 aE ?_
     obtain ⟨gw, c9, da, db⟩ := sto_run (c' := #[.int .u8 (IntKind.u8.wrap ((f.dst : Int).fdiv (2 ^ 24))), .int .u8 (IntKind.u8.wrap ((f.dst : Int).fdiv (2 ^ 16))), .int .u8 (IntKind.u8.wrap ((f.dst : Int).fdiv (2 ^ 8))), .int .u8 (IntKind.u8.wrap (f.dst))]) Try.prog c8 2 95 aq 0 (.agg #[.int .u8 (IntKind.u8.wrap ((f.dst : Int).fdiv (2 ^ 24))), .int .u8 (IntKind.u8.wrap ((f.dst : Int).fdiv (2 ^ 16))), .int .u8 (IntKind.u8.wrap ((f.dst : Int).fdiv (2 ^ 8))), .int .u8 (IntKind.u8.wrap (f.dst))]) rfl (by kernel_rfl)
     have dc := aE.trans da (by first | (simp; done) | (simp [*]; done) | (have q_ := aE.size; simp; omega))
     refine WD.semU 9 (Instr.storeAt 95 (.pointer (some ⟨aq, 0, none⟩)) (.agg #[.int .u8 (IntKind.u8.wrap ((f.dst : Int).fdiv (2 ^ 24))), .int .u8 (IntKind.u8.wrap ((f.dst : Int).fdiv (2 ^ 16))), .int .u8 (IntKind.u8.wrap ((f.dst : Int).fdiv (2 ^ 8))), .int .u8 (IntKind.u8.wrap (f.dst))])) (by kernel_rfl) (by kernel_rfl) c9 dc ?_
     refine WD.done (by kernel_rfl) ?_
     refine QXn ?_
     have dd := db.pickM [0, 1, 3, 2] [] (by decide) rfl rfl
     exact fun a_ ha_ => aa _ _ ⟨bZ, aq, rfl, dd, trivial⟩ a_ (ha_.weaken (sub_of ⟨rfl, rfl, rfl, rfl, rfl, rfl, rfl, rfl, trivial⟩))
  ·
   refine WO.new 6 (fun b => .pointer (some ⟨b, 0, none⟩)) (.cells #[.int .u8 0, .int .u8 0, .int .u8 0, .int .u8 0] 95) (by kernel_rfl) rfl rfl rfl rfl rfl (fun _ => by kernel_rfl) (fun ad fw bd fR be de => ?_)
   have bf := ar.callB be bd de
   have df := Nat.le_trans ac.size bd
   have ah := ac.trans be (by simp)
   refine ⟨ah, ?_⟩
   refine WD.all2 2 7 (by kernel_rfl) ?_ ?_
   ·
    refine WO.call 2 (by kernel_rfl) rfl rfl rfl rfl rfl (by kernel_rfl) (bytesOf_ct f.src fw) ?_
    rintro _ fx ⟨rfl, bg⟩
    have ai := ah.trans bg (by simp)
    refine ⟨_, rfl, ai, ?_⟩
    have bh := bf.call bg
    refine WD.all2 5 7 (by kernel_rfl) ?_ ?_
    ·
     refine WO.call 5 (by kernel_rfl) rfl rfl rfl rfl rfl (by kernel_rfl) (bytesOf_ct f.dst fx) ?_
     rintro _ gx ⟨rfl, bi⟩
     have aF := ai.trans bi (by simp)
     refine ⟨_, rfl, aF, ?_⟩
     have dg := bh.call bi
     refine WD.new 7 (fun b => .pointer (some ⟨b, 0, none⟩)) (.cells #[.int .u8 0, .int .u8 0, .int .u8 0, .int .u8 0] 95) (by kernel_rfl) rfl rfl rfl rfl rfl (fun _ => by kernel_rfl) (fun b0 gy bj fS bk dh => ?_)
     have di := dg.callB bk bj dh
     have dj := Nat.le_trans aF.size bj
     have aG := aF.trans bk (by simp)
     refine ⟨aG, ?_⟩
     obtain ⟨gz, dk, dl, dm⟩ := sto_run (c' := #[.int .u8 (IntKind.u8.wrap ((f.src : Int).fdiv (2 ^ 24))), .int .u8 (IntKind.u8.wrap ((f.src : Int).fdiv (2 ^ 16))), .int .u8 (IntKind.u8.wrap ((f.src : Int).fdiv (2 ^ 8))), .int .u8 (IntKind.u8.wrap (f.src))]) Try.prog di 2 95 ad 0 (.agg #[.int .u8 (IntKind.u8.wrap ((f.src : Int).fdiv (2 ^ 24))), .int .u8 (IntKind.u8.wrap ((f.src : Int).fdiv (2 ^ 16))), .int .u8 (IntKind.u8.wrap ((f.src : Int).fdiv (2 ^ 8))), .int .u8 (IntKind.u8.wrap (f.src))]) rfl (by kernel_rfl)
     have aH := aG.trans dl (by first | (simp; done) | (simp [*]; done) | (have q_ := aG.size; simp; omega))
     refine WD.semU 8 (Instr.storeAt 95 (.pointer (some ⟨ad, 0, none⟩)) (.agg #[.int .u8 (IntKind.u8.wrap ((f.src : Int).fdiv (2 ^ 24))), .int .u8 (IntKind.u8.wrap ((f.src : Int).fdiv (2 ^ 16))), .int .u8 (IntKind.u8.wrap ((f.src : Int).fdiv (2 ^ 8))), .int .u8 (IntKind.u8.wrap (f.src))])) (by kernel_rfl) (by kernel_rfl) dk aH ?_
     obtain ⟨gA, dn, dq, dr⟩ := sto_run (c' := #[.int .u8 (IntKind.u8.wrap ((f.dst : Int).fdiv (2 ^ 24))), .int .u8 (IntKind.u8.wrap ((f.dst : Int).fdiv (2 ^ 16))), .int .u8 (IntKind.u8.wrap ((f.dst : Int).fdiv (2 ^ 8))), .int .u8 (IntKind.u8.wrap (f.dst))]) Try.prog dm 3 95 b0 0 (.agg #[.int .u8 (IntKind.u8.wrap ((f.dst : Int).fdiv (2 ^ 24))), .int .u8 (IntKind.u8.wrap ((f.dst : Int).fdiv (2 ^ 16))), .int .u8 (IntKind.u8.wrap ((f.dst : Int).fdiv (2 ^ 8))), .int .u8 (IntKind.u8.wrap (f.dst))]) rfl (by kernel_rfl)
     have ds := aH.trans dq (by first | (simp; done) | (simp [*]; done) | (have q_ := aH.size; simp; omega))
     refine WD.semU 9 (Instr.storeAt 95 (.pointer (some ⟨b0, 0, none⟩)) (.agg #[.int .u8 (IntKind.u8.wrap ((f.dst : Int).fdiv (2 ^ 24))), .int .u8 (IntKind.u8.wrap ((f.dst : Int).fdiv (2 ^ 16))), .int .u8 (IntKind.u8.wrap ((f.dst : Int).fdiv (2 ^ 8))), .int .u8 (IntKind.u8.wrap (f.dst))])) (by kernel_rfl) (by kernel_rfl) dn ds ?_
     refine WD.done (by kernel_rfl) ?_
     refine QXn ?_
     have dt := dr.pickM [0, 1, 2, 3] [] (by decide) rfl rfl
     exact fun a_ ha_ => aa _ _ ⟨ad, b0, rfl, dt, trivial⟩ a_ (ha_.weaken (sub_of ⟨rfl, rfl, rfl, rfl, rfl, rfl, rfl, rfl, trivial⟩))
    ·
     refine WO.new 7 (fun b => .pointer (some ⟨b, 0, none⟩)) (.cells #[.int .u8 0, .int .u8 0, .int .u8 0, .int .u8 0] 95) (by kernel_rfl) rfl rfl rfl rfl rfl (fun _ => by kernel_rfl) (fun b1 fy bl fT bm du => ?_)
     have dv := bh.callB bm bl du
     have dw := Nat.le_trans ai.size bl
     have bn := ai.trans bm (by simp)
     refine ⟨bn, ?_⟩
     refine WD.call 5 (by kernel_rfl) rfl rfl rfl rfl rfl (by kernel_rfl) (bytesOf_ct f.dst fy) ?_
     rintro _ gB ⟨rfl, bo⟩
     have aI := bn.trans bo (by simp)
     refine ⟨_, rfl, aI, ?_⟩
     have dx := dv.call bo
     obtain ⟨gC, dy, dz, dA⟩ := sto_run (c' := #[.int .u8 (IntKind.u8.wrap ((f.src : Int).fdiv (2 ^ 24))), .int .u8 (IntKind.u8.wrap ((f.src : Int).fdiv (2 ^ 16))), .int .u8 (IntKind.u8.wrap ((f.src : Int).fdiv (2 ^ 8))), .int .u8 (IntKind.u8.wrap (f.src))]) Try.prog dx 2 95 ad 0 (.agg #[.int .u8 (IntKind.u8.wrap ((f.src : Int).fdiv (2 ^ 24))), .int .u8 (IntKind.u8.wrap ((f.src : Int).fdiv (2 ^ 16))), .int .u8 (IntKind.u8.wrap ((f.src : Int).fdiv (2 ^ 8))), .int .u8 (IntKind.u8.wrap (f.src))]) rfl (by kernel_rfl)
     have aJ := aI.trans dz (by first | (simp; done) | (simp [*]; done) | (have q_ := aI.size; simp; omega))
     refine WD.semU 8 (Instr.storeAt 95 (.pointer (some ⟨ad, 0, none⟩)) (.agg #[.int .u8 (IntKind.u8.wrap ((f.src : Int).fdiv (2 ^ 24))), .int .u8 (IntKind.u8.wrap ((f.src : Int).fdiv (2 ^ 16))), .int .u8 (IntKind.u8.wrap ((f.src : Int).fdiv (2 ^ 8))), .int .u8 (IntKind.u8.wrap (f.src))])) (by kernel_rfl) (by kernel_rfl) dy aJ ?_
     obtain ⟨gD, dB, dC, dD⟩ := sto_run (c' := #[.int .u8 (IntKind.u8.wrap ((f.dst : Int).fdiv (2 ^ 24))), .int .u8 (IntKind.u8.wrap ((f.dst : Int).fdiv (2 ^ 16))), .int .u8 (IntKind.u8.wrap ((f.dst : Int).fdiv (2 ^ 8))), .int .u8 (IntKind.u8.wrap (f.dst))]) Try.prog dA 3 95 b1 0 (.agg #[.int .u8 (IntKind.u8.wrap ((f.dst : Int).fdiv (2 ^ 24))), .int .u8 (IntKind.u8.wrap ((f.dst : Int).fdiv (2 ^ 16))), .int .u8 (IntKind.u8.wrap ((f.dst : Int).fdiv (2 ^ 8))), .int .u8 (IntKind.u8.wrap (f.dst))]) rfl (by kernel_rfl)
     have dE := aJ.trans dC (by first | (simp; done) | (simp [*]; done) | (have q_ := aJ.size; simp; omega))
     refine WD.semU 9 (Instr.storeAt 95 (.pointer (some ⟨b1, 0, none⟩)) (.agg #[.int .u8 (IntKind.u8.wrap ((f.dst : Int).fdiv (2 ^ 24))), .int .u8 (IntKind.u8.wrap ((f.dst : Int).fdiv (2 ^ 16))), .int .u8 (IntKind.u8.wrap ((f.dst : Int).fdiv (2 ^ 8))), .int .u8 (IntKind.u8.wrap (f.dst))])) (by kernel_rfl) (by kernel_rfl) dB dE ?_
     refine WD.done (by kernel_rfl) ?_
     refine QXn ?_
     have dF := dD.pickM [0, 1, 2, 3] [] (by decide) rfl rfl
     exact fun a_ ha_ => aa _ _ ⟨ad, b1, rfl, dF, trivial⟩ a_ (ha_.weaken (sub_of ⟨rfl, rfl, rfl, rfl, rfl, rfl, rfl, rfl, trivial⟩))
   ·
    refine WO.new 7 (fun b => .pointer (some ⟨b, 0, none⟩)) (.cells #[.int .u8 0, .int .u8 0, .int .u8 0, .int .u8 0] 95) (by kernel_rfl) rfl rfl rfl rfl rfl (fun _ => by kernel_rfl) (fun b2 fz bp fU bq dG => ?_)
    have dH := bf.callB bq bp dG
    have dI := Nat.le_trans ah.size bp
    have br := ah.trans bq (by simp)
    refine ⟨br, ?_⟩
    refine WD.call 2 (by kernel_rfl) rfl rfl rfl rfl rfl (by kernel_rfl) (bytesOf_ct f.src fz) ?_
    rintro _ fA ⟨rfl, bs⟩
    have bt := br.trans bs (by simp)
    refine ⟨_, rfl, bt, ?_⟩
    have dJ := dH.call bs
    refine WD.call 5 (by kernel_rfl) rfl rfl rfl rfl rfl (by kernel_rfl) (bytesOf_ct f.dst fA) ?_
    rintro _ gE ⟨rfl, bu⟩
    have aK := bt.trans bu (by simp)
    refine ⟨_, rfl, aK, ?_⟩
    have dK := dJ.call bu
    obtain ⟨gF, dL, dM, dN⟩ := sto_run (c' := #[.int .u8 (IntKind.u8.wrap ((f.src : Int).fdiv (2 ^ 24))), .int .u8 (IntKind.u8.wrap ((f.src : Int).fdiv (2 ^ 16))), .int .u8 (IntKind.u8.wrap ((f.src : Int).fdiv (2 ^ 8))), .int .u8 (IntKind.u8.wrap (f.src))]) Try.prog dK 2 95 ad 0 (.agg #[.int .u8 (IntKind.u8.wrap ((f.src : Int).fdiv (2 ^ 24))), .int .u8 (IntKind.u8.wrap ((f.src : Int).fdiv (2 ^ 16))), .int .u8 (IntKind.u8.wrap ((f.src : Int).fdiv (2 ^ 8))), .int .u8 (IntKind.u8.wrap (f.src))]) rfl (by kernel_rfl)
    have aL := aK.trans dM (by first | (simp; done) | (simp [*]; done) | (have q_ := aK.size; simp; omega))
    refine WD.semU 8 (Instr.storeAt 95 (.pointer (some ⟨ad, 0, none⟩)) (.agg #[.int .u8 (IntKind.u8.wrap ((f.src : Int).fdiv (2 ^ 24))), .int .u8 (IntKind.u8.wrap ((f.src : Int).fdiv (2 ^ 16))), .int .u8 (IntKind.u8.wrap ((f.src : Int).fdiv (2 ^ 8))), .int .u8 (IntKind.u8.wrap (f.src))])) (by kernel_rfl) (by kernel_rfl) dL aL ?_
    obtain ⟨gG, dO, dP, dQ⟩ := sto_run (c' := #[.int .u8 (IntKind.u8.wrap ((f.dst : Int).fdiv (2 ^ 24))), .int .u8 (IntKind.u8.wrap ((f.dst : Int).fdiv (2 ^ 16))), .int .u8 (IntKind.u8.wrap ((f.dst : Int).fdiv (2 ^ 8))), .int .u8 (IntKind.u8.wrap (f.dst))]) Try.prog dN 3 95 b2 0 (.agg #[.int .u8 (IntKind.u8.wrap ((f.dst : Int).fdiv (2 ^ 24))), .int .u8 (IntKind.u8.wrap ((f.dst : Int).fdiv (2 ^ 16))), .int .u8 (IntKind.u8.wrap ((f.dst : Int).fdiv (2 ^ 8))), .int .u8 (IntKind.u8.wrap (f.dst))]) rfl (by kernel_rfl)
    have dR := aL.trans dP (by first | (simp; done) | (simp [*]; done) | (have q_ := aL.size; simp; omega))
    refine WD.semU 9 (Instr.storeAt 95 (.pointer (some ⟨b2, 0, none⟩)) (.agg #[.int .u8 (IntKind.u8.wrap ((f.dst : Int).fdiv (2 ^ 24))), .int .u8 (IntKind.u8.wrap ((f.dst : Int).fdiv (2 ^ 16))), .int .u8 (IntKind.u8.wrap ((f.dst : Int).fdiv (2 ^ 8))), .int .u8 (IntKind.u8.wrap (f.dst))])) (by kernel_rfl) (by kernel_rfl) dO dR ?_
    refine WD.done (by kernel_rfl) ?_
    refine QXn ?_
    have dS := dQ.pickM [0, 1, 2, 3] [] (by decide) rfl rfl
    exact fun a_ ha_ => aa _ _ ⟨ad, b2, rfl, dS, trivial⟩ a_ (ha_.weaken (sub_of ⟨rfl, rfl, rfl, rfl, rfl, rfl, rfl, rfl, trivial⟩))
  ·
   refine WO.new 7 (fun b => .pointer (some ⟨b, 0, none⟩)) (.cells #[.int .u8 0, .int .u8 0, .int .u8 0, .int .u8 0] 95) (by kernel_rfl) rfl rfl rfl rfl rfl (fun _ => by kernel_rfl) (fun ae fB bv fV bw dT => ?_)
   have bx := ar.callB bw bv dT
   have dU := Nat.le_trans ac.size bv
   have aj := ac.trans bw (by simp)
   refine ⟨aj, ?_⟩
   refine WD.all2 2 6 (by kernel_rfl) ?_ ?_
   ·
    refine WO.call 2 (by kernel_rfl) rfl rfl rfl rfl rfl (by kernel_rfl) (bytesOf_ct f.src fB) ?_
    rintro _ fC ⟨rfl, bz⟩
    have ak := aj.trans bz (by simp)
    refine ⟨_, rfl, ak, ?_⟩
    have bA := bx.call bz
    refine WD.all2 5 6 (by kernel_rfl) ?_ ?_
    ·
     refine WO.call 5 (by kernel_rfl) rfl rfl rfl rfl rfl (by kernel_rfl) (bytesOf_ct f.dst fC) ?_
     rintro _ gH ⟨rfl, bB⟩
     have aM := ak.trans bB (by simp)
     refine ⟨_, rfl, aM, ?_⟩
     have dV := bA.call bB
     refine WD.new 6 (fun b => .pointer (some ⟨b, 0, none⟩)) (.cells #[.int .u8 0, .int .u8 0, .int .u8 0, .int .u8 0] 95) (by kernel_rfl) rfl rfl rfl rfl rfl (fun _ => by kernel_rfl) (fun b3 gI bC fW bD dW => ?_)
     have dX := dV.callB bD bC dW
     have dY := Nat.le_trans aM.size bC
     have aN := aM.trans bD (by simp)
     refine ⟨aN, ?_⟩
     obtain ⟨gJ, dZ, d0, d1⟩ := sto_run (c' := #[.int .u8 (IntKind.u8.wrap ((f.src : Int).fdiv (2 ^ 24))), .int .u8 (IntKind.u8.wrap ((f.src : Int).fdiv (2 ^ 16))), .int .u8 (IntKind.u8.wrap ((f.src : Int).fdiv (2 ^ 8))), .int .u8 (IntKind.u8.wrap (f.src))]) Try.prog dX 3 95 b3 0 (.agg #[.int .u8 (IntKind.u8.wrap ((f.src : Int).fdiv (2 ^ 24))), .int .u8 (IntKind.u8.wrap ((f.src : Int).fdiv (2 ^ 16))), .int .u8 (IntKind.u8.wrap ((f.src : Int).fdiv (2 ^ 8))), .int .u8 (IntKind.u8.wrap (f.src))]) rfl (by kernel_rfl)
     have aO := aN.trans d0 (by first | (simp; done) | (simp [*]; done) | (have q_ := aN.size; simp; omega))
     refine WD.semU 8 (Instr.storeAt 95 (.pointer (some ⟨b3, 0, none⟩)) (.agg #[.int .u8 (IntKind.u8.wrap ((f.src : Int).fdiv (2 ^ 24))), .int .u8 (IntKind.u8.wrap ((f.src : Int).fdiv (2 ^ 16))), .int .u8 (IntKind.u8.wrap ((f.src : Int).fdiv (2 ^ 8))), .int .u8 (IntKind.u8.wrap (f.src))])) (by kernel_rfl) (by kernel_rfl) dZ aO ?_
     obtain ⟨gK, d2, d3, d4⟩ := sto_run (c' := #[.int .u8 (IntKind.u8.wrap ((f.dst : Int).fdiv (2 ^ 24))), .int .u8 (IntKind.u8.wrap ((f.dst : Int).fdiv (2 ^ 16))), .int .u8 (IntKind.u8.wrap ((f.dst : Int).fdiv (2 ^ 8))), .int .u8 (IntKind.u8.wrap (f.dst))]) Try.prog d1 2 95 ae 0 (.agg #[.int .u8 (IntKind.u8.wrap ((f.dst : Int).fdiv (2 ^ 24))), .int .u8 (IntKind.u8.wrap ((f.dst : Int).fdiv (2 ^ 16))), .int .u8 (IntKind.u8.wrap ((f.dst : Int).fdiv (2 ^ 8))), .int .u8 (IntKind.u8.wrap (f.dst))]) rfl (by kernel_rfl)
     have d5 := aO.trans d3 (by first | (simp; done) | (simp [*]; done) | (have q_ := aO.size; simp; omega))
     refine WD.semU 9 (Instr.storeAt 95 (.pointer (some ⟨ae, 0, none⟩)) (.agg #[.int .u8 (IntKind.u8.wrap ((f.dst : Int).fdiv (2 ^ 24))), .int .u8 (IntKind.u8.wrap ((f.dst : Int).fdiv (2 ^ 16))), .int .u8 (IntKind.u8.wrap ((f.dst : Int).fdiv (2 ^ 8))), .int .u8 (IntKind.u8.wrap (f.dst))])) (by kernel_rfl) (by kernel_rfl) d2 d5 ?_
     refine WD.done (by kernel_rfl) ?_
     refine QXn ?_
     have d6 := d4.pickM [0, 1, 3, 2] [] (by decide) rfl rfl
     exact fun a_ ha_ => aa _ _ ⟨b3, ae, rfl, d6, trivial⟩ a_ (ha_.weaken (sub_of ⟨rfl, rfl, rfl, rfl, rfl, rfl, rfl, rfl, trivial⟩))
    ·
     refine WO.new 6 (fun b => .pointer (some ⟨b, 0, none⟩)) (.cells #[.int .u8 0, .int .u8 0, .int .u8 0, .int .u8 0] 95) (by kernel_rfl) rfl rfl rfl rfl rfl (fun _ => by kernel_rfl) (fun b5 fD bE fX bF d7 => ?_)
     have d8 := bA.callB bF bE d7
     have d9 := Nat.le_trans ak.size bE
     have bG := ak.trans bF (by simp)
     refine ⟨bG, ?_⟩
     refine WD.call 5 (by kernel_rfl) rfl rfl rfl rfl rfl (by kernel_rfl) (bytesOf_ct f.dst fD) ?_
     rintro _ gL ⟨rfl, bH⟩
     have aP := bG.trans bH (by simp)
     refine ⟨_, rfl, aP, ?_⟩
     have ea := d8.call bH
     obtain ⟨gM, eb, ec, ed⟩ := sto_run (c' := #[.int .u8 (IntKind.u8.wrap ((f.src : Int).fdiv (2 ^ 24))), .int .u8 (IntKind.u8.wrap ((f.src : Int).fdiv (2 ^ 16))), .int .u8 (IntKind.u8.wrap ((f.src : Int).fdiv (2 ^ 8))), .int .u8 (IntKind.u8.wrap (f.src))]) Try.prog ea 3 95 b5 0 (.agg #[.int .u8 (IntKind.u8.wrap ((f.src : Int).fdiv (2 ^ 24))), .int .u8 (IntKind.u8.wrap ((f.src : Int).fdiv (2 ^ 16))), .int .u8 (IntKind.u8.wrap ((f.src : Int).fdiv (2 ^ 8))), .int .u8 (IntKind.u8.wrap (f.src))]) rfl (by kernel_rfl)
     have aQ := aP.trans ec (by first | (simp; done) | (simp [*]; done) | (have q_ := aP.size; simp; omega))
     refine WD.semU 8 (Instr.storeAt 95 (.pointer (some ⟨b5, 0, none⟩)) (.agg #[.int .u8 (IntKind.u8.wrap ((f.src : Int).fdiv (2 ^ 24))), .int .u8 (IntKind.u8.wrap ((f.src : Int).fdiv (2 ^ 16))), .int .u8 (IntKind.u8.wrap ((f.src : Int).fdiv (2 ^ 8))), .int .u8 (IntKind.u8.wrap (f.src))])) (by kernel_rfl) (by kernel_rfl) eb aQ ?_
     obtain ⟨gN, ee, ef, eg⟩ := sto_run (c' := #[.int .u8 (IntKind.u8.wrap ((f.dst : Int).fdiv (2 ^ 24))), .int .u8 (IntKind.u8.wrap ((f.dst : Int).fdiv (2 ^ 16))), .int .u8 (IntKind.u8.wrap ((f.dst : Int).fdiv (2 ^ 8))), .int .u8 (IntKind.u8.wrap (f.dst))]) Try.prog ed 2 95 ae 0 (.agg #[.int .u8 (IntKind.u8.wrap ((f.dst : Int).fdiv (2 ^ 24))), .int .u8 (IntKind.u8.wrap ((f.dst : Int).fdiv (2 ^ 16))), .int .u8 (IntKind.u8.wrap ((f.dst : Int).fdiv (2 ^ 8))), .int .u8 (IntKind.u8.wrap (f.dst))]) rfl (by kernel_rfl)
     have eh := aQ.trans ef (by first | (simp; done) | (simp [*]; done) | (have q_ := aQ.size; simp; omega))
     refine WD.semU 9 (Instr.storeAt 95 (.pointer (some ⟨ae, 0, none⟩)) (.agg #[.int .u8 (IntKind.u8.wrap ((f.dst : Int).fdiv (2 ^ 24))), .int .u8 (IntKind.u8.wrap ((f.dst : Int).fdiv (2 ^ 16))), .int .u8 (IntKind.u8.wrap ((f.dst : Int).fdiv (2 ^ 8))), .int .u8 (IntKind.u8.wrap (f.dst))])) (by kernel_rfl) (by kernel_rfl) ee eh ?_
     refine WD.done (by kernel_rfl) ?_
     refine QXn ?_
     have ei := eg.pickM [0, 1, 3, 2] [] (by decide) rfl rfl
     exact fun a_ ha_ => aa _ _ ⟨b5, ae, rfl, ei, trivial⟩ a_ (ha_.weaken (sub_of ⟨rfl, rfl, rfl, rfl, rfl, rfl, rfl, rfl, trivial⟩))
   ·
    refine WO.new 6 (fun b => .pointer (some ⟨b, 0, none⟩)) (.cells #[.int .u8 0, .int .u8 0, .int .u8 0, .int .u8 0] 95) (by kernel_rfl) rfl rfl rfl rfl rfl (fun _ => by kernel_rfl) (fun b6 fE bI fY bJ ej => ?_)
    have ek := bx.callB bJ bI ej
    have em := Nat.le_trans aj.size bI
    have bK := aj.trans bJ (by simp)
    refine ⟨bK, ?_⟩
    refine WD.call 2 (by kernel_rfl) rfl rfl rfl rfl rfl (by kernel_rfl) (bytesOf_ct f.src fE) ?_
    rintro _ fF ⟨rfl, bL⟩
    have bM := bK.trans bL (by simp)
    refine ⟨_, rfl, bM, ?_⟩
    have en := ek.call bL
    refine WD.call 5 (by kernel_rfl) rfl rfl rfl rfl rfl (by kernel_rfl) (bytesOf_ct f.dst fF) ?_
    rintro _ gO ⟨rfl, bN⟩
    have aR := bM.trans bN (by simp)
    refine ⟨_, rfl, aR, ?_⟩
    have eo := en.call bN
    obtain ⟨gP, ep, er, es⟩ := sto_run (c' := #[.int .u8 (IntKind.u8.wrap ((f.src : Int).fdiv (2 ^ 24))), .int .u8 (IntKind.u8.wrap ((f.src : Int).fdiv (2 ^ 16))), .int .u8 (IntKind.u8.wrap ((f.src : Int).fdiv (2 ^ 8))), .int .u8 (IntKind.u8.wrap (f.src))]) Try.prog eo 3 95 b6 0 (.agg #[.int .u8 (IntKind.u8.wrap ((f.src : Int).fdiv (2 ^ 24))), .int .u8 (IntKind.u8.wrap ((f.src : Int).fdiv (2 ^ 16))), .int .u8 (IntKind.u8.wrap ((f.src : Int).fdiv (2 ^ 8))), .int .u8 (IntKind.u8.wrap (f.src))]) rfl (by kernel_rfl)
    have aS := aR.trans er (by first | (simp; done) | (simp [*]; done) | (have q_ := aR.size; simp; omega))
    refine WD.semU 8 (Instr.storeAt 95 (.pointer (some ⟨b6, 0, none⟩)) (.agg #[.int .u8 (IntKind.u8.wrap ((f.src : Int).fdiv (2 ^ 24))), .int .u8 (IntKind.u8.wrap ((f.src : Int).fdiv (2 ^ 16))), .int .u8 (IntKind.u8.wrap ((f.src : Int).fdiv (2 ^ 8))), .int .u8 (IntKind.u8.wrap (f.src))])) (by kernel_rfl) (by kernel_rfl) ep aS ?_
    obtain ⟨gQ, et, eu, ev⟩ := sto_run (c' := #[.int .u8 (IntKind.u8.wrap ((f.dst : Int).fdiv (2 ^ 24))), .int .u8 (IntKind.u8.wrap ((f.dst : Int).fdiv (2 ^ 16))), .int .u8 (IntKind.u8.wrap ((f.dst : Int).fdiv (2 ^ 8))), .int .u8 (IntKind.u8.wrap (f.dst))]) Try.prog es 2 95 ae 0 (.agg #[.int .u8 (IntKind.u8.wrap ((f.dst : Int).fdiv (2 ^ 24))), .int .u8 (IntKind.u8.wrap ((f.dst : Int).fdiv (2 ^ 16))), .int .u8 (IntKind.u8.wrap ((f.dst : Int).fdiv (2 ^ 8))), .int .u8 (IntKind.u8.wrap (f.dst))]) rfl (by kernel_rfl)
    have ew := aS.trans eu (by first | (simp; done) | (simp [*]; done) | (have q_ := aS.size; simp; omega))
    refine WD.semU 9 (Instr.storeAt 95 (.pointer (some ⟨ae, 0, none⟩)) (.agg #[.int .u8 (IntKind.u8.wrap ((f.dst : Int).fdiv (2 ^ 24))), .int .u8 (IntKind.u8.wrap ((f.dst : Int).fdiv (2 ^ 16))), .int .u8 (IntKind.u8.wrap ((f.dst : Int).fdiv (2 ^ 8))), .int .u8 (IntKind.u8.wrap (f.dst))])) (by kernel_rfl) (by kernel_rfl) et ew ?_
    refine WD.done (by kernel_rfl) ?_
    refine QXn ?_
    have ex := ev.pickM [0, 1, 3, 2] [] (by decide) rfl rfl
    exact fun a_ ha_ => aa _ _ ⟨b6, ae, rfl, ex, trivial⟩ a_ (ha_.weaken (sub_of ⟨rfl, rfl, rfl, rfl, rfl, rfl, rfl, rfl, trivial⟩))
 rintro E_ hg ⟨gx7, gx8, rfl, ey, eV⟩
 refine WCs (fun gR ez => ?_)
 refine WCg (WLq 2 [(19, .pointer (some ⟨g3, 0, none⟩)), (18, .func (.func 54) #[] #[.pointer (some ⟨ab, 0, none⟩)])] ?_)
 refine WLo 3 (.pointer (some ⟨g3, 0, none⟩)) (.int .i64 f.proto) 20 (run_ld (ey.get 0 rfl) rfl) ?_
 refine WLq 1 [(21, .int .u8 (IntKind.u8.wrap (f.proto)))] ?_
 refine WLt (show (.int .u8 (IntKind.u8.wrap (f.proto)) : Value) = .int .u8 (IntKind.u8.wrap (f.proto)) from rfl) ?_
 refine WL.newM ey (fun b => .slice (some ⟨b, 0, none⟩) 1 1) (.cells #[.int .u8 (IntKind.u8.wrap (f.proto))] 5) 22 (fun _ => by kernel_rfl) (fun fG fH fZ f0 al => ?_)
 refine WLc rfl rfl rfl rfl rfl (by kernel_rfl) (mix_ct (some ⟨fG, 0, none⟩) 1 [IntKind.u8.wrap (f.proto)] ab (Go.bits .xor .u64 s 14695981039346656037) fH (al.get 1 rfl) (Rd.blk (al.get 4 rfl) (Go.Tw.encI_len _) rfl) (fun b_ off_ e_ => by cases e_; exact al.ne 4 1 rfl rfl (by decide)) (by intro b_ hb_; simp only [List.mem_cons, List.not_mem_nil, or_false] at hb_; rcases hb_ with rfl <;> exact b8 _) (by simp)) ?_
 rintro _ fI ⟨rfl, eA, eB⟩
 have am := al.callM 1 rfl eA eB
 refine ⟨_, rfl, ?_⟩
 refine WLd rfl (QXn (ez _ _ ?_))
 refine WCs (fun gS eC => ?_)
 refine WCg (WLq 1 [(24, .func (.func 54) #[] #[.pointer (some ⟨ab, 0, none⟩)])] ?_)
 have eD : ∀ w_, Sem.run Try.prog (Instr.sliceAt 95 (.pointer (some ⟨gx7, 0, none⟩)) none none none) w_ = .ok (.slice (some ⟨gx7, 0, none⟩) 4 4) w_ := fun w_ => (by kernel_rfl)
 refine WL.sem (Instr.sliceAt 95 (.pointer (some ⟨gx7, 0, none⟩)) none none none) 25 (.slice (some ⟨gx7, 0, none⟩) 4 4) (by kernel_rfl) (eD _) ?_
 refine WLc rfl rfl rfl rfl rfl (by kernel_rfl) (mix_ct (some ⟨gx7, 0, none⟩) 4 [(IntKind.u8.wrap ((f.src : Int).fdiv (2 ^ 24))), (IntKind.u8.wrap ((f.src : Int).fdiv (2 ^ 16))), (IntKind.u8.wrap ((f.src : Int).fdiv (2 ^ 8))), (IntKind.u8.wrap (f.src))] ab (mixL (Go.bits .xor .u64 s 14695981039346656037) [IntKind.u8.wrap (f.proto)]) fI (am.get 1 rfl) (Rd.blk (am.get 2 rfl) (Go.Tw.encI_len _) rfl) (fun b_ off_ e_ => by cases e_; exact am.ne 2 1 rfl rfl (by decide)) (by intro b_ hb_; simp only [List.mem_cons, List.not_mem_nil, or_false] at hb_; rcases hb_ with rfl | rfl | rfl | rfl <;> exact b8 _) (by simp)) ?_
 rintro _ fJ ⟨rfl, eE, eF⟩
 have an := am.callM 1 rfl eE eF
 refine ⟨_, rfl, ?_⟩
 refine WLd rfl (QXn (eC _ _ ?_))
 refine WCs (fun gT eG => ?_)
 refine WCg (WLq 1 [(27, .func (.func 54) #[] #[.pointer (some ⟨ab, 0, none⟩)])] ?_)
 have eH : ∀ w_, Sem.run Try.prog (Instr.sliceAt 95 (.pointer (some ⟨gx8, 0, none⟩)) none none none) w_ = .ok (.slice (some ⟨gx8, 0, none⟩) 4 4) w_ := fun w_ => (by kernel_rfl)
 refine WL.sem (Instr.sliceAt 95 (.pointer (some ⟨gx8, 0, none⟩)) none none none) 28 (.slice (some ⟨gx8, 0, none⟩) 4 4) (by kernel_rfl) (eH _) ?_
 refine WLc rfl rfl rfl rfl rfl (by kernel_rfl) (mix_ct (some ⟨gx8, 0, none⟩) 4 [(IntKind.u8.wrap ((f.dst : Int).fdiv (2 ^ 24))), (IntKind.u8.wrap ((f.dst : Int).fdiv (2 ^ 16))), (IntKind.u8.wrap ((f.dst : Int).fdiv (2 ^ 8))), (IntKind.u8.wrap (f.dst))] ab (mixL (mixL (Go.bits .xor .u64 s 14695981039346656037) [IntKind.u8.wrap (f.proto)]) [(IntKind.u8.wrap ((f.src : Int).fdiv (2 ^ 24))), (IntKind.u8.wrap ((f.src : Int).fdiv (2 ^ 16))), (IntKind.u8.wrap ((f.src : Int).fdiv (2 ^ 8))), (IntKind.u8.wrap (f.src))]) fJ (an.get 1 rfl) (Rd.blk (an.get 3 rfl) (Go.Tw.encI_len _) rfl) (fun b_ off_ e_ => by cases e_; exact an.ne 3 1 rfl rfl (by decide)) (by intro b_ hb_; simp only [List.mem_cons, List.not_mem_nil, or_false] at hb_; rcases hb_ with rfl | rfl | rfl | rfl <;> exact b8 _) (by simp)) ?_
 rintro _ gU ⟨rfl, eI, eJ⟩
 have af := an.callM 1 rfl eI eJ
 refine ⟨_, rfl, ?_⟩
 refine WLd rfl (QXn (eG _ _ ?_))
 refine WCs (fun gV eK => ?_)
 refine WCg (WLq 2 [(31, .pointer (some ⟨g3, 2, none⟩)), (30, .func (.func 54) #[] #[.pointer (some ⟨ab, 0, none⟩)])] ?_)
 refine WLo 3 (.pointer (some ⟨g3, 2, none⟩)) (.int .i64 f.sp) 32 (run_ld (af.get 0 rfl) rfl) ?_
 refine WLq 1 [(33, .int .i64 ((f.sp : Int).fdiv (2 ^ 8)))] ?_
 refine WLt (show (.int .i64 ((f.sp : Int).fdiv (2 ^ 8)) : Value) = .int .i64 ((f.sp : Int).fdiv (2 ^ 8)) from rfl) ?_
 refine WLq 1 [(34, .int .u8 (IntKind.u8.wrap ((f.sp : Int).fdiv (2 ^ 8))))] ?_
 refine WLt (show (.int .u8 (IntKind.u8.wrap ((f.sp : Int).fdiv (2 ^ 8))) : Value) = .int .u8 (IntKind.u8.wrap ((f.sp : Int).fdiv (2 ^ 8))) from rfl) ?_
 refine WLq 1 [(35, .pointer (some ⟨g3, 2, none⟩))] ?_
 refine WLo 3 (.pointer (some ⟨g3, 2, none⟩)) (.int .i64 f.sp) 36 (run_ld (af.get 0 rfl) rfl) ?_
 refine WLq 1 [(37, .int .u8 (IntKind.u8.wrap (f.sp)))] ?_
 refine WLt (show (.int .u8 (IntKind.u8.wrap (f.sp)) : Value) = .int .u8 (IntKind.u8.wrap (f.sp)) from rfl) ?_
 refine WLq 1 [(38, .pointer (some ⟨g3, 4, none⟩))] ?_
 refine WLo 3 (.pointer (some ⟨g3, 4, none⟩)) (.int .i64 f.dp) 39 (run_ld (af.get 0 rfl) rfl) ?_
 refine WLq 1 [(40, .int .i64 ((f.dp : Int).fdiv (2 ^ 8)))] ?_
 refine WLt (show (.int .i64 ((f.dp : Int).fdiv (2 ^ 8)) : Value) = .int .i64 ((f.dp : Int).fdiv (2 ^ 8)) from rfl) ?_
 refine WLq 1 [(41, .int .u8 (IntKind.u8.wrap ((f.dp : Int).fdiv (2 ^ 8))))] ?_
 refine WLt (show (.int .u8 (IntKind.u8.wrap ((f.dp : Int).fdiv (2 ^ 8))) : Value) = .int .u8 (IntKind.u8.wrap ((f.dp : Int).fdiv (2 ^ 8))) from rfl) ?_
 refine WLq 1 [(42, .pointer (some ⟨g3, 4, none⟩))] ?_
 refine WLo 3 (.pointer (some ⟨g3, 4, none⟩)) (.int .i64 f.dp) 43 (run_ld (af.get 0 rfl) rfl) ?_
 refine WLq 1 [(44, .int .u8 (IntKind.u8.wrap (f.dp)))] ?_
 refine WLt (show (.int .u8 (IntKind.u8.wrap (f.dp)) : Value) = .int .u8 (IntKind.u8.wrap (f.dp)) from rfl) ?_
 refine WL.newM af (fun b => .slice (some ⟨b, 0, none⟩) 4 4) (.cells #[.int .u8 (IntKind.u8.wrap ((f.sp : Int).fdiv (2 ^ 8))), .int .u8 (IntKind.u8.wrap (f.sp)), .int .u8 (IntKind.u8.wrap ((f.dp : Int).fdiv (2 ^ 8))), .int .u8 (IntKind.u8.wrap (f.dp))] 5) 45 (fun _ => by kernel_rfl) (fun fK fL f1 f2 ao => ?_)
 refine WLc rfl rfl rfl rfl rfl (by kernel_rfl) (mix_ct (some ⟨fK, 0, none⟩) 4 [IntKind.u8.wrap ((f.sp : Int).fdiv (2 ^ 8)), IntKind.u8.wrap (f.sp), IntKind.u8.wrap ((f.dp : Int).fdiv (2 ^ 8)), IntKind.u8.wrap (f.dp)] ab (mixL (mixL (mixL (Go.bits .xor .u64 s 14695981039346656037) [IntKind.u8.wrap (f.proto)]) [(IntKind.u8.wrap ((f.src : Int).fdiv (2 ^ 24))), (IntKind.u8.wrap ((f.src : Int).fdiv (2 ^ 16))), (IntKind.u8.wrap ((f.src : Int).fdiv (2 ^ 8))), (IntKind.u8.wrap (f.src))]) [(IntKind.u8.wrap ((f.dst : Int).fdiv (2 ^ 24))), (IntKind.u8.wrap ((f.dst : Int).fdiv (2 ^ 16))), (IntKind.u8.wrap ((f.dst : Int).fdiv (2 ^ 8))), (IntKind.u8.wrap (f.dst))]) fL (ao.get 1 rfl) (Rd.blk (ao.get 5 rfl) (Go.Tw.encI_len _) rfl) (fun b_ off_ e_ => by cases e_; exact ao.ne 5 1 rfl rfl (by decide)) (by intro b_ hb_; simp only [List.mem_cons, List.not_mem_nil, or_false] at hb_; rcases hb_ with rfl | rfl | rfl | rfl <;> exact b8 _) (by simp)) ?_
 rintro _ gW ⟨rfl, eL, eM⟩
 have aT := ao.callM 1 rfl eL eM
 refine ⟨_, rfl, ?_⟩
 refine WLd rfl (QXn (eK _ _ ?_))
 refine WCs (fun gX eN => ?_)
 refine WCg ?_
 refine WLo 32 (.pointer (some ⟨ab, 0, none⟩)) (.int .u64 (hash0 s f)) 47 (run_ld (aT.get 1 rfl) rfl) ?_
 refine WLo 32 (.pointer (some ⟨ab, 0, none⟩)) (.int .u64 (hash0 s f)) 48 (run_ld (aT.get 1 rfl) rfl) ?_
 refine WLq 1 [(49, .int .u64 ((hash0 s f).fdiv (2 ^ 32)))] ?_
 refine WLt (show (.int .u64 ((hash0 s f).fdiv (2 ^ 32)) : Value) = .int .u64 ((hash0 s f).fdiv (2 ^ 32)) from rfl) ?_
 refine WLq 1 [(50, .int .u64 (Go.bits .xor .u64 (hash0 s f) ((hash0 s f).fdiv (2 ^ 32))))] ?_
 refine WLt (show (.int .u64 (Go.bits .xor .u64 (hash0 s f) ((hash0 s f).fdiv (2 ^ 32))) : Value) = .int .u64 (hash1 s f) from rfl) ?_
 refine WLs (c' := #[.int .u64 (hash1 s f)]) aT 1 32 ab 0 (.int .u64 (hash1 s f)) (by kernel_rfl) rfl (by kernel_rfl) (fun gY f3 bO => ?_)
 refine WLd rfl (QXn (eN _ _ ?_))
 refine WCs (fun gZ eO => ?_)
 refine WCg ?_
 refine WLo 32 (.pointer (some ⟨ab, 0, none⟩)) (.int .u64 (hash1 s f)) 51 (run_ld (bO.get 1 rfl) rfl) ?_
 refine WLq 1 [(52, .int .u64 (IntKind.u64.wrap ((hash1 s f) * 11400714819323198485)))] ?_
 refine WLt (show (.int .u64 (IntKind.u64.wrap ((hash1 s f) * 11400714819323198485)) : Value) = .int .u64 (hash2 s f) from rfl) ?_
 refine WLs (c' := #[.int .u64 (hash2 s f)]) bO 1 32 ab 0 (.int .u64 (hash2 s f)) (by kernel_rfl) rfl (by kernel_rfl) (fun g0 f4 aU => ?_)
 refine WLd rfl (QXn (eO _ _ ?_))
 refine WCs (fun g1 eP => ?_)
 refine WCg ?_
 refine WLo 32 (.pointer (some ⟨ab, 0, none⟩)) (.int .u64 (hash2 s f)) 53 (run_ld (aU.get 1 rfl) rfl) ?_
 refine WLo 32 (.pointer (some ⟨ab, 0, none⟩)) (.int .u64 (hash2 s f)) 54 (run_ld (aU.get 1 rfl) rfl) ?_
 refine WLq 1 [(55, .int .u64 ((hash2 s f).fdiv (2 ^ 29)))] ?_
 refine WLt (show (.int .u64 ((hash2 s f).fdiv (2 ^ 29)) : Value) = .int .u64 ((hash2 s f).fdiv (2 ^ 29)) from rfl) ?_
 refine WLq 1 [(56, .int .u64 (Go.bits .xor .u64 (hash2 s f) ((hash2 s f).fdiv (2 ^ 29))))] ?_
 refine WLt (show (.int .u64 (Go.bits .xor .u64 (hash2 s f) ((hash2 s f).fdiv (2 ^ 29))) : Value) = .int .u64 (hashU s f) from rfl) ?_
 refine WLq 1 [(4, .int .u64 (hashU s f))] (WLd rfl (QXn (eP _ _ ?_)))
 refine WC.ret ?_
 refine (hret _ _ _ rfl ?_).1
 exact ⟨rfl, aU.fr⟩

end Go.Proofs.Ytibkndhgeeoidaa
