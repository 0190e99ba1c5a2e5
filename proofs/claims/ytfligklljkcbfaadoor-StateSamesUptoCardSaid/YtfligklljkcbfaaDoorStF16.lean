/- Contracts of functions of the program, each proved by a walk through its code; conditions stand in the statements. -/
import Derived.Test.YtfligklljkcbfaaDoorStE16
namespace Go.Proofs.YtfligklljkcbfaaDoor
set_option linter.unusedSimpArgs false
set_option linter.unusedVariables false
set_option linter.unusedSectionVars false
open Go Go.RowKit Go.Tw
set_option linter.unusedVariables false
set_option maxRecDepth 20000
theorem insA (L2 vs cs Y : List Value) (p : Nat) (hp : p ≤ L2.length) : (((L2.take p ++ vs ++ L2.drop (p + vs.length)).take (p + vs.length) ++ cs ++ Y).take (p + vs.length + cs.length)) = L2.take p ++ vs ++ cs := by
  have h1 : (L2.take p ++ vs).length = p + vs.length := by simp; omega
  rw [List.take_left' h1]
  exact List.take_left' (by simp; omega)
theorem insB (L vs cs Y : List Value) (p : Nat) (hp : p + vs.length ≤ L.length) : (((L.take (p + vs.length) ++ cs ++ Y).take p ++ vs ++ (L.take (p + vs.length) ++ cs ++ Y).drop (p + vs.length)).take (p + vs.length + cs.length)) = L.take p ++ vs ++ cs := by
  have h1 : (L.take (p + vs.length)).length = p + vs.length := by simp; omega
  have h2 : (L.take (p + vs.length) ++ cs ++ Y).take p = L.take p := by
    rw [List.append_assoc, List.take_append_of_le_length (by omega), List.take_take, Nat.min_eq_left (by omega)]
  have h3 : (L.take (p + vs.length) ++ cs ++ Y).drop (p + vs.length) = cs ++ Y := by
    rw [List.append_assoc]; exact List.drop_left' h1
  rw [h2, h3, ← List.append_assoc]
  exact List.take_left' (by simp; omega)
theorem insA' (L2 vs cs : List Value) (i n : Nat) (hv : vs.length = 4) (hc : cs.length = (n - i) * 4) (hp : i * 4 ≤ L2.length) (hi : i < n) :
    (((L2.take (i * 4) ++ vs ++ L2.drop (i * 4 + vs.length)).take ((i + 1) * 4) ++ cs ++ (L2.take (i * 4) ++ vs ++ L2.drop (i * 4 + vs.length)).drop ((i + 1) * 4 + cs.length)).take ((n + 1) * 4)) = L2.take (i * 4) ++ vs ++ cs := by
  have h := insA L2 vs cs ((L2.take (i * 4) ++ vs ++ L2.drop (i * 4 + vs.length)).drop ((i + 1) * 4 + cs.length)) (i * 4) hp
  rw [show (i + 1) * 4 = i * 4 + vs.length from by omega] at h ⊢
  rw [show (n + 1) * 4 = i * 4 + vs.length + cs.length from by omega]
  exact h
theorem insB' (L vs cs : List Value) (i n : Nat) (hv : vs.length = 4) (hc : cs.length = (n - i) * 4) (hp : (i + 1) * 4 ≤ L.length) (hi : i < n) :
    (((L.take ((i + 1) * 4) ++ cs ++ L.drop ((i + 1) * 4 + cs.length)).take (i * 4) ++ vs ++ (L.take ((i + 1) * 4) ++ cs ++ L.drop ((i + 1) * 4 + cs.length)).drop (i * 4 + vs.length)).take ((n + 1) * 4)) = L.take (i * 4) ++ vs ++ cs := by
  have h := insB L vs cs (L.drop ((i + 1) * 4 + cs.length)) (i * 4) (by omega)
  rw [show (i + 1) * 4 = i * 4 + vs.length from by omega] at h ⊢
  rw [show (n + 1) * 4 = i * 4 + vs.length + cs.length from by omega]
  exact h
theorem all_part {p : Value → Bool} {L : List Value} {N o k : Nat} (h : (L.take N).all p = true) (hk : o + k ≤ N) : ((L.drop o).take k).all p = true := by
  rw [List.all_eq_true] at h ⊢
  intro x hx
  refine h x ?_
  have : (L.drop o).take k = ((L.take N).drop o).take k := by rw [List.drop_take, List.take_take, Nat.min_eq_left (by omega)]
  rw [this] at hx
  exact List.mem_of_mem_drop (List.mem_of_mem_take hx)
theorem Insert_lt (g b c n i : Nat) (L : List Value) (x : Lease) (w : World) (hg : w.heap[g]? = some (.cells L.toArray 43 (0, 0))) (hb : w.heap[b]? = some (.cells #[.int .u32 x.vip, .int .i64 x.first, .int .u32 x.dip, .int .i64 x.exp] 43 (0, 0))) (hne : b ≠ g) (hi : i < n) (hnc : n ≤ c) (hL : L.length = c * 4) (hcm : c ≤ maxLen) (h1 : (L.take (n * 4)).all Value.oneCell' = true) (hlim : n < 2 ^ 40) : Calls Tryd.prog 100 #[.slice (some ⟨g, 0, none⟩) n c, .int .i64 (i : Int), .slice (some ⟨b, 0, none⟩) 1 1] w fun e w' => ∃ v, e = .returned v ∧ Fr w w' [g] ∧ w'.ownsRow 0 43 4 v (n + 1) (L.take (i * 4) ++ [.int .u32 x.vip, .int .i64 x.first, .int .u32 x.dip, .int .i64 x.exp] ++ (L.drop (i * 4)).take ((n - i) * 4)) ∧ (∀ y ∈ blk v, y = g ∨ w.heap.size ≤ y) := by
 refine enterD (n := 95) Tryd.func100 rfl rfl (Nat.le_of_ble_eq_true rfl) ?_
 intro Q0 hN hret hret'
 have hC := Cx.startM hg
 refine WCs (fun K1 hK2 => ?_)
 refine WCg (WLr 1 [(6, .slice none 0 0)] (fun _ => by kernel_rfl) (WLd rfl (QXn (hK2 _ _ ?_))))
 refine WCs (fun K3 hK4 => ?_)
 refine WCg (WLr 2 [(11, .int .i64 (i : Int)), (10, .slice (some ⟨g, 0, none⟩) n c)] (fun _ => by kernel_rfl) ?_)
 have hb5 : n ≤ c := by omega
 refine WL.slc 29 43 4 (some ⟨g, 0, none⟩) (some ⟨g, i * 4, none⟩) n c i n (n - i) (c - i) (some (.int .i64 (i : Int))) none 12 (by kernel_rfl) (by kernel_rfl) (bnd.yes (by omega)) bnd.no (by omega) hb5 (slcAt_blk (by omega) (by simp)) (by first | rfl | omega) (by first | rfl | omega) ?_
 refine WLd rfl (QXn (hK4 _ _ ?_))
 refine WCs (fun K6 hK7 => ?_)
 refine WCg (WLr 3 [(7, .int .i64 1), (14, .int .i64 1), (13, .slice (some ⟨b, 0, none⟩) 1 1)] (fun _ => by kernel_rfl) (WLd rfl (QXn (hK7 _ _ ?_))))
 refine WCs (fun K8 hK9 => ?_)
 refine WCs (fun K10 hK11 => ?_)
 refine WCg (WLr 2 [(16, .bool false), (15, .int .i64 1)] (fun _ => by kernel_rfl) (WLd rfl (QXn (hK11 _ _ ?_))))
 refine WCf rfl (WC.skip (QXn (hK9 _ _ ?_)))
 refine WCs (fun K12 hK13 => ?_)
 refine WCg (WLr 3 [(8, .int .i64 (n : Int)), (19, .int .i64 (n : Int)), (18, .slice (some ⟨g, 0, none⟩) n c)] (fun _ => by kernel_rfl) (WLd rfl (QXn (hK13 _ _ ?_))))
 refine WCs (fun K14 hK15 => ?_)
 refine WCs (fun K16 hK17 => ?_)
 refine WCg (WLr 3 [(22, .bool ((i : Int) == (n : Int))), (21, .int .i64 (n : Int)), (20, .int .i64 (i : Int))] (fun _ => by kernel_rfl) (WLd rfl (QXn (hK17 _ _ ?_))))
 refine WC.know 22 (.bool ((i : Int) == (n : Int))) (.bool false) rfl (congrArg Value.bool (by simp; omega)) ?_
 refine WCf rfl (WC.skip (QXn (hK15 _ _ ?_)))
 refine WCs (fun K18 hK19 => ?_)
 refine WCs (fun K20 hK21 => ?_)
 refine WCg (WLr 3 [(28, .int .i64 (IntKind.i64.wrap ((n : Int) + 1))), (27, .int .i64 1), (26, .int .i64 (n : Int))] (fun _ => by kernel_rfl) ?_)
 refine WLt (show (.int .i64 (IntKind.i64.wrap ((n : Int) + 1)) : Value) = .int .i64 ((n : Int) + 1) from by rw [wrap_in_i64 ((n : Int) + 1) (by omega) (by omega)]) ?_
 refine WLr 3 [(31, .bool (decide (((n : Int) + 1) > (c : Int)))), (30, .int .i64 (c : Int)), (29, .slice (some ⟨g, 0, none⟩) n c)] (fun _ => by kernel_rfl) (WLd rfl (QXn (hK21 _ _ ?_)))
 refine WCa 31 (decide (((n : Int) + 1) > (c : Int))) rfl (fun t22b => ?_) (fun t22b => ?_)
 ·
  have t22 : (c : Int) < ((n : Int) + 1) := by have q_ := of_decide_eq_true t22b; omega
  refine WCt rfl ?_
  refine WCs (fun K23 hK24 => ?_)
  refine WCg (WLr 2 [(33, .int .i64 (i : Int)), (32, .slice (some ⟨g, 0, none⟩) n c)] (fun _ => by kernel_rfl) ?_)
  have hb25 : i ≤ c := by omega
  refine WL.slc 29 43 4 (some ⟨g, 0, none⟩) (some ⟨g, 0, none⟩) n c 0 i i c none (some (.int .i64 (i : Int))) 34 (by kernel_rfl) (by kernel_rfl) bnd.no (bnd.yes (by omega)) (by omega) hb25 (slcAt_pre _ _ _) (by first | rfl | omega) (by first | rfl | omega) ?_
  refine WLr 3 [(37, .int .i64 (IntKind.i64.wrap ((n : Int) + 1))), (36, .int .i64 1), (35, .int .i64 (n : Int))] (fun _ => by kernel_rfl) ?_
  refine WLt (show (.int .i64 (IntKind.i64.wrap ((n : Int) + 1)) : Value) = .int .i64 ((n : Int) + 1) from by rw [wrap_in_i64 ((n : Int) + 1) (by omega) (by omega)]) ?_
  refine WLr 2 [(39, .int .i64 (IntKind.i64.wrap (((n : Int) + 1) - (i : Int)))), (38, .int .i64 (i : Int))] (fun _ => by kernel_rfl) ?_
  refine WLt (show (.int .i64 (IntKind.i64.wrap (((n : Int) + 1) - (i : Int))) : Value) = .int .i64 (((n : Int) + 1) - (i : Int)) from by rw [wrap_in_i64 (((n : Int) + 1) - (i : Int)) (by omega) (by omega)]) ?_
  obtain ⟨g26, c27, w28, hr29, hge30, hF31, hn32, hcm33, hC34⟩ := appZ_run Tryd.prog hC 29 3 29 43 4 32 i c (n + 1 - i) (z := (.agg #[.int .u32 0, .int .i64 0, .int .u32 0, .int .i64 0])) (xs := (L.drop 0).take (i * 4)) rfl rfl (by kernel_rfl) (by decide) (by simp; omega) (srcOk.part (hC.get 0 rfl)) (by omega) (by omega) (by omega) (((n : Int) + 1) - (i : Int)) (by omega)
  have hL2l : ((L.drop 0).take (i * 4) ++ (Builtin.zeroCells (.agg #[.int .u32 0, .int .i64 0, .int .u32 0, .int .i64 0] : Value).cells (n + 1 - i)).toList ++ (Builtin.zeroCells (.agg #[.int .u32 0, .int .i64 0, .int .u32 0, .int .i64 0] : Value).cells (c27 - (i + (n + 1 - i)))).toList).length = c27 * 4 := by simp [size_zeroCells, Value.cells]; omega
  have hL2t : ((L.drop 0).take (i * 4) ++ (Builtin.zeroCells (.agg #[.int .u32 0, .int .i64 0, .int .u32 0, .int .i64 0] : Value).cells (n + 1 - i)).toList ++ (Builtin.zeroCells (.agg #[.int .u32 0, .int .i64 0, .int .u32 0, .int .i64 0] : Value).cells (c27 - (i + (n + 1 - i)))).toList).take (i * 4) = L.take (i * 4) := by rw [List.append_assoc, List.take_append_of_le_length (by simp; omega)]; simp [List.take_take]
  generalize hL2 : ((L.drop 0).take (i * 4) ++ (Builtin.zeroCells (.agg #[.int .u32 0, .int .i64 0, .int .u32 0, .int .i64 0] : Value).cells (n + 1 - i)).toList ++ (Builtin.zeroCells (.agg #[.int .u32 0, .int .i64 0, .int .u32 0, .int .i64 0] : Value).cells (c27 - (i + (n + 1 - i)))).toList) = L2 at hC34 hL2l hL2t
  refine WL.sem (Builtin.append_ #[29, 3] 29 #[.slice (some ⟨g, 0, none⟩) i c, .int .i64 (((n : Int) + 1) - (i : Int))]) 40 (.slice (some ⟨g26, 0, none⟩) (i + (n + 1 - i)) c27) (by kernel_rfl) hr29 ?_
  refine WLr 1 [(9, .slice (some ⟨g26, 0, none⟩) (i + (n + 1 - i)) c27)] (fun _ => by kernel_rfl) (WLd rfl (QXn (hK24 _ _ ?_)))
  refine WCs (fun K35 hK36 => ?_)
  refine WCg (WLr 2 [(42, .int .i64 (i : Int)), (41, .slice (some ⟨g26, 0, none⟩) (i + (n + 1 - i)) c27)] (fun _ => by kernel_rfl) ?_)
  have hb37 : i + (n + 1 - i) ≤ c27 := by omega
  refine WL.slc 29 43 4 (some ⟨g26, 0, none⟩) (some ⟨g26, i * 4, none⟩) (i + (n + 1 - i)) c27 i (i + (n + 1 - i)) ((i + (n + 1 - i)) - i) (c27 - i) (some (.int .i64 (i : Int))) none 43 (by kernel_rfl) (by kernel_rfl) (bnd.yes (by omega)) bnd.no (by omega) hb37 (slcAt_blk (by omega) (by simp)) (by first | rfl | omega) (by first | rfl | omega) ?_
  refine WLr 1 [(44, .slice (some ⟨b, 0, none⟩) 1 1)] (fun _ => by kernel_rfl) ?_
  obtain ⟨w38, hr39, hF40, hC41⟩ := copy_run Tryd.prog hC34 1 29 29 3 43 4 g26 (i * 4) ((i + (n + 1 - i)) - i) (c27 - i) 1 1 1 (some ⟨b, 0, none⟩) [.int .u32 x.vip, .int .i64 x.first, .int .u32 x.dip, .int .i64 x.exp] rfl rfl (by show min _ _ = _; omega) rfl (srcOk.blk 1 (hC34.fr.has hb (by simpa using hne))) (by simp; omega) rfl
  refine WL.sem (Builtin.copy_ #[29, 29] 3 #[.slice (some ⟨g26, i * 4, none⟩) ((i + (n + 1 - i)) - i) (c27 - i), .slice (some ⟨b, 0, none⟩) 1 1]) 45 (.int .i64 1) (by kernel_rfl) hr39 ?_
  refine WLd rfl (QXn (hK36 _ _ ?_))
  refine WCs (fun K42 hK43 => ?_)
  refine WC.drawC hC41 [g26] (by kernel_rfl) (fun w44 hF45 hC46 hS47 => ?_)
  refine WDp (NPt (NPt hN)) 0 46 (.slice (some ⟨g26, 0, none⟩) (i + (n + 1 - i)) c27) (by kernel_rfl) (fun _ => by kernel_rfl) hS47 ?_
  refine WDp (NPt (NPt hN)) 1 47 (.int .i64 (i : Int)) (by kernel_rfl) (fun _ => by kernel_rfl) hS47 ?_
  refine WDp (NPt (NPt hN)) 2 48 (.int .i64 1) (by kernel_rfl) (fun _ => by kernel_rfl) hS47 ?_
  refine WDp (NPt (NPt hN)) 3 49 (.int .i64 (IntKind.i64.wrap ((i : Int) + 1))) (by kernel_rfl) (fun _ => by kernel_rfl) hS47 ?_
  refine WD.recast (show (.int .i64 (IntKind.i64.wrap ((i : Int) + 1)) : Value) = .int .i64 ((i : Int) + 1) from by rw [wrap_in_i64 ((i : Int) + 1) (by omega) (by omega)]) ?_
  have hb48 : i + (n + 1 - i) ≤ c27 := by omega
  refine WD.slc (NPt (NPt hN)) 4 29 43 4 (some ⟨g26, 0, none⟩) (some ⟨g26, (i + 1) * 4, none⟩) (i + (n + 1 - i)) c27 (i + 1) (i + (n + 1 - i)) ((i + (n + 1 - i)) - (i + 1)) (c27 - (i + 1)) (some (.int .i64 ((i : Int) + 1))) none 50 (by kernel_rfl) (by kernel_rfl) (by kernel_rfl) (bnd.yes (by omega)) bnd.no (by omega) hb48 (slcAt_blk (by omega) (by simp)) (by first | rfl | omega) (by first | rfl | omega) hS47 ?_
  refine WDp (NPt (NPt hN)) 5 51 (.slice (some ⟨g, 0, none⟩) n c) (by kernel_rfl) (fun _ => by kernel_rfl) hS47 ?_
  refine WDp (NPt (NPt hN)) 6 52 (.int .i64 (i : Int)) (by kernel_rfl) (fun _ => by kernel_rfl) hS47 ?_
  have hb49 : n ≤ c := by omega
  refine WD.slc (NPt (NPt hN)) 7 29 43 4 (some ⟨g, 0, none⟩) (some ⟨g, i * 4, none⟩) n c i n (n - i) (c - i) (some (.int .i64 (i : Int))) none 53 (by kernel_rfl) (by kernel_rfl) (by kernel_rfl) (bnd.yes (by omega)) bnd.no (by omega) hb49 (slcAt_blk (by omega) (by simp)) (by first | rfl | omega) (by first | rfl | omega) hS47 ?_
  obtain ⟨w50, hr51, hF52, hC53⟩ := copy_run Tryd.prog hC46 1 29 29 3 43 4 g26 ((i + 1) * 4) ((i + (n + 1 - i)) - (i + 1)) (c27 - (i + 1)) (n - i) (c - i) (n - i) (some ⟨g, i * 4, none⟩) ((L.drop (i * 4)).take ((n - i) * 4)) rfl rfl (by show min _ _ = _; omega) (by simp; omega) (srcOk.part (hC46.get 0 rfl)) (by simp; omega) (all_part h1 (by omega))
  have hS54 := hS47.trans hF52 (by simp)
  refine WD.sem 8 (Builtin.copy_ #[29, 29] 3 #[.slice (some ⟨g26, (i + 1) * 4, none⟩) ((i + (n + 1 - i)) - (i + 1)) (c27 - (i + 1)), .slice (some ⟨g, i * 4, none⟩) (n - i) (c - i)]) 54 (.int .i64 (((n - i) : Nat) : Int)) (by kernel_rfl) (by kernel_rfl) hr51 hS54 ?_
  refine WD.done (by kernel_rfl) ?_
  refine QXn (hK43 _ _ ?_)
  refine WCs (fun K55 hK56 => ?_)
  refine WCg (WLr 2 [(6, .slice (some ⟨g26, 0, none⟩) (i + (n + 1 - i)) c27), (55, .slice (some ⟨g26, 0, none⟩) (i + (n + 1 - i)) c27)] (fun _ => by kernel_rfl) (WLd rfl (QXn (hK56 _ _ ?_))))
  refine WC.ret ?_
  refine QXr ?_
  refine (hret _ _ _ rfl ?_).1
  clear hN hret hret' hK56 hK43 hK36 hK24 hK21 hK19 hK17 hK15 hK13 hK11 hK9 hK7 hK4 hK2
  refine ⟨_, rfl, hC53.fr, ?_, by intro y hy; simp [shut, blk, Value.ownBlock] at hy; omega⟩
  rw [show i + (n + 1 - i) = n + 1 from by omega]
  exact own_of_blk (Nat.zero_le _) (hC53.get 1 rfl) (by omega) hcm33 (by simp; omega) ((insA' L2 [.int .u32 x.vip, .int .i64 x.first, .int .u32 x.dip, .int .i64 x.exp] ((L.drop (i * 4)).take ((n - i) * 4)) i n rfl (by simp; omega) (by omega) hi).trans (by rw [hL2t]))
 ·
  have t22 : ((n : Int) + 1) ≤ (c : Int) := by have q_ := of_decide_eq_false t22b; omega
  refine WCf rfl (WC.skip (QXn (hK19 _ _ ?_)))
  refine WCs (fun K57 hK58 => ?_)
  refine WCg (WLr 4 [(59, .int .i64 (IntKind.i64.wrap ((n : Int) + 1))), (58, .int .i64 1), (57, .int .i64 (n : Int)), (56, .slice (some ⟨g, 0, none⟩) n c)] (fun _ => by kernel_rfl) ?_)
  refine WLt (show (.int .i64 (IntKind.i64.wrap ((n : Int) + 1)) : Value) = .int .i64 ((n : Int) + 1) from by rw [wrap_in_i64 ((n : Int) + 1) (by omega) (by omega)]) ?_
  have hb59 : n + 1 ≤ c := by omega
  refine WL.slc 29 43 4 (some ⟨g, 0, none⟩) (some ⟨g, 0, none⟩) n c 0 (n + 1) (n + 1) c none (some (.int .i64 ((n : Int) + 1))) 60 (by kernel_rfl) (by kernel_rfl) bnd.no (bnd.yes (by omega)) (by omega) hb59 (slcAt_pre _ _ _) (by first | rfl | omega) (by first | rfl | omega) ?_
  refine WLr 1 [(0, .slice (some ⟨g, 0, none⟩) (n + 1) c)] (fun _ => by kernel_rfl) (WLd rfl (QXn (hK58 _ _ ?_)))
  refine WCs (fun K60 hK61 => ?_)
  refine WCs (fun K62 hK63 => ?_)
  refine WCg (WLr 5 [(65, .int .i64 (IntKind.i64.wrap ((i : Int) + 1))), (64, .int .i64 1), (63, .int .i64 (i : Int)), (62, .slice (some ⟨g, 0, none⟩) (n + 1) c), (61, .slice (some ⟨b, 0, none⟩) 1 1)] (fun _ => by kernel_rfl) ?_)
  refine WLt (show (.int .i64 (IntKind.i64.wrap ((i : Int) + 1)) : Value) = .int .i64 ((i : Int) + 1) from by rw [wrap_in_i64 ((i : Int) + 1) (by omega) (by omega)]) ?_
  have hb64 : n + 1 ≤ c := by omega
  refine WL.slc 29 43 4 (some ⟨g, 0, none⟩) (some ⟨g, (i + 1) * 4, none⟩) (n + 1) c (i + 1) (n + 1) ((n + 1) - (i + 1)) (c - (i + 1)) (some (.int .i64 ((i : Int) + 1))) none 66 (by kernel_rfl) (by kernel_rfl) (bnd.yes (by omega)) bnd.no (by omega) hb64 (slcAt_blk (by omega) (by simp)) (by first | rfl | omega) (by first | rfl | omega) ?_
  refine WL.ext 106 #[.slice (some ⟨b, 0, none⟩) 1 1, .slice (some ⟨g, (i + 1) * 4, none⟩) ((n + 1) - (i + 1)) (c - (i + 1))] 67 (.bool false) (by kernel_rfl) (run_overlaps (fn := Tryd.f106) (tS := 29) (tR := 4) (e := 43) (sz := 4) rfl (by kernel_rfl) (by kernel_rfl) (by kernel_rfl) (by kernel_rfl) (by kernel_rfl) (hC.fr.has hb (by simpa using hne)) (hC.get 0 rfl) hne (by rw [List.size_toArray]; omega)) ?_
  refine WLr 1 [(68, .bool true)] (fun _ => by kernel_rfl) (WLd rfl (QXn (hK63 _ _ ?_)))
  refine WCt rfl ?_
  refine WCs (fun K65 hK66 => ?_)
  refine WC.drawC hC [g] (by kernel_rfl) (fun w67 hF68 hC69 hS70 => ?_)
  refine WDp (NPt (NPt hN)) 0 69 (.slice (some ⟨g, 0, none⟩) (n + 1) c) (by kernel_rfl) (fun _ => by kernel_rfl) hS70 ?_
  refine WDp (NPt (NPt hN)) 1 70 (.int .i64 (i : Int)) (by kernel_rfl) (fun _ => by kernel_rfl) hS70 ?_
  refine WDp (NPt (NPt hN)) 2 71 (.int .i64 1) (by kernel_rfl) (fun _ => by kernel_rfl) hS70 ?_
  refine WDp (NPt (NPt hN)) 3 72 (.int .i64 (IntKind.i64.wrap ((i : Int) + 1))) (by kernel_rfl) (fun _ => by kernel_rfl) hS70 ?_
  refine WD.recast (show (.int .i64 (IntKind.i64.wrap ((i : Int) + 1)) : Value) = .int .i64 ((i : Int) + 1) from by rw [wrap_in_i64 ((i : Int) + 1) (by omega) (by omega)]) ?_
  have hb71 : n + 1 ≤ c := by omega
  refine WD.slc (NPt (NPt hN)) 4 29 43 4 (some ⟨g, 0, none⟩) (some ⟨g, (i + 1) * 4, none⟩) (n + 1) c (i + 1) (n + 1) ((n + 1) - (i + 1)) (c - (i + 1)) (some (.int .i64 ((i : Int) + 1))) none 73 (by kernel_rfl) (by kernel_rfl) (by kernel_rfl) (bnd.yes (by omega)) bnd.no (by omega) hb71 (slcAt_blk (by omega) (by simp)) (by first | rfl | omega) (by first | rfl | omega) hS70 ?_
  refine WDp (NPt (NPt hN)) 5 74 (.slice (some ⟨g, 0, none⟩) (n + 1) c) (by kernel_rfl) (fun _ => by kernel_rfl) hS70 ?_
  refine WDp (NPt (NPt hN)) 6 75 (.int .i64 (i : Int)) (by kernel_rfl) (fun _ => by kernel_rfl) hS70 ?_
  have hb72 : n + 1 ≤ c := by omega
  refine WD.slc (NPt (NPt hN)) 7 29 43 4 (some ⟨g, 0, none⟩) (some ⟨g, i * 4, none⟩) (n + 1) c i (n + 1) ((n + 1) - i) (c - i) (some (.int .i64 (i : Int))) none 76 (by kernel_rfl) (by kernel_rfl) (by kernel_rfl) (bnd.yes (by omega)) bnd.no (by omega) hb72 (slcAt_blk (by omega) (by simp)) (by first | rfl | omega) (by first | rfl | omega) hS70 ?_
  obtain ⟨w73, hr74, hF75, hC76⟩ := copy_run Tryd.prog hC69 0 29 29 3 43 4 g ((i + 1) * 4) ((n + 1) - (i + 1)) (c - (i + 1)) ((n + 1) - i) (c - i) (n - i) (some ⟨g, i * 4, none⟩) ((L.drop (i * 4)).take ((n - i) * 4)) rfl rfl (by show min _ _ = _; omega) (by simp; omega) (srcOk.part (hC69.get 0 rfl)) (by simp; omega) (all_part h1 (by omega))
  have hS77 := hS70.trans hF75 (by simp)
  refine WD.sem 8 (Builtin.copy_ #[29, 29] 3 #[.slice (some ⟨g, (i + 1) * 4, none⟩) ((n + 1) - (i + 1)) (c - (i + 1)), .slice (some ⟨g, i * 4, none⟩) ((n + 1) - i) (c - i)]) 77 (.int .i64 (((n - i) : Nat) : Int)) (by kernel_rfl) (by kernel_rfl) hr74 hS77 ?_
  refine WD.done (by kernel_rfl) ?_
  refine QXn (hK66 _ _ ?_)
  refine WCs (fun K78 hK79 => ?_)
  refine WCg (WLr 2 [(79, .int .i64 (i : Int)), (78, .slice (some ⟨g, 0, none⟩) (n + 1) c)] (fun _ => by kernel_rfl) ?_)
  have hb80 : n + 1 ≤ c := by omega
  refine WL.slc 29 43 4 (some ⟨g, 0, none⟩) (some ⟨g, i * 4, none⟩) (n + 1) c i (n + 1) ((n + 1) - i) (c - i) (some (.int .i64 (i : Int))) none 80 (by kernel_rfl) (by kernel_rfl) (bnd.yes (by omega)) bnd.no (by omega) hb80 (slcAt_blk (by omega) (by simp)) (by first | rfl | omega) (by first | rfl | omega) ?_
  refine WLr 1 [(81, .slice (some ⟨b, 0, none⟩) 1 1)] (fun _ => by kernel_rfl) ?_
  obtain ⟨w81, hr82, hF83, hC84⟩ := copy_run Tryd.prog hC76 0 29 29 3 43 4 g (i * 4) ((n + 1) - i) (c - i) 1 1 1 (some ⟨b, 0, none⟩) [.int .u32 x.vip, .int .i64 x.first, .int .u32 x.dip, .int .i64 x.exp] rfl rfl (by show min _ _ = _; omega) rfl (srcOk.blk 1 (hC76.fr.has hb (by simpa using hne))) (by simp; omega) rfl
  refine WL.sem (Builtin.copy_ #[29, 29] 3 #[.slice (some ⟨g, i * 4, none⟩) ((n + 1) - i) (c - i), .slice (some ⟨b, 0, none⟩) 1 1]) 82 (.int .i64 1) (by kernel_rfl) hr82 ?_
  refine WLd rfl (QXn (hK79 _ _ ?_))
  refine WCs (fun K85 hK86 => ?_)
  refine WCg (WLr 2 [(6, .slice (some ⟨g, 0, none⟩) (n + 1) c), (83, .slice (some ⟨g, 0, none⟩) (n + 1) c)] (fun _ => by kernel_rfl) (WLd rfl (QXn (hK86 _ _ ?_))))
  refine WC.ret ?_
  refine QXr ?_
  refine (hret _ _ _ rfl ?_).1
  exact ⟨_, rfl, hC84.fr, own_of_blk (Nat.zero_le _) (hC84.get 0 rfl) (by omega) hcm (by simp; omega) (insB' L [.int .u32 x.vip, .int .i64 x.first, .int .u32 x.dip, .int .i64 x.exp] ((L.drop (i * 4)).take ((n - i) * 4)) i n rfl (by simp; omega) (by omega) hi), by intro y hy; simp [shut, blk, Value.ownBlock] at hy; omega⟩

end Go.Proofs.YtfligklljkcbfaaDoor
