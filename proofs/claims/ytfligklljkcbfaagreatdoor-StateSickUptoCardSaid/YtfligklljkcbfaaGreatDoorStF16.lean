/- Contracts of functions of the program, each proved by a walk through its code; conditions stand in the statements. -/
import Derived.Test.YtfligklljkcbfaaGreatDoorStE16
namespace Go.Proofs.YtfligklljkcbfaaGreatDoor
set_option linter.unusedSimpArgs false
set_option linter.unusedVariables false
set_option linter.unusedSectionVars false
open Go Go.RowKit Go.Tw
set_option linter.unusedVariables false
set_option maxRecDepth 20000
theorem insA (L2 vs cs Y : List Value) (p : Nat) (hp : p ≤ L2.length) : (((L2.take p ++ vs ++ L2.drop (p + vs.length)).take (p + vs.length) ++ cs ++ Y).take (p + vs.length + cs.length)) = L2.take p ++ vs ++ cs := by
  have h1 : (L2.take p ++ vs).length = p + vs.length := by simp; omega
  rw [List.take_left' h1]
  exact List.take_left' (by simp; omega)
theorem insB (L vs cs Y : List Value) (p : Nat) (hp : p + vs.length ≤ L.length) : (((L.take (p + vs.length) ++ cs ++ Y).take p ++ vs ++ (L.take (p + vs.length) ++ cs ++ Y).drop (p + vs.length)).take (p + vs.length + cs.length)) = L.take p ++ vs ++ cs := by
  have h1 : (L.take (p + vs.length)).length = p + vs.length := by simp; omega
  have h2 : (L.take (p + vs.length) ++ cs ++ Y).take p = L.take p := by
    rw [List.append_assoc, List.take_append_of_le_length (by omega), List.take_take, Nat.min_eq_left (by omega)]
  have h3 : (L.take (p + vs.length) ++ cs ++ Y).drop (p + vs.length) = cs ++ Y := by
    rw [List.append_assoc]; exact List.drop_left' h1
  rw [h2, h3, ← List.append_assoc]
  exact List.take_left' (by simp; omega)
theorem insA' (L2 vs cs : List Value) (i n : Nat) (hv : vs.length = 4) (hc : cs.length = (n - i) * 4) (hp : i * 4 ≤ L2.length) (hi : i < n) :
    (((L2.take (i * 4) ++ vs ++ L2.drop (i * 4 + vs.length)).take ((i + 1) * 4) ++ cs ++ (L2.take (i * 4) ++ vs ++ L2.drop (i * 4 + vs.length)).drop ((i + 1) * 4 + cs.length)).take ((n + 1) * 4)) = L2.take (i * 4) ++ vs ++ cs := by
  have h := insA L2 vs cs ((L2.take (i * 4) ++ vs ++ L2.drop (i * 4 + vs.length)).drop ((i + 1) * 4 + cs.length)) (i * 4) hp
  rw [show (i + 1) * 4 = i * 4 + vs.length from by omega] at h ⊢
  rw [show (n + 1) * 4 = i * 4 + vs.length + cs.length from by omega]
  exact h
theorem insB' (L vs cs : List Value) (i n : Nat) (hv : vs.length = 4) (hc : cs.length = (n - i) * 4) (hp : (i + 1) * 4 ≤ L.length) (hi : i < n) :
    (((L.take ((i + 1) * 4) ++ cs ++ L.drop ((i + 1) * 4 + cs.length)).take (i * 4) ++ vs ++ (L.take ((i + 1) * 4) ++ cs ++ L.drop ((i + 1) * 4 + cs.length)).drop (i * 4 + vs.length)).take ((n + 1) * 4)) = L.take (i * 4) ++ vs ++ cs := by
  have h := insB L vs cs (L.drop ((i + 1) * 4 + cs.length)) (i * 4) (by omega)
  rw [show (i + 1) * 4 = i * 4 + vs.length from by omega] at h ⊢
  rw [show (n + 1) * 4 = i * 4 + vs.length + cs.length from by omega]
  exact h
theorem all_part {p : Value → Bool} {L : List Value} {N o k : Nat} (h : (L.take N).all p = true) (hk : o + k ≤ N) : ((L.drop o).take k).all p = true := by
  rw [List.all_eq_true] at h ⊢
  intro x hx
  refine h x ?_
  have : (L.drop o).take k = ((L.take N).drop o).take k := by rw [List.drop_take, List.take_take, Nat.min_eq_left (by omega)]
  rw [this] at hx
  exact List.mem_of_mem_drop (List.mem_of_mem_take hx)
theorem Insert_lt (g b c n i : Nat) (L : List Value) (x : Lease) (w : World) (hg : w.heap[g]? = some (.cells L.toArray 50 (0, 0))) (hb : w.heap[b]? = some (.cells #[.int .u32 x.vip, .int .i64 x.first, .int .u32 x.dip, .int .i64 x.exp] 50 (0, 0))) (hne : b ≠ g) (hi : i < n) (hnc : n ≤ c) (hL : L.length = c * 4) (hcm : c ≤ maxLen) (h1 : (L.take (n * 4)).all Value.oneCell' = true) (hlim : n < 2 ^ 40) : Calls Tryz.prog 152 #[.slice (some ⟨g, 0, none⟩) n c, .int .i64 (i : Int), .slice (some ⟨b, 0, none⟩) 1 1] w fun e w' => ∃ v, e = .returned v ∧ Fr w w' [g] ∧ w'.ownsRow 0 50 4 v (n + 1) (L.take (i * 4) ++ [.int .u32 x.vip, .int .i64 x.first, .int .u32 x.dip, .int .i64 x.exp] ++ (L.drop (i * 4)).take ((n - i) * 4)) ∧ (∀ y ∈ blk v, y = g ∨ w.heap.size ≤ y) := by
 refine enterD (n := 95) Tryz.func152 rfl rfl (Nat.le_of_ble_eq_true rfl) ?_
 intro Q0 hN hret hret'
 have hC := Cx.startM hg
 refine WCs (fun K1 hK2 => ?_)
 refine WCg (WLq 1 [(6, .slice none 0 0)] (WLd rfl (QXn (hK2 _ _ ?_))))
 refine WCs (fun K3 hK4 => ?_)
 refine WCg (WLq 2 [(11, .int .i64 (i : Int)), (10, .slice (some ⟨g, 0, none⟩) n c)] ?_)
 have hb5 : n ≤ c := by omega
 refine WL.slc 29 50 4 (some ⟨g, 0, none⟩) (some ⟨g, i * 4, none⟩) n c i n (n - i) (c - i) (some (.int .i64 (i : Int))) none 12 (by kernel_rfl) (by kernel_rfl) (bnd.yes (by omega)) bnd.no (by omega) hb5 (slcAt_blk (by omega) (by simp)) (by first | rfl | omega) (by first | rfl | omega) ?_
 refine WLd rfl (QXn (hK4 _ _ ?_))
 refine WCs (fun K6 hK7 => ?_)
 refine WCg (WLq 3 [(7, .int .i64 1), (14, .int .i64 1), (13, .slice (some ⟨b, 0, none⟩) 1 1)] (WLd rfl (QXn (hK7 _ _ ?_))))
 refine WCs (fun K8 hK9 => ?_)
 refine WCs (fun a5 ag => ?_)
 refine WCg (WLq 2 [(16, .bool false), (15, .int .i64 1)] (WLd rfl (QXn (ag _ _ ?_))))
 refine WCf rfl (WC.skip (QXn (hK9 _ _ ?_)))
 refine WCs (fun a6 ah => ?_)
 refine WCg (WLq 3 [(8, .int .i64 (n : Int)), (19, .int .i64 (n : Int)), (18, .slice (some ⟨g, 0, none⟩) n c)] (WLd rfl (QXn (ah _ _ ?_))))
 refine WCs (fun a7 ai => ?_)
 refine WCs (fun a8 aj => ?_)
 refine WCg (WLq 3 [(22, .bool ((i : Int) == (n : Int))), (21, .int .i64 (n : Int)), (20, .int .i64 (i : Int))] (WLd rfl (QXn (aj _ _ ?_))))
 refine WC.know 22 (.bool ((i : Int) == (n : Int))) (.bool false) rfl (congrArg Value.bool (by simp; omega)) ?_
 refine WCf rfl (WC.skip (QXn (ai _ _ ?_)))
 refine WCs (fun a9 ak => ?_)
 refine WCs (fun ba al => ?_)
 refine WCg (WLq 3 [(28, .int .i64 (IntKind.i64.wrap ((n : Int) + 1))), (27, .int .i64 1), (26, .int .i64 (n : Int))] ?_)
 refine WLt (show (.int .i64 (IntKind.i64.wrap ((n : Int) + 1)) : Value) = .int .i64 ((n : Int) + 1) from by rw [wrap_in_i64 ((n : Int) + 1) (by omega) (by omega)]) ?_
 refine WLq 3 [(31, .bool (decide (((n : Int) + 1) > (c : Int)))), (30, .int .i64 (c : Int)), (29, .slice (some ⟨g, 0, none⟩) n c)] (WLd rfl (QXn (al _ _ ?_)))
 refine WCa 31 (decide (((n : Int) + 1) > (c : Int))) rfl (fun ae => ?_) (fun ae => ?_)
 ·
  have aX : (c : Int) < ((n : Int) + 1) := by have q_ := of_decide_eq_true ae; omega
  refine WCt rfl ?_
  refine WCs (fun bb am => ?_)
  refine WCg (WLq 2 [(33, .int .i64 (i : Int)), (32, .slice (some ⟨g, 0, none⟩) n c)] ?_)
  have ay : i ≤ c := by omega
  refine WL.slc 29 50 4 (some ⟨g, 0, none⟩) (some ⟨g, 0, none⟩) n c 0 i i c none (some (.int .i64 (i : Int))) 34 (by kernel_rfl) (by kernel_rfl) bnd.no (bnd.yes (by omega)) (by omega) ay (slcAt_pre _ _ _) (by first | rfl | omega) (by first | rfl | omega) ?_
  refine WLq 3 [(37, .int .i64 (IntKind.i64.wrap ((n : Int) + 1))), (36, .int .i64 1), (35, .int .i64 (n : Int))] ?_
  refine WLt (show (.int .i64 (IntKind.i64.wrap ((n : Int) + 1)) : Value) = .int .i64 ((n : Int) + 1) from by rw [wrap_in_i64 ((n : Int) + 1) (by omega) (by omega)]) ?_
  refine WLq 2 [(39, .int .i64 (IntKind.i64.wrap (((n : Int) + 1) - (i : Int)))), (38, .int .i64 (i : Int))] ?_
  refine WLt (show (.int .i64 (IntKind.i64.wrap (((n : Int) + 1) - (i : Int))) : Value) = .int .i64 (((n : Int) + 1) - (i : Int)) from by rw [wrap_in_i64 (((n : Int) + 1) - (i : Int)) (by omega) (by omega)]) ?_
  obtain ⟨ad, aa, bc, az, aW, aY, aZ, an, af⟩ := appZ_run Tryz.prog hC 29 3 29 50 4 32 i c (n + 1 - i) (z := (.agg #[.int .u32 0, .int .i64 0, .int .u32 0, .int .i64 0])) (xs := (L.drop 0).take (i * 4)) rfl rfl (by kernel_rfl) (by decide) (by simp; omega) (srcOk.part (hC.get 0 rfl)) (by omega) (by omega) (by omega) (((n : Int) + 1) - (i : Int)) (by omega)
  have hL2l : ((L.drop 0).take (i * 4) ++ (Builtin.zeroCells (.agg #[.int .u32 0, .int .i64 0, .int .u32 0, .int .i64 0] : Value).cells (n + 1 - i)).toList ++ (Builtin.zeroCells (.agg #[.int .u32 0, .int .i64 0, .int .u32 0, .int .i64 0] : Value).cells (aa - (i + (n + 1 - i)))).toList).length = aa * 4 := by simp [size_zeroCells, Value.cells]; omega
  have hL2t : ((L.drop 0).take (i * 4) ++ (Builtin.zeroCells (.agg #[.int .u32 0, .int .i64 0, .int .u32 0, .int .i64 0] : Value).cells (n + 1 - i)).toList ++ (Builtin.zeroCells (.agg #[.int .u32 0, .int .i64 0, .int .u32 0, .int .i64 0] : Value).cells (aa - (i + (n + 1 - i)))).toList).take (i * 4) = L.take (i * 4) := by rw [List.append_assoc, List.take_append_of_le_length (by simp; omega)]; simp [List.take_take]
  generalize hL2 : ((L.drop 0).take (i * 4) ++ (Builtin.zeroCells (.agg #[.int .u32 0, .int .i64 0, .int .u32 0, .int .i64 0] : Value).cells (n + 1 - i)).toList ++ (Builtin.zeroCells (.agg #[.int .u32 0, .int .i64 0, .int .u32 0, .int .i64 0] : Value).cells (aa - (i + (n + 1 - i)))).toList) = L2 at af hL2l hL2t
  refine WL.sem (Builtin.append_ #[29, 3] 29 #[.slice (some ⟨g, 0, none⟩) i c, .int .i64 (((n : Int) + 1) - (i : Int))]) 40 (.slice (some ⟨ad, 0, none⟩) (i + (n + 1 - i)) aa) (by kernel_rfl) az ?_
  refine WLq 1 [(9, .slice (some ⟨ad, 0, none⟩) (i + (n + 1 - i)) aa)] (WLd rfl (QXn (am _ _ ?_)))
  refine WCs (fun bd ao => ?_)
  refine WCg (WLq 2 [(42, .int .i64 (i : Int)), (41, .slice (some ⟨ad, 0, none⟩) (i + (n + 1 - i)) aa)] ?_)
  have aA : i + (n + 1 - i) ≤ aa := by omega
  refine WL.slc 29 50 4 (some ⟨ad, 0, none⟩) (some ⟨ad, i * 4, none⟩) (i + (n + 1 - i)) aa i (i + (n + 1 - i)) ((i + (n + 1 - i)) - i) (aa - i) (some (.int .i64 (i : Int))) none 43 (by kernel_rfl) (by kernel_rfl) (bnd.yes (by omega)) bnd.no (by omega) aA (slcAt_blk (by omega) (by simp)) (by first | rfl | omega) (by first | rfl | omega) ?_
  refine WLq 1 [(44, .slice (some ⟨b, 0, none⟩) 1 1)] ?_
  obtain ⟨be, aB, a0, aC⟩ := copy_run Tryz.prog af 1 29 29 3 50 4 ad (i * 4) ((i + (n + 1 - i)) - i) (aa - i) 1 1 1 (some ⟨b, 0, none⟩) [.int .u32 x.vip, .int .i64 x.first, .int .u32 x.dip, .int .i64 x.exp] rfl rfl (by show min _ _ = _; omega) rfl (srcOk.blk 1 (af.fr.has hb (by simpa using hne))) (by simp; omega) rfl
  refine WL.sem (Builtin.copy_ #[29, 29] 3 #[.slice (some ⟨ad, i * 4, none⟩) ((i + (n + 1 - i)) - i) (aa - i), .slice (some ⟨b, 0, none⟩) 1 1]) 45 (.int .i64 1) (by kernel_rfl) aB ?_
  refine WLd rfl (QXn (ao _ _ ?_))
  refine WCs (fun bf ap => ?_)
  refine WC.drawC aC [ad] (by kernel_rfl) (fun bg a1 aq ab => ?_)
  refine WDq (NPt (NPt hN)) 0 46 (.slice (some ⟨ad, 0, none⟩) (i + (n + 1 - i)) aa) ab ?_
  refine WDq (NPt (NPt hN)) 1 47 (.int .i64 (i : Int)) ab ?_
  refine WDq (NPt (NPt hN)) 2 48 (.int .i64 1) ab ?_
  refine WDq (NPt (NPt hN)) 3 49 (.int .i64 (IntKind.i64.wrap ((i : Int) + 1))) ab ?_
  refine WD.recast (show (.int .i64 (IntKind.i64.wrap ((i : Int) + 1)) : Value) = .int .i64 ((i : Int) + 1) from by rw [wrap_in_i64 ((i : Int) + 1) (by omega) (by omega)]) ?_
  have aD : i + (n + 1 - i) ≤ aa := by omega
  refine WD.slc (NPt (NPt hN)) 4 29 50 4 (some ⟨ad, 0, none⟩) (some ⟨ad, (i + 1) * 4, none⟩) (i + (n + 1 - i)) aa (i + 1) (i + (n + 1 - i)) ((i + (n + 1 - i)) - (i + 1)) (aa - (i + 1)) (some (.int .i64 ((i : Int) + 1))) none 50 (by kernel_rfl) (by kernel_rfl) (by kernel_rfl) (bnd.yes (by omega)) bnd.no (by omega) aD (slcAt_blk (by omega) (by simp)) (by first | rfl | omega) (by first | rfl | omega) ab ?_
  refine WDq (NPt (NPt hN)) 5 51 (.slice (some ⟨g, 0, none⟩) n c) ab ?_
  refine WDq (NPt (NPt hN)) 6 52 (.int .i64 (i : Int)) ab ?_
  have aE : n ≤ c := by omega
  refine WD.slc (NPt (NPt hN)) 7 29 50 4 (some ⟨g, 0, none⟩) (some ⟨g, i * 4, none⟩) n c i n (n - i) (c - i) (some (.int .i64 (i : Int))) none 53 (by kernel_rfl) (by kernel_rfl) (by kernel_rfl) (bnd.yes (by omega)) bnd.no (by omega) aE (slcAt_blk (by omega) (by simp)) (by first | rfl | omega) (by first | rfl | omega) ab ?_
  obtain ⟨bh, aF, aG, ar⟩ := copy_run Tryz.prog aq 1 29 29 3 50 4 ad ((i + 1) * 4) ((i + (n + 1 - i)) - (i + 1)) (aa - (i + 1)) (n - i) (c - i) (n - i) (some ⟨g, i * 4, none⟩) ((L.drop (i * 4)).take ((n - i) * 4)) rfl rfl (by show min _ _ = _; omega) (by simp; omega) (srcOk.part (aq.get 0 rfl)) (by simp; omega) (all_part h1 (by omega))
  have aH := ab.trans aG (by simp)
  refine WD.sem 8 (Builtin.copy_ #[29, 29] 3 #[.slice (some ⟨ad, (i + 1) * 4, none⟩) ((i + (n + 1 - i)) - (i + 1)) (aa - (i + 1)), .slice (some ⟨g, i * 4, none⟩) (n - i) (c - i)]) 54 (.int .i64 (((n - i) : Nat) : Int)) (by kernel_rfl) (by kernel_rfl) aF aH ?_
  refine WD.done (by kernel_rfl) ?_
  refine QXn (ap _ _ ?_)
  refine WCs (fun bi au => ?_)
  refine WCg (WLq 2 [(6, .slice (some ⟨ad, 0, none⟩) (i + (n + 1 - i)) aa), (55, .slice (some ⟨ad, 0, none⟩) (i + (n + 1 - i)) aa)] (WLd rfl (QXn (au _ _ ?_))))
  refine WC.ret ?_
  refine QXr ?_
  refine (hret _ _ _ rfl ?_).1
  clear hN hret hret' au ap ao am al ak aj ai ah ag hK9 hK7 hK4 hK2
  refine ⟨_, rfl, ar.fr, ?_, by intro y hy; simp [shut, blk, Value.ownBlock] at hy; omega⟩
  rw [show i + (n + 1 - i) = n + 1 from by omega]
  exact own_of_blk (Nat.zero_le _) (ar.get 1 rfl) (by omega) an (by simp; omega) ((insA' L2 [.int .u32 x.vip, .int .i64 x.first, .int .u32 x.dip, .int .i64 x.exp] ((L.drop (i * 4)).take ((n - i) * 4)) i n rfl (by simp; omega) (by omega) hi).trans (by rw [hL2t]))
 ·
  have aX : ((n : Int) + 1) ≤ (c : Int) := by have q_ := of_decide_eq_false ae; omega
  refine WCf rfl (WC.skip (QXn (ak _ _ ?_)))
  refine WCs (fun bj aI => ?_)
  refine WCg (WLq 4 [(59, .int .i64 (IntKind.i64.wrap ((n : Int) + 1))), (58, .int .i64 1), (57, .int .i64 (n : Int)), (56, .slice (some ⟨g, 0, none⟩) n c)] ?_)
  refine WLt (show (.int .i64 (IntKind.i64.wrap ((n : Int) + 1)) : Value) = .int .i64 ((n : Int) + 1) from by rw [wrap_in_i64 ((n : Int) + 1) (by omega) (by omega)]) ?_
  have aJ : n + 1 ≤ c := by omega
  refine WL.slc 29 50 4 (some ⟨g, 0, none⟩) (some ⟨g, 0, none⟩) n c 0 (n + 1) (n + 1) c none (some (.int .i64 ((n : Int) + 1))) 60 (by kernel_rfl) (by kernel_rfl) bnd.no (bnd.yes (by omega)) (by omega) aJ (slcAt_pre _ _ _) (by first | rfl | omega) (by first | rfl | omega) ?_
  refine WLq 1 [(0, .slice (some ⟨g, 0, none⟩) (n + 1) c)] (WLd rfl (QXn (aI _ _ ?_)))
  refine WCs (fun bk a2 => ?_)
  refine WCs (fun bl aK => ?_)
  refine WCg (WLq 5 [(65, .int .i64 (IntKind.i64.wrap ((i : Int) + 1))), (64, .int .i64 1), (63, .int .i64 (i : Int)), (62, .slice (some ⟨g, 0, none⟩) (n + 1) c), (61, .slice (some ⟨b, 0, none⟩) 1 1)] ?_)
  refine WLt (show (.int .i64 (IntKind.i64.wrap ((i : Int) + 1)) : Value) = .int .i64 ((i : Int) + 1) from by rw [wrap_in_i64 ((i : Int) + 1) (by omega) (by omega)]) ?_
  have aL : n + 1 ≤ c := by omega
  refine WL.slc 29 50 4 (some ⟨g, 0, none⟩) (some ⟨g, (i + 1) * 4, none⟩) (n + 1) c (i + 1) (n + 1) ((n + 1) - (i + 1)) (c - (i + 1)) (some (.int .i64 ((i : Int) + 1))) none 66 (by kernel_rfl) (by kernel_rfl) (bnd.yes (by omega)) bnd.no (by omega) aL (slcAt_blk (by omega) (by simp)) (by first | rfl | omega) (by first | rfl | omega) ?_
  refine WL.ext 163 #[.slice (some ⟨b, 0, none⟩) 1 1, .slice (some ⟨g, (i + 1) * 4, none⟩) ((n + 1) - (i + 1)) (c - (i + 1))] 67 (.bool false) (by kernel_rfl) (run_overlaps (fn := Tryz.f163) (tS := 29) (tR := 4) (e := 50) (sz := 4) rfl (by kernel_rfl) (by kernel_rfl) (by kernel_rfl) (by kernel_rfl) (by kernel_rfl) (hC.fr.has hb (by simpa using hne)) (hC.get 0 rfl) hne (by rw [List.size_toArray]; omega)) ?_
  refine WLq 1 [(68, .bool true)] (WLd rfl (QXn (aK _ _ ?_)))
  refine WCt rfl ?_
  refine WCs (fun bm aM => ?_)
  refine WC.drawC hC [g] (by kernel_rfl) (fun bn a3 av ac => ?_)
  refine WDq (NPt (NPt hN)) 0 69 (.slice (some ⟨g, 0, none⟩) (n + 1) c) ac ?_
  refine WDq (NPt (NPt hN)) 1 70 (.int .i64 (i : Int)) ac ?_
  refine WDq (NPt (NPt hN)) 2 71 (.int .i64 1) ac ?_
  refine WDq (NPt (NPt hN)) 3 72 (.int .i64 (IntKind.i64.wrap ((i : Int) + 1))) ac ?_
  refine WD.recast (show (.int .i64 (IntKind.i64.wrap ((i : Int) + 1)) : Value) = .int .i64 ((i : Int) + 1) from by rw [wrap_in_i64 ((i : Int) + 1) (by omega) (by omega)]) ?_
  have aN : n + 1 ≤ c := by omega
  refine WD.slc (NPt (NPt hN)) 4 29 50 4 (some ⟨g, 0, none⟩) (some ⟨g, (i + 1) * 4, none⟩) (n + 1) c (i + 1) (n + 1) ((n + 1) - (i + 1)) (c - (i + 1)) (some (.int .i64 ((i : Int) + 1))) none 73 (by kernel_rfl) (by kernel_rfl) (by kernel_rfl) (bnd.yes (by omega)) bnd.no (by omega) aN (slcAt_blk (by omega) (by simp)) (by first | rfl | omega) (by first | rfl | omega) ac ?_
  refine WDq (NPt (NPt hN)) 5 74 (.slice (some ⟨g, 0, none⟩) (n + 1) c) ac ?_
  refine WDq (NPt (NPt hN)) 6 75 (.int .i64 (i : Int)) ac ?_
  have aO : n + 1 ≤ c := by omega
  refine WD.slc (NPt (NPt hN)) 7 29 50 4 (some ⟨g, 0, none⟩) (some ⟨g, i * 4, none⟩) (n + 1) c i (n + 1) ((n + 1) - i) (c - i) (some (.int .i64 (i : Int))) none 76 (by kernel_rfl) (by kernel_rfl) (by kernel_rfl) (bnd.yes (by omega)) bnd.no (by omega) aO (slcAt_blk (by omega) (by simp)) (by first | rfl | omega) (by first | rfl | omega) ac ?_
  obtain ⟨bo, aP, aQ, aw⟩ := copy_run Tryz.prog av 0 29 29 3 50 4 g ((i + 1) * 4) ((n + 1) - (i + 1)) (c - (i + 1)) ((n + 1) - i) (c - i) (n - i) (some ⟨g, i * 4, none⟩) ((L.drop (i * 4)).take ((n - i) * 4)) rfl rfl (by show min _ _ = _; omega) (by simp; omega) (srcOk.part (av.get 0 rfl)) (by simp; omega) (all_part h1 (by omega))
  have aR := ac.trans aQ (by simp)
  refine WD.sem 8 (Builtin.copy_ #[29, 29] 3 #[.slice (some ⟨g, (i + 1) * 4, none⟩) ((n + 1) - (i + 1)) (c - (i + 1)), .slice (some ⟨g, i * 4, none⟩) ((n + 1) - i) (c - i)]) 77 (.int .i64 (((n - i) : Nat) : Int)) (by kernel_rfl) (by kernel_rfl) aP aR ?_
  refine WD.done (by kernel_rfl) ?_
  refine QXn (aM _ _ ?_)
  refine WCs (fun bp aS => ?_)
  refine WCg (WLq 2 [(79, .int .i64 (i : Int)), (78, .slice (some ⟨g, 0, none⟩) (n + 1) c)] ?_)
  have aT : n + 1 ≤ c := by omega
  refine WL.slc 29 50 4 (some ⟨g, 0, none⟩) (some ⟨g, i * 4, none⟩) (n + 1) c i (n + 1) ((n + 1) - i) (c - i) (some (.int .i64 (i : Int))) none 80 (by kernel_rfl) (by kernel_rfl) (bnd.yes (by omega)) bnd.no (by omega) aT (slcAt_blk (by omega) (by simp)) (by first | rfl | omega) (by first | rfl | omega) ?_
  refine WLq 1 [(81, .slice (some ⟨b, 0, none⟩) 1 1)] ?_
  obtain ⟨bq, aU, a4, ax⟩ := copy_run Tryz.prog aw 0 29 29 3 50 4 g (i * 4) ((n + 1) - i) (c - i) 1 1 1 (some ⟨b, 0, none⟩) [.int .u32 x.vip, .int .i64 x.first, .int .u32 x.dip, .int .i64 x.exp] rfl rfl (by show min _ _ = _; omega) rfl (srcOk.blk 1 (aw.fr.has hb (by simpa using hne))) (by simp; omega) rfl
  refine WL.sem (Builtin.copy_ #[29, 29] 3 #[.slice (some ⟨g, i * 4, none⟩) ((n + 1) - i) (c - i), .slice (some ⟨b, 0, none⟩) 1 1]) 82 (.int .i64 1) (by kernel_rfl) aU ?_
  refine WLd rfl (QXn (aS _ _ ?_))
  refine WCs (fun br aV => ?_)
  refine WCg (WLq 2 [(6, .slice (some ⟨g, 0, none⟩) (n + 1) c), (83, .slice (some ⟨g, 0, none⟩) (n + 1) c)] (WLd rfl (QXn (aV _ _ ?_))))
  refine WC.ret ?_
  refine QXr ?_
  refine (hret _ _ _ rfl ?_).1
  exact ⟨_, rfl, ax.fr, own_of_blk (Nat.zero_le _) (ax.get 0 rfl) (by omega) hcm (by simp; omega) (insB' L [.int .u32 x.vip, .int .i64 x.first, .int .u32 x.dip, .int .i64 x.exp] ((L.drop (i * 4)).take ((n - i) * 4)) i n rfl (by simp; omega) (by omega) hi), by intro y hy; simp [shut, blk, Value.ownBlock] at hy; omega⟩

end Go.Proofs.YtfligklljkcbfaaGreatDoor
