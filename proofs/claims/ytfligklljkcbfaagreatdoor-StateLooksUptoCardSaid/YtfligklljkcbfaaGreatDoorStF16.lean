/- Contracts of functions of the program, each proved by a walk through its code; conditions stand in the statements. -/
import Derived.Test.YtfligklljkcbfaaGreatDoorStE16
namespace Go.Proofs.YtfligklljkcbfaaGreatDoor
set_option linter.unusedSimpArgs false
set_option linter.unusedVariables false
set_option linter.unusedSectionVars false
open Go Go.RowKit Go.Tw
set_option linter.unusedVariables false
set_option maxRecDepth 20000
theorem insA (L2 vs cs Y : List Value) (p : Nat) (hp : p ≤ L2.length) : (((L2.take p ++ vs ++ L2.drop (p + vs.length)).take (p + vs.length) ++ cs ++ Y).take (p + vs.length + cs.length)) = L2.take p ++ vs ++ cs := by
  have h1 : (L2.take p ++ vs).length = p + vs.length := by simp; omega
  rw [List.take_left' h1]
  exact List.take_left' (by simp; omega)
theorem insB (L vs cs Y : List Value) (p : Nat) (hp : p + vs.length ≤ L.length) : (((L.take (p + vs.length) ++ cs ++ Y).take p ++ vs ++ (L.take (p + vs.length) ++ cs ++ Y).drop (p + vs.length)).take (p + vs.length + cs.length)) = L.take p ++ vs ++ cs := by
  have h1 : (L.take (p + vs.length)).length = p + vs.length := by simp; omega
  have h2 : (L.take (p + vs.length) ++ cs ++ Y).take p = L.take p := by
    rw [List.append_assoc, List.take_append_of_le_length (by omega), List.take_take, Nat.min_eq_left (by omega)]
  have h3 : (L.take (p + vs.length) ++ cs ++ Y).drop (p + vs.length) = cs ++ Y := by
    rw [List.append_assoc]; exact List.drop_left' h1
  rw [h2, h3, ← List.append_assoc]
  exact List.take_left' (by simp; omega)
theorem insA' (L2 vs cs : List Value) (i n : Nat) (hv : vs.length = 4) (hc : cs.length = (n - i) * 4) (hp : i * 4 ≤ L2.length) (hi : i < n) :
    (((L2.take (i * 4) ++ vs ++ L2.drop (i * 4 + vs.length)).take ((i + 1) * 4) ++ cs ++ (L2.take (i * 4) ++ vs ++ L2.drop (i * 4 + vs.length)).drop ((i + 1) * 4 + cs.length)).take ((n + 1) * 4)) = L2.take (i * 4) ++ vs ++ cs := by
  have h := insA L2 vs cs ((L2.take (i * 4) ++ vs ++ L2.drop (i * 4 + vs.length)).drop ((i + 1) * 4 + cs.length)) (i * 4) hp
  rw [show (i + 1) * 4 = i * 4 + vs.length from by omega] at h ⊢
  rw [show (n + 1) * 4 = i * 4 + vs.length + cs.length from by omega]
  exact h
theorem insB' (L vs cs : List Value) (i n : Nat) (hv : vs.length = 4) (hc : cs.length = (n - i) * 4) (hp : (i + 1) * 4 ≤ L.length) (hi : i < n) :
    (((L.take ((i + 1) * 4) ++ cs ++ L.drop ((i + 1) * 4 + cs.length)).take (i * 4) ++ vs ++ (L.take ((i + 1) * 4) ++ cs ++ L.drop ((i + 1) * 4 + cs.length)).drop (i * 4 + vs.length)).take ((n + 1) * 4)) = L.take (i * 4) ++ vs ++ cs := by
  have h := insB L vs cs (L.drop ((i + 1) * 4 + cs.length)) (i * 4) (by omega)
  rw [show (i + 1) * 4 = i * 4 + vs.length from by omega] at h ⊢
  rw [show (n + 1) * 4 = i * 4 + vs.length + cs.length from by omega]
  exact h
theorem all_part {p : Value → Bool} {L : List Value} {N o k : Nat} (h : (L.take N).all p = true) (hk : o + k ≤ N) : ((L.drop o).take k).all p = true := by
  rw [List.all_eq_true] at h ⊢
  intro x hx
  refine h x ?_
  have : (L.drop o).take k = ((L.take N).drop o).take k := by rw [List.drop_take, List.take_take, Nat.min_eq_left (by omega)]
  rw [this] at hx
  exact List.mem_of_mem_drop (List.mem_of_mem_take hx)
theorem Insert_lt (g b c n i : Nat) (L : List Value) (x : Lease) (w : World) (hg : w.heap[g]? = some (.cells L.toArray 50 (0, 0))) (hb : w.heap[b]? = some (.cells #[U4 x.vip, I6 x.first, U4 x.dip, I6 x.exp] 50 (0, 0))) (hne : b ≠ g) (hi : i < n) (hnc : n ≤ c) (hL : L.length = c * 4) (hcm : c ≤ maxLen) (h1 : (L.take (n * 4)).all Value.oneCell' = true) (hlim : n < 2 ^ 40) : Calls Tryz.prog 152 #[.slice (some ⟨g, 0, none⟩) n c, I6 (i : Int), .slice (some ⟨b, 0, none⟩) 1 1] w fun e w' => ∃ v, e = .returned v ∧ Fr w w' [g] ∧ w'.ownsRow 0 50 4 v (n + 1) (L.take (i * 4) ++ [U4 x.vip, I6 x.first, U4 x.dip, I6 x.exp] ++ (L.drop (i * 4)).take ((n - i) * 4)) ∧ (∀ y ∈ blk v, y = g ∨ w.heap.size ≤ y) := by
 refine enterD (n := 95) Tryz.func152 rfl rfl (Nat.le_of_ble_eq_true rfl) ?_
 intro Q0 hN hret hret'
 have hC := Cx.startM hg
 refine WCs (fun K1 hK2 => WCg (WLq 1 [(6, .slice none 0 0)] (WLd rfl (QXn (hK2 _ _ (WCs (fun K3 hK4 => WCg (WLq 2 [(11, I6 (i : Int)), (10, .slice (some ⟨g, 0, none⟩) n c)] ?_))))))))
 have hb5 : n ≤ c := by omega
 refine WL.slc 29 50 4 (some ⟨g, 0, none⟩) (some ⟨g, i * 4, none⟩) n c i n (n - i) (c - i) (some (I6 (i : Int))) none 12 (by kernel_rfl) (by kernel_rfl) (bnd.yes (by omega)) bnd.no (by omega) hb5 (slcAt_blk (by omega) (by simp)) (by first | rfl | omega) (by first | rfl | omega) (WLd rfl (QXn (hK4 _ _ (WCs (fun K6 hK7 => WCg (WLz 3 [(7, I6 1)] (WLd rfl (QXn (hK7 _ _ (WCs (fun K8 hK9 => ?_)))))))))))
 refine WCs (fun a5 ag => WCg (WLz 2 [(16, .bool false)] (WLd rfl (QXn (ag _ _ (WCf rfl (WC.skip (QXn (hK9 _ _ (WCs (fun a6 ah => WCg ?_)))))))))))
 refine WLz 3 [(8, I6 (n : Int))] (WLd rfl (QXn (ah _ _ (WCs (fun a7 ai => WCs (fun a8 aj => WCg (WLz 3 [(22, .bool ((i : Int) == (n : Int)))] (WLd rfl (QXn (aj _ _ (WC.know 22 (.bool ((i : Int) == (n : Int))) (.bool false) rfl (congrArg Value.bool (by simp; omega)) ?_)))))))))))
 refine WCf rfl (WC.skip (QXn (ai _ _ (WCs (fun a9 ak => WCs (fun ba al => WCg (WLz 3 [(28, I6 (IntKind.i64.wrap ((n : Int) + 1)))] (WLt (show (I6 (IntKind.i64.wrap ((n : Int) + 1)) : Value) = I6 ((n : Int) + 1) from by rw [wrap_in_i64 ((n : Int) + 1) (by omega) (by omega)]) ?_))))))))
 refine WLz 3 [(31, .bool (decide (((n : Int) + 1) > (c : Int))))] (WLd rfl (QXn (al _ _ (WCa 31 (decide (((n : Int) + 1) > (c : Int))) rfl (fun ae => ?_) (fun ae => ?_)))))
 ·
  have aX : (c : Int) < ((n : Int) + 1) := by have q_ := of_decide_eq_true ae; omega
  refine WCt rfl (WCs (fun bb am => WCg (WLq 2 [(33, I6 (i : Int)), (32, .slice (some ⟨g, 0, none⟩) n c)] ?_)))
  have ay : i ≤ c := by omega
  refine WL.slc 29 50 4 (some ⟨g, 0, none⟩) (some ⟨g, 0, none⟩) n c 0 i i c none (some (I6 (i : Int))) 34 (by kernel_rfl) (by kernel_rfl) bnd.no (bnd.yes (by omega)) (by omega) ay (slcAt_pre _ _ _) (by first | rfl | omega) (by first | rfl | omega) (WLz 3 [(37, I6 (IntKind.i64.wrap ((n : Int) + 1)))] (WLt (show (I6 (IntKind.i64.wrap ((n : Int) + 1)) : Value) = I6 ((n : Int) + 1) from by rw [wrap_in_i64 ((n : Int) + 1) (by omega) (by omega)]) (WLz 2 [(39, I6 (IntKind.i64.wrap (((n : Int) + 1) - (i : Int))))] (WLt (show (I6 (IntKind.i64.wrap (((n : Int) + 1) - (i : Int))) : Value) = I6 (((n : Int) + 1) - (i : Int)) from by rw [wrap_in_i64 (((n : Int) + 1) - (i : Int)) (by omega) (by omega)]) ?_))))
  obtain ⟨ad, aa, bc, az, aW, aY, aZ, an, af⟩ := appZ_run Tryz.prog hC 29 3 29 50 4 32 i c (n + 1 - i) (z := (.agg #[U4 0, I6 0, U4 0, I6 0])) (xs := (L.drop 0).take (i * 4)) rfl rfl (by kernel_rfl) (by decide) (by simp; omega) (srcOk.part (hC.get 0 rfl)) (by omega) (by omega) (by omega) (((n : Int) + 1) - (i : Int)) (by omega)
  have hL2l : ((L.drop 0).take (i * 4) ++ (Builtin.zeroCells (.agg #[U4 0, I6 0, U4 0, I6 0] : Value).cells (n + 1 - i)).toList ++ (Builtin.zeroCells (.agg #[U4 0, I6 0, U4 0, I6 0] : Value).cells (aa - (i + (n + 1 - i)))).toList).length = aa * 4 := by simp [size_zeroCells, Value.cells]; omega
  have hL2t : ((L.drop 0).take (i * 4) ++ (Builtin.zeroCells (.agg #[U4 0, I6 0, U4 0, I6 0] : Value).cells (n + 1 - i)).toList ++ (Builtin.zeroCells (.agg #[U4 0, I6 0, U4 0, I6 0] : Value).cells (aa - (i + (n + 1 - i)))).toList).take (i * 4) = L.take (i * 4) := by rw [List.append_assoc, List.take_append_of_le_length (by simp; omega)]; simp [List.take_take]
  generalize hL2 : ((L.drop 0).take (i * 4) ++ (Builtin.zeroCells (.agg #[U4 0, I6 0, U4 0, I6 0] : Value).cells (n + 1 - i)).toList ++ (Builtin.zeroCells (.agg #[U4 0, I6 0, U4 0, I6 0] : Value).cells (aa - (i + (n + 1 - i)))).toList) = L2 at af hL2l hL2t
  refine WL.sem (Builtin.append_ #[29, 3] 29 #[.slice (some ⟨g, 0, none⟩) i c, I6 (((n : Int) + 1) - (i : Int))]) 40 (.slice (some ⟨ad, 0, none⟩) (i + (n + 1 - i)) aa) (by kernel_rfl) az (WLq 1 [(9, .slice (some ⟨ad, 0, none⟩) (i + (n + 1 - i)) aa)] (WLd rfl (QXn (am _ _ (WCs (fun bd ao => WCg (WLq 2 [(42, I6 (i : Int)), (41, .slice (some ⟨ad, 0, none⟩) (i + (n + 1 - i)) aa)] ?_)))))))
  have aA : i + (n + 1 - i) ≤ aa := by omega
  refine WL.slc 29 50 4 (some ⟨ad, 0, none⟩) (some ⟨ad, i * 4, none⟩) (i + (n + 1 - i)) aa i (i + (n + 1 - i)) ((i + (n + 1 - i)) - i) (aa - i) (some (I6 (i : Int))) none 43 (by kernel_rfl) (by kernel_rfl) (bnd.yes (by omega)) bnd.no (by omega) aA (slcAt_blk (by omega) (by simp)) (by first | rfl | omega) (by first | rfl | omega) (WLq 1 [(44, .slice (some ⟨b, 0, none⟩) 1 1)] ?_)
  obtain ⟨be, aB, a0, aC⟩ := copy_run Tryz.prog af 1 29 29 3 50 4 ad (i * 4) ((i + (n + 1 - i)) - i) (aa - i) 1 1 1 (some ⟨b, 0, none⟩) [U4 x.vip, I6 x.first, U4 x.dip, I6 x.exp] rfl rfl (by show min _ _ = _; omega) rfl (srcOk.blk 1 (af.fr.has hb (by simpa using hne))) (by simp; omega) rfl
  refine WLS 45 aB (WLd rfl (QXn (ao _ _ (WCs (fun bf ap => WC.drawC aC [ad] (by kernel_rfl) (fun bg a1 aq ab => WDx 4 [(0, 46, .slice (some ⟨ad, 0, none⟩) (i + (n + 1 - i)) aa), (1, 47, I6 (i : Int)), (2, 48, I6 1), (3, 49, I6 (IntKind.i64.wrap ((i : Int) + 1)))] ab (WD.recast (show (I6 (IntKind.i64.wrap ((i : Int) + 1)) : Value) = I6 ((i : Int) + 1) from by rw [wrap_in_i64 ((i : Int) + 1) (by omega) (by omega)]) ?_)))))))
  have aD : i + (n + 1 - i) ≤ aa := by omega
  refine WD.slc (NPt (NPt hN)) 4 29 50 4 (some ⟨ad, 0, none⟩) (some ⟨ad, (i + 1) * 4, none⟩) (i + (n + 1 - i)) aa (i + 1) (i + (n + 1 - i)) ((i + (n + 1 - i)) - (i + 1)) (aa - (i + 1)) (some (I6 ((i : Int) + 1))) none 50 (by kernel_rfl) (by kernel_rfl) (by kernel_rfl) (bnd.yes (by omega)) bnd.no (by omega) aD (slcAt_blk (by omega) (by simp)) (by first | rfl | omega) (by first | rfl | omega) ab (WDx 2 [(5, 51, .slice (some ⟨g, 0, none⟩) n c), (6, 52, I6 (i : Int))] ab ?_)
  have aE : n ≤ c := by omega
  refine WD.slc (NPt (NPt hN)) 7 29 50 4 (some ⟨g, 0, none⟩) (some ⟨g, i * 4, none⟩) n c i n (n - i) (c - i) (some (I6 (i : Int))) none 53 (by kernel_rfl) (by kernel_rfl) (by kernel_rfl) (bnd.yes (by omega)) bnd.no (by omega) aE (slcAt_blk (by omega) (by simp)) (by first | rfl | omega) (by first | rfl | omega) ab ?_
  obtain ⟨bh, aF, aG, ar⟩ := copy_run Tryz.prog aq 1 29 29 3 50 4 ad ((i + 1) * 4) ((i + (n + 1 - i)) - (i + 1)) (aa - (i + 1)) (n - i) (c - i) (n - i) (some ⟨g, i * 4, none⟩) ((L.drop (i * 4)).take ((n - i) * 4)) rfl rfl (by show min _ _ = _; omega) (by simp; omega) (srcOk.part (aq.get 0 rfl)) (by simp; omega) (all_part h1 (by omega))
  have aH := ab.trans aG (by simp)
  refine WDs 8 54 aF aH (WDd (QXn (ap _ _ (WCs (fun bi au => WCg (WLz 2 [(6, .slice (some ⟨ad, 0, none⟩) (i + (n + 1 - i)) aa)] (WLd rfl (QXn (au _ _ ?_)))))))))
  refine WC.ret (QXr ?_)
  refine (hret _ _ _ rfl ?_).1
  clear hN hret hret' au ap ao am al ak aj ai ah ag hK9 hK7 hK4 hK2
  refine ⟨_, rfl, ar.fr, ?_, by intro y hy; simp [shut, blk, Value.ownBlock] at hy; omega⟩
  rw [show i + (n + 1 - i) = n + 1 from by omega]
  exact own_of_blk (Nat.zero_le _) (ar.get 1 rfl) (by omega) an (by simp; omega) ((insA' L2 [U4 x.vip, I6 x.first, U4 x.dip, I6 x.exp] ((L.drop (i * 4)).take ((n - i) * 4)) i n rfl (by simp; omega) (by omega) hi).trans (by rw [hL2t]))
 ·
  have aX : ((n : Int) + 1) ≤ (c : Int) := by have q_ := of_decide_eq_false ae; omega
  refine WCf rfl (WC.skip (QXn (ak _ _ (WCs (fun bj aI => WCg (WLz 4 [(59, I6 (IntKind.i64.wrap ((n : Int) + 1))), (56, .slice (some ⟨g, 0, none⟩) n c)] (WLt (show (I6 (IntKind.i64.wrap ((n : Int) + 1)) : Value) = I6 ((n : Int) + 1) from by rw [wrap_in_i64 ((n : Int) + 1) (by omega) (by omega)]) ?_)))))))
  have aJ : n + 1 ≤ c := by omega
  refine WL.slc 29 50 4 (some ⟨g, 0, none⟩) (some ⟨g, 0, none⟩) n c 0 (n + 1) (n + 1) c none (some (I6 ((n : Int) + 1))) 60 (by kernel_rfl) (by kernel_rfl) bnd.no (bnd.yes (by omega)) (by omega) aJ (slcAt_pre _ _ _) (by first | rfl | omega) (by first | rfl | omega) (WLq 1 [(0, .slice (some ⟨g, 0, none⟩) (n + 1) c)] (WLd rfl (QXn (aI _ _ (WCs (fun bk a2 => WCs (fun bl aK => WCg (WLz 5 [(65, I6 (IntKind.i64.wrap ((i : Int) + 1))), (62, .slice (some ⟨g, 0, none⟩) (n + 1) c), (61, .slice (some ⟨b, 0, none⟩) 1 1)] ?_))))))))
  refine WLt (show (I6 (IntKind.i64.wrap ((i : Int) + 1)) : Value) = I6 ((i : Int) + 1) from by rw [wrap_in_i64 ((i : Int) + 1) (by omega) (by omega)]) ?_
  have aL : n + 1 ≤ c := by omega
  refine WL.slc 29 50 4 (some ⟨g, 0, none⟩) (some ⟨g, (i + 1) * 4, none⟩) (n + 1) c (i + 1) (n + 1) ((n + 1) - (i + 1)) (c - (i + 1)) (some (I6 ((i : Int) + 1))) none 66 (by kernel_rfl) (by kernel_rfl) (bnd.yes (by omega)) bnd.no (by omega) aL (slcAt_blk (by omega) (by simp)) (by first | rfl | omega) (by first | rfl | omega) (WL.ext 163 #[.slice (some ⟨b, 0, none⟩) 1 1, .slice (some ⟨g, (i + 1) * 4, none⟩) ((n + 1) - (i + 1)) (c - (i + 1))] 67 (.bool false) (by kernel_rfl) (run_overlaps (fn := Tryz.f163) (tS := 29) (tR := 4) (e := 50) (sz := 4) rfl (by kernel_rfl) (by kernel_rfl) (by kernel_rfl) (by kernel_rfl) (by kernel_rfl) (hC.fr.has hb (by simpa using hne)) (hC.get 0 rfl) hne (by rw [List.size_toArray]; omega)) (WLq 1 [(68, .bool true)] (WLd rfl (QXn (aK _ _ (WCt rfl (WCs (fun bm aM => WC.drawC hC [g] (by kernel_rfl) (fun bn a3 av ac => ?_)))))))))
  refine WDx 4 [(0, 69, .slice (some ⟨g, 0, none⟩) (n + 1) c), (1, 70, I6 (i : Int)), (2, 71, I6 1), (3, 72, I6 (IntKind.i64.wrap ((i : Int) + 1)))] ac (WD.recast (show (I6 (IntKind.i64.wrap ((i : Int) + 1)) : Value) = I6 ((i : Int) + 1) from by rw [wrap_in_i64 ((i : Int) + 1) (by omega) (by omega)]) ?_)
  have aN : n + 1 ≤ c := by omega
  refine WD.slc (NPt (NPt hN)) 4 29 50 4 (some ⟨g, 0, none⟩) (some ⟨g, (i + 1) * 4, none⟩) (n + 1) c (i + 1) (n + 1) ((n + 1) - (i + 1)) (c - (i + 1)) (some (I6 ((i : Int) + 1))) none 73 (by kernel_rfl) (by kernel_rfl) (by kernel_rfl) (bnd.yes (by omega)) bnd.no (by omega) aN (slcAt_blk (by omega) (by simp)) (by first | rfl | omega) (by first | rfl | omega) ac (WDx 2 [(5, 74, .slice (some ⟨g, 0, none⟩) (n + 1) c), (6, 75, I6 (i : Int))] ac ?_)
  have aO : n + 1 ≤ c := by omega
  refine WD.slc (NPt (NPt hN)) 7 29 50 4 (some ⟨g, 0, none⟩) (some ⟨g, i * 4, none⟩) (n + 1) c i (n + 1) ((n + 1) - i) (c - i) (some (I6 (i : Int))) none 76 (by kernel_rfl) (by kernel_rfl) (by kernel_rfl) (bnd.yes (by omega)) bnd.no (by omega) aO (slcAt_blk (by omega) (by simp)) (by first | rfl | omega) (by first | rfl | omega) ac ?_
  obtain ⟨bo, aP, aQ, aw⟩ := copy_run Tryz.prog av 0 29 29 3 50 4 g ((i + 1) * 4) ((n + 1) - (i + 1)) (c - (i + 1)) ((n + 1) - i) (c - i) (n - i) (some ⟨g, i * 4, none⟩) ((L.drop (i * 4)).take ((n - i) * 4)) rfl rfl (by show min _ _ = _; omega) (by simp; omega) (srcOk.part (av.get 0 rfl)) (by simp; omega) (all_part h1 (by omega))
  have aR := ac.trans aQ (by simp)
  refine WDs 8 77 aP aR (WDd (QXn (aM _ _ (WCs (fun bp aS => WCg (WLq 2 [(79, I6 (i : Int)), (78, .slice (some ⟨g, 0, none⟩) (n + 1) c)] ?_))))))
  have aT : n + 1 ≤ c := by omega
  refine WL.slc 29 50 4 (some ⟨g, 0, none⟩) (some ⟨g, i * 4, none⟩) (n + 1) c i (n + 1) ((n + 1) - i) (c - i) (some (I6 (i : Int))) none 80 (by kernel_rfl) (by kernel_rfl) (bnd.yes (by omega)) bnd.no (by omega) aT (slcAt_blk (by omega) (by simp)) (by first | rfl | omega) (by first | rfl | omega) (WLq 1 [(81, .slice (some ⟨b, 0, none⟩) 1 1)] ?_)
  obtain ⟨bq, aU, a4, ax⟩ := copy_run Tryz.prog aw 0 29 29 3 50 4 g (i * 4) ((n + 1) - i) (c - i) 1 1 1 (some ⟨b, 0, none⟩) [U4 x.vip, I6 x.first, U4 x.dip, I6 x.exp] rfl rfl (by show min _ _ = _; omega) rfl (srcOk.blk 1 (aw.fr.has hb (by simpa using hne))) (by simp; omega) rfl
  refine WLS 82 aU (WLd rfl (QXn (aS _ _ (WCs (fun br aV => WCg (WLz 2 [(6, .slice (some ⟨g, 0, none⟩) (n + 1) c)] (WLd rfl (QXn (aV _ _ (WC.ret ?_))))))))))
  refine QXr ?_
  refine (hret _ _ _ rfl ?_).1
  exact ⟨_, rfl, ax.fr, own_of_blk (Nat.zero_le _) (ax.get 0 rfl) (by omega) hcm (by simp; omega) (insB' L [U4 x.vip, I6 x.first, U4 x.dip, I6 x.exp] ((L.drop (i * 4)).take ((n - i) * 4)) i n rfl (by simp; omega) (by omega) hi), by intro y hy; simp [shut, blk, Value.ownBlock] at hy; omega⟩

end Go.Proofs.YtfligklljkcbfaaGreatDoor
