/- Contracts of functions of the program, each proved by a walk through its code; conditions stand in the statements. -/
import Derived.Test.YtkhdliobbbmkoaaSbA13
import Derived.Test.YtkhdliobbbmkoaaTwUnr
namespace Go.Proofs.Ytkhdliobbbmkoaa
set_option linter.unusedSimpArgs false
set_option linter.unusedVariables false
set_option linter.unusedSectionVars false
open Go Go.RowKit Go.Tw
set_option linter.unusedVariables false
set_option maxRecDepth 20000
def mkA (k : Int) (j : Nat) : Int := IntKind.u8.wrap (31 * k + 7 * (j : Int) + 1)
def mkL (k : Int) (xs : List Int) (i : Nat) : List Int := (List.range i).map (mkA k) ++ xs.drop i
def mkR (k : Int) (n : Nat) : List Int := (List.range n).map (mkA k)
def mkE (k : Int) (j : Nat) : List Value := [.int .u8 (mkA k j)]
theorem mkL_zero (k : Int) (xs : List Int) : mkL k xs 0 = xs := by simp [mkL]
theorem mkL_set {k : Int} {xs : List Int} {i : Nat} (h : i < xs.length) : (mkL k xs i).set i (mkA k i) = mkL k xs (i + 1) := by
  unfold mkL
  rw [List.set_append_right _ _ (by simp), List.length_map, List.length_range, Nat.sub_self, List.range_succ, List.map_append, List.append_assoc]
  congr 1
  rw [List.drop_eq_getElem_cons h, List.set_cons_zero]
  rfl
theorem mkL_end (k : Int) (xs : List Int) : mkL k xs xs.length = mkR k xs.length := by simp [mkL, mkR]
theorem mkR_get {k : Int} {n j : Nat} {x : Int} (h : (mkR k n)[j]? = some x) : x = mkA k j := by
  unfold mkR at h
  rw [List.getElem?_map] at h
  cases hr : (List.range n)[j]? with
  | none => rw [hr] at h; cases h
  | some y =>
    rw [hr] at h
    obtain ⟨h1, h2⟩ := List.getElem?_eq_some_iff.1 hr
    rw [List.getElem_range] at h2
    subst h2
    exact (Option.some.inj h).symm
theorem mkE_flat (k : Int) (n : Nat) : (mkR k n).flatMap (Go.Tw.encI .u8) = (List.range n).flatMap (mkE k) := by
  unfold mkR; rw [List.flatMap_map]; rfl
theorem mkE_one (k : Int) (j : Nat) : (mkE k j).length = 1 := rfl
theorem grp_of {w : World} {k : Int} {A : Option Addr} {n c : Nat} {xs : List Int} (h : w.ownsRow 0 5 1 (.slice A n c) n ((mkL k xs n).flatMap (Go.Tw.encI .u8))) (hn : xs.length = n) : Grp w 5 (mkE k) A n c A n c := by
  subst hn
  rw [mkL_end, mkE_flat] at h
  exact Grp.start (mkE_one k) h
theorem grp_own {w : World} {k : Int} {A0 A : Option Addr} {n c0 m c : Nat} (h : Grp w 5 (mkE k) A0 n c0 A m c) : w.ownsRow 0 5 1 (.slice A m c) m ((mkR k m).flatMap (Go.Tw.encI .u8)) := by rw [mkE_flat]; exact h.own
theorem grp_old {w : World} {k : Int} {A0 A : Option Addr} {n c0 m c : Nat} (h : Grp w 5 (mkE k) A0 n c0 A m c) : w.ownsRow 0 5 1 (.slice A0 n c0) n ((mkR k n).flatMap (Go.Tw.encI .u8)) := by rw [mkE_flat]; exact h.old
theorem Cx.dbl {w0 w : World} {F0 : List Nat} {M : List (Nat × Obj)} {Fs : List (List Nat)} (h : Cx w0 F0 w M Fs) (j : Nat) {F : List Nat} (hj : Fs[j]? = some F) : Cx w0 F0 w M (Fs.set j (F ++ F)) :=
  h.callF j hj (Fr.refl w F) (fun x hx => .inl ((List.mem_append.1 hx).elim id id)) (fun x hx => h.ltF j hj x ((List.mem_append.1 hx).elim id id))
theorem Cx.startApart {w : World} {B : Nat} {o : Obj} {F G H : List Nat} (hb : w.heap[B]? = some o) (h1 : B ∉ F) (h2 : B ∉ G) (h3 : B ∉ H) (h4 : ∀ x ∈ F, x ∉ G) (h5 : ∀ x ∈ F, x ∉ H) (h6 : ∀ x ∈ G, x ∉ H) (hF : ∀ x ∈ F, x < w.heap.size) (hG : ∀ x ∈ G, x < w.heap.size) (hH : ∀ x ∈ H, x < w.heap.size) : Cx w (B :: (F ++ (G ++ H))) w [(B, o)] [F, G, H] :=
  ⟨.refl _ _, by simpa using hb, by simp, by simpa using ⟨⟨h4, h5⟩, h6⟩, by simpa using ⟨h1, h2, h3⟩, by simpa using ⟨hF, hG, hH⟩, by simp, by
    intro X hX x hx
    refine .inl (List.mem_cons_of_mem _ ?_)
    simp only [List.mem_append]
    simp only [List.mem_cons, List.not_mem_nil, or_false] at hX
    rcases hX with rfl | rfl | rfl
    · exact .inl hx
    · exact .inr (.inl hx)
    · exact .inr (.inr hx)⟩
set_option maxHeartbeats 4000000 in
theorem Apart_ct (B : Nat) (A0 A1 A2 : Option Addr) (n0 n1 n2 c0 c1 c2 : Nat) (x0 x1 x2 : List Int) (w : World) (hb : w.heap[B]? = some (.cells #[.slice A0 n0 c0, .slice A1 n1 c1, .slice A2 n2 c2] 22 (0, 0))) (ho0 : w.ownsRow 0 5 1 (.slice A0 n0 c0) n0 (x0.flatMap (Go.Tw.encI .u8))) (ho1 : w.ownsRow 0 5 1 (.slice A1 n1 c1) n1 (x1.flatMap (Go.Tw.encI .u8))) (ho2 : w.ownsRow 0 5 1 (.slice A2 n2 c2) n2 (x2.flatMap (Go.Tw.encI .u8))) (hd1 : B ∉ blk (.slice A0 n0 c0)) (hd2 : B ∉ blk (.slice A1 n1 c1)) (hd3 : B ∉ blk (.slice A2 n2 c2)) (hd4 : ∀ x ∈ blk (.slice A0 n0 c0), x ∉ blk (.slice A1 n1 c1)) (hd5 : ∀ x ∈ blk (.slice A0 n0 c0), x ∉ blk (.slice A2 n2 c2)) (hd6 : ∀ x ∈ blk (.slice A1 n1 c1), x ∉ blk (.slice A2 n2 c2)) (hx0 : x0.length = n0) (hl0 : n0 ≤ 100000) (hx1 : x1.length = n1) (hl1 : n1 ≤ 100000) (hx2 : x2.length = n2) (hl2 : n2 ≤ 100000) : Calls Try.prog 16 #[.slice (some ⟨B, 0, none⟩) 3 3] w fun e w' => e = .returned (.bool true) ∧ Fr w w' (B :: (blk (.slice A0 n0 c0) ++ (blk (.slice A1 n1 c1) ++ blk (.slice A2 n2 c2)))) := by
 refine enterD (n := 117) Try.func16 rfl rfl (Nat.le_of_ble_eq_true rfl) ?_
 intro Q0 hN hret hret'
 have hC := Cx.startApart hb hd1 hd2 hd3 hd4 hd5 hd6 (own_lt ho0) (own_lt ho1) (own_lt ho2)
 refine WCs (fun K1 hK2 => ?_)
 refine WCg (WLr 1 [(2, .bool false)] (fun _ => by kernel_rfl) (WLd rfl (QXn (hK2 _ _ ?_))))
 refine WCs (fun K3 hK4 => ?_)
 refine WCs (fun K5 hK6 => ?_)
 refine WCg (WLr 3 [(15, .int .i64 0), (14, .int .i64 3), (13, .slice (some ⟨B, 0, none⟩) 3 3)] (fun _ => by kernel_rfl) (WLd rfl (QXn (hK6 _ _ ?_))))
 refine WC.block ?_
 refine WC.unroll ?_
 refine Rounds.round (fun K7 hK8 => ?_)
 refine WCs (fun K9 hK10 => ?_)
 refine WCg (WLr 1 [(16, .bool true)] (fun _ => by kernel_rfl) (WLd rfl (QXn (hK10 _ _ ?_))))
 refine WCs (fun K11 hK12 => ?_)
 refine WCt rfl ?_
 refine WC.skip ?_
 refine QXn (hK12 _ _ ?_)
 refine WCs (fun K13 hK14 => ?_)
 refine WC.block ?_
 refine WCs (fun K15 hK16 => ?_)
 refine WCg (WLr 1 [(17, .int .i64 0)] (fun _ => by kernel_rfl) ?_)
 refine WLi (some ⟨B, 0, none⟩) 3 3 18 .i64 0 B 0 0 1 (by kernel_rfl) rfl (by omega) (by omega) 0 (by first | (simp; done) | omega) ?_
 refine WL.load 22 (.pointer (some ⟨B, 0, none⟩)) (.slice A0 n0 c0) 19 (by kernel_rfl) (run_ld (hC.get 0 rfl) rfl) ?_
 refine WLr 2 [(4, .slice A0 n0 c0), (3, .int .i64 0)] (fun _ => by kernel_rfl) (WLd rfl (QXn (hK16 _ _ ?_)))
 refine WCs (fun K17 hK18 => ?_)
 refine WCg (WLr 3 [(22, .int .i64 0), (21, .int .i64 (n0 : Int)), (20, .slice A0 n0 c0)] (fun _ => by kernel_rfl) (WLd rfl (QXn (hK18 _ _ ?_))))
 refine WC.block ?_
 refine WC.loop (fun m_ E_ w_ => ∃ (i0 : Nat), m_ = n0 - i0 ∧ E_ = [(0, .slice (some ⟨B, 0, none⟩) 3 3), (3, .int .i64 0), (4, .slice A0 n0 c0), (13, .slice (some ⟨B, 0, none⟩) 3 3), (14, .int .i64 3), (15, .int .i64 0), (20, .slice A0 n0 c0), (21, .int .i64 (n0 : Int)), (22, .int .i64 (i0 : Int))] ∧ Cx w (B :: (blk (.slice A0 n0 c0) ++ (blk (.slice A1 n1 c1) ++ blk (.slice A2 n2 c2)))) w_ [(B, .cells #[.slice A0 n0 c0, .slice A1 n1 c1, .slice A2 n2 c2] 22 (0, 0))] [blk (.slice A0 n0 c0), blk (.slice A1 n1 c1), blk (.slice A2 n2 c2)] ∧ World.ownsRow w_ 0 5 1 (.slice A1 n1 c1) n1 (x1.flatMap (Go.Tw.encI .u8)) ∧ World.ownsRow w_ 0 5 1 (.slice A2 n2 c2) n2 (x2.flatMap (Go.Tw.encI .u8)) ∧ World.ownsRow w_ 0 5 1 (.slice A0 n0 c0) n0 ((mkL 0 x0 i0).flatMap (Go.Tw.encI .u8)) ∧ (i0 ≤ n0)) ⟨_, _, ⟨0, rfl, rfl, hC, ho1, ho2, (by rw [mkL_zero]; exact ho0), Nat.zero_le _⟩, sub_of ⟨rfl, rfl, rfl, rfl, rfl, rfl, rfl, rfl, rfl, trivial⟩⟩ (fun m22 E_ w23 K19 hK20 hI21 => ?_)
 obtain ⟨i0, rfl, rfl, hC24, r1_m22, r2_m22, hrow0, hi0⟩ := hI21
 refine WCs (fun K25 hK26 => ?_)
 refine WCg (WLr 1 [(23, .bool (decide ((i0 : Int) < (n0 : Int))))] (fun _ => by kernel_rfl) (WLd rfl (QXn (hK26 _ _ ?_))))
 refine WCs (fun K27 hK28 => ?_)
 refine WCa 23 (decide ((i0 : Int) < (n0 : Int))) rfl (fun t29b => ?_) (fun t29b => ?_)
 ·
  have t29 : (i0 : Int) < (n0 : Int) := by have q_ := of_decide_eq_true t29b; omega
  refine WCt rfl ?_
  refine WC.skip ?_
  refine QXn (hK28 _ _ ?_)
  refine WCs (fun K30 hK31 => ?_)
  refine WC.block ?_
  refine WCs (fun K32 hK33 => ?_)
  refine WCg (WLr 2 [(5, .int .i64 (i0 : Int)), (24, .int .i64 (i0 : Int))] (fun _ => by kernel_rfl) (WLd rfl (QXn (hK33 _ _ ?_))))
  refine WCg (WLr 6 [(30, .int .i64 (IntKind.i64.wrap (7 * (i0 : Int)))), (29, .int .i64 (i0 : Int)), (28, .int .i64 0), (27, .int .i64 0), (26, .int .i64 (i0 : Int)), (25, .slice A0 n0 c0)] (fun _ => by kernel_rfl) ?_)
  refine WLt (show (.int .i64 (IntKind.i64.wrap (7 * (i0 : Int))) : Value) = .int .i64 (7 * (i0 : Int)) from by rw [wrap_in_i64 (7 * (i0 : Int)) (by omega) (by omega)]) ?_
  refine WLr 1 [(31, .int .i64 (IntKind.i64.wrap (0 + (7 * (i0 : Int)))))] (fun _ => by kernel_rfl) ?_
  refine WLt (show (.int .i64 (IntKind.i64.wrap (0 + (7 * (i0 : Int)))) : Value) = .int .i64 (0 + (7 * (i0 : Int))) from by rw [wrap_in_i64 (0 + (7 * (i0 : Int))) (by omega) (by omega)]) ?_
  refine WLr 1 [(32, .int .i64 (IntKind.i64.wrap ((0 + (7 * (i0 : Int))) + 1)))] (fun _ => by kernel_rfl) ?_
  refine WLt (show (.int .i64 (IntKind.i64.wrap ((0 + (7 * (i0 : Int))) + 1)) : Value) = .int .i64 ((0 + (7 * (i0 : Int))) + 1) from by rw [wrap_in_i64 ((0 + (7 * (i0 : Int))) + 1) (by omega) (by omega)]) ?_
  refine WLr 1 [(33, .int .u8 (IntKind.u8.wrap ((0 + (7 * (i0 : Int))) + 1)))] (fun _ => by kernel_rfl) ?_
  refine WLt (show (.int .u8 (IntKind.u8.wrap ((0 + (7 * (i0 : Int))) + 1)) : Value) = .int .u8 (mkA 0 i0) from by simp [mkA]) ?_
  have hn38 := own_count (Go.Tw.encI_len _) (by decide) hrow0
  obtain ⟨e34, he35⟩ := get_some (xs := (mkL 0 x0 i0)) (i := i0) (by omega)
  obtain ⟨b36, hA37⟩ := own_addr (by decide) (Go.Tw.encI_len _) hrow0 he35
  refine WLi A0 n0 c0 34 .i64 (i0 : Int) b36 0 i0 1 (by kernel_rfl) hA37 (by omega) (by omega) i0 (by first | (simp; done) | omega) ?_
  obtain ⟨w39, hr40, hF41, ho43, hC42⟩ := stoE_run Try.prog (Go.Tw.encI_len _) hC24 0 hA37 rfl hrow0 i0 0 (x := e34) he35 (mkA 0 i0) [.int .u8 (mkA 0 i0)] rfl 5 (.int .u8 (mkA 0 i0)) (i0) rfl rfl rfl (by first | rfl | simp [Nat.add_assoc])
  refine WL.semU (Instr.storeAt 5 (.pointer (some ⟨b36, i0, none⟩)) (.int .u8 (mkA 0 i0))) (by kernel_rfl) hr40 ?_
  have ho44 := own_fr r1_m22 hF41 (hC24.disj 1 0 rfl rfl (by decide))
  have ho45 := own_fr r2_m22 hF41 (hC24.disj 2 0 rfl rfl (by decide))
  refine WLd rfl ?_
  refine QXb ?_
  refine QXn (hK31 _ _ ?_)
  refine WCg (WLr 1 [(35, .int .i64 (IntKind.i64.wrap ((i0 : Int) + 1)))] (fun _ => by kernel_rfl) ?_)
  refine WLt (show (.int .i64 (IntKind.i64.wrap ((i0 : Int) + 1)) : Value) = .int .i64 ((i0 : Int) + 1) from by rw [wrap_in_i64 ((i0 : Int) + 1) (by omega) (by omega)]) ?_
  refine WLr 1 [(22, .int .i64 ((i0 : Int) + 1))] (fun _ => by kernel_rfl) ?_
  refine WLd rfl ?_
  refine QXn ?_
  have hC46 := hC42.pick [0] [0, 1, 2] rfl rfl
  refine fun a_ ha_ => hK20 _ _ _ ?_ ⟨i0 + 1, rfl, rfl, hC46, ho44, ho45, (by rw [← mkL_set (by omega)]; exact ho43), by omega⟩ a_ (ha_.weaken (sub_of ⟨rfl, rfl, rfl, rfl, rfl, rfl, rfl, rfl, rfl, trivial⟩))
  omega
 ·
  have t29 : (n0 : Int) ≤ (i0 : Int) := by have q_ := of_decide_eq_false t29b; omega
  refine WCf rfl ?_
  have ho47 := hrow0
  rw [show i0 = n0 from by omega] at ho47
  skip
  refine WC.exit ?_
  refine QXe ?_
  refine QXe ?_
  refine QX.block_hit ?_
  refine QXb ?_
  refine QXn (hK14 _ _ ?_)
  refine WCg (WLr 2 [(15, .int .i64 1), (36, .int .i64 1)] (fun _ => by kernel_rfl) ?_)
  refine WLd rfl ?_
  refine QXn ?_
  refine fun a_ ha_ => hK8 [(0, .slice (some ⟨B, 0, none⟩) 3 3), (13, .slice (some ⟨B, 0, none⟩) 3 3), (14, .int .i64 3), (15, .int .i64 1)] _ ?_ a_ (ha_.weaken (sub_of ⟨rfl, rfl, rfl, rfl, trivial⟩))
  refine Rounds.round (fun K48 hK49 => ?_)
  refine WCs (fun K50 hK51 => ?_)
  refine WCg (WLr 1 [(16, .bool true)] (fun _ => by kernel_rfl) (WLd rfl (QXn (hK51 _ _ ?_))))
  refine WCs (fun K52 hK53 => ?_)
  refine WCt rfl ?_
  refine WC.skip ?_
  refine QXn (hK53 _ _ ?_)
  refine WCs (fun K54 hK55 => ?_)
  refine WC.block ?_
  refine WCs (fun K56 hK57 => ?_)
  refine WCg (WLr 1 [(17, .int .i64 1)] (fun _ => by kernel_rfl) ?_)
  refine WLi (some ⟨B, 0, none⟩) 3 3 18 .i64 1 B 0 1 1 (by kernel_rfl) rfl (by omega) (by omega) 1 (by first | (simp; done) | omega) ?_
  refine WL.load 22 (.pointer (some ⟨B, 1, none⟩)) (.slice A1 n1 c1) 19 (by kernel_rfl) (run_ld (hC24.get 0 rfl) rfl) ?_
  refine WLr 2 [(4, .slice A1 n1 c1), (3, .int .i64 1)] (fun _ => by kernel_rfl) (WLd rfl (QXn (hK57 _ _ ?_)))
  refine WCs (fun K58 hK59 => ?_)
  refine WCg (WLr 3 [(22, .int .i64 0), (21, .int .i64 (n1 : Int)), (20, .slice A1 n1 c1)] (fun _ => by kernel_rfl) (WLd rfl (QXn (hK59 _ _ ?_))))
  refine WC.block ?_
  refine WC.loop (fun m_ E_ w_ => ∃ (i1 : Nat), m_ = n1 - i1 ∧ E_ = [(0, .slice (some ⟨B, 0, none⟩) 3 3), (3, .int .i64 1), (4, .slice A1 n1 c1), (13, .slice (some ⟨B, 0, none⟩) 3 3), (14, .int .i64 3), (15, .int .i64 1), (20, .slice A1 n1 c1), (21, .int .i64 (n1 : Int)), (22, .int .i64 (i1 : Int))] ∧ Cx w (B :: (blk (.slice A0 n0 c0) ++ (blk (.slice A1 n1 c1) ++ blk (.slice A2 n2 c2)))) w_ [(B, .cells #[.slice A0 n0 c0, .slice A1 n1 c1, .slice A2 n2 c2] 22 (0, 0))] [blk (.slice A0 n0 c0), blk (.slice A1 n1 c1), blk (.slice A2 n2 c2)] ∧ World.ownsRow w_ 0 5 1 (.slice A2 n2 c2) n2 (x2.flatMap (Go.Tw.encI .u8)) ∧ World.ownsRow w_ 0 5 1 (.slice A0 n0 c0) n0 ((mkL 0 x0 n0).flatMap (Go.Tw.encI .u8)) ∧ World.ownsRow w_ 0 5 1 (.slice A1 n1 c1) n1 ((mkL 1 x1 i1).flatMap (Go.Tw.encI .u8)) ∧ (i1 ≤ n1)) ⟨_, _, ⟨0, rfl, rfl, hC24, r2_m22, ho47, (by rw [mkL_zero]; exact r1_m22), Nat.zero_le _⟩, sub_of ⟨rfl, rfl, rfl, rfl, rfl, rfl, rfl, rfl, rfl, trivial⟩⟩ (fun m63 E_ w64 K60 hK61 hI62 => ?_)
  obtain ⟨i1, rfl, rfl, hC65, r2_m63, r0_m63, hrow1, hi1⟩ := hI62
  refine WCs (fun K66 hK67 => ?_)
  refine WCg (WLr 1 [(23, .bool (decide ((i1 : Int) < (n1 : Int))))] (fun _ => by kernel_rfl) (WLd rfl (QXn (hK67 _ _ ?_))))
  refine WCs (fun K68 hK69 => ?_)
  refine WCa 23 (decide ((i1 : Int) < (n1 : Int))) rfl (fun t70b => ?_) (fun t70b => ?_)
  ·
   have t70 : (i1 : Int) < (n1 : Int) := by have q_ := of_decide_eq_true t70b; omega
   refine WCt rfl ?_
   refine WC.skip ?_
   refine QXn (hK69 _ _ ?_)
   refine WCs (fun K71 hK72 => ?_)
   refine WC.block ?_
   refine WCs (fun K73 hK74 => ?_)
   refine WCg (WLr 2 [(5, .int .i64 (i1 : Int)), (24, .int .i64 (i1 : Int))] (fun _ => by kernel_rfl) (WLd rfl (QXn (hK74 _ _ ?_))))
   refine WCg (WLr 6 [(30, .int .i64 (IntKind.i64.wrap (7 * (i1 : Int)))), (29, .int .i64 (i1 : Int)), (28, .int .i64 31), (27, .int .i64 1), (26, .int .i64 (i1 : Int)), (25, .slice A1 n1 c1)] (fun _ => by kernel_rfl) ?_)
   refine WLt (show (.int .i64 (IntKind.i64.wrap (7 * (i1 : Int))) : Value) = .int .i64 (7 * (i1 : Int)) from by rw [wrap_in_i64 (7 * (i1 : Int)) (by omega) (by omega)]) ?_
   refine WLr 1 [(31, .int .i64 (IntKind.i64.wrap (31 + (7 * (i1 : Int)))))] (fun _ => by kernel_rfl) ?_
   refine WLt (show (.int .i64 (IntKind.i64.wrap (31 + (7 * (i1 : Int)))) : Value) = .int .i64 (31 + (7 * (i1 : Int))) from by rw [wrap_in_i64 (31 + (7 * (i1 : Int))) (by omega) (by omega)]) ?_
   refine WLr 1 [(32, .int .i64 (IntKind.i64.wrap ((31 + (7 * (i1 : Int))) + 1)))] (fun _ => by kernel_rfl) ?_
   refine WLt (show (.int .i64 (IntKind.i64.wrap ((31 + (7 * (i1 : Int))) + 1)) : Value) = .int .i64 ((31 + (7 * (i1 : Int))) + 1) from by rw [wrap_in_i64 ((31 + (7 * (i1 : Int))) + 1) (by omega) (by omega)]) ?_
   refine WLr 1 [(33, .int .u8 (IntKind.u8.wrap ((31 + (7 * (i1 : Int))) + 1)))] (fun _ => by kernel_rfl) ?_
   refine WLt (show (.int .u8 (IntKind.u8.wrap ((31 + (7 * (i1 : Int))) + 1)) : Value) = .int .u8 (mkA 1 i1) from by simp [mkA]) ?_
   have hn79 := own_count (Go.Tw.encI_len _) (by decide) hrow1
   obtain ⟨e75, he76⟩ := get_some (xs := (mkL 1 x1 i1)) (i := i1) (by omega)
   obtain ⟨b77, hA78⟩ := own_addr (by decide) (Go.Tw.encI_len _) hrow1 he76
   refine WLi A1 n1 c1 34 .i64 (i1 : Int) b77 0 i1 1 (by kernel_rfl) hA78 (by omega) (by omega) i1 (by first | (simp; done) | omega) ?_
   obtain ⟨w80, hr81, hF82, ho84, hC83⟩ := stoE_run Try.prog (Go.Tw.encI_len _) hC65 1 hA78 rfl hrow1 i1 0 (x := e75) he76 (mkA 1 i1) [.int .u8 (mkA 1 i1)] rfl 5 (.int .u8 (mkA 1 i1)) (i1) rfl rfl rfl (by first | rfl | simp [Nat.add_assoc])
   refine WL.semU (Instr.storeAt 5 (.pointer (some ⟨b77, i1, none⟩)) (.int .u8 (mkA 1 i1))) (by kernel_rfl) hr81 ?_
   have ho85 := own_fr r2_m63 hF82 (hC65.disj 2 1 rfl rfl (by decide))
   have ho86 := own_fr r0_m63 hF82 (hC65.disj 0 1 rfl rfl (by decide))
   refine WLd rfl ?_
   refine QXb ?_
   refine QXn (hK72 _ _ ?_)
   refine WCg (WLr 1 [(35, .int .i64 (IntKind.i64.wrap ((i1 : Int) + 1)))] (fun _ => by kernel_rfl) ?_)
   refine WLt (show (.int .i64 (IntKind.i64.wrap ((i1 : Int) + 1)) : Value) = .int .i64 ((i1 : Int) + 1) from by rw [wrap_in_i64 ((i1 : Int) + 1) (by omega) (by omega)]) ?_
   refine WLr 1 [(22, .int .i64 ((i1 : Int) + 1))] (fun _ => by kernel_rfl) ?_
   refine WLd rfl ?_
   refine QXn ?_
   have hC87 := hC83.pick [0] [0, 1, 2] rfl rfl
   refine fun a_ ha_ => hK61 _ _ _ ?_ ⟨i1 + 1, rfl, rfl, hC87, ho85, ho86, (by rw [← mkL_set (by omega)]; exact ho84), by omega⟩ a_ (ha_.weaken (sub_of ⟨rfl, rfl, rfl, rfl, rfl, rfl, rfl, rfl, rfl, trivial⟩))
   omega
  ·
   have t70 : (n1 : Int) ≤ (i1 : Int) := by have q_ := of_decide_eq_false t70b; omega
   refine WCf rfl ?_
   have ho88 := hrow1
   rw [show i1 = n1 from by omega] at ho88
   skip
   refine WC.exit ?_
   refine QXe ?_
   refine QXe ?_
   refine QX.block_hit ?_
   refine QXb ?_
   refine QXn (hK55 _ _ ?_)
   refine WCg (WLr 2 [(15, .int .i64 2), (36, .int .i64 2)] (fun _ => by kernel_rfl) ?_)
   refine WLd rfl ?_
   refine QXn ?_
   refine fun a_ ha_ => hK49 [(0, .slice (some ⟨B, 0, none⟩) 3 3), (13, .slice (some ⟨B, 0, none⟩) 3 3), (14, .int .i64 3), (15, .int .i64 2)] _ ?_ a_ (ha_.weaken (sub_of ⟨rfl, rfl, rfl, rfl, trivial⟩))
   refine Rounds.round (fun K89 hK90 => ?_)
   refine WCs (fun K91 hK92 => ?_)
   refine WCg (WLr 1 [(16, .bool true)] (fun _ => by kernel_rfl) (WLd rfl (QXn (hK92 _ _ ?_))))
   refine WCs (fun K93 hK94 => ?_)
   refine WCt rfl ?_
   refine WC.skip ?_
   refine QXn (hK94 _ _ ?_)
   refine WCs (fun K95 hK96 => ?_)
   refine WC.block ?_
   refine WCs (fun K97 hK98 => ?_)
   refine WCg (WLr 1 [(17, .int .i64 2)] (fun _ => by kernel_rfl) ?_)
   refine WLi (some ⟨B, 0, none⟩) 3 3 18 .i64 2 B 0 2 1 (by kernel_rfl) rfl (by omega) (by omega) 2 (by first | (simp; done) | omega) ?_
   refine WL.load 22 (.pointer (some ⟨B, 2, none⟩)) (.slice A2 n2 c2) 19 (by kernel_rfl) (run_ld (hC65.get 0 rfl) rfl) ?_
   refine WLr 2 [(4, .slice A2 n2 c2), (3, .int .i64 2)] (fun _ => by kernel_rfl) (WLd rfl (QXn (hK98 _ _ ?_)))
   refine WCs (fun K99 hK100 => ?_)
   refine WCg (WLr 3 [(22, .int .i64 0), (21, .int .i64 (n2 : Int)), (20, .slice A2 n2 c2)] (fun _ => by kernel_rfl) (WLd rfl (QXn (hK100 _ _ ?_))))
   refine WC.block ?_
   refine WC.loop (fun m_ E_ w_ => ∃ (i2 : Nat), m_ = n2 - i2 ∧ E_ = [(0, .slice (some ⟨B, 0, none⟩) 3 3), (3, .int .i64 2), (4, .slice A2 n2 c2), (13, .slice (some ⟨B, 0, none⟩) 3 3), (14, .int .i64 3), (15, .int .i64 2), (20, .slice A2 n2 c2), (21, .int .i64 (n2 : Int)), (22, .int .i64 (i2 : Int))] ∧ Cx w (B :: (blk (.slice A0 n0 c0) ++ (blk (.slice A1 n1 c1) ++ blk (.slice A2 n2 c2)))) w_ [(B, .cells #[.slice A0 n0 c0, .slice A1 n1 c1, .slice A2 n2 c2] 22 (0, 0))] [blk (.slice A0 n0 c0), blk (.slice A1 n1 c1), blk (.slice A2 n2 c2)] ∧ World.ownsRow w_ 0 5 1 (.slice A0 n0 c0) n0 ((mkL 0 x0 n0).flatMap (Go.Tw.encI .u8)) ∧ World.ownsRow w_ 0 5 1 (.slice A1 n1 c1) n1 ((mkL 1 x1 n1).flatMap (Go.Tw.encI .u8)) ∧ World.ownsRow w_ 0 5 1 (.slice A2 n2 c2) n2 ((mkL 2 x2 i2).flatMap (Go.Tw.encI .u8)) ∧ (i2 ≤ n2)) ⟨_, _, ⟨0, rfl, rfl, hC65, r0_m63, ho88, (by rw [mkL_zero]; exact r2_m63), Nat.zero_le _⟩, sub_of ⟨rfl, rfl, rfl, rfl, rfl, rfl, rfl, rfl, rfl, trivial⟩⟩ (fun m104 E_ w105 K101 hK102 hI103 => ?_)
   obtain ⟨i2, rfl, rfl, hC106, r0_m104, r1_m104, hrow2, hi2⟩ := hI103
   refine WCs (fun K107 hK108 => ?_)
   refine WCg (WLr 1 [(23, .bool (decide ((i2 : Int) < (n2 : Int))))] (fun _ => by kernel_rfl) (WLd rfl (QXn (hK108 _ _ ?_))))
   refine WCs (fun K109 hK110 => ?_)
   refine WCa 23 (decide ((i2 : Int) < (n2 : Int))) rfl (fun t111b => ?_) (fun t111b => ?_)
   ·
    have t111 : (i2 : Int) < (n2 : Int) := by have q_ := of_decide_eq_true t111b; omega
    refine WCt rfl ?_
    refine WC.skip ?_
    refine QXn (hK110 _ _ ?_)
    refine WCs (fun K112 hK113 => ?_)
    refine WC.block ?_
    refine WCs (fun K114 hK115 => ?_)
    refine WCg (WLr 2 [(5, .int .i64 (i2 : Int)), (24, .int .i64 (i2 : Int))] (fun _ => by kernel_rfl) (WLd rfl (QXn (hK115 _ _ ?_))))
    refine WCg (WLr 6 [(30, .int .i64 (IntKind.i64.wrap (7 * (i2 : Int)))), (29, .int .i64 (i2 : Int)), (28, .int .i64 62), (27, .int .i64 2), (26, .int .i64 (i2 : Int)), (25, .slice A2 n2 c2)] (fun _ => by kernel_rfl) ?_)
    refine WLt (show (.int .i64 (IntKind.i64.wrap (7 * (i2 : Int))) : Value) = .int .i64 (7 * (i2 : Int)) from by rw [wrap_in_i64 (7 * (i2 : Int)) (by omega) (by omega)]) ?_
    refine WLr 1 [(31, .int .i64 (IntKind.i64.wrap (62 + (7 * (i2 : Int)))))] (fun _ => by kernel_rfl) ?_
    refine WLt (show (.int .i64 (IntKind.i64.wrap (62 + (7 * (i2 : Int)))) : Value) = .int .i64 (62 + (7 * (i2 : Int))) from by rw [wrap_in_i64 (62 + (7 * (i2 : Int))) (by omega) (by omega)]) ?_
    refine WLr 1 [(32, .int .i64 (IntKind.i64.wrap ((62 + (7 * (i2 : Int))) + 1)))] (fun _ => by kernel_rfl) ?_
    refine WLt (show (.int .i64 (IntKind.i64.wrap ((62 + (7 * (i2 : Int))) + 1)) : Value) = .int .i64 ((62 + (7 * (i2 : Int))) + 1) from by rw [wrap_in_i64 ((62 + (7 * (i2 : Int))) + 1) (by omega) (by omega)]) ?_
    refine WLr 1 [(33, .int .u8 (IntKind.u8.wrap ((62 + (7 * (i2 : Int))) + 1)))] (fun _ => by kernel_rfl) ?_
    refine WLt (show (.int .u8 (IntKind.u8.wrap ((62 + (7 * (i2 : Int))) + 1)) : Value) = .int .u8 (mkA 2 i2) from by simp [mkA]) ?_
    have hn120 := own_count (Go.Tw.encI_len _) (by decide) hrow2
    obtain ⟨e116, he117⟩ := get_some (xs := (mkL 2 x2 i2)) (i := i2) (by omega)
    obtain ⟨b118, hA119⟩ := own_addr (by decide) (Go.Tw.encI_len _) hrow2 he117
    refine WLi A2 n2 c2 34 .i64 (i2 : Int) b118 0 i2 1 (by kernel_rfl) hA119 (by omega) (by omega) i2 (by first | (simp; done) | omega) ?_
    obtain ⟨w121, hr122, hF123, ho125, hC124⟩ := stoE_run Try.prog (Go.Tw.encI_len _) hC106 2 hA119 rfl hrow2 i2 0 (x := e116) he117 (mkA 2 i2) [.int .u8 (mkA 2 i2)] rfl 5 (.int .u8 (mkA 2 i2)) (i2) rfl rfl rfl (by first | rfl | simp [Nat.add_assoc])
    refine WL.semU (Instr.storeAt 5 (.pointer (some ⟨b118, i2, none⟩)) (.int .u8 (mkA 2 i2))) (by kernel_rfl) hr122 ?_
    have ho126 := own_fr r0_m104 hF123 (hC106.disj 0 2 rfl rfl (by decide))
    have ho127 := own_fr r1_m104 hF123 (hC106.disj 1 2 rfl rfl (by decide))
    refine WLd rfl ?_
    refine QXb ?_
    refine QXn (hK113 _ _ ?_)
    refine WCg (WLr 1 [(35, .int .i64 (IntKind.i64.wrap ((i2 : Int) + 1)))] (fun _ => by kernel_rfl) ?_)
    refine WLt (show (.int .i64 (IntKind.i64.wrap ((i2 : Int) + 1)) : Value) = .int .i64 ((i2 : Int) + 1) from by rw [wrap_in_i64 ((i2 : Int) + 1) (by omega) (by omega)]) ?_
    refine WLr 1 [(22, .int .i64 ((i2 : Int) + 1))] (fun _ => by kernel_rfl) ?_
    refine WLd rfl ?_
    refine QXn ?_
    have hC128 := hC124.pick [0] [0, 1, 2] rfl rfl
    refine fun a_ ha_ => hK102 _ _ _ ?_ ⟨i2 + 1, rfl, rfl, hC128, ho126, ho127, (by rw [← mkL_set (by omega)]; exact ho125), by omega⟩ a_ (ha_.weaken (sub_of ⟨rfl, rfl, rfl, rfl, rfl, rfl, rfl, rfl, rfl, trivial⟩))
    omega
   ·
    have t111 : (n2 : Int) ≤ (i2 : Int) := by have q_ := of_decide_eq_false t111b; omega
    refine WCf rfl ?_
    have ho129 := hrow2
    rw [show i2 = n2 from by omega] at ho129
    skip
    refine WC.exit ?_
    refine QXe ?_
    refine QXe ?_
    refine QX.block_hit ?_
    refine QXb ?_
    refine QXn (hK96 _ _ ?_)
    refine WCg (WLr 2 [(15, .int .i64 3), (36, .int .i64 3)] (fun _ => by kernel_rfl) ?_)
    refine WLd rfl ?_
    refine QXn ?_
    refine fun a_ ha_ => hK90 [(0, .slice (some ⟨B, 0, none⟩) 3 3), (13, .slice (some ⟨B, 0, none⟩) 3 3), (14, .int .i64 3), (15, .int .i64 3)] _ ?_ a_ (ha_.weaken (sub_of ⟨rfl, rfl, rfl, rfl, trivial⟩))
    refine Rounds.round (fun K130 hK131 => ?_)
    refine WCs (fun K132 hK133 => ?_)
    refine WCg (WLr 1 [(16, .bool false)] (fun _ => by kernel_rfl) (WLd rfl (QXn (hK133 _ _ ?_))))
    refine WCs (fun K134 hK135 => ?_)
    refine WCf rfl ?_
    have hC136 := Cx.dbl (Cx.dbl (Cx.dbl hC106 0 rfl) 1 rfl) 2 rfl
    have hg137 := grp_of r0_m104 hx0
    have hg138 := grp_of r1_m104 hx1
    have hg139 := grp_of ho129 hx2
    skip
    refine WC.exit ?_
    refine QXe ?_
    refine QXe ?_
    refine QX.block_hit ?_
    refine QXn (hK4 _ _ ?_)
    refine WCs (fun K140 hK141 => ?_)
    refine WCg ?_
    refine WL.newM hC136 (fun b => .slice (some ⟨b, 0, none⟩) 0 0) (.cells #[] 22) 37 (fun _ => by kernel_rfl) (fun g142 w143 hb146 hF144 hC145 => ?_)
    have hf147 := Grp.carry hg137 hF144 (by simp)
    have hf148 := Grp.carry hg138 hF144 (by simp)
    have hf149 := Grp.carry hg139 hF144 (by simp)
    refine WLr 1 [(6, .slice (some ⟨g142, 0, none⟩) 0 0)] (fun _ => by kernel_rfl) (WLd rfl (QXn (hK141 _ _ ?_)))
    refine WCs (fun K150 hK151 => ?_)
    refine WCs (fun K152 hK153 => ?_)
    refine WCg (WLr 3 [(40, .int .i64 0), (39, .int .i64 3), (38, .slice (some ⟨B, 0, none⟩) 3 3)] (fun _ => by kernel_rfl) (WLd rfl (QXn (hK153 _ _ ?_))))
    refine WC.block ?_
    refine WC.unroll ?_
    refine Rounds.round (fun K154 hK155 => ?_)
    refine WCs (fun K156 hK157 => ?_)
    refine WCg (WLr 1 [(41, .bool true)] (fun _ => by kernel_rfl) (WLd rfl (QXn (hK157 _ _ ?_))))
    refine WCs (fun K158 hK159 => ?_)
    refine WCt rfl ?_
    refine WC.skip ?_
    refine QXn (hK159 _ _ ?_)
    refine WCs (fun K160 hK161 => ?_)
    refine WC.block ?_
    refine WCs (fun K162 hK163 => ?_)
    refine WCg (WLr 1 [(42, .int .i64 0)] (fun _ => by kernel_rfl) ?_)
    refine WLi (some ⟨B, 0, none⟩) 3 3 43 .i64 0 B 0 0 1 (by kernel_rfl) rfl (by omega) (by omega) 0 (by first | (simp; done) | omega) ?_
    refine WL.load 22 (.pointer (some ⟨B, 0, none⟩)) (.slice A0 n0 c0) 44 (by kernel_rfl) (run_ld (hC145.get 0 rfl) rfl) ?_
    refine WLr 2 [(8, .slice A0 n0 c0), (7, .int .i64 0)] (fun _ => by kernel_rfl) (WLd rfl (QXn (hK163 _ _ ?_)))
    refine WCs (fun K164 hK165 => ?_)
    refine WCg (WLr 3 [(9, .int .i64 (n0 : Int)), (46, .int .i64 (n0 : Int)), (45, .slice A0 n0 c0)] (fun _ => by kernel_rfl) (WLd rfl (QXn (hK165 _ _ ?_))))
    refine WCs (fun K166 hK167 => ?_)
    refine WC.block ?_
    refine WC.loop (fun m_ E_ w_ => ∃ (B0 : Option Addr) (m0 d0 : Nat), m_ = n0 + 12 - m0 ∧ E_ = [(0, .slice (some ⟨B, 0, none⟩) 3 3), (6, .slice (some ⟨g142, 0, none⟩) 0 0), (7, .int .i64 0), (8, .slice B0 m0 d0), (9, .int .i64 (n0 : Int)), (38, .slice (some ⟨B, 0, none⟩) 3 3), (39, .int .i64 3), (40, .int .i64 0)] ∧ Cx w (B :: (blk (.slice A0 n0 c0) ++ (blk (.slice A1 n1 c1) ++ blk (.slice A2 n2 c2)))) w_ [(B, .cells #[.slice A0 n0 c0, .slice A1 n1 c1, .slice A2 n2 c2] 22 (0, 0)), (g142, .cells #[] 22)] [blk (.slice A0 n0 c0) ++ blk (.slice B0 m0 d0), blk (.slice A1 n1 c1) ++ blk (.slice A1 n1 c1), blk (.slice A2 n2 c2) ++ blk (.slice A2 n2 c2)] ∧ Grp w_ 5 (mkE 1) A1 n1 c1 A1 n1 c1 ∧ Grp w_ 5 (mkE 2) A2 n2 c2 A2 n2 c2 ∧ Grp w_ 5 (mkE 0) A0 n0 c0 B0 m0 d0 ∧ (m0 ≤ n0 + 12)) ⟨_, _, ⟨A0, n0, c0, rfl, rfl, hC145, hf148, hf149, hf147, by omega⟩, sub_of ⟨rfl, rfl, rfl, rfl, rfl, rfl, rfl, rfl, trivial⟩⟩ (fun m171 E_ w172 K168 hK169 hI170 => ?_)
    obtain ⟨B0, m0, d0, rfl, rfl, hC173, g1_m171, g2_m171, hgr0, hm0⟩ := hI170
    have hle0 := hgr0.le
    refine WCs (fun K174 hK175 => ?_)
    refine WCs (fun K176 hK177 => ?_)
    refine WCg (WLr 4 [(50, .int .i64 (IntKind.i64.wrap ((n0 : Int) + 12))), (49, .int .i64 (n0 : Int)), (48, .int .i64 (m0 : Int)), (47, .slice B0 m0 d0)] (fun _ => by kernel_rfl) ?_)
    refine WLt (show (.int .i64 (IntKind.i64.wrap ((n0 : Int) + 12)) : Value) = .int .i64 ((n0 : Int) + 12) from by rw [wrap_in_i64 ((n0 : Int) + 12) (by omega) (by omega)]) ?_
    refine WLr 1 [(51, .bool (decide ((m0 : Int) < ((n0 : Int) + 12))))] (fun _ => by kernel_rfl) (WLd rfl (QXn (hK177 _ _ ?_)))
    refine WCa 51 (decide ((m0 : Int) < ((n0 : Int) + 12))) rfl (fun t178b => ?_) (fun t178b => ?_)
    ·
     have t178 : (m0 : Int) < ((n0 : Int) + 12) := by have q_ := of_decide_eq_true t178b; omega
     refine WCt rfl ?_
     refine WC.skip ?_
     refine QXn (hK175 _ _ ?_)
     refine WC.block ?_
     refine WCg (WLr 6 [(57, .int .i64 (IntKind.i64.wrap (7 * (m0 : Int)))), (56, .int .i64 (m0 : Int)), (55, .slice B0 m0 d0), (54, .int .i64 0), (53, .int .i64 0), (52, .slice B0 m0 d0)] (fun _ => by kernel_rfl) ?_)
     refine WLt (show (.int .i64 (IntKind.i64.wrap (7 * (m0 : Int))) : Value) = .int .i64 (7 * (m0 : Int)) from by rw [wrap_in_i64 (7 * (m0 : Int)) (by omega) (by omega)]) ?_
     refine WLr 1 [(58, .int .i64 (IntKind.i64.wrap (0 + (7 * (m0 : Int)))))] (fun _ => by kernel_rfl) ?_
     refine WLt (show (.int .i64 (IntKind.i64.wrap (0 + (7 * (m0 : Int)))) : Value) = .int .i64 (0 + (7 * (m0 : Int))) from by rw [wrap_in_i64 (0 + (7 * (m0 : Int))) (by omega) (by omega)]) ?_
     refine WLr 1 [(59, .int .i64 (IntKind.i64.wrap ((0 + (7 * (m0 : Int))) + 1)))] (fun _ => by kernel_rfl) ?_
     refine WLt (show (.int .i64 (IntKind.i64.wrap ((0 + (7 * (m0 : Int))) + 1)) : Value) = .int .i64 ((0 + (7 * (m0 : Int))) + 1) from by rw [wrap_in_i64 ((0 + (7 * (m0 : Int))) + 1) (by omega) (by omega)]) ?_
     refine WLr 1 [(60, .int .u8 (IntKind.u8.wrap ((0 + (7 * (m0 : Int))) + 1)))] (fun _ => by kernel_rfl) ?_
     refine WLt (show (.int .u8 (IntKind.u8.wrap ((0 + (7 * (m0 : Int))) + 1)) : Value) = .int .u8 (mkA 0 m0) from by simp [mkA]) ?_
     refine WL.newM hC173 (fun b => .slice (some ⟨b, 0, none⟩) 1 1) (.cells #[.int .u8 (mkA 0 m0)] 5) 61 (fun _ => by kernel_rfl) (fun g179 w180 hb183 hF181 hC182 => ?_)
     have hf184 := Grp.carry g1_m171 hF181 (by simp)
     have hf185 := Grp.carry g2_m171 hF181 (by simp)
     have hf186 := Grp.carry hgr0 hF181 (by simp)
     obtain ⟨B187, d188, w189, hr190, hg191, hF192, hC193⟩ := grp_app (P := Try.prog) hC182 0 rfl hf186 22 22 1 1 (some ⟨g179, 0, none⟩) (by kernel_rfl) [.int .u8 (mkA 0 m0)] rfl rfl (srcOk.blk 1 (hC182.get 2 rfl)) rfl (by simp only [maxLen]; omega) (by omega)
     refine WL.sem (Builtin.append_ #[22, 22] 22 #[.slice B0 m0 d0, .slice (some ⟨g179, 0, none⟩) 1 1]) 62 (.slice B187 (m0 + 1) d188) (by kernel_rfl) hr190 ?_
     have hf194 := Grp.carry hf184 hF192 (hC182.disj 1 0 rfl rfl (by decide))
     have hf195 := Grp.carry hf185 hF192 (hC182.disj 2 0 rfl rfl (by decide))
     refine WLr 1 [(8, .slice B187 (m0 + 1) d188)] (fun _ => by kernel_rfl) ?_
     refine WLd rfl ?_
     refine QXb ?_
     refine QXn ?_
     have hC196 := hC193.pick [0, 1] [0, 1, 2] rfl rfl
     refine fun a_ ha_ => hK169 _ _ _ ?_ ⟨B187, m0 + 1, d188, rfl, rfl, hC196, hf194, hf195, hg191, by omega⟩ a_ (ha_.weaken (sub_of ⟨rfl, rfl, rfl, rfl, rfl, rfl, rfl, rfl, trivial⟩))
     omega
    ·
     have t178 : ((n0 : Int) + 12) ≤ (m0 : Int) := by have q_ := of_decide_eq_false t178b; omega
     refine WCf rfl ?_
     refine WC.exit ?_
     refine QXe ?_
     refine QXe ?_
     refine QX.block_hit ?_
     refine QXn (hK167 _ _ ?_)
     refine WCg (WLr 2 [(64, .slice B0 m0 d0), (63, .slice (some ⟨g142, 0, none⟩) 0 0)] (fun _ => by kernel_rfl) ?_)
     refine WL.newM hC173 (fun b => .slice (some ⟨b, 0, none⟩) 1 1) (.cells #[.slice B0 m0 d0] 22) 65 (fun _ => by kernel_rfl) (fun g197 w198 hb201 hF199 hC200 => ?_)
     have hf202 := Grp.carry g1_m171 hF199 (by simp)
     have hf203 := Grp.carry g2_m171 hF199 (by simp)
     have hf204 := Grp.carry hgr0 hF199 (by simp)
     have ho206 : World.ownsRow w198 0 22 1 (.slice (some ⟨g142, 0, none⟩) 0 0) 0 [] := own_of_blk (Nat.zero_le _) (hC200.get 1 rfl) (Nat.le_refl _) (Nat.zero_le _) (by simp) rfl
     have hC205 := hC200.toF 1 rfl
     obtain ⟨v208, w209, hr210, ho211, hF212, hC213, hnil214, hsub215⟩ := app_run Try.prog hC205 3 (v := .slice (some ⟨g142, 0, none⟩) 0 0) rfl 36 36 22 1 24 0 1 1 (some ⟨g197, 0, none⟩) rfl ho206 [.slice B0 m0 d0] rfl (srcOk.blk 1 (hC205.get 1 rfl)) rfl (by simp only [maxLen]; omega) (by omega)
     have ho219 := own_snoc (enc := cellB) (ys := []) (⟨B0, m0, d0, ([] : List Int)⟩ : BRow) ho211
     obtain ⟨A216, c217, rfl, hle218⟩ := own_form ho219
     refine WL.sem (Builtin.append_ #[36, 36] 36 #[.slice (some ⟨g142, 0, none⟩) 0 0, .slice (some ⟨g197, 0, none⟩) 1 1]) 66 (.slice A216 1 c217) (by kernel_rfl) hr210 ?_
     have hf220 := Grp.carry hf202 hF212 (hC205.disj 1 3 rfl rfl (by decide))
     have hf221 := Grp.carry hf203 hF212 (hC205.disj 2 3 rfl rfl (by decide))
     have hf222 := Grp.carry hf204 hF212 (hC205.disj 0 3 rfl rfl (by decide))
     refine WLr 1 [(6, .slice A216 1 c217)] (fun _ => by kernel_rfl) ?_
     refine WLd rfl ?_
     refine QXb ?_
     refine QXn (hK161 _ _ ?_)
     refine WCg (WLr 2 [(40, .int .i64 1), (67, .int .i64 1)] (fun _ => by kernel_rfl) ?_)
     refine WLd rfl ?_
     refine QXn ?_
     refine fun a_ ha_ => hK155 [(0, .slice (some ⟨B, 0, none⟩) 3 3), (6, .slice A216 1 c217), (38, .slice (some ⟨B, 0, none⟩) 3 3), (39, .int .i64 3), (40, .int .i64 1)] _ ?_ a_ (ha_.weaken (sub_of ⟨rfl, rfl, rfl, rfl, rfl, trivial⟩))
     refine Rounds.round (fun K223 hK224 => ?_)
     refine WCs (fun K225 hK226 => ?_)
     refine WCg (WLr 1 [(41, .bool true)] (fun _ => by kernel_rfl) (WLd rfl (QXn (hK226 _ _ ?_))))
     refine WCs (fun K227 hK228 => ?_)
     refine WCt rfl ?_
     refine WC.skip ?_
     refine QXn (hK228 _ _ ?_)
     refine WCs (fun K229 hK230 => ?_)
     refine WC.block ?_
     refine WCs (fun K231 hK232 => ?_)
     refine WCg (WLr 1 [(42, .int .i64 1)] (fun _ => by kernel_rfl) ?_)
     refine WLi (some ⟨B, 0, none⟩) 3 3 43 .i64 1 B 0 1 1 (by kernel_rfl) rfl (by omega) (by omega) 1 (by first | (simp; done) | omega) ?_
     refine WL.load 22 (.pointer (some ⟨B, 1, none⟩)) (.slice A1 n1 c1) 44 (by kernel_rfl) (run_ld (hC213.get 0 rfl) rfl) ?_
     refine WLr 2 [(8, .slice A1 n1 c1), (7, .int .i64 1)] (fun _ => by kernel_rfl) (WLd rfl (QXn (hK232 _ _ ?_)))
     refine WCs (fun K233 hK234 => ?_)
     refine WCg (WLr 3 [(9, .int .i64 (n1 : Int)), (46, .int .i64 (n1 : Int)), (45, .slice A1 n1 c1)] (fun _ => by kernel_rfl) (WLd rfl (QXn (hK234 _ _ ?_))))
     refine WCs (fun K235 hK236 => ?_)
     refine WC.block ?_
     refine WC.loop (fun m_ E_ w_ => ∃ (B1 : Option Addr) (m1 d1 : Nat), m_ = n1 + 12 - m1 ∧ E_ = [(0, .slice (some ⟨B, 0, none⟩) 3 3), (6, .slice A216 1 c217), (7, .int .i64 1), (8, .slice B1 m1 d1), (9, .int .i64 (n1 : Int)), (38, .slice (some ⟨B, 0, none⟩) 3 3), (39, .int .i64 3), (40, .int .i64 1)] ∧ Cx w (B :: (blk (.slice A0 n0 c0) ++ (blk (.slice A1 n1 c1) ++ blk (.slice A2 n2 c2)))) w_ [(B, .cells #[.slice A0 n0 c0, .slice A1 n1 c1, .slice A2 n2 c2] 22 (0, 0)), (g197, .cells #[.slice B0 m0 d0] 22)] [blk (.slice A0 n0 c0) ++ blk (.slice B0 m0 d0), blk (.slice A1 n1 c1) ++ blk (.slice B1 m1 d1), blk (.slice A2 n2 c2) ++ blk (.slice A2 n2 c2), blk (.slice A216 1 c217)] ∧ Grp w_ 5 (mkE 2) A2 n2 c2 A2 n2 c2 ∧ Grp w_ 5 (mkE 0) A0 n0 c0 B0 m0 d0 ∧ World.ownsRow w_ 0 22 1 (.slice A216 1 c217) 1 (([] ++ [(⟨B0, m0, d0, ([] : List Int)⟩ : BRow)]).flatMap cellB) ∧ Grp w_ 5 (mkE 1) A1 n1 c1 B1 m1 d1 ∧ (m1 ≤ n1 + 12)) ⟨_, _, ⟨A1, n1, c1, rfl, rfl, hC213, hf221, hf222, ho219, hf220, by omega⟩, sub_of ⟨rfl, rfl, rfl, rfl, rfl, rfl, rfl, rfl, trivial⟩⟩ (fun m240 E_ w241 K237 hK238 hI239 => ?_)
     obtain ⟨B1, m1, d1, rfl, rfl, hC242, g2_m240, g0_m240, row207_m240, hgr1, hm1⟩ := hI239
     have hle1 := hgr1.le
     refine WCs (fun K243 hK244 => ?_)
     refine WCs (fun K245 hK246 => ?_)
     refine WCg (WLr 4 [(50, .int .i64 (IntKind.i64.wrap ((n1 : Int) + 12))), (49, .int .i64 (n1 : Int)), (48, .int .i64 (m1 : Int)), (47, .slice B1 m1 d1)] (fun _ => by kernel_rfl) ?_)
     refine WLt (show (.int .i64 (IntKind.i64.wrap ((n1 : Int) + 12)) : Value) = .int .i64 ((n1 : Int) + 12) from by rw [wrap_in_i64 ((n1 : Int) + 12) (by omega) (by omega)]) ?_
     refine WLr 1 [(51, .bool (decide ((m1 : Int) < ((n1 : Int) + 12))))] (fun _ => by kernel_rfl) (WLd rfl (QXn (hK246 _ _ ?_)))
     refine WCa 51 (decide ((m1 : Int) < ((n1 : Int) + 12))) rfl (fun t247b => ?_) (fun t247b => ?_)
     ·
      have t247 : (m1 : Int) < ((n1 : Int) + 12) := by have q_ := of_decide_eq_true t247b; omega
      refine WCt rfl ?_
      refine WC.skip ?_
      refine QXn (hK244 _ _ ?_)
      refine WC.block ?_
      refine WCg (WLr 6 [(57, .int .i64 (IntKind.i64.wrap (7 * (m1 : Int)))), (56, .int .i64 (m1 : Int)), (55, .slice B1 m1 d1), (54, .int .i64 31), (53, .int .i64 1), (52, .slice B1 m1 d1)] (fun _ => by kernel_rfl) ?_)
      refine WLt (show (.int .i64 (IntKind.i64.wrap (7 * (m1 : Int))) : Value) = .int .i64 (7 * (m1 : Int)) from by rw [wrap_in_i64 (7 * (m1 : Int)) (by omega) (by omega)]) ?_
      refine WLr 1 [(58, .int .i64 (IntKind.i64.wrap (31 + (7 * (m1 : Int)))))] (fun _ => by kernel_rfl) ?_
      refine WLt (show (.int .i64 (IntKind.i64.wrap (31 + (7 * (m1 : Int)))) : Value) = .int .i64 (31 + (7 * (m1 : Int))) from by rw [wrap_in_i64 (31 + (7 * (m1 : Int))) (by omega) (by omega)]) ?_
      refine WLr 1 [(59, .int .i64 (IntKind.i64.wrap ((31 + (7 * (m1 : Int))) + 1)))] (fun _ => by kernel_rfl) ?_
      refine WLt (show (.int .i64 (IntKind.i64.wrap ((31 + (7 * (m1 : Int))) + 1)) : Value) = .int .i64 ((31 + (7 * (m1 : Int))) + 1) from by rw [wrap_in_i64 ((31 + (7 * (m1 : Int))) + 1) (by omega) (by omega)]) ?_
      refine WLr 1 [(60, .int .u8 (IntKind.u8.wrap ((31 + (7 * (m1 : Int))) + 1)))] (fun _ => by kernel_rfl) ?_
      refine WLt (show (.int .u8 (IntKind.u8.wrap ((31 + (7 * (m1 : Int))) + 1)) : Value) = .int .u8 (mkA 1 m1) from by simp [mkA]) ?_
      refine WL.newM hC242 (fun b => .slice (some ⟨b, 0, none⟩) 1 1) (.cells #[.int .u8 (mkA 1 m1)] 5) 61 (fun _ => by kernel_rfl) (fun g248 w249 hb252 hF250 hC251 => ?_)
      have hf253 := Grp.carry g2_m240 hF250 (by simp)
      have hf254 := Grp.carry g0_m240 hF250 (by simp)
      have ho255 := own_fr row207_m240 hF250 (by simp)
      have hf256 := Grp.carry hgr1 hF250 (by simp)
      obtain ⟨B257, d258, w259, hr260, hg261, hF262, hC263⟩ := grp_app (P := Try.prog) hC251 1 rfl hf256 22 22 1 1 (some ⟨g248, 0, none⟩) (by kernel_rfl) [.int .u8 (mkA 1 m1)] rfl rfl (srcOk.blk 1 (hC251.get 2 rfl)) rfl (by simp only [maxLen]; omega) (by omega)
      refine WL.sem (Builtin.append_ #[22, 22] 22 #[.slice B1 m1 d1, .slice (some ⟨g248, 0, none⟩) 1 1]) 62 (.slice B257 (m1 + 1) d258) (by kernel_rfl) hr260 ?_
      have hf264 := Grp.carry hf253 hF262 (hC251.disj 2 1 rfl rfl (by decide))
      have hf265 := Grp.carry hf254 hF262 (hC251.disj 0 1 rfl rfl (by decide))
      have ho266 := own_fr ho255 hF262 (hC251.disj 3 1 rfl rfl (by decide))
      refine WLr 1 [(8, .slice B257 (m1 + 1) d258)] (fun _ => by kernel_rfl) ?_
      refine WLd rfl ?_
      refine QXb ?_
      refine QXn ?_
      have hC267 := hC263.pick [0, 1] [0, 1, 2, 3] rfl rfl
      refine fun a_ ha_ => hK238 _ _ _ ?_ ⟨B257, m1 + 1, d258, rfl, rfl, hC267, hf264, hf265, ho266, hg261, by omega⟩ a_ (ha_.weaken (sub_of ⟨rfl, rfl, rfl, rfl, rfl, rfl, rfl, rfl, trivial⟩))
      omega
     ·
      have t247 : ((n1 : Int) + 12) ≤ (m1 : Int) := by have q_ := of_decide_eq_false t247b; omega
      refine WCf rfl ?_
      refine WC.exit ?_
      refine QXe ?_
      refine QXe ?_
      refine QX.block_hit ?_
      refine QXn (hK236 _ _ ?_)
      refine WCg (WLr 2 [(64, .slice B1 m1 d1), (63, .slice A216 1 c217)] (fun _ => by kernel_rfl) ?_)
      refine WL.newM hC242 (fun b => .slice (some ⟨b, 0, none⟩) 1 1) (.cells #[.slice B1 m1 d1] 22) 65 (fun _ => by kernel_rfl) (fun g268 w269 hb272 hF270 hC271 => ?_)
      have hf273 := Grp.carry g2_m240 hF270 (by simp)
      have hf274 := Grp.carry g0_m240 hF270 (by simp)
      have ho275 := own_fr row207_m240 hF270 (by simp)
      have hf276 := Grp.carry hgr1 hF270 (by simp)
      obtain ⟨v277, w278, hr279, ho280, hF281, hC282, hnil283, hsub284⟩ := app_run Try.prog hC271 3 (v := .slice A216 1 c217) rfl 36 36 22 1 24 1 1 1 (some ⟨g268, 0, none⟩) rfl ho275 [.slice B1 m1 d1] rfl (srcOk.blk 1 (hC271.get 2 rfl)) rfl (by simp only [maxLen]; omega) (by omega)
      have ho288 := own_snoc (enc := cellB) (ys := [] ++ [(⟨B0, m0, d0, ([] : List Int)⟩ : BRow)]) (⟨B1, m1, d1, ([] : List Int)⟩ : BRow) ho280
      obtain ⟨A285, c286, rfl, hle287⟩ := own_form ho288
      refine WL.sem (Builtin.append_ #[36, 36] 36 #[.slice A216 1 c217, .slice (some ⟨g268, 0, none⟩) 1 1]) 66 (.slice A285 2 c286) (by kernel_rfl) hr279 ?_
      have hf289 := Grp.carry hf273 hF281 (hC271.disj 2 3 rfl rfl (by decide))
      have hf290 := Grp.carry hf274 hF281 (hC271.disj 0 3 rfl rfl (by decide))
      have hf291 := Grp.carry hf276 hF281 (hC271.disj 1 3 rfl rfl (by decide))
      refine WLr 1 [(6, .slice A285 2 c286)] (fun _ => by kernel_rfl) ?_
      refine WLd rfl ?_
      refine QXb ?_
      refine QXn (hK230 _ _ ?_)
      refine WCg (WLr 2 [(40, .int .i64 2), (67, .int .i64 2)] (fun _ => by kernel_rfl) ?_)
      refine WLd rfl ?_
      refine QXn ?_
      refine fun a_ ha_ => hK224 [(0, .slice (some ⟨B, 0, none⟩) 3 3), (6, .slice A285 2 c286), (38, .slice (some ⟨B, 0, none⟩) 3 3), (39, .int .i64 3), (40, .int .i64 2)] _ ?_ a_ (ha_.weaken (sub_of ⟨rfl, rfl, rfl, rfl, rfl, trivial⟩))
      refine Rounds.round (fun K292 hK293 => ?_)
      refine WCs (fun K294 hK295 => ?_)
      refine WCg (WLr 1 [(41, .bool true)] (fun _ => by kernel_rfl) (WLd rfl (QXn (hK295 _ _ ?_))))
      refine WCs (fun K296 hK297 => ?_)
      refine WCt rfl ?_
      refine WC.skip ?_
      refine QXn (hK297 _ _ ?_)
      refine WCs (fun K298 hK299 => ?_)
      refine WC.block ?_
      refine WCs (fun K300 hK301 => ?_)
      refine WCg (WLr 1 [(42, .int .i64 2)] (fun _ => by kernel_rfl) ?_)
      refine WLi (some ⟨B, 0, none⟩) 3 3 43 .i64 2 B 0 2 1 (by kernel_rfl) rfl (by omega) (by omega) 2 (by first | (simp; done) | omega) ?_
      refine WL.load 22 (.pointer (some ⟨B, 2, none⟩)) (.slice A2 n2 c2) 44 (by kernel_rfl) (run_ld (hC282.get 0 rfl) rfl) ?_
      refine WLr 2 [(8, .slice A2 n2 c2), (7, .int .i64 2)] (fun _ => by kernel_rfl) (WLd rfl (QXn (hK301 _ _ ?_)))
      refine WCs (fun K302 hK303 => ?_)
      refine WCg (WLr 3 [(9, .int .i64 (n2 : Int)), (46, .int .i64 (n2 : Int)), (45, .slice A2 n2 c2)] (fun _ => by kernel_rfl) (WLd rfl (QXn (hK303 _ _ ?_))))
      refine WCs (fun K304 hK305 => ?_)
      refine WC.block ?_
      refine WC.loop (fun m_ E_ w_ => ∃ (B2 : Option Addr) (m2 d2 : Nat), m_ = n2 + 12 - m2 ∧ E_ = [(0, .slice (some ⟨B, 0, none⟩) 3 3), (6, .slice A285 2 c286), (7, .int .i64 2), (8, .slice B2 m2 d2), (9, .int .i64 (n2 : Int)), (38, .slice (some ⟨B, 0, none⟩) 3 3), (39, .int .i64 3), (40, .int .i64 2)] ∧ Cx w (B :: (blk (.slice A0 n0 c0) ++ (blk (.slice A1 n1 c1) ++ blk (.slice A2 n2 c2)))) w_ [(B, .cells #[.slice A0 n0 c0, .slice A1 n1 c1, .slice A2 n2 c2] 22 (0, 0)), (g197, .cells #[.slice B0 m0 d0] 22), (g268, .cells #[.slice B1 m1 d1] 22)] [blk (.slice A0 n0 c0) ++ blk (.slice B0 m0 d0), blk (.slice A1 n1 c1) ++ blk (.slice B1 m1 d1), blk (.slice A2 n2 c2) ++ blk (.slice B2 m2 d2), blk (.slice A285 2 c286)] ∧ Grp w_ 5 (mkE 0) A0 n0 c0 B0 m0 d0 ∧ World.ownsRow w_ 0 22 1 (.slice A285 2 c286) 2 (([] ++ [(⟨B0, m0, d0, ([] : List Int)⟩ : BRow)] ++ [(⟨B1, m1, d1, ([] : List Int)⟩ : BRow)]).flatMap cellB) ∧ Grp w_ 5 (mkE 1) A1 n1 c1 B1 m1 d1 ∧ Grp w_ 5 (mkE 2) A2 n2 c2 B2 m2 d2 ∧ (m2 ≤ n2 + 12)) ⟨_, _, ⟨A2, n2, c2, rfl, rfl, hC282, hf290, ho288, hf291, hf289, by omega⟩, sub_of ⟨rfl, rfl, rfl, rfl, rfl, rfl, rfl, rfl, trivial⟩⟩ (fun m309 E_ w310 K306 hK307 hI308 => ?_)
      obtain ⟨B2, m2, d2, rfl, rfl, hC311, g0_m309, row207_m309, g1_m309, hgr2, hm2⟩ := hI308
      have hle2 := hgr2.le
      refine WCs (fun K312 hK313 => ?_)
      refine WCs (fun K314 hK315 => ?_)
      refine WCg (WLr 4 [(50, .int .i64 (IntKind.i64.wrap ((n2 : Int) + 12))), (49, .int .i64 (n2 : Int)), (48, .int .i64 (m2 : Int)), (47, .slice B2 m2 d2)] (fun _ => by kernel_rfl) ?_)
      refine WLt (show (.int .i64 (IntKind.i64.wrap ((n2 : Int) + 12)) : Value) = .int .i64 ((n2 : Int) + 12) from by rw [wrap_in_i64 ((n2 : Int) + 12) (by omega) (by omega)]) ?_
      refine WLr 1 [(51, .bool (decide ((m2 : Int) < ((n2 : Int) + 12))))] (fun _ => by kernel_rfl) (WLd rfl (QXn (hK315 _ _ ?_)))
      refine WCa 51 (decide ((m2 : Int) < ((n2 : Int) + 12))) rfl (fun t316b => ?_) (fun t316b => ?_)
      ·
       have t316 : (m2 : Int) < ((n2 : Int) + 12) := by have q_ := of_decide_eq_true t316b; omega
       refine WCt rfl ?_
       refine WC.skip ?_
       refine QXn (hK313 _ _ ?_)
       refine WC.block ?_
       refine WCg (WLr 6 [(57, .int .i64 (IntKind.i64.wrap (7 * (m2 : Int)))), (56, .int .i64 (m2 : Int)), (55, .slice B2 m2 d2), (54, .int .i64 62), (53, .int .i64 2), (52, .slice B2 m2 d2)] (fun _ => by kernel_rfl) ?_)
       refine WLt (show (.int .i64 (IntKind.i64.wrap (7 * (m2 : Int))) : Value) = .int .i64 (7 * (m2 : Int)) from by rw [wrap_in_i64 (7 * (m2 : Int)) (by omega) (by omega)]) ?_
       refine WLr 1 [(58, .int .i64 (IntKind.i64.wrap (62 + (7 * (m2 : Int)))))] (fun _ => by kernel_rfl) ?_
       refine WLt (show (.int .i64 (IntKind.i64.wrap (62 + (7 * (m2 : Int)))) : Value) = .int .i64 (62 + (7 * (m2 : Int))) from by rw [wrap_in_i64 (62 + (7 * (m2 : Int))) (by omega) (by omega)]) ?_
       refine WLr 1 [(59, .int .i64 (IntKind.i64.wrap ((62 + (7 * (m2 : Int))) + 1)))] (fun _ => by kernel_rfl) ?_
       refine WLt (show (.int .i64 (IntKind.i64.wrap ((62 + (7 * (m2 : Int))) + 1)) : Value) = .int .i64 ((62 + (7 * (m2 : Int))) + 1) from by rw [wrap_in_i64 ((62 + (7 * (m2 : Int))) + 1) (by omega) (by omega)]) ?_
       refine WLr 1 [(60, .int .u8 (IntKind.u8.wrap ((62 + (7 * (m2 : Int))) + 1)))] (fun _ => by kernel_rfl) ?_
       refine WLt (show (.int .u8 (IntKind.u8.wrap ((62 + (7 * (m2 : Int))) + 1)) : Value) = .int .u8 (mkA 2 m2) from by simp [mkA]) ?_
       refine WL.newM hC311 (fun b => .slice (some ⟨b, 0, none⟩) 1 1) (.cells #[.int .u8 (mkA 2 m2)] 5) 61 (fun _ => by kernel_rfl) (fun g317 w318 hb321 hF319 hC320 => ?_)
       have hf322 := Grp.carry g0_m309 hF319 (by simp)
       have ho323 := own_fr row207_m309 hF319 (by simp)
       have hf324 := Grp.carry g1_m309 hF319 (by simp)
       have hf325 := Grp.carry hgr2 hF319 (by simp)
       obtain ⟨B326, d327, w328, hr329, hg330, hF331, hC332⟩ := grp_app (P := Try.prog) hC320 2 rfl hf325 22 22 1 1 (some ⟨g317, 0, none⟩) (by kernel_rfl) [.int .u8 (mkA 2 m2)] rfl rfl (srcOk.blk 1 (hC320.get 3 rfl)) rfl (by simp only [maxLen]; omega) (by omega)
       refine WL.sem (Builtin.append_ #[22, 22] 22 #[.slice B2 m2 d2, .slice (some ⟨g317, 0, none⟩) 1 1]) 62 (.slice B326 (m2 + 1) d327) (by kernel_rfl) hr329 ?_
       have hf333 := Grp.carry hf322 hF331 (hC320.disj 0 2 rfl rfl (by decide))
       have ho334 := own_fr ho323 hF331 (hC320.disj 3 2 rfl rfl (by decide))
       have hf335 := Grp.carry hf324 hF331 (hC320.disj 1 2 rfl rfl (by decide))
       refine WLr 1 [(8, .slice B326 (m2 + 1) d327)] (fun _ => by kernel_rfl) ?_
       refine WLd rfl ?_
       refine QXb ?_
       refine QXn ?_
       have hC336 := hC332.pick [0, 1, 2] [0, 1, 2, 3] rfl rfl
       refine fun a_ ha_ => hK307 _ _ _ ?_ ⟨B326, m2 + 1, d327, rfl, rfl, hC336, hf333, ho334, hf335, hg330, by omega⟩ a_ (ha_.weaken (sub_of ⟨rfl, rfl, rfl, rfl, rfl, rfl, rfl, rfl, trivial⟩))
       omega
      ·
       have t316 : ((n2 : Int) + 12) ≤ (m2 : Int) := by have q_ := of_decide_eq_false t316b; omega
       refine WCf rfl ?_
       refine WC.exit ?_
       refine QXe ?_
       refine QXe ?_
       refine QX.block_hit ?_
       refine QXn (hK305 _ _ ?_)
       refine WCg (WLr 2 [(64, .slice B2 m2 d2), (63, .slice A285 2 c286)] (fun _ => by kernel_rfl) ?_)
       refine WL.newM hC311 (fun b => .slice (some ⟨b, 0, none⟩) 1 1) (.cells #[.slice B2 m2 d2] 22) 65 (fun _ => by kernel_rfl) (fun g337 w338 hb341 hF339 hC340 => ?_)
       have hf342 := Grp.carry g0_m309 hF339 (by simp)
       have ho343 := own_fr row207_m309 hF339 (by simp)
       have hf344 := Grp.carry g1_m309 hF339 (by simp)
       have hf345 := Grp.carry hgr2 hF339 (by simp)
       obtain ⟨v346, w347, hr348, ho349, hF350, hC351, hnil352, hsub353⟩ := app_run Try.prog hC340 3 (v := .slice A285 2 c286) rfl 36 36 22 1 24 2 1 1 (some ⟨g337, 0, none⟩) rfl ho343 [.slice B2 m2 d2] rfl (srcOk.blk 1 (hC340.get 3 rfl)) rfl (by simp only [maxLen]; omega) (by omega)
       have ho357 := own_snoc (enc := cellB) (ys := [] ++ [(⟨B0, m0, d0, ([] : List Int)⟩ : BRow)] ++ [(⟨B1, m1, d1, ([] : List Int)⟩ : BRow)]) (⟨B2, m2, d2, ([] : List Int)⟩ : BRow) ho349
       obtain ⟨A354, c355, rfl, hle356⟩ := own_form ho357
       refine WL.sem (Builtin.append_ #[36, 36] 36 #[.slice A285 2 c286, .slice (some ⟨g337, 0, none⟩) 1 1]) 66 (.slice A354 3 c355) (by kernel_rfl) hr348 ?_
       have hf358 := Grp.carry hf342 hF350 (hC340.disj 0 3 rfl rfl (by decide))
       have hf359 := Grp.carry hf344 hF350 (hC340.disj 1 3 rfl rfl (by decide))
       have hf360 := Grp.carry hf345 hF350 (hC340.disj 2 3 rfl rfl (by decide))
       refine WLr 1 [(6, .slice A354 3 c355)] (fun _ => by kernel_rfl) ?_
       refine WLd rfl ?_
       refine QXb ?_
       refine QXn (hK299 _ _ ?_)
       refine WCg (WLr 2 [(40, .int .i64 3), (67, .int .i64 3)] (fun _ => by kernel_rfl) ?_)
       refine WLd rfl ?_
       refine QXn ?_
       refine fun a_ ha_ => hK293 [(0, .slice (some ⟨B, 0, none⟩) 3 3), (6, .slice A354 3 c355), (38, .slice (some ⟨B, 0, none⟩) 3 3), (39, .int .i64 3), (40, .int .i64 3)] _ ?_ a_ (ha_.weaken (sub_of ⟨rfl, rfl, rfl, rfl, rfl, trivial⟩))
       refine Rounds.round (fun K361 hK362 => ?_)
       refine WCs (fun K363 hK364 => ?_)
       refine WCg (WLr 1 [(41, .bool false)] (fun _ => by kernel_rfl) (WLd rfl (QXn (hK364 _ _ ?_))))
       refine WCs (fun K365 hK366 => ?_)
       refine WCf rfl ?_
       have ho367 := grp_own hf358
       have ho368 := grp_old hf358
       have ho369 := grp_own hf359
       have ho370 := grp_old hf359
       have ho371 := grp_own hf360
       have ho372 := grp_old hf360
       skip
       refine WC.exit ?_
       refine QXe ?_
       refine QXe ?_
       refine QX.block_hit ?_
       refine QXn (hK151 _ _ ?_)
       refine WCs (fun K373 hK374 => ?_)
       refine WCs (fun K375 hK376 => ?_)
       refine WCg (WLr 3 [(70, .int .i64 0), (69, .int .i64 3), (68, .slice A354 3 c355)] (fun _ => by kernel_rfl) (WLd rfl (QXn (hK376 _ _ ?_))))
       refine WC.block ?_
       refine WC.unroll ?_
       refine Rounds.round (fun K377 hK378 => ?_)
       refine WCs (fun K379 hK380 => ?_)
       refine WCg (WLr 1 [(71, .bool true)] (fun _ => by kernel_rfl) (WLd rfl (QXn (hK380 _ _ ?_))))
       refine WCs (fun K381 hK382 => ?_)
       refine WCt rfl ?_
       refine WC.skip ?_
       refine QXn (hK382 _ _ ?_)
       refine WCs (fun K383 hK384 => ?_)
       refine WC.block ?_
       refine WCs (fun K385 hK386 => ?_)
       refine WCg (WLr 1 [(72, .int .i64 0)] (fun _ => by kernel_rfl) ?_)
       have hn391 := own_count cellB_len (by decide) ho357
       obtain ⟨e387, he388⟩ := get_some (xs := [] ++ [(⟨B0, m0, d0, ([] : List Int)⟩ : BRow)] ++ [(⟨B1, m1, d1, ([] : List Int)⟩ : BRow)] ++ [(⟨B2, m2, d2, ([] : List Int)⟩ : BRow)]) (i := 0) (by omega)
       obtain ⟨b389, hA390⟩ := own_addr (by decide) cellB_len ho357 he388
       refine WLi A354 3 c355 73 .i64 0 b389 0 0 1 (by kernel_rfl) hA390 (by omega) (by omega) 0 (by first | (simp; done) | omega) ?_
       refine WL.load 22 (.pointer (some ⟨b389, 0, none⟩)) (.slice e387.a e387.n e387.c) 74 (by kernel_rfl) (run_load1 rfl (by simpa [Nat.add_assoc] using Rd.cell (own_rd ho357 cellB_len (by decide)) hA390 he388 0 _ rfl)) ?_
       refine WLt (show (.slice e387.a e387.n e387.c : Value) = .slice B0 m0 d0 from by have q_ := he388; simp at q_; rw [← q_]) ?_
       refine WLr 2 [(11, .slice B0 m0 d0), (10, .int .i64 0)] (fun _ => by kernel_rfl) (WLd rfl (QXn (hK386 _ _ ?_)))
       refine WCs (fun K392 hK393 => ?_)
       refine WCg (WLr 3 [(77, .int .i64 0), (76, .int .i64 (m0 : Int)), (75, .slice B0 m0 d0)] (fun _ => by kernel_rfl) (WLd rfl (QXn (hK393 _ _ ?_))))
       refine WC.block ?_
       refine WC.loop (fun m_ E_ w_ => ∃ (j0 : Nat), m_ = m0 - j0 ∧ E_ = [(0, .slice (some ⟨B, 0, none⟩) 3 3), (10, .int .i64 0), (11, .slice B0 m0 d0), (68, .slice A354 3 c355), (69, .int .i64 3), (70, .int .i64 0), (75, .slice B0 m0 d0), (76, .int .i64 (m0 : Int)), (77, .int .i64 (j0 : Int))] ∧ Cx w (B :: (blk (.slice A0 n0 c0) ++ (blk (.slice A1 n1 c1) ++ blk (.slice A2 n2 c2)))) w_ [(B, .cells #[.slice A0 n0 c0, .slice A1 n1 c1, .slice A2 n2 c2] 22 (0, 0)), (g197, .cells #[.slice B0 m0 d0] 22), (g268, .cells #[.slice B1 m1 d1] 22), (g337, .cells #[.slice B2 m2 d2] 22)] [blk (.slice A0 n0 c0) ++ blk (.slice B0 m0 d0), blk (.slice A1 n1 c1) ++ blk (.slice B1 m1 d1), blk (.slice A2 n2 c2) ++ blk (.slice B2 m2 d2), blk (.slice A354 3 c355)] ∧ World.ownsRow w_ 0 22 1 (.slice A354 3 c355) 3 (([] ++ [(⟨B0, m0, d0, ([] : List Int)⟩ : BRow)] ++ [(⟨B1, m1, d1, ([] : List Int)⟩ : BRow)] ++ [(⟨B2, m2, d2, ([] : List Int)⟩ : BRow)]).flatMap cellB) ∧ World.ownsRow w_ 0 5 1 (.slice B0 m0 d0) m0 ((mkR 0 m0).flatMap (Go.Tw.encI .u8)) ∧ World.ownsRow w_ 0 5 1 (.slice A0 n0 c0) n0 ((mkR 0 n0).flatMap (Go.Tw.encI .u8)) ∧ World.ownsRow w_ 0 5 1 (.slice B1 m1 d1) m1 ((mkR 1 m1).flatMap (Go.Tw.encI .u8)) ∧ World.ownsRow w_ 0 5 1 (.slice A1 n1 c1) n1 ((mkR 1 n1).flatMap (Go.Tw.encI .u8)) ∧ World.ownsRow w_ 0 5 1 (.slice B2 m2 d2) m2 ((mkR 2 m2).flatMap (Go.Tw.encI .u8)) ∧ World.ownsRow w_ 0 5 1 (.slice A2 n2 c2) n2 ((mkR 2 n2).flatMap (Go.Tw.encI .u8)) ∧ (j0 ≤ m0)) ⟨_, _, ⟨0, rfl, rfl, hC351, ho357, ho367, ho368, ho369, ho370, ho371, ho372, Nat.zero_le _⟩, sub_of ⟨rfl, rfl, rfl, rfl, rfl, rfl, rfl, rfl, rfl, trivial⟩⟩ (fun m397 E_ w398 K394 hK395 hI396 => ?_)
       obtain ⟨j0, rfl, rfl, hC399, row207_m397, n0_m397, o0_m397, n1_m397, o1_m397, n2_m397, o2_m397, hj0⟩ := hI396
       refine WCs (fun K400 hK401 => ?_)
       refine WCg (WLr 1 [(78, .bool (decide ((j0 : Int) < (m0 : Int))))] (fun _ => by kernel_rfl) (WLd rfl (QXn (hK401 _ _ ?_))))
       refine WCs (fun K402 hK403 => ?_)
       refine WCa 78 (decide ((j0 : Int) < (m0 : Int))) rfl (fun t404b => ?_) (fun t404b => ?_)
       ·
        have t404 : (j0 : Int) < (m0 : Int) := by have q_ := of_decide_eq_true t404b; omega
        refine WCt rfl ?_
        refine WC.skip ?_
        refine QXn (hK403 _ _ ?_)
        refine WCs (fun K405 hK406 => ?_)
        refine WC.block ?_
        refine WCs (fun K407 hK408 => ?_)
        refine WCg (WLr 2 [(12, .int .i64 (j0 : Int)), (79, .int .i64 (j0 : Int))] (fun _ => by kernel_rfl) (WLd rfl (QXn (hK408 _ _ ?_))))
        refine WCs (fun K409 hK410 => ?_)
        refine WC.drawC hC399 [] (by kernel_rfl) (fun w411 hF412 hC413 hS414 => ?_)
        have ho415 := own_fr row207_m397 hF412 (by simp)
        have ho416 := own_fr n0_m397 hF412 (by simp)
        have ho417 := own_fr o0_m397 hF412 (by simp)
        have ho418 := own_fr n1_m397 hF412 (by simp)
        have ho419 := own_fr o1_m397 hF412 (by simp)
        have ho420 := own_fr n2_m397 hF412 (by simp)
        have ho421 := own_fr o2_m397 hF412 (by simp)
        refine WDp (NPt (NPb (NPt (NPt (NPb (NPb (NPt (NPt (NPb (NPt hN)))))))))) 0 80 (.slice B0 m0 d0) (by kernel_rfl) (fun _ => by kernel_rfl) hS414 ?_
        refine WDp (NPt (NPb (NPt (NPt (NPb (NPb (NPt (NPt (NPb (NPt hN)))))))))) 1 81 (.int .i64 (j0 : Int)) (by kernel_rfl) (fun _ => by kernel_rfl) hS414 ?_
        have hn426 := own_count (Go.Tw.encI_len _) (by decide) ho416
        obtain ⟨e422, he423⟩ := get_some (xs := (mkR 0 m0)) (i := j0) (by omega)
        obtain ⟨b424, hA425⟩ := own_addr (by decide) (Go.Tw.encI_len _) ho416 he423
        refine WDi (NPt (NPb (NPt (NPt (NPb (NPb (NPt (NPt (NPb (NPt hN)))))))))) 2 B0 m0 d0 82 .i64 (j0 : Int) b424 0 j0 1 (by kernel_rfl) (by kernel_rfl) hA425 (by omega) (by omega) j0 (by first | (simp; done) | omega) hS414 ?_
        refine WDp (NPt (NPb (NPt (NPt (NPb (NPb (NPt (NPt (NPb (NPt hN)))))))))) 4 84 (.int .i64 0) (by kernel_rfl) (fun _ => by kernel_rfl) hS414 ?_
        refine WDp (NPt (NPb (NPt (NPt (NPb (NPb (NPt (NPt (NPb (NPt hN)))))))))) 5 85 (.int .i64 0) (by kernel_rfl) (fun _ => by kernel_rfl) hS414 ?_
        refine WDp (NPt (NPb (NPt (NPt (NPb (NPb (NPt (NPt (NPb (NPt hN)))))))))) 6 86 (.int .i64 (j0 : Int)) (by kernel_rfl) (fun _ => by kernel_rfl) hS414 ?_
        refine WDp (NPt (NPb (NPt (NPt (NPb (NPb (NPt (NPt (NPb (NPt hN)))))))))) 7 87 (.int .i64 (IntKind.i64.wrap (7 * (j0 : Int)))) (by kernel_rfl) (fun _ => by kernel_rfl) hS414 ?_
        refine WD.recast (show (.int .i64 (IntKind.i64.wrap (7 * (j0 : Int))) : Value) = .int .i64 (7 * (j0 : Int)) from by rw [wrap_in_i64 (7 * (j0 : Int)) (by omega) (by omega)]) ?_
        refine WDp (NPt (NPb (NPt (NPt (NPb (NPb (NPt (NPt (NPb (NPt hN)))))))))) 8 88 (.int .i64 (IntKind.i64.wrap (0 + (7 * (j0 : Int))))) (by kernel_rfl) (fun _ => by kernel_rfl) hS414 ?_
        refine WD.recast (show (.int .i64 (IntKind.i64.wrap (0 + (7 * (j0 : Int)))) : Value) = .int .i64 (0 + (7 * (j0 : Int))) from by rw [wrap_in_i64 (0 + (7 * (j0 : Int))) (by omega) (by omega)]) ?_
        refine WDp (NPt (NPb (NPt (NPt (NPb (NPb (NPt (NPt (NPb (NPt hN)))))))))) 9 89 (.int .i64 (IntKind.i64.wrap ((0 + (7 * (j0 : Int))) + 1))) (by kernel_rfl) (fun _ => by kernel_rfl) hS414 ?_
        refine WD.recast (show (.int .i64 (IntKind.i64.wrap ((0 + (7 * (j0 : Int))) + 1)) : Value) = .int .i64 ((0 + (7 * (j0 : Int))) + 1) from by rw [wrap_in_i64 ((0 + (7 * (j0 : Int))) + 1) (by omega) (by omega)]) ?_
        refine WDp (NPt (NPb (NPt (NPt (NPb (NPb (NPt (NPt (NPb (NPt hN)))))))))) 10 90 (.int .u8 (IntKind.u8.wrap ((0 + (7 * (j0 : Int))) + 1))) (by kernel_rfl) (fun _ => by kernel_rfl) hS414 ?_
        refine WD.recast (show (.int .u8 (IntKind.u8.wrap ((0 + (7 * (j0 : Int))) + 1)) : Value) = .int .u8 (mkA 0 j0) from by simp [mkA]) ?_
        refine WDl (NPt (NPb (NPt (NPt (NPb (NPb (NPt (NPt (NPb (NPt hN)))))))))) 3 5 (.pointer (some ⟨b424, j0, none⟩)) (.int .u8 e422) 83 (by kernel_rfl) (by kernel_rfl) (fun _ hS_ => run_load1 rfl (by simpa [Nat.add_assoc] using Rd.cell (own_rd (own_fr ho416 hS_ (by simp)) (Go.Tw.encI_len _) (by decide)) hA425 he423 0 _ rfl)) hS414 ?_
        refine WDp (NPt (NPb (NPt (NPt (NPb (NPb (NPt (NPt (NPb (NPt hN)))))))))) 11 91 (.bool (e422 != (mkA 0 j0))) (by kernel_rfl) (fun _ => by kernel_rfl) hS414 ?_
        refine WDp (NPt (NPb (NPt (NPt (NPb (NPb (NPt (NPt (NPb (NPt hN)))))))))) 12 92 (.bool (e422 != (mkA 0 j0))) (by kernel_rfl) (fun _ => by kernel_rfl) hS414 ?_
        refine WD.know 92 (.bool (e422 != (mkA 0 j0))) (.bool false) rfl (congrArg Value.bool (by rw [mkR_get he423]; simp)) ?_
        refine WDp (NPt (NPb (NPt (NPt (NPb (NPb (NPt (NPt (NPb (NPt hN)))))))))) 13 93 (.int .i64 (j0 : Int)) (by kernel_rfl) (fun _ => by kernel_rfl) hS414 ?_
        refine WDp (NPt (NPb (NPt (NPt (NPb (NPb (NPt (NPt (NPb (NPt hN)))))))))) 14 94 (.slice (some ⟨B, 0, none⟩) 3 3) (by kernel_rfl) (fun _ => by kernel_rfl) hS414 ?_
        refine WDp (NPt (NPb (NPt (NPt (NPb (NPb (NPt (NPt (NPb (NPt hN)))))))))) 15 95 (.int .i64 0) (by kernel_rfl) (fun _ => by kernel_rfl) hS414 ?_
        refine WDi (NPt (NPb (NPt (NPt (NPb (NPb (NPt (NPt (NPb (NPt hN)))))))))) 16 (some ⟨B, 0, none⟩) 3 3 96 .i64 0 B 0 0 1 (by kernel_rfl) (by kernel_rfl) rfl (by omega) (by omega) 0 (by first | (simp; done) | omega) hS414 ?_
        refine WDl (NPt (NPb (NPt (NPt (NPb (NPb (NPt (NPt (NPb (NPt hN)))))))))) 17 22 (.pointer (some ⟨B, 0, none⟩)) (.slice A0 n0 c0) 97 (by kernel_rfl) (by kernel_rfl) (fun _ hS_ => run_ld (Fr.has hS_ (hC413.get 0 rfl) (by simp)) rfl) hS414 ?_
        refine WDp (NPt (NPb (NPt (NPt (NPb (NPb (NPt (NPt (NPb (NPt hN)))))))))) 18 98 (.int .i64 (n0 : Int)) (by kernel_rfl) (fun _ => by kernel_rfl) hS414 ?_
        refine WDp (NPt (NPb (NPt (NPt (NPb (NPb (NPt (NPt (NPb (NPt hN)))))))))) 19 99 (.bool (decide ((j0 : Int) < (n0 : Int)))) (by kernel_rfl) (fun _ => by kernel_rfl) hS414 ?_
        refine WDp (NPt (NPb (NPt (NPt (NPb (NPb (NPt (NPt (NPb (NPt hN)))))))))) 20 100 (.bool (decide ((j0 : Int) < (n0 : Int)))) (by kernel_rfl) (fun _ => by kernel_rfl) hS414 ?_
        refine WDa 100 (decide ((j0 : Int) < (n0 : Int))) rfl (fun t427b => ?_) (fun t427b => ?_)
        ·
         have t427 : (j0 : Int) < (n0 : Int) := by have q_ := of_decide_eq_true t427b; omega
         refine WDp (NPt (NPb (NPt (NPt (NPb (NPb (NPt (NPt (NPb (NPt hN)))))))))) 21 101 (.slice (some ⟨B, 0, none⟩) 3 3) (by kernel_rfl) (fun _ => by kernel_rfl) hS414 ?_
         refine WDp (NPt (NPb (NPt (NPt (NPb (NPb (NPt (NPt (NPb (NPt hN)))))))))) 22 102 (.int .i64 0) (by kernel_rfl) (fun _ => by kernel_rfl) hS414 ?_
         refine WDi (NPt (NPb (NPt (NPt (NPb (NPb (NPt (NPt (NPb (NPt hN)))))))))) 23 (some ⟨B, 0, none⟩) 3 3 103 .i64 0 B 0 0 1 (by kernel_rfl) (by kernel_rfl) rfl (by omega) (by omega) 0 (by first | (simp; done) | omega) hS414 ?_
         refine WDp (NPt (NPb (NPt (NPt (NPb (NPb (NPt (NPt (NPb (NPt hN)))))))))) 25 105 (.int .i64 (j0 : Int)) (by kernel_rfl) (fun _ => by kernel_rfl) hS414 ?_
         refine WDp (NPt (NPb (NPt (NPt (NPb (NPb (NPt (NPt (NPb (NPt hN)))))))))) 28 108 (.slice B0 m0 d0) (by kernel_rfl) (fun _ => by kernel_rfl) hS414 ?_
         refine WDp (NPt (NPb (NPt (NPt (NPb (NPb (NPt (NPt (NPb (NPt hN)))))))))) 29 109 (.int .i64 (j0 : Int)) (by kernel_rfl) (fun _ => by kernel_rfl) hS414 ?_
         have hn432 := own_count (Go.Tw.encI_len _) (by decide) ho416
         obtain ⟨e428, he429⟩ := get_some (xs := (mkR 0 m0)) (i := j0) (by omega)
         obtain ⟨b430, hA431⟩ := own_addr (by decide) (Go.Tw.encI_len _) ho416 he429
         refine WDi (NPt (NPb (NPt (NPt (NPb (NPb (NPt (NPt (NPb (NPt hN)))))))))) 30 B0 m0 d0 110 .i64 (j0 : Int) b430 0 j0 1 (by kernel_rfl) (by kernel_rfl) hA431 (by omega) (by omega) j0 (by first | (simp; done) | omega) hS414 ?_
         refine WDl (NPt (NPb (NPt (NPt (NPb (NPb (NPt (NPt (NPb (NPt hN)))))))))) 24 22 (.pointer (some ⟨B, 0, none⟩)) (.slice A0 n0 c0) 104 (by kernel_rfl) (by kernel_rfl) (fun _ hS_ => run_ld (Fr.has hS_ (hC413.get 0 rfl) (by simp)) rfl) hS414 ?_
         have hn437 := own_count (Go.Tw.encI_len _) (by decide) ho417
         obtain ⟨e433, he434⟩ := get_some (xs := (mkR 0 n0)) (i := j0) (by omega)
         obtain ⟨b435, hA436⟩ := own_addr (by decide) (Go.Tw.encI_len _) ho417 he434
         refine WDi (NPt (NPb (NPt (NPt (NPb (NPb (NPt (NPt (NPb (NPt hN)))))))))) 26 A0 n0 c0 106 .i64 (j0 : Int) b435 0 j0 1 (by kernel_rfl) (by kernel_rfl) hA436 (by omega) (by omega) j0 (by first | (simp; done) | omega) hS414 ?_
         refine WDl (NPt (NPb (NPt (NPt (NPb (NPb (NPt (NPt (NPb (NPt hN)))))))))) 27 5 (.pointer (some ⟨b435, j0, none⟩)) (.int .u8 e433) 107 (by kernel_rfl) (by kernel_rfl) (fun _ hS_ => run_load1 rfl (by simpa [Nat.add_assoc] using Rd.cell (own_rd (own_fr ho417 hS_ (by simp)) (Go.Tw.encI_len _) (by decide)) hA436 he434 0 _ rfl)) hS414 ?_
         refine WDl (NPt (NPb (NPt (NPt (NPb (NPb (NPt (NPt (NPb (NPt hN)))))))))) 31 5 (.pointer (some ⟨b430, j0, none⟩)) (.int .u8 e428) 111 (by kernel_rfl) (by kernel_rfl) (fun _ hS_ => run_load1 rfl (by simpa [Nat.add_assoc] using Rd.cell (own_rd (own_fr ho416 hS_ (by simp)) (Go.Tw.encI_len _) (by decide)) hA431 he429 0 _ rfl)) hS414 ?_
         refine WDp (NPt (NPb (NPt (NPt (NPb (NPb (NPt (NPt (NPb (NPt hN)))))))))) 32 112 (.bool (e433 != e428)) (by kernel_rfl) (fun _ => by kernel_rfl) hS414 ?_
         refine WDp (NPt (NPb (NPt (NPt (NPb (NPb (NPt (NPt (NPb (NPt hN)))))))))) 33 113 (.bool (e433 != e428)) (by kernel_rfl) (fun _ => by kernel_rfl) hS414 ?_
         refine WDp (NPt (NPb (NPt (NPt (NPb (NPb (NPt (NPt (NPb (NPt hN)))))))))) 34 114 (.bool (e433 != e428)) (by kernel_rfl) (fun _ => by kernel_rfl) hS414 ?_
         refine WD.done (by kernel_rfl) ?_
         refine QXn (hK410 _ _ ?_)
         refine WC.know 114 (.bool (e433 != e428)) (.bool false) rfl (congrArg Value.bool (by rw [mkR_get he434, mkR_get he429]; simp)) ?_
         refine WCf rfl (WC.skip ?_)
         refine QXb ?_
         refine QXn (hK406 _ _ ?_)
         refine WCg (WLr 1 [(115, .int .i64 (IntKind.i64.wrap ((j0 : Int) + 1)))] (fun _ => by kernel_rfl) ?_)
         refine WLt (show (.int .i64 (IntKind.i64.wrap ((j0 : Int) + 1)) : Value) = .int .i64 ((j0 : Int) + 1) from by rw [wrap_in_i64 ((j0 : Int) + 1) (by omega) (by omega)]) ?_
         refine WLr 1 [(77, .int .i64 ((j0 : Int) + 1))] (fun _ => by kernel_rfl) ?_
         refine WLd rfl ?_
         refine QXn ?_
         have hC438 := hC413.pick [0, 1, 2, 3] [0, 1, 2, 3] rfl rfl
         refine fun a_ ha_ => hK395 _ _ _ ?_ ⟨j0 + 1, rfl, rfl, hC438, ho415, ho416, ho417, ho418, ho419, ho420, ho421, by omega⟩ a_ (ha_.weaken (sub_of ⟨rfl, rfl, rfl, rfl, rfl, rfl, rfl, rfl, rfl, trivial⟩))
         omega
        ·
         have t427 : (n0 : Int) ≤ (j0 : Int) := by have q_ := of_decide_eq_false t427b; omega
         refine WDp (NPt (NPb (NPt (NPt (NPb (NPb (NPt (NPt (NPb (NPt hN)))))))))) 21 101 (undef) (by kernel_rfl) (fun _ => by kernel_rfl) hS414 ?_
         refine WDp (NPt (NPb (NPt (NPt (NPb (NPb (NPt (NPt (NPb (NPt hN)))))))))) 22 102 (undef) (by kernel_rfl) (fun _ => by kernel_rfl) hS414 ?_
         refine WDp (NPt (NPb (NPt (NPt (NPb (NPb (NPt (NPt (NPb (NPt hN)))))))))) 23 103 (undef) (by kernel_rfl) (fun _ => by kernel_rfl) hS414 ?_
         refine WDp (NPt (NPb (NPt (NPt (NPb (NPb (NPt (NPt (NPb (NPt hN)))))))))) 24 104 (undef) (by kernel_rfl) (fun _ => by kernel_rfl) hS414 ?_
         refine WDp (NPt (NPb (NPt (NPt (NPb (NPb (NPt (NPt (NPb (NPt hN)))))))))) 25 105 (undef) (by kernel_rfl) (fun _ => by kernel_rfl) hS414 ?_
         refine WDp (NPt (NPb (NPt (NPt (NPb (NPb (NPt (NPt (NPb (NPt hN)))))))))) 26 106 (undef) (by kernel_rfl) (fun _ => by kernel_rfl) hS414 ?_
         refine WDp (NPt (NPb (NPt (NPt (NPb (NPb (NPt (NPt (NPb (NPt hN)))))))))) 27 107 (undef) (by kernel_rfl) (fun _ => by kernel_rfl) hS414 ?_
         refine WDp (NPt (NPb (NPt (NPt (NPb (NPb (NPt (NPt (NPb (NPt hN)))))))))) 28 108 (undef) (by kernel_rfl) (fun _ => by kernel_rfl) hS414 ?_
         refine WDp (NPt (NPb (NPt (NPt (NPb (NPb (NPt (NPt (NPb (NPt hN)))))))))) 29 109 (undef) (by kernel_rfl) (fun _ => by kernel_rfl) hS414 ?_
         refine WDp (NPt (NPb (NPt (NPt (NPb (NPb (NPt (NPt (NPb (NPt hN)))))))))) 30 110 (undef) (by kernel_rfl) (fun _ => by kernel_rfl) hS414 ?_
         refine WDp (NPt (NPb (NPt (NPt (NPb (NPb (NPt (NPt (NPb (NPt hN)))))))))) 31 111 (undef) (by kernel_rfl) (fun _ => by kernel_rfl) hS414 ?_
         refine WDp (NPt (NPb (NPt (NPt (NPb (NPb (NPt (NPt (NPb (NPt hN)))))))))) 32 112 (undef) (by kernel_rfl) (fun _ => by kernel_rfl) hS414 ?_
         refine WDp (NPt (NPb (NPt (NPt (NPb (NPb (NPt (NPt (NPb (NPt hN)))))))))) 33 113 (.bool false) (by kernel_rfl) (fun _ => by kernel_rfl) hS414 ?_
         refine WDp (NPt (NPb (NPt (NPt (NPb (NPb (NPt (NPt (NPb (NPt hN)))))))))) 34 114 (.bool false) (by kernel_rfl) (fun _ => by kernel_rfl) hS414 ?_
         refine WD.done (by kernel_rfl) ?_
         refine QXn (hK410 _ _ ?_)
         refine WCf rfl (WC.skip ?_)
         refine QXb ?_
         refine QXn (hK406 _ _ ?_)
         refine WCg (WLr 1 [(115, .int .i64 (IntKind.i64.wrap ((j0 : Int) + 1)))] (fun _ => by kernel_rfl) ?_)
         refine WLt (show (.int .i64 (IntKind.i64.wrap ((j0 : Int) + 1)) : Value) = .int .i64 ((j0 : Int) + 1) from by rw [wrap_in_i64 ((j0 : Int) + 1) (by omega) (by omega)]) ?_
         refine WLr 1 [(77, .int .i64 ((j0 : Int) + 1))] (fun _ => by kernel_rfl) ?_
         refine WLd rfl ?_
         refine QXn ?_
         have hC439 := hC413.pick [0, 1, 2, 3] [0, 1, 2, 3] rfl rfl
         refine fun a_ ha_ => hK395 _ _ _ ?_ ⟨j0 + 1, rfl, rfl, hC439, ho415, ho416, ho417, ho418, ho419, ho420, ho421, by omega⟩ a_ (ha_.weaken (sub_of ⟨rfl, rfl, rfl, rfl, rfl, rfl, rfl, rfl, rfl, trivial⟩))
         omega
       ·
        have t404 : (m0 : Int) ≤ (j0 : Int) := by have q_ := of_decide_eq_false t404b; omega
        refine WCf rfl ?_
        refine WC.exit ?_
        refine QXe ?_
        refine QXe ?_
        refine QX.block_hit ?_
        refine QXb ?_
        refine QXn (hK384 _ _ ?_)
        refine WCg (WLr 2 [(70, .int .i64 1), (116, .int .i64 1)] (fun _ => by kernel_rfl) ?_)
        refine WLd rfl ?_
        refine QXn ?_
        refine fun a_ ha_ => hK378 [(0, .slice (some ⟨B, 0, none⟩) 3 3), (68, .slice A354 3 c355), (69, .int .i64 3), (70, .int .i64 1)] _ ?_ a_ (ha_.weaken (sub_of ⟨rfl, rfl, rfl, rfl, trivial⟩))
        refine Rounds.round (fun K440 hK441 => ?_)
        refine WCs (fun K442 hK443 => ?_)
        refine WCg (WLr 1 [(71, .bool true)] (fun _ => by kernel_rfl) (WLd rfl (QXn (hK443 _ _ ?_))))
        refine WCs (fun K444 hK445 => ?_)
        refine WCt rfl ?_
        refine WC.skip ?_
        refine QXn (hK445 _ _ ?_)
        refine WCs (fun K446 hK447 => ?_)
        refine WC.block ?_
        refine WCs (fun K448 hK449 => ?_)
        refine WCg (WLr 1 [(72, .int .i64 1)] (fun _ => by kernel_rfl) ?_)
        have hn454 := own_count cellB_len (by decide) row207_m397
        obtain ⟨e450, he451⟩ := get_some (xs := [] ++ [(⟨B0, m0, d0, ([] : List Int)⟩ : BRow)] ++ [(⟨B1, m1, d1, ([] : List Int)⟩ : BRow)] ++ [(⟨B2, m2, d2, ([] : List Int)⟩ : BRow)]) (i := 1) (by omega)
        obtain ⟨b452, hA453⟩ := own_addr (by decide) cellB_len row207_m397 he451
        refine WLi A354 3 c355 73 .i64 1 b452 0 1 1 (by kernel_rfl) hA453 (by omega) (by omega) 1 (by first | (simp; done) | omega) ?_
        refine WL.load 22 (.pointer (some ⟨b452, 1, none⟩)) (.slice e450.a e450.n e450.c) 74 (by kernel_rfl) (run_load1 rfl (by simpa [Nat.add_assoc] using Rd.cell (own_rd row207_m397 cellB_len (by decide)) hA453 he451 0 _ rfl)) ?_
        refine WLt (show (.slice e450.a e450.n e450.c : Value) = .slice B1 m1 d1 from by have q_ := he451; simp at q_; rw [← q_]) ?_
        refine WLr 2 [(11, .slice B1 m1 d1), (10, .int .i64 1)] (fun _ => by kernel_rfl) (WLd rfl (QXn (hK449 _ _ ?_)))
        refine WCs (fun K455 hK456 => ?_)
        refine WCg (WLr 3 [(77, .int .i64 0), (76, .int .i64 (m1 : Int)), (75, .slice B1 m1 d1)] (fun _ => by kernel_rfl) (WLd rfl (QXn (hK456 _ _ ?_))))
        refine WC.block ?_
        refine WC.loop (fun m_ E_ w_ => ∃ (j1 : Nat), m_ = m1 - j1 ∧ E_ = [(0, .slice (some ⟨B, 0, none⟩) 3 3), (10, .int .i64 1), (11, .slice B1 m1 d1), (68, .slice A354 3 c355), (69, .int .i64 3), (70, .int .i64 1), (75, .slice B1 m1 d1), (76, .int .i64 (m1 : Int)), (77, .int .i64 (j1 : Int))] ∧ Cx w (B :: (blk (.slice A0 n0 c0) ++ (blk (.slice A1 n1 c1) ++ blk (.slice A2 n2 c2)))) w_ [(B, .cells #[.slice A0 n0 c0, .slice A1 n1 c1, .slice A2 n2 c2] 22 (0, 0)), (g197, .cells #[.slice B0 m0 d0] 22), (g268, .cells #[.slice B1 m1 d1] 22), (g337, .cells #[.slice B2 m2 d2] 22)] [blk (.slice A0 n0 c0) ++ blk (.slice B0 m0 d0), blk (.slice A1 n1 c1) ++ blk (.slice B1 m1 d1), blk (.slice A2 n2 c2) ++ blk (.slice B2 m2 d2), blk (.slice A354 3 c355)] ∧ World.ownsRow w_ 0 22 1 (.slice A354 3 c355) 3 (([] ++ [(⟨B0, m0, d0, ([] : List Int)⟩ : BRow)] ++ [(⟨B1, m1, d1, ([] : List Int)⟩ : BRow)] ++ [(⟨B2, m2, d2, ([] : List Int)⟩ : BRow)]).flatMap cellB) ∧ World.ownsRow w_ 0 5 1 (.slice B0 m0 d0) m0 ((mkR 0 m0).flatMap (Go.Tw.encI .u8)) ∧ World.ownsRow w_ 0 5 1 (.slice A0 n0 c0) n0 ((mkR 0 n0).flatMap (Go.Tw.encI .u8)) ∧ World.ownsRow w_ 0 5 1 (.slice B1 m1 d1) m1 ((mkR 1 m1).flatMap (Go.Tw.encI .u8)) ∧ World.ownsRow w_ 0 5 1 (.slice A1 n1 c1) n1 ((mkR 1 n1).flatMap (Go.Tw.encI .u8)) ∧ World.ownsRow w_ 0 5 1 (.slice B2 m2 d2) m2 ((mkR 2 m2).flatMap (Go.Tw.encI .u8)) ∧ World.ownsRow w_ 0 5 1 (.slice A2 n2 c2) n2 ((mkR 2 n2).flatMap (Go.Tw.encI .u8)) ∧ (j1 ≤ m1)) ⟨_, _, ⟨0, rfl, rfl, hC399, row207_m397, n0_m397, o0_m397, n1_m397, o1_m397, n2_m397, o2_m397, Nat.zero_le _⟩, sub_of ⟨rfl, rfl, rfl, rfl, rfl, rfl, rfl, rfl, rfl, trivial⟩⟩ (fun m460 E_ w461 K457 hK458 hI459 => ?_)
        obtain ⟨j1, rfl, rfl, hC462, row207_m460, n0_m460, o0_m460, n1_m460, o1_m460, n2_m460, o2_m460, hj1⟩ := hI459
        refine WCs (fun K463 hK464 => ?_)
        refine WCg (WLr 1 [(78, .bool (decide ((j1 : Int) < (m1 : Int))))] (fun _ => by kernel_rfl) (WLd rfl (QXn (hK464 _ _ ?_))))
        refine WCs (fun K465 hK466 => ?_)
        refine WCa 78 (decide ((j1 : Int) < (m1 : Int))) rfl (fun t467b => ?_) (fun t467b => ?_)
        ·
         have t467 : (j1 : Int) < (m1 : Int) := by have q_ := of_decide_eq_true t467b; omega
         refine WCt rfl ?_
         refine WC.skip ?_
         refine QXn (hK466 _ _ ?_)
         refine WCs (fun K468 hK469 => ?_)
         refine WC.block ?_
         refine WCs (fun K470 hK471 => ?_)
         refine WCg (WLr 2 [(12, .int .i64 (j1 : Int)), (79, .int .i64 (j1 : Int))] (fun _ => by kernel_rfl) (WLd rfl (QXn (hK471 _ _ ?_))))
         refine WCs (fun K472 hK473 => ?_)
         refine WC.drawC hC462 [] (by kernel_rfl) (fun w474 hF475 hC476 hS477 => ?_)
         have ho478 := own_fr row207_m460 hF475 (by simp)
         have ho479 := own_fr n0_m460 hF475 (by simp)
         have ho480 := own_fr o0_m460 hF475 (by simp)
         have ho481 := own_fr n1_m460 hF475 (by simp)
         have ho482 := own_fr o1_m460 hF475 (by simp)
         have ho483 := own_fr n2_m460 hF475 (by simp)
         have ho484 := own_fr o2_m460 hF475 (by simp)
         refine WDp (NPt (NPb (NPt (NPt (NPb (NPb (NPt (NPt (NPb (NPt hN)))))))))) 0 80 (.slice B1 m1 d1) (by kernel_rfl) (fun _ => by kernel_rfl) hS477 ?_
         refine WDp (NPt (NPb (NPt (NPt (NPb (NPb (NPt (NPt (NPb (NPt hN)))))))))) 1 81 (.int .i64 (j1 : Int)) (by kernel_rfl) (fun _ => by kernel_rfl) hS477 ?_
         have hn489 := own_count (Go.Tw.encI_len _) (by decide) ho481
         obtain ⟨e485, he486⟩ := get_some (xs := (mkR 1 m1)) (i := j1) (by omega)
         obtain ⟨b487, hA488⟩ := own_addr (by decide) (Go.Tw.encI_len _) ho481 he486
         refine WDi (NPt (NPb (NPt (NPt (NPb (NPb (NPt (NPt (NPb (NPt hN)))))))))) 2 B1 m1 d1 82 .i64 (j1 : Int) b487 0 j1 1 (by kernel_rfl) (by kernel_rfl) hA488 (by omega) (by omega) j1 (by first | (simp; done) | omega) hS477 ?_
         refine WDp (NPt (NPb (NPt (NPt (NPb (NPb (NPt (NPt (NPb (NPt hN)))))))))) 4 84 (.int .i64 1) (by kernel_rfl) (fun _ => by kernel_rfl) hS477 ?_
         refine WDp (NPt (NPb (NPt (NPt (NPb (NPb (NPt (NPt (NPb (NPt hN)))))))))) 5 85 (.int .i64 31) (by kernel_rfl) (fun _ => by kernel_rfl) hS477 ?_
         refine WDp (NPt (NPb (NPt (NPt (NPb (NPb (NPt (NPt (NPb (NPt hN)))))))))) 6 86 (.int .i64 (j1 : Int)) (by kernel_rfl) (fun _ => by kernel_rfl) hS477 ?_
         refine WDp (NPt (NPb (NPt (NPt (NPb (NPb (NPt (NPt (NPb (NPt hN)))))))))) 7 87 (.int .i64 (IntKind.i64.wrap (7 * (j1 : Int)))) (by kernel_rfl) (fun _ => by kernel_rfl) hS477 ?_
         refine WD.recast (show (.int .i64 (IntKind.i64.wrap (7 * (j1 : Int))) : Value) = .int .i64 (7 * (j1 : Int)) from by rw [wrap_in_i64 (7 * (j1 : Int)) (by omega) (by omega)]) ?_
         refine WDp (NPt (NPb (NPt (NPt (NPb (NPb (NPt (NPt (NPb (NPt hN)))))))))) 8 88 (.int .i64 (IntKind.i64.wrap (31 + (7 * (j1 : Int))))) (by kernel_rfl) (fun _ => by kernel_rfl) hS477 ?_
         refine WD.recast (show (.int .i64 (IntKind.i64.wrap (31 + (7 * (j1 : Int)))) : Value) = .int .i64 (31 + (7 * (j1 : Int))) from by rw [wrap_in_i64 (31 + (7 * (j1 : Int))) (by omega) (by omega)]) ?_
         refine WDp (NPt (NPb (NPt (NPt (NPb (NPb (NPt (NPt (NPb (NPt hN)))))))))) 9 89 (.int .i64 (IntKind.i64.wrap ((31 + (7 * (j1 : Int))) + 1))) (by kernel_rfl) (fun _ => by kernel_rfl) hS477 ?_
         refine WD.recast (show (.int .i64 (IntKind.i64.wrap ((31 + (7 * (j1 : Int))) + 1)) : Value) = .int .i64 ((31 + (7 * (j1 : Int))) + 1) from by rw [wrap_in_i64 ((31 + (7 * (j1 : Int))) + 1) (by omega) (by omega)]) ?_
         refine WDp (NPt (NPb (NPt (NPt (NPb (NPb (NPt (NPt (NPb (NPt hN)))))))))) 10 90 (.int .u8 (IntKind.u8.wrap ((31 + (7 * (j1 : Int))) + 1))) (by kernel_rfl) (fun _ => by kernel_rfl) hS477 ?_
         refine WD.recast (show (.int .u8 (IntKind.u8.wrap ((31 + (7 * (j1 : Int))) + 1)) : Value) = .int .u8 (mkA 1 j1) from by simp [mkA]) ?_
         refine WDl (NPt (NPb (NPt (NPt (NPb (NPb (NPt (NPt (NPb (NPt hN)))))))))) 3 5 (.pointer (some ⟨b487, j1, none⟩)) (.int .u8 e485) 83 (by kernel_rfl) (by kernel_rfl) (fun _ hS_ => run_load1 rfl (by simpa [Nat.add_assoc] using Rd.cell (own_rd (own_fr ho481 hS_ (by simp)) (Go.Tw.encI_len _) (by decide)) hA488 he486 0 _ rfl)) hS477 ?_
         refine WDp (NPt (NPb (NPt (NPt (NPb (NPb (NPt (NPt (NPb (NPt hN)))))))))) 11 91 (.bool (e485 != (mkA 1 j1))) (by kernel_rfl) (fun _ => by kernel_rfl) hS477 ?_
         refine WDp (NPt (NPb (NPt (NPt (NPb (NPb (NPt (NPt (NPb (NPt hN)))))))))) 12 92 (.bool (e485 != (mkA 1 j1))) (by kernel_rfl) (fun _ => by kernel_rfl) hS477 ?_
         refine WD.know 92 (.bool (e485 != (mkA 1 j1))) (.bool false) rfl (congrArg Value.bool (by rw [mkR_get he486]; simp)) ?_
         refine WDp (NPt (NPb (NPt (NPt (NPb (NPb (NPt (NPt (NPb (NPt hN)))))))))) 13 93 (.int .i64 (j1 : Int)) (by kernel_rfl) (fun _ => by kernel_rfl) hS477 ?_
         refine WDp (NPt (NPb (NPt (NPt (NPb (NPb (NPt (NPt (NPb (NPt hN)))))))))) 14 94 (.slice (some ⟨B, 0, none⟩) 3 3) (by kernel_rfl) (fun _ => by kernel_rfl) hS477 ?_
         refine WDp (NPt (NPb (NPt (NPt (NPb (NPb (NPt (NPt (NPb (NPt hN)))))))))) 15 95 (.int .i64 1) (by kernel_rfl) (fun _ => by kernel_rfl) hS477 ?_
         refine WDi (NPt (NPb (NPt (NPt (NPb (NPb (NPt (NPt (NPb (NPt hN)))))))))) 16 (some ⟨B, 0, none⟩) 3 3 96 .i64 1 B 0 1 1 (by kernel_rfl) (by kernel_rfl) rfl (by omega) (by omega) 1 (by first | (simp; done) | omega) hS477 ?_
         refine WDl (NPt (NPb (NPt (NPt (NPb (NPb (NPt (NPt (NPb (NPt hN)))))))))) 17 22 (.pointer (some ⟨B, 1, none⟩)) (.slice A1 n1 c1) 97 (by kernel_rfl) (by kernel_rfl) (fun _ hS_ => run_ld (Fr.has hS_ (hC476.get 0 rfl) (by simp)) rfl) hS477 ?_
         refine WDp (NPt (NPb (NPt (NPt (NPb (NPb (NPt (NPt (NPb (NPt hN)))))))))) 18 98 (.int .i64 (n1 : Int)) (by kernel_rfl) (fun _ => by kernel_rfl) hS477 ?_
         refine WDp (NPt (NPb (NPt (NPt (NPb (NPb (NPt (NPt (NPb (NPt hN)))))))))) 19 99 (.bool (decide ((j1 : Int) < (n1 : Int)))) (by kernel_rfl) (fun _ => by kernel_rfl) hS477 ?_
         refine WDp (NPt (NPb (NPt (NPt (NPb (NPb (NPt (NPt (NPb (NPt hN)))))))))) 20 100 (.bool (decide ((j1 : Int) < (n1 : Int)))) (by kernel_rfl) (fun _ => by kernel_rfl) hS477 ?_
         refine WDa 100 (decide ((j1 : Int) < (n1 : Int))) rfl (fun t490b => ?_) (fun t490b => ?_)
         ·
          have t490 : (j1 : Int) < (n1 : Int) := by have q_ := of_decide_eq_true t490b; omega
          refine WDp (NPt (NPb (NPt (NPt (NPb (NPb (NPt (NPt (NPb (NPt hN)))))))))) 21 101 (.slice (some ⟨B, 0, none⟩) 3 3) (by kernel_rfl) (fun _ => by kernel_rfl) hS477 ?_
          refine WDp (NPt (NPb (NPt (NPt (NPb (NPb (NPt (NPt (NPb (NPt hN)))))))))) 22 102 (.int .i64 1) (by kernel_rfl) (fun _ => by kernel_rfl) hS477 ?_
          refine WDi (NPt (NPb (NPt (NPt (NPb (NPb (NPt (NPt (NPb (NPt hN)))))))))) 23 (some ⟨B, 0, none⟩) 3 3 103 .i64 1 B 0 1 1 (by kernel_rfl) (by kernel_rfl) rfl (by omega) (by omega) 1 (by first | (simp; done) | omega) hS477 ?_
          refine WDp (NPt (NPb (NPt (NPt (NPb (NPb (NPt (NPt (NPb (NPt hN)))))))))) 25 105 (.int .i64 (j1 : Int)) (by kernel_rfl) (fun _ => by kernel_rfl) hS477 ?_
          refine WDp (NPt (NPb (NPt (NPt (NPb (NPb (NPt (NPt (NPb (NPt hN)))))))))) 28 108 (.slice B1 m1 d1) (by kernel_rfl) (fun _ => by kernel_rfl) hS477 ?_
          refine WDp (NPt (NPb (NPt (NPt (NPb (NPb (NPt (NPt (NPb (NPt hN)))))))))) 29 109 (.int .i64 (j1 : Int)) (by kernel_rfl) (fun _ => by kernel_rfl) hS477 ?_
          have hn495 := own_count (Go.Tw.encI_len _) (by decide) ho481
          obtain ⟨e491, he492⟩ := get_some (xs := (mkR 1 m1)) (i := j1) (by omega)
          obtain ⟨b493, hA494⟩ := own_addr (by decide) (Go.Tw.encI_len _) ho481 he492
          refine WDi (NPt (NPb (NPt (NPt (NPb (NPb (NPt (NPt (NPb (NPt hN)))))))))) 30 B1 m1 d1 110 .i64 (j1 : Int) b493 0 j1 1 (by kernel_rfl) (by kernel_rfl) hA494 (by omega) (by omega) j1 (by first | (simp; done) | omega) hS477 ?_
          refine WDl (NPt (NPb (NPt (NPt (NPb (NPb (NPt (NPt (NPb (NPt hN)))))))))) 24 22 (.pointer (some ⟨B, 1, none⟩)) (.slice A1 n1 c1) 104 (by kernel_rfl) (by kernel_rfl) (fun _ hS_ => run_ld (Fr.has hS_ (hC476.get 0 rfl) (by simp)) rfl) hS477 ?_
          have hn500 := own_count (Go.Tw.encI_len _) (by decide) ho482
          obtain ⟨e496, he497⟩ := get_some (xs := (mkR 1 n1)) (i := j1) (by omega)
          obtain ⟨b498, hA499⟩ := own_addr (by decide) (Go.Tw.encI_len _) ho482 he497
          refine WDi (NPt (NPb (NPt (NPt (NPb (NPb (NPt (NPt (NPb (NPt hN)))))))))) 26 A1 n1 c1 106 .i64 (j1 : Int) b498 0 j1 1 (by kernel_rfl) (by kernel_rfl) hA499 (by omega) (by omega) j1 (by first | (simp; done) | omega) hS477 ?_
          refine WDl (NPt (NPb (NPt (NPt (NPb (NPb (NPt (NPt (NPb (NPt hN)))))))))) 27 5 (.pointer (some ⟨b498, j1, none⟩)) (.int .u8 e496) 107 (by kernel_rfl) (by kernel_rfl) (fun _ hS_ => run_load1 rfl (by simpa [Nat.add_assoc] using Rd.cell (own_rd (own_fr ho482 hS_ (by simp)) (Go.Tw.encI_len _) (by decide)) hA499 he497 0 _ rfl)) hS477 ?_
          refine WDl (NPt (NPb (NPt (NPt (NPb (NPb (NPt (NPt (NPb (NPt hN)))))))))) 31 5 (.pointer (some ⟨b493, j1, none⟩)) (.int .u8 e491) 111 (by kernel_rfl) (by kernel_rfl) (fun _ hS_ => run_load1 rfl (by simpa [Nat.add_assoc] using Rd.cell (own_rd (own_fr ho481 hS_ (by simp)) (Go.Tw.encI_len _) (by decide)) hA494 he492 0 _ rfl)) hS477 ?_
          refine WDp (NPt (NPb (NPt (NPt (NPb (NPb (NPt (NPt (NPb (NPt hN)))))))))) 32 112 (.bool (e496 != e491)) (by kernel_rfl) (fun _ => by kernel_rfl) hS477 ?_
          refine WDp (NPt (NPb (NPt (NPt (NPb (NPb (NPt (NPt (NPb (NPt hN)))))))))) 33 113 (.bool (e496 != e491)) (by kernel_rfl) (fun _ => by kernel_rfl) hS477 ?_
          refine WDp (NPt (NPb (NPt (NPt (NPb (NPb (NPt (NPt (NPb (NPt hN)))))))))) 34 114 (.bool (e496 != e491)) (by kernel_rfl) (fun _ => by kernel_rfl) hS477 ?_
          refine WD.done (by kernel_rfl) ?_
          refine QXn (hK473 _ _ ?_)
          refine WC.know 114 (.bool (e496 != e491)) (.bool false) rfl (congrArg Value.bool (by rw [mkR_get he497, mkR_get he492]; simp)) ?_
          refine WCf rfl (WC.skip ?_)
          refine QXb ?_
          refine QXn (hK469 _ _ ?_)
          refine WCg (WLr 1 [(115, .int .i64 (IntKind.i64.wrap ((j1 : Int) + 1)))] (fun _ => by kernel_rfl) ?_)
          refine WLt (show (.int .i64 (IntKind.i64.wrap ((j1 : Int) + 1)) : Value) = .int .i64 ((j1 : Int) + 1) from by rw [wrap_in_i64 ((j1 : Int) + 1) (by omega) (by omega)]) ?_
          refine WLr 1 [(77, .int .i64 ((j1 : Int) + 1))] (fun _ => by kernel_rfl) ?_
          refine WLd rfl ?_
          refine QXn ?_
          have hC501 := hC476.pick [0, 1, 2, 3] [0, 1, 2, 3] rfl rfl
          refine fun a_ ha_ => hK458 _ _ _ ?_ ⟨j1 + 1, rfl, rfl, hC501, ho478, ho479, ho480, ho481, ho482, ho483, ho484, by omega⟩ a_ (ha_.weaken (sub_of ⟨rfl, rfl, rfl, rfl, rfl, rfl, rfl, rfl, rfl, trivial⟩))
          omega
         ·
          have t490 : (n1 : Int) ≤ (j1 : Int) := by have q_ := of_decide_eq_false t490b; omega
          refine WDp (NPt (NPb (NPt (NPt (NPb (NPb (NPt (NPt (NPb (NPt hN)))))))))) 21 101 (undef) (by kernel_rfl) (fun _ => by kernel_rfl) hS477 ?_
          refine WDp (NPt (NPb (NPt (NPt (NPb (NPb (NPt (NPt (NPb (NPt hN)))))))))) 22 102 (undef) (by kernel_rfl) (fun _ => by kernel_rfl) hS477 ?_
          refine WDp (NPt (NPb (NPt (NPt (NPb (NPb (NPt (NPt (NPb (NPt hN)))))))))) 23 103 (undef) (by kernel_rfl) (fun _ => by kernel_rfl) hS477 ?_
          refine WDp (NPt (NPb (NPt (NPt (NPb (NPb (NPt (NPt (NPb (NPt hN)))))))))) 24 104 (undef) (by kernel_rfl) (fun _ => by kernel_rfl) hS477 ?_
          refine WDp (NPt (NPb (NPt (NPt (NPb (NPb (NPt (NPt (NPb (NPt hN)))))))))) 25 105 (undef) (by kernel_rfl) (fun _ => by kernel_rfl) hS477 ?_
          refine WDp (NPt (NPb (NPt (NPt (NPb (NPb (NPt (NPt (NPb (NPt hN)))))))))) 26 106 (undef) (by kernel_rfl) (fun _ => by kernel_rfl) hS477 ?_
          refine WDp (NPt (NPb (NPt (NPt (NPb (NPb (NPt (NPt (NPb (NPt hN)))))))))) 27 107 (undef) (by kernel_rfl) (fun _ => by kernel_rfl) hS477 ?_
          refine WDp (NPt (NPb (NPt (NPt (NPb (NPb (NPt (NPt (NPb (NPt hN)))))))))) 28 108 (undef) (by kernel_rfl) (fun _ => by kernel_rfl) hS477 ?_
          refine WDp (NPt (NPb (NPt (NPt (NPb (NPb (NPt (NPt (NPb (NPt hN)))))))))) 29 109 (undef) (by kernel_rfl) (fun _ => by kernel_rfl) hS477 ?_
          refine WDp (NPt (NPb (NPt (NPt (NPb (NPb (NPt (NPt (NPb (NPt hN)))))))))) 30 110 (undef) (by kernel_rfl) (fun _ => by kernel_rfl) hS477 ?_
          refine WDp (NPt (NPb (NPt (NPt (NPb (NPb (NPt (NPt (NPb (NPt hN)))))))))) 31 111 (undef) (by kernel_rfl) (fun _ => by kernel_rfl) hS477 ?_
          refine WDp (NPt (NPb (NPt (NPt (NPb (NPb (NPt (NPt (NPb (NPt hN)))))))))) 32 112 (undef) (by kernel_rfl) (fun _ => by kernel_rfl) hS477 ?_
          refine WDp (NPt (NPb (NPt (NPt (NPb (NPb (NPt (NPt (NPb (NPt hN)))))))))) 33 113 (.bool false) (by kernel_rfl) (fun _ => by kernel_rfl) hS477 ?_
          refine WDp (NPt (NPb (NPt (NPt (NPb (NPb (NPt (NPt (NPb (NPt hN)))))))))) 34 114 (.bool false) (by kernel_rfl) (fun _ => by kernel_rfl) hS477 ?_
          refine WD.done (by kernel_rfl) ?_
          refine QXn (hK473 _ _ ?_)
          refine WCf rfl (WC.skip ?_)
          refine QXb ?_
          refine QXn (hK469 _ _ ?_)
          refine WCg (WLr 1 [(115, .int .i64 (IntKind.i64.wrap ((j1 : Int) + 1)))] (fun _ => by kernel_rfl) ?_)
          refine WLt (show (.int .i64 (IntKind.i64.wrap ((j1 : Int) + 1)) : Value) = .int .i64 ((j1 : Int) + 1) from by rw [wrap_in_i64 ((j1 : Int) + 1) (by omega) (by omega)]) ?_
          refine WLr 1 [(77, .int .i64 ((j1 : Int) + 1))] (fun _ => by kernel_rfl) ?_
          refine WLd rfl ?_
          refine QXn ?_
          have hC502 := hC476.pick [0, 1, 2, 3] [0, 1, 2, 3] rfl rfl
          refine fun a_ ha_ => hK458 _ _ _ ?_ ⟨j1 + 1, rfl, rfl, hC502, ho478, ho479, ho480, ho481, ho482, ho483, ho484, by omega⟩ a_ (ha_.weaken (sub_of ⟨rfl, rfl, rfl, rfl, rfl, rfl, rfl, rfl, rfl, trivial⟩))
          omega
        ·
         have t467 : (m1 : Int) ≤ (j1 : Int) := by have q_ := of_decide_eq_false t467b; omega
         refine WCf rfl ?_
         refine WC.exit ?_
         refine QXe ?_
         refine QXe ?_
         refine QX.block_hit ?_
         refine QXb ?_
         refine QXn (hK447 _ _ ?_)
         refine WCg (WLr 2 [(70, .int .i64 2), (116, .int .i64 2)] (fun _ => by kernel_rfl) ?_)
         refine WLd rfl ?_
         refine QXn ?_
         refine fun a_ ha_ => hK441 [(0, .slice (some ⟨B, 0, none⟩) 3 3), (68, .slice A354 3 c355), (69, .int .i64 3), (70, .int .i64 2)] _ ?_ a_ (ha_.weaken (sub_of ⟨rfl, rfl, rfl, rfl, trivial⟩))
         refine Rounds.round (fun K503 hK504 => ?_)
         refine WCs (fun K505 hK506 => ?_)
         refine WCg (WLr 1 [(71, .bool true)] (fun _ => by kernel_rfl) (WLd rfl (QXn (hK506 _ _ ?_))))
         refine WCs (fun K507 hK508 => ?_)
         refine WCt rfl ?_
         refine WC.skip ?_
         refine QXn (hK508 _ _ ?_)
         refine WCs (fun K509 hK510 => ?_)
         refine WC.block ?_
         refine WCs (fun K511 hK512 => ?_)
         refine WCg (WLr 1 [(72, .int .i64 2)] (fun _ => by kernel_rfl) ?_)
         have hn517 := own_count cellB_len (by decide) row207_m460
         obtain ⟨e513, he514⟩ := get_some (xs := [] ++ [(⟨B0, m0, d0, ([] : List Int)⟩ : BRow)] ++ [(⟨B1, m1, d1, ([] : List Int)⟩ : BRow)] ++ [(⟨B2, m2, d2, ([] : List Int)⟩ : BRow)]) (i := 2) (by omega)
         obtain ⟨b515, hA516⟩ := own_addr (by decide) cellB_len row207_m460 he514
         refine WLi A354 3 c355 73 .i64 2 b515 0 2 1 (by kernel_rfl) hA516 (by omega) (by omega) 2 (by first | (simp; done) | omega) ?_
         refine WL.load 22 (.pointer (some ⟨b515, 2, none⟩)) (.slice e513.a e513.n e513.c) 74 (by kernel_rfl) (run_load1 rfl (by simpa [Nat.add_assoc] using Rd.cell (own_rd row207_m460 cellB_len (by decide)) hA516 he514 0 _ rfl)) ?_
         refine WLt (show (.slice e513.a e513.n e513.c : Value) = .slice B2 m2 d2 from by have q_ := he514; simp at q_; rw [← q_]) ?_
         refine WLr 2 [(11, .slice B2 m2 d2), (10, .int .i64 2)] (fun _ => by kernel_rfl) (WLd rfl (QXn (hK512 _ _ ?_)))
         refine WCs (fun K518 hK519 => ?_)
         refine WCg (WLr 3 [(77, .int .i64 0), (76, .int .i64 (m2 : Int)), (75, .slice B2 m2 d2)] (fun _ => by kernel_rfl) (WLd rfl (QXn (hK519 _ _ ?_))))
         refine WC.block ?_
         refine WC.loop (fun m_ E_ w_ => ∃ (j2 : Nat), m_ = m2 - j2 ∧ E_ = [(0, .slice (some ⟨B, 0, none⟩) 3 3), (10, .int .i64 2), (11, .slice B2 m2 d2), (68, .slice A354 3 c355), (69, .int .i64 3), (70, .int .i64 2), (75, .slice B2 m2 d2), (76, .int .i64 (m2 : Int)), (77, .int .i64 (j2 : Int))] ∧ Cx w (B :: (blk (.slice A0 n0 c0) ++ (blk (.slice A1 n1 c1) ++ blk (.slice A2 n2 c2)))) w_ [(B, .cells #[.slice A0 n0 c0, .slice A1 n1 c1, .slice A2 n2 c2] 22 (0, 0)), (g197, .cells #[.slice B0 m0 d0] 22), (g268, .cells #[.slice B1 m1 d1] 22), (g337, .cells #[.slice B2 m2 d2] 22)] [blk (.slice A0 n0 c0) ++ blk (.slice B0 m0 d0), blk (.slice A1 n1 c1) ++ blk (.slice B1 m1 d1), blk (.slice A2 n2 c2) ++ blk (.slice B2 m2 d2), blk (.slice A354 3 c355)] ∧ World.ownsRow w_ 0 22 1 (.slice A354 3 c355) 3 (([] ++ [(⟨B0, m0, d0, ([] : List Int)⟩ : BRow)] ++ [(⟨B1, m1, d1, ([] : List Int)⟩ : BRow)] ++ [(⟨B2, m2, d2, ([] : List Int)⟩ : BRow)]).flatMap cellB) ∧ World.ownsRow w_ 0 5 1 (.slice B0 m0 d0) m0 ((mkR 0 m0).flatMap (Go.Tw.encI .u8)) ∧ World.ownsRow w_ 0 5 1 (.slice A0 n0 c0) n0 ((mkR 0 n0).flatMap (Go.Tw.encI .u8)) ∧ World.ownsRow w_ 0 5 1 (.slice B1 m1 d1) m1 ((mkR 1 m1).flatMap (Go.Tw.encI .u8)) ∧ World.ownsRow w_ 0 5 1 (.slice A1 n1 c1) n1 ((mkR 1 n1).flatMap (Go.Tw.encI .u8)) ∧ World.ownsRow w_ 0 5 1 (.slice B2 m2 d2) m2 ((mkR 2 m2).flatMap (Go.Tw.encI .u8)) ∧ World.ownsRow w_ 0 5 1 (.slice A2 n2 c2) n2 ((mkR 2 n2).flatMap (Go.Tw.encI .u8)) ∧ (j2 ≤ m2)) ⟨_, _, ⟨0, rfl, rfl, hC462, row207_m460, n0_m460, o0_m460, n1_m460, o1_m460, n2_m460, o2_m460, Nat.zero_le _⟩, sub_of ⟨rfl, rfl, rfl, rfl, rfl, rfl, rfl, rfl, rfl, trivial⟩⟩ (fun m523 E_ w524 K520 hK521 hI522 => ?_)
         obtain ⟨j2, rfl, rfl, hC525, row207_m523, n0_m523, o0_m523, n1_m523, o1_m523, n2_m523, o2_m523, hj2⟩ := hI522
         refine WCs (fun K526 hK527 => ?_)
         refine WCg (WLr 1 [(78, .bool (decide ((j2 : Int) < (m2 : Int))))] (fun _ => by kernel_rfl) (WLd rfl (QXn (hK527 _ _ ?_))))
         refine WCs (fun K528 hK529 => ?_)
         refine WCa 78 (decide ((j2 : Int) < (m2 : Int))) rfl (fun t530b => ?_) (fun t530b => ?_)
         ·
          have t530 : (j2 : Int) < (m2 : Int) := by have q_ := of_decide_eq_true t530b; omega
          refine WCt rfl ?_
          refine WC.skip ?_
          refine QXn (hK529 _ _ ?_)
          refine WCs (fun K531 hK532 => ?_)
          refine WC.block ?_
          refine WCs (fun K533 hK534 => ?_)
          refine WCg (WLr 2 [(12, .int .i64 (j2 : Int)), (79, .int .i64 (j2 : Int))] (fun _ => by kernel_rfl) (WLd rfl (QXn (hK534 _ _ ?_))))
          refine WCs (fun K535 hK536 => ?_)
          refine WC.drawC hC525 [] (by kernel_rfl) (fun w537 hF538 hC539 hS540 => ?_)
          have ho541 := own_fr row207_m523 hF538 (by simp)
          have ho542 := own_fr n0_m523 hF538 (by simp)
          have ho543 := own_fr o0_m523 hF538 (by simp)
          have ho544 := own_fr n1_m523 hF538 (by simp)
          have ho545 := own_fr o1_m523 hF538 (by simp)
          have ho546 := own_fr n2_m523 hF538 (by simp)
          have ho547 := own_fr o2_m523 hF538 (by simp)
          refine WDp (NPt (NPb (NPt (NPt (NPb (NPb (NPt (NPt (NPb (NPt hN)))))))))) 0 80 (.slice B2 m2 d2) (by kernel_rfl) (fun _ => by kernel_rfl) hS540 ?_
          refine WDp (NPt (NPb (NPt (NPt (NPb (NPb (NPt (NPt (NPb (NPt hN)))))))))) 1 81 (.int .i64 (j2 : Int)) (by kernel_rfl) (fun _ => by kernel_rfl) hS540 ?_
          have hn552 := own_count (Go.Tw.encI_len _) (by decide) ho546
          obtain ⟨e548, he549⟩ := get_some (xs := (mkR 2 m2)) (i := j2) (by omega)
          obtain ⟨b550, hA551⟩ := own_addr (by decide) (Go.Tw.encI_len _) ho546 he549
          refine WDi (NPt (NPb (NPt (NPt (NPb (NPb (NPt (NPt (NPb (NPt hN)))))))))) 2 B2 m2 d2 82 .i64 (j2 : Int) b550 0 j2 1 (by kernel_rfl) (by kernel_rfl) hA551 (by omega) (by omega) j2 (by first | (simp; done) | omega) hS540 ?_
          refine WDp (NPt (NPb (NPt (NPt (NPb (NPb (NPt (NPt (NPb (NPt hN)))))))))) 4 84 (.int .i64 2) (by kernel_rfl) (fun _ => by kernel_rfl) hS540 ?_
          refine WDp (NPt (NPb (NPt (NPt (NPb (NPb (NPt (NPt (NPb (NPt hN)))))))))) 5 85 (.int .i64 62) (by kernel_rfl) (fun _ => by kernel_rfl) hS540 ?_
          refine WDp (NPt (NPb (NPt (NPt (NPb (NPb (NPt (NPt (NPb (NPt hN)))))))))) 6 86 (.int .i64 (j2 : Int)) (by kernel_rfl) (fun _ => by kernel_rfl) hS540 ?_
          refine WDp (NPt (NPb (NPt (NPt (NPb (NPb (NPt (NPt (NPb (NPt hN)))))))))) 7 87 (.int .i64 (IntKind.i64.wrap (7 * (j2 : Int)))) (by kernel_rfl) (fun _ => by kernel_rfl) hS540 ?_
          refine WD.recast (show (.int .i64 (IntKind.i64.wrap (7 * (j2 : Int))) : Value) = .int .i64 (7 * (j2 : Int)) from by rw [wrap_in_i64 (7 * (j2 : Int)) (by omega) (by omega)]) ?_
          refine WDp (NPt (NPb (NPt (NPt (NPb (NPb (NPt (NPt (NPb (NPt hN)))))))))) 8 88 (.int .i64 (IntKind.i64.wrap (62 + (7 * (j2 : Int))))) (by kernel_rfl) (fun _ => by kernel_rfl) hS540 ?_
          refine WD.recast (show (.int .i64 (IntKind.i64.wrap (62 + (7 * (j2 : Int)))) : Value) = .int .i64 (62 + (7 * (j2 : Int))) from by rw [wrap_in_i64 (62 + (7 * (j2 : Int))) (by omega) (by omega)]) ?_
          refine WDp (NPt (NPb (NPt (NPt (NPb (NPb (NPt (NPt (NPb (NPt hN)))))))))) 9 89 (.int .i64 (IntKind.i64.wrap ((62 + (7 * (j2 : Int))) + 1))) (by kernel_rfl) (fun _ => by kernel_rfl) hS540 ?_
          refine WD.recast (show (.int .i64 (IntKind.i64.wrap ((62 + (7 * (j2 : Int))) + 1)) : Value) = .int .i64 ((62 + (7 * (j2 : Int))) + 1) from by rw [wrap_in_i64 ((62 + (7 * (j2 : Int))) + 1) (by omega) (by omega)]) ?_
          refine WDp (NPt (NPb (NPt (NPt (NPb (NPb (NPt (NPt (NPb (NPt hN)))))))))) 10 90 (.int .u8 (IntKind.u8.wrap ((62 + (7 * (j2 : Int))) + 1))) (by kernel_rfl) (fun _ => by kernel_rfl) hS540 ?_
          refine WD.recast (show (.int .u8 (IntKind.u8.wrap ((62 + (7 * (j2 : Int))) + 1)) : Value) = .int .u8 (mkA 2 j2) from by simp [mkA]) ?_
          refine WDl (NPt (NPb (NPt (NPt (NPb (NPb (NPt (NPt (NPb (NPt hN)))))))))) 3 5 (.pointer (some ⟨b550, j2, none⟩)) (.int .u8 e548) 83 (by kernel_rfl) (by kernel_rfl) (fun _ hS_ => run_load1 rfl (by simpa [Nat.add_assoc] using Rd.cell (own_rd (own_fr ho546 hS_ (by simp)) (Go.Tw.encI_len _) (by decide)) hA551 he549 0 _ rfl)) hS540 ?_
          refine WDp (NPt (NPb (NPt (NPt (NPb (NPb (NPt (NPt (NPb (NPt hN)))))))))) 11 91 (.bool (e548 != (mkA 2 j2))) (by kernel_rfl) (fun _ => by kernel_rfl) hS540 ?_
          refine WDp (NPt (NPb (NPt (NPt (NPb (NPb (NPt (NPt (NPb (NPt hN)))))))))) 12 92 (.bool (e548 != (mkA 2 j2))) (by kernel_rfl) (fun _ => by kernel_rfl) hS540 ?_
          refine WD.know 92 (.bool (e548 != (mkA 2 j2))) (.bool false) rfl (congrArg Value.bool (by rw [mkR_get he549]; simp)) ?_
          refine WDp (NPt (NPb (NPt (NPt (NPb (NPb (NPt (NPt (NPb (NPt hN)))))))))) 13 93 (.int .i64 (j2 : Int)) (by kernel_rfl) (fun _ => by kernel_rfl) hS540 ?_
          refine WDp (NPt (NPb (NPt (NPt (NPb (NPb (NPt (NPt (NPb (NPt hN)))))))))) 14 94 (.slice (some ⟨B, 0, none⟩) 3 3) (by kernel_rfl) (fun _ => by kernel_rfl) hS540 ?_
          refine WDp (NPt (NPb (NPt (NPt (NPb (NPb (NPt (NPt (NPb (NPt hN)))))))))) 15 95 (.int .i64 2) (by kernel_rfl) (fun _ => by kernel_rfl) hS540 ?_
          refine WDi (NPt (NPb (NPt (NPt (NPb (NPb (NPt (NPt (NPb (NPt hN)))))))))) 16 (some ⟨B, 0, none⟩) 3 3 96 .i64 2 B 0 2 1 (by kernel_rfl) (by kernel_rfl) rfl (by omega) (by omega) 2 (by first | (simp; done) | omega) hS540 ?_
          refine WDl (NPt (NPb (NPt (NPt (NPb (NPb (NPt (NPt (NPb (NPt hN)))))))))) 17 22 (.pointer (some ⟨B, 2, none⟩)) (.slice A2 n2 c2) 97 (by kernel_rfl) (by kernel_rfl) (fun _ hS_ => run_ld (Fr.has hS_ (hC539.get 0 rfl) (by simp)) rfl) hS540 ?_
          refine WDp (NPt (NPb (NPt (NPt (NPb (NPb (NPt (NPt (NPb (NPt hN)))))))))) 18 98 (.int .i64 (n2 : Int)) (by kernel_rfl) (fun _ => by kernel_rfl) hS540 ?_
          refine WDp (NPt (NPb (NPt (NPt (NPb (NPb (NPt (NPt (NPb (NPt hN)))))))))) 19 99 (.bool (decide ((j2 : Int) < (n2 : Int)))) (by kernel_rfl) (fun _ => by kernel_rfl) hS540 ?_
          refine WDp (NPt (NPb (NPt (NPt (NPb (NPb (NPt (NPt (NPb (NPt hN)))))))))) 20 100 (.bool (decide ((j2 : Int) < (n2 : Int)))) (by kernel_rfl) (fun _ => by kernel_rfl) hS540 ?_
          refine WDa 100 (decide ((j2 : Int) < (n2 : Int))) rfl (fun t553b => ?_) (fun t553b => ?_)
          ·
           have t553 : (j2 : Int) < (n2 : Int) := by have q_ := of_decide_eq_true t553b; omega
           refine WDp (NPt (NPb (NPt (NPt (NPb (NPb (NPt (NPt (NPb (NPt hN)))))))))) 21 101 (.slice (some ⟨B, 0, none⟩) 3 3) (by kernel_rfl) (fun _ => by kernel_rfl) hS540 ?_
           refine WDp (NPt (NPb (NPt (NPt (NPb (NPb (NPt (NPt (NPb (NPt hN)))))))))) 22 102 (.int .i64 2) (by kernel_rfl) (fun _ => by kernel_rfl) hS540 ?_
           refine WDi (NPt (NPb (NPt (NPt (NPb (NPb (NPt (NPt (NPb (NPt hN)))))))))) 23 (some ⟨B, 0, none⟩) 3 3 103 .i64 2 B 0 2 1 (by kernel_rfl) (by kernel_rfl) rfl (by omega) (by omega) 2 (by first | (simp; done) | omega) hS540 ?_
           refine WDp (NPt (NPb (NPt (NPt (NPb (NPb (NPt (NPt (NPb (NPt hN)))))))))) 25 105 (.int .i64 (j2 : Int)) (by kernel_rfl) (fun _ => by kernel_rfl) hS540 ?_
           refine WDp (NPt (NPb (NPt (NPt (NPb (NPb (NPt (NPt (NPb (NPt hN)))))))))) 28 108 (.slice B2 m2 d2) (by kernel_rfl) (fun _ => by kernel_rfl) hS540 ?_
           refine WDp (NPt (NPb (NPt (NPt (NPb (NPb (NPt (NPt (NPb (NPt hN)))))))))) 29 109 (.int .i64 (j2 : Int)) (by kernel_rfl) (fun _ => by kernel_rfl) hS540 ?_
           have hn558 := own_count (Go.Tw.encI_len _) (by decide) ho546
           obtain ⟨e554, he555⟩ := get_some (xs := (mkR 2 m2)) (i := j2) (by omega)
           obtain ⟨b556, hA557⟩ := own_addr (by decide) (Go.Tw.encI_len _) ho546 he555
           refine WDi (NPt (NPb (NPt (NPt (NPb (NPb (NPt (NPt (NPb (NPt hN)))))))))) 30 B2 m2 d2 110 .i64 (j2 : Int) b556 0 j2 1 (by kernel_rfl) (by kernel_rfl) hA557 (by omega) (by omega) j2 (by first | (simp; done) | omega) hS540 ?_
           refine WDl (NPt (NPb (NPt (NPt (NPb (NPb (NPt (NPt (NPb (NPt hN)))))))))) 24 22 (.pointer (some ⟨B, 2, none⟩)) (.slice A2 n2 c2) 104 (by kernel_rfl) (by kernel_rfl) (fun _ hS_ => run_ld (Fr.has hS_ (hC539.get 0 rfl) (by simp)) rfl) hS540 ?_
           have hn563 := own_count (Go.Tw.encI_len _) (by decide) ho547
           obtain ⟨e559, he560⟩ := get_some (xs := (mkR 2 n2)) (i := j2) (by omega)
           obtain ⟨b561, hA562⟩ := own_addr (by decide) (Go.Tw.encI_len _) ho547 he560
           refine WDi (NPt (NPb (NPt (NPt (NPb (NPb (NPt (NPt (NPb (NPt hN)))))))))) 26 A2 n2 c2 106 .i64 (j2 : Int) b561 0 j2 1 (by kernel_rfl) (by kernel_rfl) hA562 (by omega) (by omega) j2 (by first | (simp; done) | omega) hS540 ?_
           refine WDl (NPt (NPb (NPt (NPt (NPb (NPb (NPt (NPt (NPb (NPt hN)))))))))) 27 5 (.pointer (some ⟨b561, j2, none⟩)) (.int .u8 e559) 107 (by kernel_rfl) (by kernel_rfl) (fun _ hS_ => run_load1 rfl (by simpa [Nat.add_assoc] using Rd.cell (own_rd (own_fr ho547 hS_ (by simp)) (Go.Tw.encI_len _) (by decide)) hA562 he560 0 _ rfl)) hS540 ?_
           refine WDl (NPt (NPb (NPt (NPt (NPb (NPb (NPt (NPt (NPb (NPt hN)))))))))) 31 5 (.pointer (some ⟨b556, j2, none⟩)) (.int .u8 e554) 111 (by kernel_rfl) (by kernel_rfl) (fun _ hS_ => run_load1 rfl (by simpa [Nat.add_assoc] using Rd.cell (own_rd (own_fr ho546 hS_ (by simp)) (Go.Tw.encI_len _) (by decide)) hA557 he555 0 _ rfl)) hS540 ?_
           refine WDp (NPt (NPb (NPt (NPt (NPb (NPb (NPt (NPt (NPb (NPt hN)))))))))) 32 112 (.bool (e559 != e554)) (by kernel_rfl) (fun _ => by kernel_rfl) hS540 ?_
           refine WDp (NPt (NPb (NPt (NPt (NPb (NPb (NPt (NPt (NPb (NPt hN)))))))))) 33 113 (.bool (e559 != e554)) (by kernel_rfl) (fun _ => by kernel_rfl) hS540 ?_
           refine WDp (NPt (NPb (NPt (NPt (NPb (NPb (NPt (NPt (NPb (NPt hN)))))))))) 34 114 (.bool (e559 != e554)) (by kernel_rfl) (fun _ => by kernel_rfl) hS540 ?_
           refine WD.done (by kernel_rfl) ?_
           refine QXn (hK536 _ _ ?_)
           refine WC.know 114 (.bool (e559 != e554)) (.bool false) rfl (congrArg Value.bool (by rw [mkR_get he560, mkR_get he555]; simp)) ?_
           refine WCf rfl (WC.skip ?_)
           refine QXb ?_
           refine QXn (hK532 _ _ ?_)
           refine WCg (WLr 1 [(115, .int .i64 (IntKind.i64.wrap ((j2 : Int) + 1)))] (fun _ => by kernel_rfl) ?_)
           refine WLt (show (.int .i64 (IntKind.i64.wrap ((j2 : Int) + 1)) : Value) = .int .i64 ((j2 : Int) + 1) from by rw [wrap_in_i64 ((j2 : Int) + 1) (by omega) (by omega)]) ?_
           refine WLr 1 [(77, .int .i64 ((j2 : Int) + 1))] (fun _ => by kernel_rfl) ?_
           refine WLd rfl ?_
           refine QXn ?_
           have hC564 := hC539.pick [0, 1, 2, 3] [0, 1, 2, 3] rfl rfl
           refine fun a_ ha_ => hK521 _ _ _ ?_ ⟨j2 + 1, rfl, rfl, hC564, ho541, ho542, ho543, ho544, ho545, ho546, ho547, by omega⟩ a_ (ha_.weaken (sub_of ⟨rfl, rfl, rfl, rfl, rfl, rfl, rfl, rfl, rfl, trivial⟩))
           omega
          ·
           have t553 : (n2 : Int) ≤ (j2 : Int) := by have q_ := of_decide_eq_false t553b; omega
           refine WDp (NPt (NPb (NPt (NPt (NPb (NPb (NPt (NPt (NPb (NPt hN)))))))))) 21 101 (undef) (by kernel_rfl) (fun _ => by kernel_rfl) hS540 ?_
           refine WDp (NPt (NPb (NPt (NPt (NPb (NPb (NPt (NPt (NPb (NPt hN)))))))))) 22 102 (undef) (by kernel_rfl) (fun _ => by kernel_rfl) hS540 ?_
           refine WDp (NPt (NPb (NPt (NPt (NPb (NPb (NPt (NPt (NPb (NPt hN)))))))))) 23 103 (undef) (by kernel_rfl) (fun _ => by kernel_rfl) hS540 ?_
           refine WDp (NPt (NPb (NPt (NPt (NPb (NPb (NPt (NPt (NPb (NPt hN)))))))))) 24 104 (undef) (by kernel_rfl) (fun _ => by kernel_rfl) hS540 ?_
           refine WDp (NPt (NPb (NPt (NPt (NPb (NPb (NPt (NPt (NPb (NPt hN)))))))))) 25 105 (undef) (by kernel_rfl) (fun _ => by kernel_rfl) hS540 ?_
           refine WDp (NPt (NPb (NPt (NPt (NPb (NPb (NPt (NPt (NPb (NPt hN)))))))))) 26 106 (undef) (by kernel_rfl) (fun _ => by kernel_rfl) hS540 ?_
           refine WDp (NPt (NPb (NPt (NPt (NPb (NPb (NPt (NPt (NPb (NPt hN)))))))))) 27 107 (undef) (by kernel_rfl) (fun _ => by kernel_rfl) hS540 ?_
           refine WDp (NPt (NPb (NPt (NPt (NPb (NPb (NPt (NPt (NPb (NPt hN)))))))))) 28 108 (undef) (by kernel_rfl) (fun _ => by kernel_rfl) hS540 ?_
           refine WDp (NPt (NPb (NPt (NPt (NPb (NPb (NPt (NPt (NPb (NPt hN)))))))))) 29 109 (undef) (by kernel_rfl) (fun _ => by kernel_rfl) hS540 ?_
           refine WDp (NPt (NPb (NPt (NPt (NPb (NPb (NPt (NPt (NPb (NPt hN)))))))))) 30 110 (undef) (by kernel_rfl) (fun _ => by kernel_rfl) hS540 ?_
           refine WDp (NPt (NPb (NPt (NPt (NPb (NPb (NPt (NPt (NPb (NPt hN)))))))))) 31 111 (undef) (by kernel_rfl) (fun _ => by kernel_rfl) hS540 ?_
           refine WDp (NPt (NPb (NPt (NPt (NPb (NPb (NPt (NPt (NPb (NPt hN)))))))))) 32 112 (undef) (by kernel_rfl) (fun _ => by kernel_rfl) hS540 ?_
           refine WDp (NPt (NPb (NPt (NPt (NPb (NPb (NPt (NPt (NPb (NPt hN)))))))))) 33 113 (.bool false) (by kernel_rfl) (fun _ => by kernel_rfl) hS540 ?_
           refine WDp (NPt (NPb (NPt (NPt (NPb (NPb (NPt (NPt (NPb (NPt hN)))))))))) 34 114 (.bool false) (by kernel_rfl) (fun _ => by kernel_rfl) hS540 ?_
           refine WD.done (by kernel_rfl) ?_
           refine QXn (hK536 _ _ ?_)
           refine WCf rfl (WC.skip ?_)
           refine QXb ?_
           refine QXn (hK532 _ _ ?_)
           refine WCg (WLr 1 [(115, .int .i64 (IntKind.i64.wrap ((j2 : Int) + 1)))] (fun _ => by kernel_rfl) ?_)
           refine WLt (show (.int .i64 (IntKind.i64.wrap ((j2 : Int) + 1)) : Value) = .int .i64 ((j2 : Int) + 1) from by rw [wrap_in_i64 ((j2 : Int) + 1) (by omega) (by omega)]) ?_
           refine WLr 1 [(77, .int .i64 ((j2 : Int) + 1))] (fun _ => by kernel_rfl) ?_
           refine WLd rfl ?_
           refine QXn ?_
           have hC565 := hC539.pick [0, 1, 2, 3] [0, 1, 2, 3] rfl rfl
           refine fun a_ ha_ => hK521 _ _ _ ?_ ⟨j2 + 1, rfl, rfl, hC565, ho541, ho542, ho543, ho544, ho545, ho546, ho547, by omega⟩ a_ (ha_.weaken (sub_of ⟨rfl, rfl, rfl, rfl, rfl, rfl, rfl, rfl, rfl, trivial⟩))
           omega
         ·
          have t530 : (m2 : Int) ≤ (j2 : Int) := by have q_ := of_decide_eq_false t530b; omega
          refine WCf rfl ?_
          refine WC.exit ?_
          refine QXe ?_
          refine QXe ?_
          refine QX.block_hit ?_
          refine QXb ?_
          refine QXn (hK510 _ _ ?_)
          refine WCg (WLr 2 [(70, .int .i64 3), (116, .int .i64 3)] (fun _ => by kernel_rfl) ?_)
          refine WLd rfl ?_
          refine QXn ?_
          refine fun a_ ha_ => hK504 [(0, .slice (some ⟨B, 0, none⟩) 3 3), (68, .slice A354 3 c355), (69, .int .i64 3), (70, .int .i64 3)] _ ?_ a_ (ha_.weaken (sub_of ⟨rfl, rfl, rfl, rfl, trivial⟩))
          refine Rounds.round (fun K566 hK567 => ?_)
          refine WCs (fun K568 hK569 => ?_)
          refine WCg (WLr 1 [(71, .bool false)] (fun _ => by kernel_rfl) (WLd rfl (QXn (hK569 _ _ ?_))))
          refine WCs (fun K570 hK571 => ?_)
          refine WCf rfl ?_
          refine WC.exit ?_
          refine QXe ?_
          refine QXe ?_
          refine QX.block_hit ?_
          refine QXn (hK374 _ _ ?_)
          refine WCs (fun K572 hK573 => ?_)
          refine WCg (WLr 1 [(2, .bool true)] (fun _ => by kernel_rfl) (WLd rfl (QXn (hK573 _ _ ?_))))
          refine WC.ret ?_
          refine (hret _ _ _ rfl ?_).1
          exact ⟨rfl, hC525.fr⟩

end Go.Proofs.Ytkhdliobbbmkoaa
