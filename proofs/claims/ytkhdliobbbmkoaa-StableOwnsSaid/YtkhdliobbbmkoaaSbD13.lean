/- Contracts of functions of the program, each proved by a walk through its code; conditions stand in the statements. -/
import Derived.Test.YtkhdliobbbmkoaaSbC13
namespace Go.Proofs.Ytkhdliobbbmkoaa
set_option linter.unusedSimpArgs false
set_option linter.unusedVariables false
set_option linter.unusedSectionVars false
open Go Go.RowKit Go.Tw
set_option linter.unusedVariables false
set_option maxRecDepth 20000
set_option maxHeartbeats 2000000 in
theorem Put_ct (F : List Nat) (p : Nat) (N Y : Ct) (size : Int) (key : ByteArray) (A : Option Addr) (c : Nat) (ps : List BRow) (w : World) (ht : stAt w F p N Y size) (hps : Rd w 1 cellB A ps) (hr : ∀ r ∈ ps, rowAt w r) (hpl : ps.length < 2 ^ 60) : Calls Try.prog 12 #[.pointer (some ⟨p, 0, none⟩), .string key, .slice A ps.length c] w fun e w' => ∃ F2, e = .returned (errV 38 (putE N size key (catL ps).length)) ∧ Fr w w' F ∧ stAt w' F2 p (if putE N size key (catL ps).length = 0 then putL N key (catL ps) else N) Y size ∧ ∀ x ∈ F2, x ∈ F ∨ w.heap.size ≤ x := by
 refine enterD (n := 81) Try.func12 rfl rfl (Nat.le_of_ble_eq_true rfl) ?_
 intro Q0 hN hret hret'
 have ht0 := ht
 obtain ⟨b1, b2, m1, m2, hp_, hq1_, hq2_, rfl, rfl, rfl, hne_, hft_, hs0_, hs1_, hu1_, hu2_⟩ := ht
 obtain ⟨hne1_, hne2_, hne3_⟩ := hne_
 obtain ⟨es1, cl1, hb1_, hm1_⟩ := hq1_.map
 obtain ⟨es2, cl2, hb2_, hm2_⟩ := hq2_.map
 have hC := Cx.startMs w [(p, .cells #[.map (some b1), .map (some b2), .int .i64 size] 70), (b1, .map es1 cl1), (b2, .map es2 cl2)] (by simp [hne1_, hne2_, hne3_]) (by simp [hp_, hb1_, hb2_])
 refine WCs (fun K1 hK2 => ?_)
 refine WCg (WLr 1 [(6, .nilIface)] (fun _ => by kernel_rfl) (WLd rfl (QXn (hK2 _ _ ?_))))
 refine WCs (fun K3 hK4 => ?_)
 refine WCs (fun K5 hK6 => ?_)
 refine WCg (WLr 2 [(13, .bool (key.toList == (⟨#[]⟩ : ByteArray).toList)), (12, .string key)] (fun _ => by kernel_rfl) ?_)
 refine WLt (show (.bool (key.toList == (⟨#[]⟩ : ByteArray).toList) : Value) = .bool (decide (key = (⟨#[]⟩ : ByteArray))) from by rw [str_eql]) ?_
 refine WLr 1 [(14, .bool (decide (key = (⟨#[]⟩ : ByteArray))))] (fun _ => by kernel_rfl) ?_
 refine WLa 14 (decide (key = (⟨#[]⟩ : ByteArray))) rfl (fun t7b => ?_) (fun t7b => ?_)
 ·
  have t7 : key = (⟨#[]⟩ : ByteArray) := of_decide_eq_true t7b
  refine WLr 4 [(18, .bool true), (17, undef), (16, undef), (15, undef)] (fun _ => by kernel_rfl) (WLd rfl (QXn (hK6 _ _ ?_)))
  refine WCt rfl ?_
  refine WCs (fun K8 hK9 => ?_)
  refine WCg (WLr 2 [(6, .iface 38 (.int .i64 9)), (19, .iface 38 (.int .i64 9))] (fun _ => by kernel_rfl) (WLd rfl (QXn (hK9 _ _ ?_))))
  refine WC.ret ?_
  refine QXr ?_
  refine (hret _ _ _ rfl ?_).1
  clear hN hret hret' hK9 hK6 hK4 hK2
  have h_ : putE (ct m1) size key (catL ps).length = 9 := by unfold putE; first | rw [if_pos (key0 (by assumption))] | rw [if_pos (.inr (by omega))]
  rw [h_, if_neg (by decide)]
  exact ⟨_, rfl, (Fr.refl w []).mono (fun _ h_ => nomatch h_), stAt_fr ht0 (Fr.refl w []) (by simp), fun _ h_ => .inl h_⟩
 ·
  have t7 : ¬ (key = (⟨#[]⟩ : ByteArray)) := of_decide_eq_false t7b
  refine WLr 4 [(18, .bool (decide ((key.size : Int) > 64))), (17, .bool (decide ((key.size : Int) > 64))), (16, .int .i64 (key.size : Int)), (15, .string key)] (fun _ => by kernel_rfl) (WLd rfl (QXn (hK6 _ _ ?_)))
  refine WCa 18 (decide ((key.size : Int) > 64)) rfl (fun t10b => ?_) (fun t10b => ?_)
  ·
   have t10 : (64 : Int) < (key.size : Int) := by have q_ := of_decide_eq_true t10b; omega
   refine WCt rfl ?_
   refine WCs (fun K11 hK12 => ?_)
   refine WCg (WLr 2 [(6, .iface 38 (.int .i64 9)), (19, .iface 38 (.int .i64 9))] (fun _ => by kernel_rfl) (WLd rfl (QXn (hK12 _ _ ?_))))
   refine WC.ret ?_
   refine QXr ?_
   refine (hret _ _ _ rfl ?_).1
   clear hN hret hret' hK12 hK6 hK4 hK2
   have h_ : putE (ct m1) size key (catL ps).length = 9 := by unfold putE; first | rw [if_pos (key0 (by assumption))] | rw [if_pos (.inr (by omega))]
   rw [h_, if_neg (by decide)]
   exact ⟨_, rfl, (Fr.refl w []).mono (fun _ h_ => nomatch h_), stAt_fr ht0 (Fr.refl w []) (by simp), fun _ h_ => .inl h_⟩
  ·
   have t10 : (key.size : Int) ≤ 64 := by have q_ := of_decide_eq_false t10b; omega
   refine WCf rfl (WC.skip (QXn (hK4 _ _ ?_)))
   refine WCs (fun K13 hK14 => ?_)
   refine WCs (fun K15 hK16 => ?_)
   refine WCg (WLr 2 [(21, .bool false), (20, .pointer (some ⟨p, 0, none⟩))] (fun _ => by kernel_rfl) (WLd rfl (QXn (hK16 _ _ ?_))))
   refine WCf rfl (WC.skip (QXn (hK14 _ _ ?_)))
   refine WCs (fun K17 hK18 => ?_)
   refine WCg (WLr 1 [(23, .pointer (some ⟨p, 0, none⟩))] (fun _ => by kernel_rfl) ?_)
   refine WLc rfl rfl rfl rfl rfl (by kernel_rfl) (Used_ct _ p _ _ size w (stAt_fr ht0 (Fr.refl w []) (by simp))) ?_
   rintro _ w20 ⟨rfl, hF19⟩
   refine ⟨_, rfl, ?_⟩
   have hC21 := hC.call hF19
   have hf22 := (Fr.refl w []).trans hF19 (by simp)
   refine WLr 1 [(7, .int .i64 (usedL (ct m1) : Int))] (fun _ => by kernel_rfl) (WLd rfl (QXn (hK18 _ _ ?_)))
   refine WCs (fun K23 hK24 => ?_)
   refine WCs (fun K25 hK26 => ?_)
   refine WCg (WLr 3 [(28, .pointer (some ⟨p, 0, none⟩)), (27, .pointer (some ⟨p, 0, none⟩)), (26, .pointer (some ⟨p, 0, none⟩))] (fun _ => by kernel_rfl) ?_)
   refine WL.load 68 (.pointer (some ⟨p, 0, none⟩)) (.map (some b1)) 29 (by kernel_rfl) (run_ld (hC21.get 0 rfl) rfl) ?_
   refine WLr 1 [(30, .string key)] (fun _ => by kernel_rfl) ?_
   obtain ⟨xv27, hxv28⟩ : ∃ x_, (lookL m1 key).getD zeroB = x_ := ⟨_, rfl⟩
   obtain ⟨bv29, hbv30⟩ : ∃ b_, (lookL m1 key).isSome = b_ := ⟨_, rfl⟩
   have hr31 := lookM_ok (P := Try.prog) (w := w20) (ek := ekS) (ev := evB) (d := zeroB) (rfl : Program.underlying Try.prog 68 = some (.map 9 22)) keyS (fun _ => by kernel_rfl) (hC21.get 1 rfl) hm1_ key hxv28 hbv30
   refine WL.sem (Instr.lookup 68 (.map (some b1)) (.string key) true) 31 (.tuple #[.slice xv27.a xv27.n xv27.c, .bool bv29]) (by kernel_rfl) hr31 ?_
   refine WLr 5 [(9, .bool bv29), (8, .slice xv27.a xv27.n xv27.c), (33, .bool bv29), (32, .slice xv27.a xv27.n xv27.c), (25, .tuple #[.slice xv27.a xv27.n xv27.c, .bool bv29])] (fun _ => by kernel_rfl) (WLd rfl (QXn (hK26 _ _ ?_)))
   refine WCs (fun K32 hK33 => ?_)
   refine WCg (WLr 1 [(34, .bool bv29)] (fun _ => by kernel_rfl) (WLd rfl (QXn (hK33 _ _ ?_))))
   refine WCa 34 (bv29) rfl (fun t34b => ?_) (fun t34b => ?_)
   ·
    have hlk_ := look_some hxv28 (by rw [hbv30]; simpa using t34b)
    have hud_ := used_del (N := ct m1) (k := key) (v := xv27.xs) (by rw [ct_look, hlk_]; rfl)
    have hln_ := (hq1_.rows _ (look_mem hlk_)).len
    dsimp only at hln_
    refine WCt rfl ?_
    refine WCg (WLr 6 [(40, .int .i64 (IntKind.i64.wrap ((key.size : Int) + (xv27.n : Int)))), (39, .int .i64 (xv27.n : Int)), (38, .slice xv27.a xv27.n xv27.c), (37, .int .i64 (key.size : Int)), (36, .string key), (35, .int .i64 (usedL (ct m1) : Int))] (fun _ => by kernel_rfl) ?_)
    refine WLt (show (.int .i64 (IntKind.i64.wrap ((key.size : Int) + (xv27.n : Int))) : Value) = .int .i64 ((key.size : Int) + (xv27.n : Int)) from by rw [wrap_in_i64 ((key.size : Int) + (xv27.n : Int)) (by omega) (by omega)]) ?_
    refine WLr 1 [(41, .int .i64 (IntKind.i64.wrap ((usedL (ct m1) : Int) - ((key.size : Int) + (xv27.n : Int)))))] (fun _ => by kernel_rfl) ?_
    refine WLt (show (.int .i64 (IntKind.i64.wrap ((usedL (ct m1) : Int) - ((key.size : Int) + (xv27.n : Int)))) : Value) = .int .i64 (usedL (delL (ct m1) key) : Int) from congrArg (Value.int .i64) (by rw [wrap_in_i64 _ (by omega) (by omega)] <;> omega)) ?_
    refine WLr 1 [(7, .int .i64 (usedL (delL (ct m1) key) : Int))] (fun _ => by kernel_rfl) (WLd rfl (QXn (hK24 _ _ ?_)))
    refine WCs (fun K35 hK36 => ?_)
    refine WCg (WLr 4 [(45, .int .i64 (IntKind.i64.wrap ((usedL (delL (ct m1) key) : Int) + (key.size : Int)))), (44, .int .i64 (key.size : Int)), (43, .string key), (42, .int .i64 (usedL (delL (ct m1) key) : Int))] (fun _ => by kernel_rfl) ?_)
    refine WLt (show (.int .i64 (IntKind.i64.wrap ((usedL (delL (ct m1) key) : Int) + (key.size : Int))) : Value) = .int .i64 ((usedL (delL (ct m1) key) : Int) + (key.size : Int)) from congrArg (Value.int .i64) (by rw [wrap_in_i64 _ (by omega) (by omega)] <;> omega)) ?_
    refine WLr 1 [(7, .int .i64 ((usedL (delL (ct m1) key) : Int) + (key.size : Int)))] (fun _ => by kernel_rfl) (WLd rfl (QXn (hK36 _ _ ?_)))
    refine WCs (fun K37 hK38 => ?_)
    refine WCs (fun K39 hK40 => ?_)
    refine WCg (WLr 3 [(48, .int .i64 0), (47, .int .i64 (ps.length : Int)), (46, .slice A ps.length c)] (fun _ => by kernel_rfl) (WLd rfl (QXn (hK40 _ _ ?_))))
    refine WC.block ?_
    refine WC.loop (fun m_ E_ w_ => ∃ (i : Nat) (u : Int), m_ = ps.length - i ∧ E_ = [(0, .pointer (some ⟨p, 0, none⟩)), (1, .string key), (2, .slice A ps.length c), (7, .int .i64 u), (46, .slice A ps.length c), (47, .int .i64 (ps.length : Int)), (48, .int .i64 (i : Int))] ∧ Cx w [p, b1, b2] w_ [(p, .cells #[.map (some b1), .map (some b2), .int .i64 size] 70), (b1, .map es1 cl1), (b2, .map es2 cl2)] [] ∧ Fr w w_ [] ∧ (i ≤ ps.length ∧ u = (usedL (delL (ct m1) key) : Int) + (key.size : Int) + ((catL (ps.take i)).length : Int) ∧ u ≤ 68000000)) ⟨_, _, ⟨0, (usedL (delL (ct m1) key) : Int) + (key.size : Int), rfl, rfl, hC21, hf22, Nat.zero_le _, by simp [catL], by omega⟩, sub_of ⟨rfl, rfl, rfl, rfl, rfl, rfl, rfl, trivial⟩⟩ (fun m44 E_ w45 K41 hK42 hI43 => ?_)
    obtain ⟨i, u, rfl, rfl, hC46, fr0_m44, hi, hu, hub⟩ := hI43
    refine WCs (fun K47 hK48 => ?_)
    refine WCg (WLr 1 [(49, .bool (decide ((i : Int) < (ps.length : Int))))] (fun _ => by kernel_rfl) (WLd rfl (QXn (hK48 _ _ ?_))))
    refine WCs (fun K49 hK50 => ?_)
    refine WCa 49 (decide ((i : Int) < (ps.length : Int))) rfl (fun t51b => ?_) (fun t51b => ?_)
    ·
     have t51 : (i : Int) < (ps.length : Int) := by have q_ := of_decide_eq_true t51b; omega
     refine WCt rfl ?_
     refine WC.skip ?_
     refine QXn (hK50 _ _ ?_)
     refine WCs (fun K52 hK53 => ?_)
     refine WC.block ?_
     refine WCs (fun K54 hK55 => ?_)
     refine WCg ?_
     obtain ⟨e56, he57⟩ := get_some (xs := ps) (i := i) (by omega)
     obtain ⟨b58, o60, hA59, hc61⟩ := hps.at_ _ _ he57
     have hre_ := hr _ (List.mem_of_getElem? he57)
     have hln_ := hre_.len
     obtain ⟨hcs_, hcl_⟩ := cat_snoc_le he57
     refine WLi A ps.length c 50 .i64 (i : Int) b58 o60 i 1 (by kernel_rfl) hA59 (by omega) (by omega) (o60 + i) (by first | (simp; done) | omega) ?_
     refine WL.load 22 (.pointer (some ⟨b58, o60 + i, none⟩)) (.slice e56.a e56.n e56.c) 51 (by kernel_rfl) (run_load1 rfl (by simpa [Nat.add_assoc] using fr0_m44.cell (hc61 0 _ rfl) (by simp))) ?_
     refine WLr 1 [(11, .slice e56.a e56.n e56.c)] (fun _ => by kernel_rfl) (WLd rfl (QXn (hK55 _ _ ?_)))
     refine WCs (fun K62 hK63 => ?_)
     refine WCs (fun K64 hK65 => ?_)
     refine WCg (WLr 5 [(56, .pointer (some ⟨p, 2, none⟩)), (55, .pointer (some ⟨p, 0, none⟩)), (54, .pointer (some ⟨p, 0, none⟩)), (53, .int .i64 (e56.n : Int)), (52, .slice e56.a e56.n e56.c)] (fun _ => by kernel_rfl) ?_)
     refine WL.load 3 (.pointer (some ⟨p, 2, none⟩)) (.int .i64 size) 57 (by kernel_rfl) (run_ld (hC46.get 0 rfl) rfl) ?_
     refine WLr 2 [(59, .int .i64 (IntKind.i64.wrap (size - u))), (58, .int .i64 u)] (fun _ => by kernel_rfl) ?_
     refine WLt (show (.int .i64 (IntKind.i64.wrap (size - u)) : Value) = .int .i64 (size - u) from by rw [wrap_in_i64 (size - u) (by omega) (by omega)]) ?_
     refine WLr 1 [(60, .bool (decide ((e56.n : Int) > (size - u))))] (fun _ => by kernel_rfl) (WLd rfl (QXn (hK65 _ _ ?_)))
     refine WCa 60 (decide ((e56.n : Int) > (size - u))) rfl (fun t66b => ?_) (fun t66b => ?_)
     ·
      have t66 : (size - u) < (e56.n : Int) := by have q_ := of_decide_eq_true t66b; omega
      refine WCt rfl ?_
      refine WCs (fun K67 hK68 => ?_)
      refine WCg (WLr 2 [(6, .iface 38 (.int .i64 5)), (61, .iface 38 (.int .i64 5))] (fun _ => by kernel_rfl) (WLd rfl (QXn (hK68 _ _ ?_))))
      refine WC.ret ?_
      refine QXr ?_
      refine QXk ?_
      refine QXr ?_
      refine QXr ?_
      refine QXk ?_
      refine QXr ?_
      refine (hret _ _ _ rfl ?_).1
      clear hN hret hret' hK68 hK65 hK63 hK55 hK53 hK50 hK48 hK40 hK38 hK36 hK33 hK26 hK24 hK18 hK16 hK14 hK6 hK4 hK2
      have h_ : putE (ct m1) size key (catL ps).length = 5 := by unfold putE; rw [if_neg (key1 (by assumption) (by omega)), if_neg (by omega)]
      rw [h_, if_neg (by decide)]
      exact ⟨_, rfl, fr0_m44.mono (fun _ h_ => nomatch h_), stAt_fr ht0 fr0_m44 (by simp), fun _ h_ => .inl h_⟩
     ·
      have t66 : (e56.n : Int) ≤ (size - u) := by have q_ := of_decide_eq_false t66b; omega
      refine WCf rfl (WC.skip (QXn (hK63 _ _ ?_)))
      refine WCg (WLr 4 [(65, .int .i64 (IntKind.i64.wrap (u + (e56.n : Int)))), (64, .int .i64 (e56.n : Int)), (63, .slice e56.a e56.n e56.c), (62, .int .i64 u)] (fun _ => by kernel_rfl) ?_)
      refine WLt (show (.int .i64 (IntKind.i64.wrap (u + (e56.n : Int))) : Value) = .int .i64 (u + (e56.n : Int)) from by rw [wrap_in_i64 (u + (e56.n : Int)) (by omega) (by omega)]) ?_
      refine WLr 1 [(7, .int .i64 (u + (e56.n : Int)))] (fun _ => by kernel_rfl) ?_
      refine WLd rfl ?_
      refine QXb ?_
      refine QXn (hK53 _ _ ?_)
      refine WCg (WLr 1 [(66, .int .i64 (IntKind.i64.wrap ((i : Int) + 1)))] (fun _ => by kernel_rfl) ?_)
      refine WLt (show (.int .i64 (IntKind.i64.wrap ((i : Int) + 1)) : Value) = .int .i64 ((i : Int) + 1) from by rw [wrap_in_i64 ((i : Int) + 1) (by omega) (by omega)]) ?_
      refine WLr 1 [(48, .int .i64 ((i : Int) + 1))] (fun _ => by kernel_rfl) ?_
      refine WLd rfl ?_
      refine QXn ?_
      have hC69 := hC46.pick [0, 1, 2] [] rfl rfl
      refine fun a_ ha_ => hK42 _ _ _ ?_ ⟨i + 1, u + (e56.n : Int), rfl, rfl, hC69, fr0_m44, by omega, by omega, by omega⟩ a_ (ha_.weaken (sub_of ⟨rfl, rfl, rfl, rfl, rfl, rfl, rfl, trivial⟩))
      omega
    ·
     have t51 : (ps.length : Int) ≤ (i : Int) := by have q_ := of_decide_eq_false t51b; omega
     refine WCf rfl ?_
     have hi_ : i = ps.length := by omega
     subst hi_
     rw [List.take_length] at hu
     subst hu
     refine WC.exit ?_
     refine QXe ?_
     refine QXe ?_
     refine QX.block_hit ?_
     refine QXn (hK38 _ _ ?_)
     refine WCs (fun K70 hK71 => ?_)
     refine WCs (fun K72 hK73 => ?_)
     refine WCg (WLr 4 [(70, .pointer (some ⟨p, 2, none⟩)), (69, .pointer (some ⟨p, 0, none⟩)), (68, .pointer (some ⟨p, 0, none⟩)), (67, .int .i64 ((usedL (delL (ct m1) key) : Int) + (key.size : Int) + ((catL ps).length : Int)))] (fun _ => by kernel_rfl) ?_)
     refine WL.load 3 (.pointer (some ⟨p, 2, none⟩)) (.int .i64 size) 71 (by kernel_rfl) (run_ld (hC46.get 0 rfl) rfl) ?_
     refine WLr 1 [(72, .bool (decide (((usedL (delL (ct m1) key) : Int) + (key.size : Int) + ((catL ps).length : Int)) > size)))] (fun _ => by kernel_rfl) (WLd rfl (QXn (hK73 _ _ ?_)))
     refine WCa 72 (decide (((usedL (delL (ct m1) key) : Int) + (key.size : Int) + ((catL ps).length : Int)) > size)) rfl (fun t74b => ?_) (fun t74b => ?_)
     ·
      have t74 : size < ((usedL (delL (ct m1) key) : Int) + (key.size : Int) + ((catL ps).length : Int)) := by have q_ := of_decide_eq_true t74b; omega
      refine WCt rfl ?_
      refine WCs (fun K75 hK76 => ?_)
      refine WCg (WLr 2 [(6, .iface 38 (.int .i64 5)), (73, .iface 38 (.int .i64 5))] (fun _ => by kernel_rfl) (WLd rfl (QXn (hK76 _ _ ?_))))
      refine WC.ret ?_
      refine QXr ?_
      refine (hret _ _ _ rfl ?_).1
      clear hN hret hret' hK76 hK73 hK71 hK50 hK48 hK40 hK38 hK36 hK33 hK26 hK24 hK18 hK16 hK14 hK6 hK4 hK2
      have h_ : putE (ct m1) size key (catL ps).length = 5 := by unfold putE; rw [if_neg (key1 (by assumption) (by omega)), if_neg (by omega)]
      rw [h_, if_neg (by decide)]
      exact ⟨_, rfl, fr0_m44.mono (fun _ h_ => nomatch h_), stAt_fr ht0 fr0_m44 (by simp), fun _ h_ => .inl h_⟩
     ·
      have t74 : ((usedL (delL (ct m1) key) : Int) + (key.size : Int) + ((catL ps).length : Int)) ≤ size := by have q_ := of_decide_eq_false t74b; omega
      refine WCf rfl (WC.skip (QXn (hK71 _ _ ?_)))
      refine WCs (fun K77 hK78 => ?_)
      refine WC.drawC hC46 [b1] (by kernel_rfl) (fun w79 hF80 hC81 hS82 => ?_)
      have hf83 := fr0_m44.trans hF80 (by simp)
      refine WDp (NPt hN) 0 74 (.pointer (some ⟨p, 0, none⟩)) (by kernel_rfl) (fun _ => by kernel_rfl) hS82 ?_
      refine WDp (NPt hN) 1 75 (.pointer (some ⟨p, 0, none⟩)) (by kernel_rfl) (fun _ => by kernel_rfl) hS82 ?_
      refine WDp (NPt hN) 2 76 (.pointer (some ⟨p, 0, none⟩)) (by kernel_rfl) (fun _ => by kernel_rfl) hS82 ?_
      refine WDp (NPt hN) 4 78 (.string key) (by kernel_rfl) (fun _ => by kernel_rfl) hS82 ?_
      refine WDp (NPt hN) 5 79 (.slice A ps.length c) (by kernel_rfl) (fun _ => by kernel_rfl) hS82 ?_
      refine WDl (NPt hN) 3 68 (.pointer (some ⟨p, 0, none⟩)) (.map (some b1)) 77 (by kernel_rfl) (by kernel_rfl) (fun _ hS_ => run_ld (Fr.has hS_ (hC81.get 0 rfl) (by simpa using hC81.ne 0 1 rfl rfl (by decide))) rfl) hS82 ?_
      refine WD.call 6 (by kernel_rfl) rfl rfl rfl rfl rfl (by kernel_rfl) (ConcatB A c ps w79 (Rd.fr hps hf83) (fun r h_ => (hr r h_).fr hf83 (fun _ _ => by simp)) hpl (by omega)) ?_
      rintro _ w86 ⟨v_, rfl, hF85, ho84⟩
      have hC87 := hC81.callN hF85 (own_ge ho84) (own_lt ho84)
      obtain ⟨A88, c89, rfl, hle90⟩ := own_form ho84
      have ho92 := own_base (b' := 0) ho84 (fun _ _ => Nat.zero_le _)
      have hS93 := hS82.trans hF85 (by simp)
      refine ⟨_, rfl, hS93, ?_⟩
      have hf94 := hf83.trans hF85 (by simp)
      obtain ⟨w95, es96, cl97, hr98, hF99, hC100, hm101⟩ := putM_run (P := Try.prog) (ek := ekS) (ev := evB) hC87 1 rfl (rfl : Program.underlying Try.prog 68 = some (.map 9 22)) keyS hm1_ key (⟨A88, (catL ps).length, c89, (catL ps)⟩ : BRow)
      have hS102 := hS93.trans hF99 (by simp)
      refine WD.semU 7 (Instr.mapUpdate 68 (.map (some b1)) (.string key) (.slice A88 ((catL ps).length) c89)) (by kernel_rfl) (by kernel_rfl) hr98 hS102 ?_
      have ho103 := own_fr ho92 hF99 (hC87.apartM 0 1 rfl rfl)
      refine WD.done (by kernel_rfl) ?_
      refine QXn (hK78 _ _ ?_)
      refine WCs (fun K104 hK105 => ?_)
      refine WCg (WLr 1 [(6, .nilIface)] (fun _ => by kernel_rfl) (WLd rfl (QXn (hK105 _ _ ?_))))
      refine WC.ret ?_
      refine (hret _ _ _ rfl ?_).1
      clear hN hret hret' hK105 hK78 hK73 hK71 hK50 hK48 hK40 hK38 hK36 hK33 hK26 hK24 hK18 hK16 hK14 hK6 hK4 hK2
      have h_ : putE (ct m1) size key (catL ps).length = 0 := by unfold putE; rw [if_neg (key1 (by assumption) (by omega)), if_pos (by omega)]
      rw [h_, if_pos rfl]
      have hks_ : 1 ≤ key.size := by have q_ := key1 (n := 64) (by assumption) (by omega); omega
      obtain ⟨F2_, h1_, h2_, h3_⟩ := put_fin (r := (⟨A88, (catL ps).length, c89, (catL ps)⟩ : BRow)) hq1_ hq2_ ⟨hne1_, hne2_, hne3_⟩ hft_ (by intro x hx; simp only [List.mem_cons, List.not_mem_nil, or_false] at hx; rcases hx with rfl | rfl | rfl; exact lt_of_heap hp_; exact lt_of_heap hb1_; exact lt_of_heap hb2_) hC100.fr (hC100.get 0 rfl) (hC100.get 1 rfl) hm101 (hC100.get 2 rfl) hm2_ ⟨own_rd ho103 (Go.Tw.encI_len _) (by decide), rfl, cat_byte hr⟩ (newF_of hC100 0 rfl (by intro x hx; simp only [List.mem_cons, List.not_mem_nil, or_false] at hx; rcases hx with rfl | rfl | rfl; exact lt_of_heap hp_; exact lt_of_heap hb1_; exact lt_of_heap hb2_) (by intro q_ hq_; simp only [List.map_cons, List.map_nil, List.mem_cons, List.not_mem_nil, or_false] at hq_; rcases hq_ with rfl | rfl | rfl; exact hC100.notin 0 0 rfl rfl; exact hC100.notin 0 1 rfl rfl; exact hC100.notin 0 2 rfl rfl)) (own_lt ho103) hks_ ⟨hs0_, hs1_⟩ (by rw [used_put]; dsimp only; omega) hu2_
      exact ⟨F2_, rfl, h1_, h2_, h3_⟩
   ·
    have hud_ : delL (ct m1) key = ct m1 := del_none (by rw [ct_look, (look_none hxv28 (by rw [hbv30]; simpa using t34b)).1]; rfl)
    have hud2_ : usedL (delL (ct m1) key) = usedL (ct m1) := by rw [hud_]
    refine WCf rfl (WC.skip (QXn (hK24 _ _ ?_)))
    refine WCs (fun K106 hK107 => ?_)
    refine WCg (WLr 4 [(45, .int .i64 (IntKind.i64.wrap ((usedL (ct m1) : Int) + (key.size : Int)))), (44, .int .i64 (key.size : Int)), (43, .string key), (42, .int .i64 (usedL (ct m1) : Int))] (fun _ => by kernel_rfl) ?_)
    refine WLt (show (.int .i64 (IntKind.i64.wrap ((usedL (ct m1) : Int) + (key.size : Int))) : Value) = .int .i64 ((usedL (delL (ct m1) key) : Int) + (key.size : Int)) from congrArg (Value.int .i64) (by rw [wrap_in_i64 _ (by omega) (by omega)] <;> omega)) ?_
    refine WLr 1 [(7, .int .i64 ((usedL (delL (ct m1) key) : Int) + (key.size : Int)))] (fun _ => by kernel_rfl) (WLd rfl (QXn (hK107 _ _ ?_)))
    refine WCs (fun K108 hK109 => ?_)
    refine WCs (fun K110 hK111 => ?_)
    refine WCg (WLr 3 [(48, .int .i64 0), (47, .int .i64 (ps.length : Int)), (46, .slice A ps.length c)] (fun _ => by kernel_rfl) (WLd rfl (QXn (hK111 _ _ ?_))))
    refine WC.block ?_
    refine WC.loop (fun m_ E_ w_ => ∃ (i : Nat) (u : Int), m_ = ps.length - i ∧ E_ = [(0, .pointer (some ⟨p, 0, none⟩)), (1, .string key), (2, .slice A ps.length c), (7, .int .i64 u), (46, .slice A ps.length c), (47, .int .i64 (ps.length : Int)), (48, .int .i64 (i : Int))] ∧ Cx w [p, b1, b2] w_ [(p, .cells #[.map (some b1), .map (some b2), .int .i64 size] 70), (b1, .map es1 cl1), (b2, .map es2 cl2)] [] ∧ Fr w w_ [] ∧ (i ≤ ps.length ∧ u = (usedL (delL (ct m1) key) : Int) + (key.size : Int) + ((catL (ps.take i)).length : Int) ∧ u ≤ 68000000)) ⟨_, _, ⟨0, (usedL (delL (ct m1) key) : Int) + (key.size : Int), rfl, rfl, hC21, hf22, Nat.zero_le _, by simp [catL], by omega⟩, sub_of ⟨rfl, rfl, rfl, rfl, rfl, rfl, rfl, trivial⟩⟩ (fun m115 E_ w116 K112 hK113 hI114 => ?_)
    obtain ⟨i, u, rfl, rfl, hC117, fr0_m115, hi, hu, hub⟩ := hI114
    refine WCs (fun K118 hK119 => ?_)
    refine WCg (WLr 1 [(49, .bool (decide ((i : Int) < (ps.length : Int))))] (fun _ => by kernel_rfl) (WLd rfl (QXn (hK119 _ _ ?_))))
    refine WCs (fun K120 hK121 => ?_)
    refine WCa 49 (decide ((i : Int) < (ps.length : Int))) rfl (fun t122b => ?_) (fun t122b => ?_)
    ·
     have t122 : (i : Int) < (ps.length : Int) := by have q_ := of_decide_eq_true t122b; omega
     refine WCt rfl ?_
     refine WC.skip ?_
     refine QXn (hK121 _ _ ?_)
     refine WCs (fun K123 hK124 => ?_)
     refine WC.block ?_
     refine WCs (fun K125 hK126 => ?_)
     refine WCg ?_
     obtain ⟨e127, he128⟩ := get_some (xs := ps) (i := i) (by omega)
     obtain ⟨b129, o131, hA130, hc132⟩ := hps.at_ _ _ he128
     have hre_ := hr _ (List.mem_of_getElem? he128)
     have hln_ := hre_.len
     obtain ⟨hcs_, hcl_⟩ := cat_snoc_le he128
     refine WLi A ps.length c 50 .i64 (i : Int) b129 o131 i 1 (by kernel_rfl) hA130 (by omega) (by omega) (o131 + i) (by first | (simp; done) | omega) ?_
     refine WL.load 22 (.pointer (some ⟨b129, o131 + i, none⟩)) (.slice e127.a e127.n e127.c) 51 (by kernel_rfl) (run_load1 rfl (by simpa [Nat.add_assoc] using fr0_m115.cell (hc132 0 _ rfl) (by simp))) ?_
     refine WLr 1 [(11, .slice e127.a e127.n e127.c)] (fun _ => by kernel_rfl) (WLd rfl (QXn (hK126 _ _ ?_)))
     refine WCs (fun K133 hK134 => ?_)
     refine WCs (fun K135 hK136 => ?_)
     refine WCg (WLr 5 [(56, .pointer (some ⟨p, 2, none⟩)), (55, .pointer (some ⟨p, 0, none⟩)), (54, .pointer (some ⟨p, 0, none⟩)), (53, .int .i64 (e127.n : Int)), (52, .slice e127.a e127.n e127.c)] (fun _ => by kernel_rfl) ?_)
     refine WL.load 3 (.pointer (some ⟨p, 2, none⟩)) (.int .i64 size) 57 (by kernel_rfl) (run_ld (hC117.get 0 rfl) rfl) ?_
     refine WLr 2 [(59, .int .i64 (IntKind.i64.wrap (size - u))), (58, .int .i64 u)] (fun _ => by kernel_rfl) ?_
     refine WLt (show (.int .i64 (IntKind.i64.wrap (size - u)) : Value) = .int .i64 (size - u) from by rw [wrap_in_i64 (size - u) (by omega) (by omega)]) ?_
     refine WLr 1 [(60, .bool (decide ((e127.n : Int) > (size - u))))] (fun _ => by kernel_rfl) (WLd rfl (QXn (hK136 _ _ ?_)))
     refine WCa 60 (decide ((e127.n : Int) > (size - u))) rfl (fun t137b => ?_) (fun t137b => ?_)
     ·
      have t137 : (size - u) < (e127.n : Int) := by have q_ := of_decide_eq_true t137b; omega
      refine WCt rfl ?_
      refine WCs (fun K138 hK139 => ?_)
      refine WCg (WLr 2 [(6, .iface 38 (.int .i64 5)), (61, .iface 38 (.int .i64 5))] (fun _ => by kernel_rfl) (WLd rfl (QXn (hK139 _ _ ?_))))
      refine WC.ret ?_
      refine QXr ?_
      refine QXk ?_
      refine QXr ?_
      refine QXr ?_
      refine QXk ?_
      refine QXr ?_
      refine (hret _ _ _ rfl ?_).1
      clear hN hret hret' hK139 hK136 hK134 hK126 hK124 hK121 hK119 hK111 hK109 hK107 hK33 hK26 hK24 hK18 hK16 hK14 hK6 hK4 hK2
      have h_ : putE (ct m1) size key (catL ps).length = 5 := by unfold putE; rw [if_neg (key1 (by assumption) (by omega)), if_neg (by omega)]
      rw [h_, if_neg (by decide)]
      exact ⟨_, rfl, fr0_m115.mono (fun _ h_ => nomatch h_), stAt_fr ht0 fr0_m115 (by simp), fun _ h_ => .inl h_⟩
     ·
      have t137 : (e127.n : Int) ≤ (size - u) := by have q_ := of_decide_eq_false t137b; omega
      refine WCf rfl (WC.skip (QXn (hK134 _ _ ?_)))
      refine WCg (WLr 4 [(65, .int .i64 (IntKind.i64.wrap (u + (e127.n : Int)))), (64, .int .i64 (e127.n : Int)), (63, .slice e127.a e127.n e127.c), (62, .int .i64 u)] (fun _ => by kernel_rfl) ?_)
      refine WLt (show (.int .i64 (IntKind.i64.wrap (u + (e127.n : Int))) : Value) = .int .i64 (u + (e127.n : Int)) from by rw [wrap_in_i64 (u + (e127.n : Int)) (by omega) (by omega)]) ?_
      refine WLr 1 [(7, .int .i64 (u + (e127.n : Int)))] (fun _ => by kernel_rfl) ?_
      refine WLd rfl ?_
      refine QXb ?_
      refine QXn (hK124 _ _ ?_)
      refine WCg (WLr 1 [(66, .int .i64 (IntKind.i64.wrap ((i : Int) + 1)))] (fun _ => by kernel_rfl) ?_)
      refine WLt (show (.int .i64 (IntKind.i64.wrap ((i : Int) + 1)) : Value) = .int .i64 ((i : Int) + 1) from by rw [wrap_in_i64 ((i : Int) + 1) (by omega) (by omega)]) ?_
      refine WLr 1 [(48, .int .i64 ((i : Int) + 1))] (fun _ => by kernel_rfl) ?_
      refine WLd rfl ?_
      refine QXn ?_
      have hC140 := hC117.pick [0, 1, 2] [] rfl rfl
      refine fun a_ ha_ => hK113 _ _ _ ?_ ⟨i + 1, u + (e127.n : Int), rfl, rfl, hC140, fr0_m115, by omega, by omega, by omega⟩ a_ (ha_.weaken (sub_of ⟨rfl, rfl, rfl, rfl, rfl, rfl, rfl, trivial⟩))
      omega
    ·
     have t122 : (ps.length : Int) ≤ (i : Int) := by have q_ := of_decide_eq_false t122b; omega
     refine WCf rfl ?_
     have hi_ : i = ps.length := by omega
     subst hi_
     rw [List.take_length] at hu
     subst hu
     refine WC.exit ?_
     refine QXe ?_
     refine QXe ?_
     refine QX.block_hit ?_
     refine QXn (hK109 _ _ ?_)
     refine WCs (fun K141 hK142 => ?_)
     refine WCs (fun K143 hK144 => ?_)
     refine WCg (WLr 4 [(70, .pointer (some ⟨p, 2, none⟩)), (69, .pointer (some ⟨p, 0, none⟩)), (68, .pointer (some ⟨p, 0, none⟩)), (67, .int .i64 ((usedL (delL (ct m1) key) : Int) + (key.size : Int) + ((catL ps).length : Int)))] (fun _ => by kernel_rfl) ?_)
     refine WL.load 3 (.pointer (some ⟨p, 2, none⟩)) (.int .i64 size) 71 (by kernel_rfl) (run_ld (hC117.get 0 rfl) rfl) ?_
     refine WLr 1 [(72, .bool (decide (((usedL (delL (ct m1) key) : Int) + (key.size : Int) + ((catL ps).length : Int)) > size)))] (fun _ => by kernel_rfl) (WLd rfl (QXn (hK144 _ _ ?_)))
     refine WCa 72 (decide (((usedL (delL (ct m1) key) : Int) + (key.size : Int) + ((catL ps).length : Int)) > size)) rfl (fun t145b => ?_) (fun t145b => ?_)
     ·
      have t145 : size < ((usedL (delL (ct m1) key) : Int) + (key.size : Int) + ((catL ps).length : Int)) := by have q_ := of_decide_eq_true t145b; omega
      refine WCt rfl ?_
      refine WCs (fun K146 hK147 => ?_)
      refine WCg (WLr 2 [(6, .iface 38 (.int .i64 5)), (73, .iface 38 (.int .i64 5))] (fun _ => by kernel_rfl) (WLd rfl (QXn (hK147 _ _ ?_))))
      refine WC.ret ?_
      refine QXr ?_
      refine (hret _ _ _ rfl ?_).1
      clear hN hret hret' hK147 hK144 hK142 hK121 hK119 hK111 hK109 hK107 hK33 hK26 hK24 hK18 hK16 hK14 hK6 hK4 hK2
      have h_ : putE (ct m1) size key (catL ps).length = 5 := by unfold putE; rw [if_neg (key1 (by assumption) (by omega)), if_neg (by omega)]
      rw [h_, if_neg (by decide)]
      exact ⟨_, rfl, fr0_m115.mono (fun _ h_ => nomatch h_), stAt_fr ht0 fr0_m115 (by simp), fun _ h_ => .inl h_⟩
     ·
      have t145 : ((usedL (delL (ct m1) key) : Int) + (key.size : Int) + ((catL ps).length : Int)) ≤ size := by have q_ := of_decide_eq_false t145b; omega
      refine WCf rfl (WC.skip (QXn (hK142 _ _ ?_)))
      refine WCs (fun K148 hK149 => ?_)
      refine WC.drawC hC117 [b1] (by kernel_rfl) (fun w150 hF151 hC152 hS153 => ?_)
      have hf154 := fr0_m115.trans hF151 (by simp)
      refine WDp (NPt hN) 0 74 (.pointer (some ⟨p, 0, none⟩)) (by kernel_rfl) (fun _ => by kernel_rfl) hS153 ?_
      refine WDp (NPt hN) 1 75 (.pointer (some ⟨p, 0, none⟩)) (by kernel_rfl) (fun _ => by kernel_rfl) hS153 ?_
      refine WDp (NPt hN) 2 76 (.pointer (some ⟨p, 0, none⟩)) (by kernel_rfl) (fun _ => by kernel_rfl) hS153 ?_
      refine WDp (NPt hN) 4 78 (.string key) (by kernel_rfl) (fun _ => by kernel_rfl) hS153 ?_
      refine WDp (NPt hN) 5 79 (.slice A ps.length c) (by kernel_rfl) (fun _ => by kernel_rfl) hS153 ?_
      refine WDl (NPt hN) 3 68 (.pointer (some ⟨p, 0, none⟩)) (.map (some b1)) 77 (by kernel_rfl) (by kernel_rfl) (fun _ hS_ => run_ld (Fr.has hS_ (hC152.get 0 rfl) (by simpa using hC152.ne 0 1 rfl rfl (by decide))) rfl) hS153 ?_
      refine WD.call 6 (by kernel_rfl) rfl rfl rfl rfl rfl (by kernel_rfl) (ConcatB A c ps w150 (Rd.fr hps hf154) (fun r h_ => (hr r h_).fr hf154 (fun _ _ => by simp)) hpl (by omega)) ?_
      rintro _ w157 ⟨v_, rfl, hF156, ho155⟩
      have hC158 := hC152.callN hF156 (own_ge ho155) (own_lt ho155)
      obtain ⟨A159, c160, rfl, hle161⟩ := own_form ho155
      have ho163 := own_base (b' := 0) ho155 (fun _ _ => Nat.zero_le _)
      have hS164 := hS153.trans hF156 (by simp)
      refine ⟨_, rfl, hS164, ?_⟩
      have hf165 := hf154.trans hF156 (by simp)
      obtain ⟨w166, es167, cl168, hr169, hF170, hC171, hm172⟩ := putM_run (P := Try.prog) (ek := ekS) (ev := evB) hC158 1 rfl (rfl : Program.underlying Try.prog 68 = some (.map 9 22)) keyS hm1_ key (⟨A159, (catL ps).length, c160, (catL ps)⟩ : BRow)
      have hS173 := hS164.trans hF170 (by simp)
      refine WD.semU 7 (Instr.mapUpdate 68 (.map (some b1)) (.string key) (.slice A159 ((catL ps).length) c160)) (by kernel_rfl) (by kernel_rfl) hr169 hS173 ?_
      have ho174 := own_fr ho163 hF170 (hC158.apartM 0 1 rfl rfl)
      refine WD.done (by kernel_rfl) ?_
      refine QXn (hK149 _ _ ?_)
      refine WCs (fun K175 hK176 => ?_)
      refine WCg (WLr 1 [(6, .nilIface)] (fun _ => by kernel_rfl) (WLd rfl (QXn (hK176 _ _ ?_))))
      refine WC.ret ?_
      refine (hret _ _ _ rfl ?_).1
      clear hN hret hret' hK176 hK149 hK144 hK142 hK121 hK119 hK111 hK109 hK107 hK33 hK26 hK24 hK18 hK16 hK14 hK6 hK4 hK2
      have h_ : putE (ct m1) size key (catL ps).length = 0 := by unfold putE; rw [if_neg (key1 (by assumption) (by omega)), if_pos (by omega)]
      rw [h_, if_pos rfl]
      have hks_ : 1 ≤ key.size := by have q_ := key1 (n := 64) (by assumption) (by omega); omega
      obtain ⟨F2_, h1_, h2_, h3_⟩ := put_fin (r := (⟨A159, (catL ps).length, c160, (catL ps)⟩ : BRow)) hq1_ hq2_ ⟨hne1_, hne2_, hne3_⟩ hft_ (by intro x hx; simp only [List.mem_cons, List.not_mem_nil, or_false] at hx; rcases hx with rfl | rfl | rfl; exact lt_of_heap hp_; exact lt_of_heap hb1_; exact lt_of_heap hb2_) hC171.fr (hC171.get 0 rfl) (hC171.get 1 rfl) hm172 (hC171.get 2 rfl) hm2_ ⟨own_rd ho174 (Go.Tw.encI_len _) (by decide), rfl, cat_byte hr⟩ (newF_of hC171 0 rfl (by intro x hx; simp only [List.mem_cons, List.not_mem_nil, or_false] at hx; rcases hx with rfl | rfl | rfl; exact lt_of_heap hp_; exact lt_of_heap hb1_; exact lt_of_heap hb2_) (by intro q_ hq_; simp only [List.map_cons, List.map_nil, List.mem_cons, List.not_mem_nil, or_false] at hq_; rcases hq_ with rfl | rfl | rfl; exact hC171.notin 0 0 rfl rfl; exact hC171.notin 0 1 rfl rfl; exact hC171.notin 0 2 rfl rfl)) (own_lt ho174) hks_ ⟨hs0_, hs1_⟩ (by rw [used_put]; dsimp only; omega) hu2_
      exact ⟨F2_, rfl, h1_, h2_, h3_⟩

set_option maxHeartbeats 1000000 in
theorem Sync_ct (F : List Nat) (p : Nat) (N Y : Ct) (size : Int)  (w : World) (ht : stAt w F p N Y size) : Calls Try.prog 13 #[.pointer (some ⟨p, 0, none⟩)] w fun e w' => ∃ F2, e = .returned (.int .i64 (unlN N Y : Int)) ∧ Fr w w' F ∧ stAt w' F2 p N N size ∧ ∀ x ∈ F2, x ∈ F ∨ w.heap.size ≤ x := by
 refine enterD (n := 24) Try.func13 rfl rfl (Nat.le_of_ble_eq_true rfl) ?_
 intro Q0 hN hret hret'
 have ht0 := ht
 obtain ⟨b1, b2, m1, m2, hp_, hq1_, hq2_, rfl, rfl, rfl, hne_, hft_, hs0_, hs1_, hu1_, hu2_⟩ := ht
 obtain ⟨hne1_, hne2_, hne3_⟩ := hne_
 obtain ⟨es1, cl1, hb1_, hm1_⟩ := hq1_.map
 obtain ⟨es2, cl2, hb2_, hm2_⟩ := hq2_.map
 have hC := Cx.startMs w [(p, .cells #[.map (some b1), .map (some b2), .int .i64 size] 70), (b1, .map es1 cl1), (b2, .map es2 cl2)] (by simp [hne1_, hne2_, hne3_]) (by simp [hp_, hb1_, hb2_])
 refine WCs (fun K1 hK2 => ?_)
 refine WCg (WLr 1 [(2, .int .i64 0)] (fun _ => by kernel_rfl) (WLd rfl (QXn (hK2 _ _ ?_))))
 refine WCs (fun K3 hK4 => ?_)
 refine WCs (fun K5 hK6 => ?_)
 refine WCg (WLr 2 [(5, .bool false), (4, .pointer (some ⟨p, 0, none⟩))] (fun _ => by kernel_rfl) (WLd rfl (QXn (hK6 _ _ ?_))))
 refine WCf rfl (WC.skip (QXn (hK4 _ _ ?_)))
 refine WCs (fun K7 hK8 => ?_)
 refine WC.drawC hC [] (by kernel_rfl) (fun w9 hF10 hC11 hS12 => ?_)
 have hf13 := (Fr.refl w []).trans hF10 (by simp)
 refine WDp (NPt hN) 0 6 (.pointer (some ⟨p, 0, none⟩)) (by kernel_rfl) (fun _ => by kernel_rfl) hS12 ?_
 refine WDp (NPt hN) 1 7 (.pointer (some ⟨p, 0, none⟩)) (by kernel_rfl) (fun _ => by kernel_rfl) hS12 ?_
 refine WDp (NPt hN) 2 8 (.pointer (some ⟨p, 0, none⟩)) (by kernel_rfl) (fun _ => by kernel_rfl) hS12 ?_
 refine WDp (NPt hN) 4 10 (.pointer (some ⟨p, 0, none⟩)) (by kernel_rfl) (fun _ => by kernel_rfl) hS12 ?_
 refine WDp (NPt hN) 5 11 (.pointer (some ⟨p, 0, none⟩)) (by kernel_rfl) (fun _ => by kernel_rfl) hS12 ?_
 refine WDp (NPt hN) 6 12 (.pointer (some ⟨p, 1, none⟩)) (by kernel_rfl) (fun _ => by kernel_rfl) hS12 ?_
 refine WDl (NPt hN) 3 68 (.pointer (some ⟨p, 0, none⟩)) (.map (some b1)) 9 (by kernel_rfl) (by kernel_rfl) (fun _ hS_ => run_ld (Fr.has hS_ (hC11.get 0 rfl) (by simp)) rfl) hS12 ?_
 refine WDl (NPt hN) 7 68 (.pointer (some ⟨p, 1, none⟩)) (.map (some b2)) 13 (by kernel_rfl) (by kernel_rfl) (fun _ hS_ => run_ld (Fr.has hS_ (hC11.get 0 rfl) (by simp)) rfl) hS12 ?_
 refine WD.call 8 (by kernel_rfl) rfl rfl rfl rfl rfl (by kernel_rfl) (unlike_ct b1 b2 m1 m2 w9 (hq1_.fr hf13 (by simp) (by simp)) (hq2_.fr hf13 (by simp) (by simp)) hne3_) ?_
 rintro _ w15 ⟨rfl, hF14⟩
 have hS17 := hS12.trans hF14 (by simp)
 refine ⟨_, rfl, hS17, ?_⟩
 have hC16 := hC11.call hF14
 have hf18 := hf13.trans hF14 (by simp)
 refine WDp (NPt hN) 9 3 (.int .i64 (unlN (ct m1) (ct m2) : Int)) (by kernel_rfl) (fun _ => by kernel_rfl) hS17 ?_
 refine WD.done (by kernel_rfl) ?_
 refine QXn (hK8 _ _ ?_)
 refine WCs (fun K19 hK20 => ?_)
 refine WCg (WLr 4 [(18, .pointer (some ⟨p, 0, none⟩)), (17, .pointer (some ⟨p, 0, none⟩)), (16, .pointer (some ⟨p, 0, none⟩)), (15, .pointer (some ⟨p, 0, none⟩))] (fun _ => by kernel_rfl) ?_)
 refine WL.load 68 (.pointer (some ⟨p, 0, none⟩)) (.map (some b1)) 19 (by kernel_rfl) (run_ld (hC16.get 0 rfl) rfl) ?_
 have hcs_ := hC16.fr.size
 refine WLc rfl rfl rfl rfl rfl (by kernel_rfl) (MCloneB b1 cl1 es1 w15 (hC16.get 1 rfl)) ?_
 rintro _ w25 ⟨b21, rfl, hF24, hge22, hb23⟩
 refine ⟨_, rfl, ?_⟩
 have hC26 := hC16.callB hF24 hge22 hb23
 have hf27 := hf18.trans hF24 (by simp)
 refine WLr 2 [(22, .pointer (some ⟨p, 1, none⟩)), (21, .pointer (some ⟨p, 0, none⟩))] (fun _ => by kernel_rfl) ?_
 refine WLs (c' := #[.map (some b1), .map (some b21), .int .i64 size]) hC26 0 68 p 1 (.map (some b21)) (by kernel_rfl) rfl (by kernel_rfl) (fun w28 hF30 hC31 => ?_)
 refine WLd rfl (QXn (hK20 _ _ ?_))
 refine WCs (fun K32 hK33 => ?_)
 refine WCg (WLr 2 [(2, .int .i64 (unlN (ct m1) (ct m2) : Int)), (23, .int .i64 (unlN (ct m1) (ct m2) : Int))] (fun _ => by kernel_rfl) (WLd rfl (QXn (hK33 _ _ ?_))))
 refine WC.ret ?_
 refine (hret _ _ _ rfl ?_).1
 clear hN hret hret' hK33 hK20 hK8 hK6 hK4 hK2
 obtain ⟨F2_, h1_, h2_, h3_⟩ := sync_fin (b1 := b1) (b2 := b2) (m1 := m1) (m2 := m2) hq1_ hne1_ hft_ (by intro x hx; simp only [List.mem_cons, List.not_mem_nil, or_false] at hx; rcases hx with rfl | rfl | rfl; exact lt_of_heap hp_; exact lt_of_heap hb1_; exact lt_of_heap hb2_) hC31.fr (Nat.le_trans hcs_ hge22) (hC31.get 0 rfl) (hC31.get 1 rfl) (hC31.get 3 rfl) hm1_ ⟨hs0_, hs1_⟩ hu1_
 exact ⟨F2_, rfl, h1_, h2_, h3_⟩

set_option maxHeartbeats 1000000 in
theorem Crash_ct (F : List Nat) (p : Nat) (N Y : Ct) (size : Int)  (w : World) (ht : stAt w F p N Y size) : Calls Try.prog 17 #[.pointer (some ⟨p, 0, none⟩)] w fun e w' => ∃ F2, e = .returned (.int .i64 (unlN N Y : Int)) ∧ Fr w w' F ∧ stAt w' F2 p Y Y size ∧ ∀ x ∈ F2, x ∈ F ∨ w.heap.size ≤ x := by
 refine enterD (n := 24) Try.func17 rfl rfl (Nat.le_of_ble_eq_true rfl) ?_
 intro Q0 hN hret hret'
 have ht0 := ht
 obtain ⟨b1, b2, m1, m2, hp_, hq1_, hq2_, rfl, rfl, rfl, hne_, hft_, hs0_, hs1_, hu1_, hu2_⟩ := ht
 obtain ⟨hne1_, hne2_, hne3_⟩ := hne_
 obtain ⟨es1, cl1, hb1_, hm1_⟩ := hq1_.map
 obtain ⟨es2, cl2, hb2_, hm2_⟩ := hq2_.map
 have hC := Cx.startMs w [(p, .cells #[.map (some b1), .map (some b2), .int .i64 size] 70), (b1, .map es1 cl1), (b2, .map es2 cl2)] (by simp [hne1_, hne2_, hne3_]) (by simp [hp_, hb1_, hb2_])
 refine WCs (fun K1 hK2 => ?_)
 refine WCg (WLr 1 [(2, .int .i64 0)] (fun _ => by kernel_rfl) (WLd rfl (QXn (hK2 _ _ ?_))))
 refine WCs (fun K3 hK4 => ?_)
 refine WCs (fun K5 hK6 => ?_)
 refine WCg (WLr 2 [(5, .bool false), (4, .pointer (some ⟨p, 0, none⟩))] (fun _ => by kernel_rfl) (WLd rfl (QXn (hK6 _ _ ?_))))
 refine WCf rfl (WC.skip (QXn (hK4 _ _ ?_)))
 refine WCs (fun K7 hK8 => ?_)
 refine WC.drawC hC [] (by kernel_rfl) (fun w9 hF10 hC11 hS12 => ?_)
 have hf13 := (Fr.refl w []).trans hF10 (by simp)
 refine WDp (NPt hN) 0 6 (.pointer (some ⟨p, 0, none⟩)) (by kernel_rfl) (fun _ => by kernel_rfl) hS12 ?_
 refine WDp (NPt hN) 1 7 (.pointer (some ⟨p, 0, none⟩)) (by kernel_rfl) (fun _ => by kernel_rfl) hS12 ?_
 refine WDp (NPt hN) 2 8 (.pointer (some ⟨p, 0, none⟩)) (by kernel_rfl) (fun _ => by kernel_rfl) hS12 ?_
 refine WDp (NPt hN) 4 10 (.pointer (some ⟨p, 0, none⟩)) (by kernel_rfl) (fun _ => by kernel_rfl) hS12 ?_
 refine WDp (NPt hN) 5 11 (.pointer (some ⟨p, 0, none⟩)) (by kernel_rfl) (fun _ => by kernel_rfl) hS12 ?_
 refine WDp (NPt hN) 6 12 (.pointer (some ⟨p, 1, none⟩)) (by kernel_rfl) (fun _ => by kernel_rfl) hS12 ?_
 refine WDl (NPt hN) 3 68 (.pointer (some ⟨p, 0, none⟩)) (.map (some b1)) 9 (by kernel_rfl) (by kernel_rfl) (fun _ hS_ => run_ld (Fr.has hS_ (hC11.get 0 rfl) (by simp)) rfl) hS12 ?_
 refine WDl (NPt hN) 7 68 (.pointer (some ⟨p, 1, none⟩)) (.map (some b2)) 13 (by kernel_rfl) (by kernel_rfl) (fun _ hS_ => run_ld (Fr.has hS_ (hC11.get 0 rfl) (by simp)) rfl) hS12 ?_
 refine WD.call 8 (by kernel_rfl) rfl rfl rfl rfl rfl (by kernel_rfl) (unlike_ct b1 b2 m1 m2 w9 (hq1_.fr hf13 (by simp) (by simp)) (hq2_.fr hf13 (by simp) (by simp)) hne3_) ?_
 rintro _ w15 ⟨rfl, hF14⟩
 have hS17 := hS12.trans hF14 (by simp)
 refine ⟨_, rfl, hS17, ?_⟩
 have hC16 := hC11.call hF14
 have hf18 := hf13.trans hF14 (by simp)
 refine WDp (NPt hN) 9 3 (.int .i64 (unlN (ct m1) (ct m2) : Int)) (by kernel_rfl) (fun _ => by kernel_rfl) hS17 ?_
 refine WD.done (by kernel_rfl) ?_
 refine QXn (hK8 _ _ ?_)
 refine WCs (fun K19 hK20 => ?_)
 refine WCg (WLr 4 [(18, .pointer (some ⟨p, 1, none⟩)), (17, .pointer (some ⟨p, 0, none⟩)), (16, .pointer (some ⟨p, 0, none⟩)), (15, .pointer (some ⟨p, 0, none⟩))] (fun _ => by kernel_rfl) ?_)
 refine WL.load 68 (.pointer (some ⟨p, 1, none⟩)) (.map (some b2)) 19 (by kernel_rfl) (run_ld (hC16.get 0 rfl) rfl) ?_
 have hcs_ := hC16.fr.size
 refine WLc rfl rfl rfl rfl rfl (by kernel_rfl) (MCloneB b2 cl2 es2 w15 (hC16.get 2 rfl)) ?_
 rintro _ w25 ⟨b21, rfl, hF24, hge22, hb23⟩
 refine ⟨_, rfl, ?_⟩
 have hC26 := hC16.callB hF24 hge22 hb23
 have hf27 := hf18.trans hF24 (by simp)
 refine WLr 2 [(22, .pointer (some ⟨p, 0, none⟩)), (21, .pointer (some ⟨p, 0, none⟩))] (fun _ => by kernel_rfl) ?_
 refine WLs (c' := #[.map (some b21), .map (some b2), .int .i64 size]) hC26 0 68 p 0 (.map (some b21)) (by kernel_rfl) rfl (by kernel_rfl) (fun w28 hF30 hC31 => ?_)
 refine WLd rfl (QXn (hK20 _ _ ?_))
 refine WCs (fun K32 hK33 => ?_)
 refine WCg (WLr 2 [(2, .int .i64 (unlN (ct m1) (ct m2) : Int)), (23, .int .i64 (unlN (ct m1) (ct m2) : Int))] (fun _ => by kernel_rfl) (WLd rfl (QXn (hK33 _ _ ?_))))
 refine WC.ret ?_
 refine (hret _ _ _ rfl ?_).1
 clear hN hret hret' hK33 hK20 hK8 hK6 hK4 hK2
 obtain ⟨F2_, h1_, h2_, h3_⟩ := crash_fin (b1 := b1) (b2 := b2) (m1 := m1) (m2 := m2) hq2_ hne2_ hft_ (by intro x hx; simp only [List.mem_cons, List.not_mem_nil, or_false] at hx; rcases hx with rfl | rfl | rfl; exact lt_of_heap hp_; exact lt_of_heap hb1_; exact lt_of_heap hb2_) hC31.fr (Nat.le_trans hcs_ hge22) (hC31.get 0 rfl) (hC31.get 2 rfl) (hC31.get 3 rfl) hm2_ ⟨hs0_, hs1_⟩ hu2_
 exact ⟨F2_, rfl, h1_, h2_, h3_⟩

end Go.Proofs.Ytkhdliobbbmkoaa
