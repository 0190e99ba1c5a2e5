/- Contracts of functions of the program, each proved by a walk through its code; conditions stand in the statements. -/
import Derived.Test.YtjacpjdikhlcoaaVtR14
namespace Go.Proofs.Ytjacpjdikhlcoaa
set_option linter.unusedSimpArgs false
set_option linter.unusedVariables false
set_option linter.unusedSectionVars false
open Go Go.RowKit Go.Tw
set_option linter.unusedVariables false
set_option maxRecDepth 20000
theorem Cx_join {w0 w : World} {F0 : List Nat} {M : List (Nat × Obj)} {Fs : List (List Nat)} (h : Cx w0 F0 w M Fs) (i j : Nat) {A B : List Nat} (hi : Fs[i]? = some A) (hj : Fs[j]? = some B) (hij : i ≠ j) : Cx w0 F0 w M ((Fs.set i (A ++ B)).set j []) := by
  have hli := (List.getElem?_eq_some_iff.1 hi).1
  have hlj := (List.getElem?_eq_some_iff.1 hj).1
  have at_ : ∀ a G, ((Fs.set i (A ++ B)).set j [])[a]? = some G → ∀ x ∈ G, a ≠ j ∧ ∃ a' G', Fs[a']? = some G' ∧ x ∈ G' ∧ (a' = a ∨ (a = i ∧ a' = j)) := by
    intro a G hG x hx
    by_cases e : a = j
    · subst e
      rw [List.getElem?_set_self (by rw [List.length_set]; exact hlj)] at hG
      cases hG; cases hx
    · rw [List.getElem?_set_ne (Ne.symm e)] at hG
      refine ⟨e, ?_⟩
      by_cases e2 : a = i
      · subst e2
        rw [List.getElem?_set_self hli] at hG
        cases hG
        rcases List.mem_append.1 hx with hx | hx
        · exact ⟨a, A, hi, hx, .inl rfl⟩
        · exact ⟨j, B, hj, hx, .inr ⟨rfl, rfl⟩⟩
      · rw [List.getElem?_set_ne (Ne.symm e2)] at hG
        exact ⟨a, G, hG, hx, .inl rfl⟩
  have mem_ : ∀ G ∈ (Fs.set i (A ++ B)).set j [], ∀ x ∈ G, ∃ G' ∈ Fs, x ∈ G' := by
    intro G hG x hx
    obtain ⟨a, ha⟩ := List.getElem?_of_mem hG
    obtain ⟨_, a', G', h1, h2, _⟩ := at_ a G ha x hx
    exact ⟨G', List.mem_of_getElem? h1, h2⟩
  refine ⟨h.fr, h.has, h.nodup, ?_, ?_, ?_, h.ownM, ?_⟩
  · rw [List.pairwise_iff_getElem]
    intro a b ha hb hab x hx hx2
    obtain ⟨n1, a', G1, g1, m1, q1⟩ := at_ a _ (List.getElem?_eq_getElem ha) x hx
    obtain ⟨n2, b', G2, g2, m2, q2⟩ := at_ b _ (List.getElem?_eq_getElem hb) x hx2
    have hne : a' ≠ b' := by rcases q1 with rfl | ⟨rfl, rfl⟩ <;> rcases q2 with rfl | ⟨rfl, rfl⟩ <;> omega
    exact h.disj a' b' g1 g2 hne x m1 m2
  · intro G hG p hp hx
    obtain ⟨G', h1, h2⟩ := mem_ G hG _ hx
    exact h.apart G' h1 p hp h2
  · intro G hG x hx
    obtain ⟨G', h1, h2⟩ := mem_ G hG x hx
    exact h.bound G' h1 x h2
  · intro G hG x hx
    obtain ⟨G', h1, h2⟩ := mem_ G hG x hx
    exact h.ownF G' h1 x h2
theorem tot_snoc {L : List Cmd} {i : Nat} {e : Cmd} (h : L[i]? = some e) : totE (L.take (i + 1)) = totE (L.take i) + (12 + 3 * e.v.ends.length) := by
  obtain ⟨hi, rfl⟩ := List.getElem?_eq_some_iff.1 h
  rw [List.take_succ_eq_append_getElem hi]; simp only [totE, List.map_append, List.map_cons, List.map_nil, List.sum_append, List.sum_cons, List.sum_nil]; omega
set_option maxHeartbeats 1000000 in
theorem RGoodLog_ct (A : Option Addr) (c : Nat) (L : List Cmd) (w : World) (hr : Rd w 12 cellsC A L) (hL : ∀ m ∈ L, cmdAt w m) : Calls Try.prog 55 #[.slice A L.length c] w fun e w' => e = .returned (.bool (goodL (vals L))) ∧ Fr w w' [] := by
 refine enterD (n := 62) Try.func55 rfl rfl (Nat.le_of_ble_eq_true rfl) ?_
 intro Q0 hN hret hret'
 have hC := Cx.start w
 refine WCs (fun K1 hK2 => ?_)
 refine WCg (WLr 1 [(2, .bool false)] (fun _ => by kernel_rfl) (WLd rfl (QXn (hK2 _ _ ?_))))
 refine WCs (fun K3 hK4 => ?_)
 refine WCs (fun K5 hK6 => ?_)
 refine WCg (WLr 3 [(7, .bool (decide ((L.length : Int) > 256))), (6, .int .i64 (L.length : Int)), (5, .slice A L.length c)] (fun _ => by kernel_rfl) (WLd rfl (QXn (hK6 _ _ ?_))))
 refine WCa 7 (decide ((L.length : Int) > 256)) rfl (fun t7b => ?_) (fun t7b => ?_)
 ·
  have t7 : (256 : Int) < (L.length : Int) := by have q_ := of_decide_eq_true t7b; omega
  refine WCt rfl ?_
  refine WCs (fun K8 hK9 => ?_)
  refine WCg (WLr 1 [(2, .bool false)] (fun _ => by kernel_rfl) (WLd rfl (QXn (hK9 _ _ ?_))))
  refine WC.ret ?_
  refine QXr ?_
  refine (hret _ _ _ rfl ?_).1
  clear hN hret hret' hK9 hK6 hK4 hK2
  rw [goodL_no0 (by rw [vals_len]; omega)]
  exact ⟨rfl, hC.fr⟩
 ·
  have t7 : (L.length : Int) ≤ 256 := by have q_ := of_decide_eq_false t7b; omega
  refine WCf rfl (WC.skip (QXn (hK4 _ _ ?_)))
  refine WCs (fun K10 hK11 => ?_)
  refine WCs (fun K12 hK13 => ?_)
  refine WCg (WLr 1 [(3, .int .i64 0)] (fun _ => by kernel_rfl) (WLd rfl (QXn (hK13 _ _ ?_))))
  refine WC.block ?_
  refine WC.loop (fun m_ E_ w_ => ∃ (i : Nat), m_ = L.length - i ∧ E_ = [(0, .slice A L.length c), (3, .int .i64 (i : Int))] ∧ Cx w [] w_ [] [] ∧ (i ≤ L.length ∧ ((vals L).take i).all goodC = true ∧ (((vals L).take i).map idV).Nodup)) ⟨_, _, ⟨0, rfl, rfl, hC, Nat.zero_le _, rfl, List.nodup_nil⟩, sub_of ⟨rfl, rfl, trivial⟩⟩ (fun m17 E_ w18 K14 hK15 hI16 => ?_)
  obtain ⟨i, rfl, rfl, hC19, hi, hall, hnd⟩ := hI16
  refine WCs (fun K20 hK21 => ?_)
  refine WCs (fun K22 hK23 => ?_)
  refine WCg (WLr 4 [(11, .bool (decide ((i : Int) < (L.length : Int)))), (10, .int .i64 (L.length : Int)), (9, .slice A L.length c), (8, .int .i64 (i : Int))] (fun _ => by kernel_rfl) (WLd rfl (QXn (hK23 _ _ ?_))))
  refine WCa 11 (decide ((i : Int) < (L.length : Int))) rfl (fun t24b => ?_) (fun t24b => ?_)
  ·
   have t24 : (i : Int) < (L.length : Int) := by have q_ := of_decide_eq_true t24b; omega
   refine WCt rfl ?_
   refine WC.skip ?_
   refine QXn (hK21 _ _ ?_)
   refine WCs (fun K25 hK26 => ?_)
   refine WC.block ?_
   refine WCs (fun K27 hK28 => ?_)
   refine WCs (fun K29 hK30 => ?_)
   refine WCg (WLr 2 [(15, .int .i64 (i : Int)), (14, .slice A L.length c)] (fun _ => by kernel_rfl) ?_)
   obtain ⟨e31, he32⟩ := get_some (xs := L) (i := i) (by omega)
   obtain ⟨b33, o35, hA34, hc36⟩ := hr.at_ _ _ he32
   have hc_e31 := hL _ (List.mem_of_getElem? he32)
   obtain ⟨hbs0_e31, hbs1_e31⟩ := hc_e31.wf.svip
   obtain ⟨hbd0_e31, hbd1_e31⟩ := hc_e31.wf.dip
   obtain ⟨hbv0_e31, hbv1_e31⟩ := hc_e31.wf.vip
   have hbl_e31 := hc_e31.lim
   refine WLi A L.length c 16 .i64 (i : Int) b33 o35 i 12 (by kernel_rfl) hA34 (by omega) (by omega) (o35 + i * 12) (by first | (simp; done) | omega) ?_
   refine WL.load 61 (.pointer (some ⟨b33, o35 + i * 12, none⟩)) (.agg #[.int .i64 e31.v.node, .int .i64 e31.v.boot, .int .i64 e31.v.seq, .int .i64 e31.v.time, .int .i64 e31.v.kind, .int .u32 e31.v.svip, .int .i64 e31.v.sproto, .int .i64 e31.v.sport, .slice e31.a e31.v.ends.length e31.c, .int .u32 e31.v.dip, .int .u32 e31.v.vip, .bool e31.v.up]) 17 (by kernel_rfl) (run_rdN (l := [.int .i64 e31.v.node, .int .i64 e31.v.boot, .int .i64 e31.v.seq, .int .i64 e31.v.time, .int .i64 e31.v.kind, .int .u32 e31.v.svip, .int .i64 e31.v.sproto, .int .i64 e31.v.sport, .slice e31.a e31.v.ends.length e31.c, .int .u32 e31.v.dip, .int .u32 e31.v.vip, .bool e31.v.up]) rfl rfl (fun j u hu => by have hq_ := hC19.fr.cell (hc36 j u hu) (by simp); simpa [Nat.add_assoc] using hq_)) ?_
   refine WLc rfl rfl rfl rfl rfl (by kernel_rfl) (RGood_ct e31 w18 (cmdAt.fr0 hc_e31 hC19.fr)) ?_
   rintro _ w38 ⟨rfl, hF37⟩
   refine ⟨_, rfl, ?_⟩
   have hC39 := hC19.call hF37
   refine WLr 1 [(19, .bool (!(goodC e31.v)))] (fun _ => by kernel_rfl) (WLd rfl (QXn (hK30 _ _ ?_)))
   refine WCa 19 (!(goodC e31.v)) rfl (fun t40b => ?_) (fun t40b => ?_)
   ·
    have t40 : (goodC e31.v) = false := by first | (simpa only [Bool.not_eq_true', Bool.not_eq_false'] using t40b) | simpa using t40b
    refine WCt rfl ?_
    refine WCs (fun K41 hK42 => ?_)
    refine WCg (WLr 1 [(2, .bool false)] (fun _ => by kernel_rfl) (WLd rfl (QXn (hK42 _ _ ?_))))
    refine WC.ret ?_
    refine QXr ?_
    refine QXk ?_
    refine QXr ?_
    refine QXr ?_
    refine QXk ?_
    refine QXr ?_
    refine (hret _ _ _ rfl ?_).1
    clear hN hret hret' hK42 hK30 hK28 hK26 hK23 hK21 hK13 hK11 hK6 hK4 hK2
    rw [goodL_no1 (all_no (vals_get he32) (by simpa using t40))]
    exact ⟨rfl, hC39.fr⟩
   ·
    have t40 : (goodC e31.v) = true := by first | (simpa only [Bool.not_eq_true', Bool.not_eq_false'] using t40b) | simpa using t40b
    refine WCf rfl (WC.skip (QXn (hK28 _ _ ?_)))
    refine WCs (fun K43 hK44 => ?_)
    refine WCg (WLr 1 [(4, .int .i64 0)] (fun _ => by kernel_rfl) (WLd rfl (QXn (hK44 _ _ ?_))))
    refine WC.block ?_
    refine WC.loop (fun m_ E_ w_ => ∃ (j : Nat), m_ = i - j ∧ E_ = [(0, .slice A L.length c), (3, .int .i64 (i : Int)), (4, .int .i64 (j : Int))] ∧ Cx w [] w_ [] [] ∧ (j ≤ i ∧ ¬ dupK idV (vals L) i j)) ⟨_, _, ⟨0, rfl, rfl, hC39, Nat.zero_le _, dupK_0 _ _ _⟩, sub_of ⟨rfl, rfl, rfl, trivial⟩⟩ (fun m48 E_ w49 K45 hK46 hI47 => ?_)
    obtain ⟨j, rfl, rfl, hC50, hj, hdup⟩ := hI47
    refine WCs (fun K51 hK52 => ?_)
    refine WCs (fun K53 hK54 => ?_)
    refine WCg (WLr 3 [(22, .bool (decide ((j : Int) < (i : Int)))), (21, .int .i64 (i : Int)), (20, .int .i64 (j : Int))] (fun _ => by kernel_rfl) (WLd rfl (QXn (hK54 _ _ ?_))))
    refine WCa 22 (decide ((j : Int) < (i : Int))) rfl (fun t55b => ?_) (fun t55b => ?_)
    ·
     have t55 : (j : Int) < (i : Int) := by have q_ := of_decide_eq_true t55b; omega
     refine WCt rfl ?_
     refine WC.skip ?_
     refine QXn (hK52 _ _ ?_)
     refine WCs (fun K56 hK57 => ?_)
     refine WC.block ?_
     refine WCs (fun K58 hK59 => ?_)
     refine WC.drawC hC50 [] (by kernel_rfl) (fun w60 hF61 hC62 hS63 => ?_)
     refine WDp (NPt (NPb (NPt (NPt (NPb (NPb (NPt (NPt (NPb (NPt hN)))))))))) 0 25 (.slice A L.length c) (by kernel_rfl) (fun _ => by kernel_rfl) hS63 ?_
     refine WDp (NPt (NPb (NPt (NPt (NPb (NPb (NPt (NPt (NPb (NPt hN)))))))))) 1 26 (.int .i64 (i : Int)) (by kernel_rfl) (fun _ => by kernel_rfl) hS63 ?_
     obtain ⟨e64, he65⟩ := get_some (xs := L) (i := i) (by omega)
     obtain ⟨b66, o68, hA67, hc69⟩ := hr.at_ _ _ he65
     have hc_e64 := hL _ (List.mem_of_getElem? he65)
     obtain ⟨hbs0_e64, hbs1_e64⟩ := hc_e64.wf.svip
     obtain ⟨hbd0_e64, hbd1_e64⟩ := hc_e64.wf.dip
     obtain ⟨hbv0_e64, hbv1_e64⟩ := hc_e64.wf.vip
     have hbl_e64 := hc_e64.lim
     refine WDi (NPt (NPb (NPt (NPt (NPb (NPb (NPt (NPt (NPb (NPt hN)))))))))) 2 A L.length c 27 .i64 (i : Int) b66 o68 i 12 (by kernel_rfl) (by kernel_rfl) hA67 (by omega) (by omega) (o68 + i * 12) (by first | (simp; done) | omega) hS63 ?_
     refine WDp (NPt (NPb (NPt (NPt (NPb (NPb (NPt (NPt (NPb (NPt hN)))))))))) 3 28 (.pointer (some ⟨b66, o68 + i * 12, none⟩)) (by kernel_rfl) (fun _ => by kernel_rfl) hS63 ?_
     refine WDp (NPt (NPb (NPt (NPt (NPb (NPb (NPt (NPt (NPb (NPt hN)))))))))) 5 30 (.slice A L.length c) (by kernel_rfl) (fun _ => by kernel_rfl) hS63 ?_
     refine WDp (NPt (NPb (NPt (NPt (NPb (NPb (NPt (NPt (NPb (NPt hN)))))))))) 6 31 (.int .i64 (j : Int)) (by kernel_rfl) (fun _ => by kernel_rfl) hS63 ?_
     obtain ⟨e70, he71⟩ := get_some (xs := L) (i := j) (by omega)
     obtain ⟨b72, o74, hA73, hc75⟩ := hr.at_ _ _ he71
     have hc_e70 := hL _ (List.mem_of_getElem? he71)
     obtain ⟨hbs0_e70, hbs1_e70⟩ := hc_e70.wf.svip
     obtain ⟨hbd0_e70, hbd1_e70⟩ := hc_e70.wf.dip
     obtain ⟨hbv0_e70, hbv1_e70⟩ := hc_e70.wf.vip
     have hbl_e70 := hc_e70.lim
     refine WDi (NPt (NPb (NPt (NPt (NPb (NPb (NPt (NPt (NPb (NPt hN)))))))))) 7 A L.length c 32 .i64 (j : Int) b72 o74 j 12 (by kernel_rfl) (by kernel_rfl) hA73 (by omega) (by omega) (o74 + j * 12) (by first | (simp; done) | omega) hS63 ?_
     refine WDp (NPt (NPb (NPt (NPt (NPb (NPb (NPt (NPt (NPb (NPt hN)))))))))) 8 33 (.pointer (some ⟨b72, o74 + j * 12, none⟩)) (by kernel_rfl) (fun _ => by kernel_rfl) hS63 ?_
     refine WDl (NPt (NPb (NPt (NPt (NPb (NPb (NPt (NPt (NPb (NPt hN)))))))))) 4 3 (.pointer (some ⟨b66, o68 + i * 12, none⟩)) (.int .i64 e64.v.node) 29 (by kernel_rfl) (by kernel_rfl) (fun _ hS_ => run_load1 rfl (by simpa [Nat.add_assoc] using Fr.cell hS_ (hC62.fr.cell (hc69 0 _ rfl) (by simp)) (by simp))) hS63 ?_
     refine WDl (NPt (NPb (NPt (NPt (NPb (NPb (NPt (NPt (NPb (NPt hN)))))))))) 9 3 (.pointer (some ⟨b72, o74 + j * 12, none⟩)) (.int .i64 e70.v.node) 34 (by kernel_rfl) (by kernel_rfl) (fun _ hS_ => run_load1 rfl (by simpa [Nat.add_assoc] using Fr.cell hS_ (hC62.fr.cell (hc75 0 _ rfl) (by simp)) (by simp))) hS63 ?_
     refine WDp (NPt (NPb (NPt (NPt (NPb (NPb (NPt (NPt (NPb (NPt hN)))))))))) 10 35 (.bool (e64.v.node == e70.v.node)) (by kernel_rfl) (fun _ => by kernel_rfl) hS63 ?_
     refine WDp (NPt (NPb (NPt (NPt (NPb (NPb (NPt (NPt (NPb (NPt hN)))))))))) 11 36 (.bool (e64.v.node == e70.v.node)) (by kernel_rfl) (fun _ => by kernel_rfl) hS63 ?_
     refine WDa 36 (e64.v.node == e70.v.node) rfl (fun t76b => ?_) (fun t76b => ?_)
     ·
      have t76 : e64.v.node = e70.v.node := by simpa using t76b
      refine WDp (NPt (NPb (NPt (NPt (NPb (NPb (NPt (NPt (NPb (NPt hN)))))))))) 12 37 (.slice A L.length c) (by kernel_rfl) (fun _ => by kernel_rfl) hS63 ?_
      refine WDp (NPt (NPb (NPt (NPt (NPb (NPb (NPt (NPt (NPb (NPt hN)))))))))) 13 38 (.int .i64 (i : Int)) (by kernel_rfl) (fun _ => by kernel_rfl) hS63 ?_
      refine WDi (NPt (NPb (NPt (NPt (NPb (NPb (NPt (NPt (NPb (NPt hN)))))))))) 14 A L.length c 39 .i64 (i : Int) b66 o68 i 12 (by kernel_rfl) (by kernel_rfl) hA67 (by omega) (by omega) (o68 + i * 12) (by first | (simp; done) | omega) hS63 ?_
      refine WDp (NPt (NPb (NPt (NPt (NPb (NPb (NPt (NPt (NPb (NPt hN)))))))))) 15 40 (.pointer (some ⟨b66, o68 + i * 12 + 1, none⟩)) (by kernel_rfl) (fun _ => by kernel_rfl) hS63 ?_
      refine WDp (NPt (NPb (NPt (NPt (NPb (NPb (NPt (NPt (NPb (NPt hN)))))))))) 17 42 (.slice A L.length c) (by kernel_rfl) (fun _ => by kernel_rfl) hS63 ?_
      refine WDp (NPt (NPb (NPt (NPt (NPb (NPb (NPt (NPt (NPb (NPt hN)))))))))) 18 43 (.int .i64 (j : Int)) (by kernel_rfl) (fun _ => by kernel_rfl) hS63 ?_
      refine WDi (NPt (NPb (NPt (NPt (NPb (NPb (NPt (NPt (NPb (NPt hN)))))))))) 19 A L.length c 44 .i64 (j : Int) b72 o74 j 12 (by kernel_rfl) (by kernel_rfl) hA73 (by omega) (by omega) (o74 + j * 12) (by first | (simp; done) | omega) hS63 ?_
      refine WDp (NPt (NPb (NPt (NPt (NPb (NPb (NPt (NPt (NPb (NPt hN)))))))))) 20 45 (.pointer (some ⟨b72, o74 + j * 12 + 1, none⟩)) (by kernel_rfl) (fun _ => by kernel_rfl) hS63 ?_
      refine WDl (NPt (NPb (NPt (NPt (NPb (NPb (NPt (NPt (NPb (NPt hN)))))))))) 16 3 (.pointer (some ⟨b66, o68 + i * 12 + 1, none⟩)) (.int .i64 e64.v.boot) 41 (by kernel_rfl) (by kernel_rfl) (fun _ hS_ => run_load1 rfl (by simpa [Nat.add_assoc] using Fr.cell hS_ (hC62.fr.cell (hc69 1 _ rfl) (by simp)) (by simp))) hS63 ?_
      refine WDl (NPt (NPb (NPt (NPt (NPb (NPb (NPt (NPt (NPb (NPt hN)))))))))) 21 3 (.pointer (some ⟨b72, o74 + j * 12 + 1, none⟩)) (.int .i64 e70.v.boot) 46 (by kernel_rfl) (by kernel_rfl) (fun _ hS_ => run_load1 rfl (by simpa [Nat.add_assoc] using Fr.cell hS_ (hC62.fr.cell (hc75 1 _ rfl) (by simp)) (by simp))) hS63 ?_
      refine WDp (NPt (NPb (NPt (NPt (NPb (NPb (NPt (NPt (NPb (NPt hN)))))))))) 22 47 (.bool (e64.v.boot == e70.v.boot)) (by kernel_rfl) (fun _ => by kernel_rfl) hS63 ?_
      refine WDp (NPt (NPb (NPt (NPt (NPb (NPb (NPt (NPt (NPb (NPt hN)))))))))) 23 48 (.bool (e64.v.boot == e70.v.boot)) (by kernel_rfl) (fun _ => by kernel_rfl) hS63 ?_
      refine WDp (NPt (NPb (NPt (NPt (NPb (NPb (NPt (NPt (NPb (NPt hN)))))))))) 24 49 (.bool (e64.v.boot == e70.v.boot)) (by kernel_rfl) (fun _ => by kernel_rfl) hS63 ?_
      refine WDa 49 (e64.v.boot == e70.v.boot) rfl (fun t85b => ?_) (fun t85b => ?_)
      ·
       have t85 : e64.v.boot = e70.v.boot := by simpa using t85b
       refine WDp (NPt (NPb (NPt (NPt (NPb (NPb (NPt (NPt (NPb (NPt hN)))))))))) 25 50 (.slice A L.length c) (by kernel_rfl) (fun _ => by kernel_rfl) hS63 ?_
       refine WDp (NPt (NPb (NPt (NPt (NPb (NPb (NPt (NPt (NPb (NPt hN)))))))))) 26 51 (.int .i64 (i : Int)) (by kernel_rfl) (fun _ => by kernel_rfl) hS63 ?_
       refine WDi (NPt (NPb (NPt (NPt (NPb (NPb (NPt (NPt (NPb (NPt hN)))))))))) 27 A L.length c 52 .i64 (i : Int) b66 o68 i 12 (by kernel_rfl) (by kernel_rfl) hA67 (by omega) (by omega) (o68 + i * 12) (by first | (simp; done) | omega) hS63 ?_
       refine WDp (NPt (NPb (NPt (NPt (NPb (NPb (NPt (NPt (NPb (NPt hN)))))))))) 28 53 (.pointer (some ⟨b66, o68 + i * 12 + 2, none⟩)) (by kernel_rfl) (fun _ => by kernel_rfl) hS63 ?_
       refine WDp (NPt (NPb (NPt (NPt (NPb (NPb (NPt (NPt (NPb (NPt hN)))))))))) 30 55 (.slice A L.length c) (by kernel_rfl) (fun _ => by kernel_rfl) hS63 ?_
       refine WDp (NPt (NPb (NPt (NPt (NPb (NPb (NPt (NPt (NPb (NPt hN)))))))))) 31 56 (.int .i64 (j : Int)) (by kernel_rfl) (fun _ => by kernel_rfl) hS63 ?_
       refine WDi (NPt (NPb (NPt (NPt (NPb (NPb (NPt (NPt (NPb (NPt hN)))))))))) 32 A L.length c 57 .i64 (j : Int) b72 o74 j 12 (by kernel_rfl) (by kernel_rfl) hA73 (by omega) (by omega) (o74 + j * 12) (by first | (simp; done) | omega) hS63 ?_
       refine WDp (NPt (NPb (NPt (NPt (NPb (NPb (NPt (NPt (NPb (NPt hN)))))))))) 33 58 (.pointer (some ⟨b72, o74 + j * 12 + 2, none⟩)) (by kernel_rfl) (fun _ => by kernel_rfl) hS63 ?_
       refine WDl (NPt (NPb (NPt (NPt (NPb (NPb (NPt (NPt (NPb (NPt hN)))))))))) 29 3 (.pointer (some ⟨b66, o68 + i * 12 + 2, none⟩)) (.int .i64 e64.v.seq) 54 (by kernel_rfl) (by kernel_rfl) (fun _ hS_ => run_load1 rfl (by simpa [Nat.add_assoc] using Fr.cell hS_ (hC62.fr.cell (hc69 2 _ rfl) (by simp)) (by simp))) hS63 ?_
       refine WDl (NPt (NPb (NPt (NPt (NPb (NPb (NPt (NPt (NPb (NPt hN)))))))))) 34 3 (.pointer (some ⟨b72, o74 + j * 12 + 2, none⟩)) (.int .i64 e70.v.seq) 59 (by kernel_rfl) (by kernel_rfl) (fun _ hS_ => run_load1 rfl (by simpa [Nat.add_assoc] using Fr.cell hS_ (hC62.fr.cell (hc75 2 _ rfl) (by simp)) (by simp))) hS63 ?_
       refine WDp (NPt (NPb (NPt (NPt (NPb (NPb (NPt (NPt (NPb (NPt hN)))))))))) 35 60 (.bool (e64.v.seq == e70.v.seq)) (by kernel_rfl) (fun _ => by kernel_rfl) hS63 ?_
       refine WDp (NPt (NPb (NPt (NPt (NPb (NPb (NPt (NPt (NPb (NPt hN)))))))))) 36 61 (.bool (e64.v.seq == e70.v.seq)) (by kernel_rfl) (fun _ => by kernel_rfl) hS63 ?_
       refine WD.done (by kernel_rfl) ?_
       refine QXn (hK59 _ _ ?_)
       refine WCa 61 (e64.v.seq == e70.v.seq) rfl (fun t94b => ?_) (fun t94b => ?_)
       ·
        have t94 : e64.v.seq = e70.v.seq := by simpa using t94b
        refine WCt rfl ?_
        refine WCs (fun K95 hK96 => ?_)
        refine WCg (WLr 1 [(2, .bool false)] (fun _ => by kernel_rfl) (WLd rfl (QXn (hK96 _ _ ?_))))
        refine WC.ret ?_
        refine QXk ?_
        refine QXr ?_
        refine QXr ?_
        refine QXk ?_
        refine QXk ?_
        refine QXr ?_
        refine QXr ?_
        refine QXk ?_
        refine QXr ?_
        refine (hret _ _ _ rfl ?_).1
        clear hN hret hret' hK96 hK59 hK57 hK54 hK52 hK44 hK30 hK28 hK26 hK23 hK21 hK13 hK11 hK6 hK4 hK2
        rw [goodL_no2 (dup_not (f := idV) (vals_get he65) (vals_get he71) (by omega) (by unfold idV; simp_all))]
        exact ⟨rfl, hC62.fr⟩
       ·
        have t94 : ¬ (e64.v.seq = e70.v.seq) := by simpa using t94b
        refine WCf rfl (WC.skip ?_)
        refine QXb ?_
        refine QXn (hK57 _ _ ?_)
        refine WCg (WLr 2 [(24, .int .i64 (IntKind.i64.wrap ((j : Int) + 1))), (23, .int .i64 (j : Int))] (fun _ => by kernel_rfl) ?_)
        refine WLt (show (.int .i64 (IntKind.i64.wrap ((j : Int) + 1)) : Value) = .int .i64 ((j : Int) + 1) from by rw [wrap_in_i64 ((j : Int) + 1) (by omega) (by omega)]) ?_
        refine WLr 1 [(4, .int .i64 ((j : Int) + 1))] (fun _ => by kernel_rfl) ?_
        refine WLd rfl ?_
        refine QXn ?_
        have hC97 := hC62.pick [] [] rfl rfl
        refine fun a_ ha_ => hK46 _ _ _ ?_ ⟨j + 1, rfl, rfl, hC97, by omega, dupK_step hdup (vals_get he65) (vals_get he71) (fun e_ => by unfold idV at e_; simp only [Prod.mk.injEq] at e_; obtain ⟨q1_, q2_, q3_⟩ := e_; first | omega | simp_all)⟩ a_ (ha_.weaken (sub_of ⟨rfl, rfl, rfl, trivial⟩))
        omega
      ·
       have t85 : ¬ (e64.v.boot = e70.v.boot) := by simpa using t85b
       refine WDp (NPt (NPb (NPt (NPt (NPb (NPb (NPt (NPt (NPb (NPt hN)))))))))) 25 50 (undef) (by kernel_rfl) (fun _ => by kernel_rfl) hS63 ?_
       refine WDp (NPt (NPb (NPt (NPt (NPb (NPb (NPt (NPt (NPb (NPt hN)))))))))) 26 51 (undef) (by kernel_rfl) (fun _ => by kernel_rfl) hS63 ?_
       refine WDp (NPt (NPb (NPt (NPt (NPb (NPb (NPt (NPt (NPb (NPt hN)))))))))) 27 52 (undef) (by kernel_rfl) (fun _ => by kernel_rfl) hS63 ?_
       refine WDp (NPt (NPb (NPt (NPt (NPb (NPb (NPt (NPt (NPb (NPt hN)))))))))) 28 53 (undef) (by kernel_rfl) (fun _ => by kernel_rfl) hS63 ?_
       refine WDp (NPt (NPb (NPt (NPt (NPb (NPb (NPt (NPt (NPb (NPt hN)))))))))) 29 54 (undef) (by kernel_rfl) (fun _ => by kernel_rfl) hS63 ?_
       refine WDp (NPt (NPb (NPt (NPt (NPb (NPb (NPt (NPt (NPb (NPt hN)))))))))) 30 55 (undef) (by kernel_rfl) (fun _ => by kernel_rfl) hS63 ?_
       refine WDp (NPt (NPb (NPt (NPt (NPb (NPb (NPt (NPt (NPb (NPt hN)))))))))) 31 56 (undef) (by kernel_rfl) (fun _ => by kernel_rfl) hS63 ?_
       refine WDp (NPt (NPb (NPt (NPt (NPb (NPb (NPt (NPt (NPb (NPt hN)))))))))) 32 57 (undef) (by kernel_rfl) (fun _ => by kernel_rfl) hS63 ?_
       refine WDp (NPt (NPb (NPt (NPt (NPb (NPb (NPt (NPt (NPb (NPt hN)))))))))) 33 58 (undef) (by kernel_rfl) (fun _ => by kernel_rfl) hS63 ?_
       refine WDp (NPt (NPb (NPt (NPt (NPb (NPb (NPt (NPt (NPb (NPt hN)))))))))) 34 59 (undef) (by kernel_rfl) (fun _ => by kernel_rfl) hS63 ?_
       refine WDp (NPt (NPb (NPt (NPt (NPb (NPb (NPt (NPt (NPb (NPt hN)))))))))) 35 60 (undef) (by kernel_rfl) (fun _ => by kernel_rfl) hS63 ?_
       refine WDp (NPt (NPb (NPt (NPt (NPb (NPb (NPt (NPt (NPb (NPt hN)))))))))) 36 61 (.bool false) (by kernel_rfl) (fun _ => by kernel_rfl) hS63 ?_
       refine WD.done (by kernel_rfl) ?_
       refine QXn (hK59 _ _ ?_)
       refine WCf rfl (WC.skip ?_)
       refine QXb ?_
       refine QXn (hK57 _ _ ?_)
       refine WCg (WLr 2 [(24, .int .i64 (IntKind.i64.wrap ((j : Int) + 1))), (23, .int .i64 (j : Int))] (fun _ => by kernel_rfl) ?_)
       refine WLt (show (.int .i64 (IntKind.i64.wrap ((j : Int) + 1)) : Value) = .int .i64 ((j : Int) + 1) from by rw [wrap_in_i64 ((j : Int) + 1) (by omega) (by omega)]) ?_
       refine WLr 1 [(4, .int .i64 ((j : Int) + 1))] (fun _ => by kernel_rfl) ?_
       refine WLd rfl ?_
       refine QXn ?_
       have hC98 := hC62.pick [] [] rfl rfl
       refine fun a_ ha_ => hK46 _ _ _ ?_ ⟨j + 1, rfl, rfl, hC98, by omega, dupK_step hdup (vals_get he65) (vals_get he71) (fun e_ => by unfold idV at e_; simp only [Prod.mk.injEq] at e_; obtain ⟨q1_, q2_, q3_⟩ := e_; first | omega | simp_all)⟩ a_ (ha_.weaken (sub_of ⟨rfl, rfl, rfl, trivial⟩))
       omega
     ·
      have t76 : ¬ (e64.v.node = e70.v.node) := by simpa using t76b
      refine WDp (NPt (NPb (NPt (NPt (NPb (NPb (NPt (NPt (NPb (NPt hN)))))))))) 12 37 (undef) (by kernel_rfl) (fun _ => by kernel_rfl) hS63 ?_
      refine WDp (NPt (NPb (NPt (NPt (NPb (NPb (NPt (NPt (NPb (NPt hN)))))))))) 13 38 (undef) (by kernel_rfl) (fun _ => by kernel_rfl) hS63 ?_
      refine WDp (NPt (NPb (NPt (NPt (NPb (NPb (NPt (NPt (NPb (NPt hN)))))))))) 14 39 (undef) (by kernel_rfl) (fun _ => by kernel_rfl) hS63 ?_
      refine WDp (NPt (NPb (NPt (NPt (NPb (NPb (NPt (NPt (NPb (NPt hN)))))))))) 15 40 (undef) (by kernel_rfl) (fun _ => by kernel_rfl) hS63 ?_
      refine WDp (NPt (NPb (NPt (NPt (NPb (NPb (NPt (NPt (NPb (NPt hN)))))))))) 16 41 (undef) (by kernel_rfl) (fun _ => by kernel_rfl) hS63 ?_
      refine WDp (NPt (NPb (NPt (NPt (NPb (NPb (NPt (NPt (NPb (NPt hN)))))))))) 17 42 (undef) (by kernel_rfl) (fun _ => by kernel_rfl) hS63 ?_
      refine WDp (NPt (NPb (NPt (NPt (NPb (NPb (NPt (NPt (NPb (NPt hN)))))))))) 18 43 (undef) (by kernel_rfl) (fun _ => by kernel_rfl) hS63 ?_
      refine WDp (NPt (NPb (NPt (NPt (NPb (NPb (NPt (NPt (NPb (NPt hN)))))))))) 19 44 (undef) (by kernel_rfl) (fun _ => by kernel_rfl) hS63 ?_
      refine WDp (NPt (NPb (NPt (NPt (NPb (NPb (NPt (NPt (NPb (NPt hN)))))))))) 20 45 (undef) (by kernel_rfl) (fun _ => by kernel_rfl) hS63 ?_
      refine WDp (NPt (NPb (NPt (NPt (NPb (NPb (NPt (NPt (NPb (NPt hN)))))))))) 21 46 (undef) (by kernel_rfl) (fun _ => by kernel_rfl) hS63 ?_
      refine WDp (NPt (NPb (NPt (NPt (NPb (NPb (NPt (NPt (NPb (NPt hN)))))))))) 22 47 (undef) (by kernel_rfl) (fun _ => by kernel_rfl) hS63 ?_
      refine WDp (NPt (NPb (NPt (NPt (NPb (NPb (NPt (NPt (NPb (NPt hN)))))))))) 23 48 (.bool false) (by kernel_rfl) (fun _ => by kernel_rfl) hS63 ?_
      refine WDp (NPt (NPb (NPt (NPt (NPb (NPb (NPt (NPt (NPb (NPt hN)))))))))) 24 49 (.bool false) (by kernel_rfl) (fun _ => by kernel_rfl) hS63 ?_
      refine WDp (NPt (NPb (NPt (NPt (NPb (NPb (NPt (NPt (NPb (NPt hN)))))))))) 25 50 (undef) (by kernel_rfl) (fun _ => by kernel_rfl) hS63 ?_
      refine WDp (NPt (NPb (NPt (NPt (NPb (NPb (NPt (NPt (NPb (NPt hN)))))))))) 26 51 (undef) (by kernel_rfl) (fun _ => by kernel_rfl) hS63 ?_
      refine WDp (NPt (NPb (NPt (NPt (NPb (NPb (NPt (NPt (NPb (NPt hN)))))))))) 27 52 (undef) (by kernel_rfl) (fun _ => by kernel_rfl) hS63 ?_
      refine WDp (NPt (NPb (NPt (NPt (NPb (NPb (NPt (NPt (NPb (NPt hN)))))))))) 28 53 (undef) (by kernel_rfl) (fun _ => by kernel_rfl) hS63 ?_
      refine WDp (NPt (NPb (NPt (NPt (NPb (NPb (NPt (NPt (NPb (NPt hN)))))))))) 29 54 (undef) (by kernel_rfl) (fun _ => by kernel_rfl) hS63 ?_
      refine WDp (NPt (NPb (NPt (NPt (NPb (NPb (NPt (NPt (NPb (NPt hN)))))))))) 30 55 (undef) (by kernel_rfl) (fun _ => by kernel_rfl) hS63 ?_
      refine WDp (NPt (NPb (NPt (NPt (NPb (NPb (NPt (NPt (NPb (NPt hN)))))))))) 31 56 (undef) (by kernel_rfl) (fun _ => by kernel_rfl) hS63 ?_
      refine WDp (NPt (NPb (NPt (NPt (NPb (NPb (NPt (NPt (NPb (NPt hN)))))))))) 32 57 (undef) (by kernel_rfl) (fun _ => by kernel_rfl) hS63 ?_
      refine WDp (NPt (NPb (NPt (NPt (NPb (NPb (NPt (NPt (NPb (NPt hN)))))))))) 33 58 (undef) (by kernel_rfl) (fun _ => by kernel_rfl) hS63 ?_
      refine WDp (NPt (NPb (NPt (NPt (NPb (NPb (NPt (NPt (NPb (NPt hN)))))))))) 34 59 (undef) (by kernel_rfl) (fun _ => by kernel_rfl) hS63 ?_
      refine WDp (NPt (NPb (NPt (NPt (NPb (NPb (NPt (NPt (NPb (NPt hN)))))))))) 35 60 (undef) (by kernel_rfl) (fun _ => by kernel_rfl) hS63 ?_
      refine WDp (NPt (NPb (NPt (NPt (NPb (NPb (NPt (NPt (NPb (NPt hN)))))))))) 36 61 (.bool false) (by kernel_rfl) (fun _ => by kernel_rfl) hS63 ?_
      refine WD.done (by kernel_rfl) ?_
      refine QXn (hK59 _ _ ?_)
      refine WCf rfl (WC.skip ?_)
      refine QXb ?_
      refine QXn (hK57 _ _ ?_)
      refine WCg (WLr 2 [(24, .int .i64 (IntKind.i64.wrap ((j : Int) + 1))), (23, .int .i64 (j : Int))] (fun _ => by kernel_rfl) ?_)
      refine WLt (show (.int .i64 (IntKind.i64.wrap ((j : Int) + 1)) : Value) = .int .i64 ((j : Int) + 1) from by rw [wrap_in_i64 ((j : Int) + 1) (by omega) (by omega)]) ?_
      refine WLr 1 [(4, .int .i64 ((j : Int) + 1))] (fun _ => by kernel_rfl) ?_
      refine WLd rfl ?_
      refine QXn ?_
      have hC99 := hC62.pick [] [] rfl rfl
      refine fun a_ ha_ => hK46 _ _ _ ?_ ⟨j + 1, rfl, rfl, hC99, by omega, dupK_step hdup (vals_get he65) (vals_get he71) (fun e_ => by unfold idV at e_; simp only [Prod.mk.injEq] at e_; obtain ⟨q1_, q2_, q3_⟩ := e_; first | omega | simp_all)⟩ a_ (ha_.weaken (sub_of ⟨rfl, rfl, rfl, trivial⟩))
      omega
    ·
     have t55 : (i : Int) ≤ (j : Int) := by have q_ := of_decide_eq_false t55b; omega
     refine WCf rfl ?_
     refine WC.exit ?_
     refine QXe ?_
     refine QXe ?_
     refine QX.block_hit ?_
     refine QXb ?_
     refine QXn (hK26 _ _ ?_)
     refine WCg (WLr 2 [(13, .int .i64 (IntKind.i64.wrap ((i : Int) + 1))), (12, .int .i64 (i : Int))] (fun _ => by kernel_rfl) ?_)
     refine WLt (show (.int .i64 (IntKind.i64.wrap ((i : Int) + 1)) : Value) = .int .i64 ((i : Int) + 1) from by rw [wrap_in_i64 ((i : Int) + 1) (by omega) (by omega)]) ?_
     refine WLr 1 [(3, .int .i64 ((i : Int) + 1))] (fun _ => by kernel_rfl) ?_
     refine WLd rfl ?_
     refine QXn ?_
     have hC100 := hC50.pick [] [] rfl rfl
     refine fun a_ ha_ => hK15 _ _ _ ?_ ⟨i + 1, rfl, rfl, hC100, by omega, all_snoc hall (vals_get he32) (by simpa using t40), nodup_step hnd (by have hj_ : j = i := (by omega); subst hj_; exact hdup) (vals_get he32)⟩ a_ (ha_.weaken (sub_of ⟨rfl, rfl, trivial⟩))
     omega
  ·
   have t24 : (L.length : Int) ≤ (i : Int) := by have q_ := of_decide_eq_false t24b; omega
   refine WCf rfl ?_
   refine WC.exit ?_
   refine QXe ?_
   refine QXe ?_
   refine QX.block_hit ?_
   refine QXn (hK11 _ _ ?_)
   refine WCs (fun K101 hK102 => ?_)
   refine WCg (WLr 1 [(2, .bool true)] (fun _ => by kernel_rfl) (WLd rfl (QXn (hK102 _ _ ?_))))
   refine WC.ret ?_
   refine (hret _ _ _ rfl ?_).1
   clear hN hret hret' hK102 hK23 hK21 hK13 hK11 hK6 hK4 hK2
   have hie_ : i = L.length := by omega
   have hvl_ := vals_len L
   rw [List.take_of_length_le (by omega)] at hall hnd
   rw [goodL_yes (by omega) hall hnd]
   exact ⟨rfl, hC19.fr⟩

theorem RGoodLog_n (A : Option Addr) (n c : Nat) (L : List Cmd) (w : World) (hr : Rd w 12 cellsC A L) (hn : L.length = n) (hL : ∀ m ∈ L, cmdAt w m) : Calls Try.prog 55 #[.slice A n c] w fun e w' => e = .returned (.bool (goodL (vals L))) ∧ Fr w w' [] := by subst hn; exact RGoodLog_ct A c L w hr hL
theorem large_ct (A : Option Addr) (c : Nat) (L : List Cmd) (w : World) (hr : Rd w 12 cellsC A L) (hL : ∀ m ∈ L, cmdAt w m) (hll : L.length ≤ 9223372036854775807) : Calls Try.prog 26 #[.slice A L.length c] w fun e w' => ∃ b, e = .returned (.bool b) ∧ Fr w w' [] ∧ (b = false → totE L ≤ 4800) := by
 refine enterD (n := 22) Try.func26 rfl rfl (Nat.le_of_ble_eq_true rfl) ?_
 intro Q0 hN hret hret'
 have hC := Cx.start w
 refine WCs (fun K1 hK2 => ?_)
 refine WCg (WLr 1 [(2, .bool false)] (fun _ => by kernel_rfl) (WLd rfl (QXn (hK2 _ _ ?_))))
 refine WCs (fun K3 hK4 => ?_)
 refine WCg (WLr 1 [(3, .int .i64 0)] (fun _ => by kernel_rfl) (WLd rfl (QXn (hK4 _ _ ?_))))
 refine WCs (fun K5 hK6 => ?_)
 refine WCs (fun K7 hK8 => ?_)
 refine WCg (WLr 3 [(8, .int .i64 0), (7, .int .i64 (L.length : Int)), (6, .slice A L.length c)] (fun _ => by kernel_rfl) (WLd rfl (QXn (hK8 _ _ ?_))))
 refine WC.block ?_
 refine WC.loop (fun m_ E_ w_ => ∃ (i : Nat) (n : Int), m_ = L.length - i ∧ E_ = [(0, .slice A L.length c), (3, .int .i64 n), (6, .slice A L.length c), (7, .int .i64 (L.length : Int)), (8, .int .i64 (i : Int))] ∧ Cx w [] w_ [] [] ∧ (i ≤ L.length ∧ 0 ≤ n ∧ n ≤ 400 ∧ (totE (L.take i) : Int) ≤ 12 * n)) ⟨_, _, ⟨0, 0, rfl, rfl, hC, Nat.zero_le _, Int.le_refl _, by decide, Int.le_refl _⟩, sub_of ⟨rfl, rfl, rfl, rfl, rfl, trivial⟩⟩ (fun m12 E_ w13 K9 hK10 hI11 => ?_)
 obtain ⟨i, n, rfl, rfl, hC14, hi, hn0, hn1, htt⟩ := hI11
 refine WCs (fun K15 hK16 => ?_)
 refine WCg (WLr 1 [(9, .bool (decide ((i : Int) < (L.length : Int))))] (fun _ => by kernel_rfl) (WLd rfl (QXn (hK16 _ _ ?_))))
 refine WCs (fun K17 hK18 => ?_)
 refine WCa 9 (decide ((i : Int) < (L.length : Int))) rfl (fun t19b => ?_) (fun t19b => ?_)
 ·
  have t19 : (i : Int) < (L.length : Int) := by have q_ := of_decide_eq_true t19b; omega
  refine WCt rfl ?_
  refine WC.skip ?_
  refine QXn (hK18 _ _ ?_)
  refine WCs (fun K20 hK21 => ?_)
  refine WC.block ?_
  refine WCs (fun K22 hK23 => ?_)
  refine WCg ?_
  obtain ⟨e24, he25⟩ := get_some (xs := L) (i := i) (by omega)
  obtain ⟨b26, o28, hA27, hc29⟩ := hr.at_ _ _ he25
  have hc_e24 := hL _ (List.mem_of_getElem? he25)
  obtain ⟨hbs0_e24, hbs1_e24⟩ := hc_e24.wf.svip
  obtain ⟨hbd0_e24, hbd1_e24⟩ := hc_e24.wf.dip
  obtain ⟨hbv0_e24, hbv1_e24⟩ := hc_e24.wf.vip
  have hbl_e24 := hc_e24.lim
  refine WLi A L.length c 10 .i64 (i : Int) b26 o28 i 12 (by kernel_rfl) hA27 (by omega) (by omega) (o28 + i * 12) (by first | (simp; done) | omega) ?_
  refine WL.load 61 (.pointer (some ⟨b26, o28 + i * 12, none⟩)) (.agg #[.int .i64 e24.v.node, .int .i64 e24.v.boot, .int .i64 e24.v.seq, .int .i64 e24.v.time, .int .i64 e24.v.kind, .int .u32 e24.v.svip, .int .i64 e24.v.sproto, .int .i64 e24.v.sport, .slice e24.a e24.v.ends.length e24.c, .int .u32 e24.v.dip, .int .u32 e24.v.vip, .bool e24.v.up]) 11 (by kernel_rfl) (run_rdN (l := [.int .i64 e24.v.node, .int .i64 e24.v.boot, .int .i64 e24.v.seq, .int .i64 e24.v.time, .int .i64 e24.v.kind, .int .u32 e24.v.svip, .int .i64 e24.v.sproto, .int .i64 e24.v.sport, .slice e24.a e24.v.ends.length e24.c, .int .u32 e24.v.dip, .int .u32 e24.v.vip, .bool e24.v.up]) rfl rfl (fun j u hu => by have hq_ := hC14.fr.cell (hc29 j u hu) (by simp); simpa [Nat.add_assoc] using hq_)) ?_
  refine WL.newM hC14 (fun b => .pointer (some ⟨b, 0, none⟩)) (.cells #[.int .i64 0, .int .i64 0, .int .i64 0, .int .i64 0, .int .i64 0, .int .u32 0, .int .i64 0, .int .i64 0, .slice none 0 0, .int .u32 0, .int .u32 0, .bool false] 61) 5 (fun _ => by kernel_rfl) (fun g30 w31 hb34 hF32 hC33 => ?_)
  refine WLs (c' := #[.int .i64 e24.v.node, .int .i64 e24.v.boot, .int .i64 e24.v.seq, .int .i64 e24.v.time, .int .i64 e24.v.kind, .int .u32 e24.v.svip, .int .i64 e24.v.sproto, .int .i64 e24.v.sport, .slice e24.a e24.v.ends.length e24.c, .int .u32 e24.v.dip, .int .u32 e24.v.vip, .bool e24.v.up]) hC33 0 61 g30 0 (.agg #[.int .i64 e24.v.node, .int .i64 e24.v.boot, .int .i64 e24.v.seq, .int .i64 e24.v.time, .int .i64 e24.v.kind, .int .u32 e24.v.svip, .int .i64 e24.v.sproto, .int .i64 e24.v.sport, .slice e24.a e24.v.ends.length e24.c, .int .u32 e24.v.dip, .int .u32 e24.v.vip, .bool e24.v.up]) (by kernel_rfl) rfl (by kernel_rfl) (fun w35 hF37 hC38 => ?_)
  refine WLd rfl (QXn (hK23 _ _ ?_))
  refine WCs (fun K39 hK40 => ?_)
  refine WCg (WLr 3 [(14, .pointer (some ⟨g30, 8, none⟩)), (13, .pointer (some ⟨g30, 5, none⟩)), (12, .int .i64 n)] (fun _ => by kernel_rfl) ?_)
  refine WL.load 57 (.pointer (some ⟨g30, 8, none⟩)) (.slice e24.a e24.v.ends.length e24.c) 15 (by kernel_rfl) (run_ld (hC38.get 0 rfl) rfl) ?_
  refine WLr 2 [(17, .int .i64 (IntKind.i64.wrap (1 + (e24.v.ends.length : Int)))), (16, .int .i64 (e24.v.ends.length : Int))] (fun _ => by kernel_rfl) ?_
  refine WLt (show (.int .i64 (IntKind.i64.wrap (1 + (e24.v.ends.length : Int))) : Value) = .int .i64 (1 + (e24.v.ends.length : Int)) from by rw [wrap_in_i64 (1 + (e24.v.ends.length : Int)) (by omega) (by omega)]) ?_
  refine WLr 1 [(18, .int .i64 (IntKind.i64.wrap (n + (1 + (e24.v.ends.length : Int)))))] (fun _ => by kernel_rfl) ?_
  refine WLt (show (.int .i64 (IntKind.i64.wrap (n + (1 + (e24.v.ends.length : Int)))) : Value) = .int .i64 (n + (1 + (e24.v.ends.length : Int))) from by rw [wrap_in_i64 (n + (1 + (e24.v.ends.length : Int))) (by omega) (by omega)]) ?_
  refine WLr 1 [(3, .int .i64 (n + (1 + (e24.v.ends.length : Int))))] (fun _ => by kernel_rfl) (WLd rfl (QXn (hK40 _ _ ?_)))
  refine WCs (fun K41 hK42 => ?_)
  refine WCg (WLr 2 [(20, .bool (decide ((n + (1 + (e24.v.ends.length : Int))) > 400))), (19, .int .i64 (n + (1 + (e24.v.ends.length : Int))))] (fun _ => by kernel_rfl) (WLd rfl (QXn (hK42 _ _ ?_))))
  refine WCa 20 (decide ((n + (1 + (e24.v.ends.length : Int))) > 400)) rfl (fun t43b => ?_) (fun t43b => ?_)
  ·
   have t43 : (400 : Int) < (n + (1 + (e24.v.ends.length : Int))) := by have q_ := of_decide_eq_true t43b; omega
   refine WCt rfl ?_
   refine WCs (fun K44 hK45 => ?_)
   refine WCg (WLr 1 [(2, .bool true)] (fun _ => by kernel_rfl) (WLd rfl (QXn (hK45 _ _ ?_))))
   refine WC.ret ?_
   refine QXk ?_
   refine QXr ?_
   refine QXr ?_
   refine QXk ?_
   refine QXr ?_
   refine (hret _ _ _ rfl ?_).1
   exact ⟨true, rfl, hC38.fr, fun h_ => nomatch h_⟩
  ·
   have t43 : (n + (1 + (e24.v.ends.length : Int))) ≤ 400 := by have q_ := of_decide_eq_false t43b; omega
   refine WCf rfl (WC.skip ?_)
   refine QXb ?_
   refine QXn (hK21 _ _ ?_)
   refine WCg (WLr 1 [(21, .int .i64 (IntKind.i64.wrap ((i : Int) + 1)))] (fun _ => by kernel_rfl) ?_)
   refine WLt (show (.int .i64 (IntKind.i64.wrap ((i : Int) + 1)) : Value) = .int .i64 ((i : Int) + 1) from by rw [wrap_in_i64 ((i : Int) + 1) (by omega) (by omega)]) ?_
   refine WLr 1 [(8, .int .i64 ((i : Int) + 1))] (fun _ => by kernel_rfl) ?_
   refine WLd rfl ?_
   refine QXn ?_
   have hC46 := hC38.pick [] [] rfl rfl
   refine fun a_ ha_ => hK10 _ _ _ ?_ ⟨i + 1, n + (1 + (e24.v.ends.length : Int)), rfl, rfl, hC46, by omega, by omega, by omega, by rw [tot_snoc he25]; omega⟩ a_ (ha_.weaken (sub_of ⟨rfl, rfl, rfl, rfl, rfl, trivial⟩))
   omega
 ·
  have t19 : (L.length : Int) ≤ (i : Int) := by have q_ := of_decide_eq_false t19b; omega
  refine WCf rfl ?_
  refine WC.exit ?_
  refine QXe ?_
  refine QXe ?_
  refine QX.block_hit ?_
  refine QXn (hK6 _ _ ?_)
  refine WCs (fun K47 hK48 => ?_)
  refine WCg (WLr 1 [(2, .bool false)] (fun _ => by kernel_rfl) (WLd rfl (QXn (hK48 _ _ ?_))))
  refine WC.ret ?_
  refine (hret _ _ _ rfl ?_).1
  clear hN hret hret' hK48 hK18 hK16 hK8 hK6 hK4 hK2
  have hie_ : i = L.length := by omega
  subst hie_
  rw [List.take_length] at htt
  exact ⟨false, rfl, hC14.fr, fun _ => by omega⟩

set_option maxHeartbeats 1000000 in
theorem RCopy_ct (A : Option Addr) (c : Nat) (L : List Cmd) (w : World) (hr : Rd w 12 cellsC A L) (hL : ∀ m ∈ L, cmdAt w m) (hl : L.length ≤ 1099511627776) : Calls Try.prog 27 #[.slice A L.length c] w fun e w' => ∃ (A2 : Option Addr) (c2 : Nat) (L2 : List Cmd) (R2 : List Nat), e = .returned (.slice A2 L2.length c2) ∧ Fr w w' [] ∧ w'.ownsRow w.heap.size 61 12 (.slice A2 L2.length c2) L2.length (L2.flatMap cellsC) ∧ logIn w' R2 L2 ∧ vals L2 = vals L ∧ (∀ x ∈ R2, w.heap.size ≤ x ∧ x < w'.heap.size) ∧ (∀ x ∈ blk (.slice A2 L2.length c2), x ∉ R2) := by
 refine enterD (n := 28) Try.func27 rfl rfl (Nat.le_of_ble_eq_true rfl) ?_
 intro Q0 hN hret hret'
 have hC := Cx.start w
 refine WCs (fun K1 hK2 => ?_)
 refine WCg (WLr 1 [(2, .slice none 0 0)] (fun _ => by kernel_rfl) (WLd rfl (QXn (hK2 _ _ ?_))))
 refine WCs (fun K3 hK4 => ?_)
 refine WCg (WLr 1 [(3, .slice none 0 0)] (fun _ => by kernel_rfl) (WLd rfl (QXn (hK4 _ _ ?_))))
 refine WCs (fun K5 hK6 => ?_)
 refine WCs (fun K7 hK8 => ?_)
 refine WCg (WLr 1 [(4, .int .i64 0)] (fun _ => by kernel_rfl) (WLd rfl (QXn (hK8 _ _ ?_))))
 refine WC.block ?_
 have hC9 := hC.addNil
 have hC10 := hC9.addNil
 have hl11 : logIn w (blk (.slice none 0 0)) [] := logIn.nil _ _
 refine WC.loop (fun m_ E_ w_ => ∃ (i : Nat) (A5 : Option Addr) (n5 c5 : Nat) (R5 : List Nat) (L5 : List Cmd), m_ = L.length - i ∧ E_ = [(0, .slice A L.length c), (3, .slice A5 n5 c5), (4, .int .i64 (i : Int))] ∧ Cx w [] w_ [] [blk (.slice A5 n5 c5), R5] ∧ World.ownsRow w_ 0 61 12 (.slice A5 n5 c5) n5 (L5.flatMap cellsC) ∧ logIn w_ R5 L5 ∧ (i ≤ L.length ∧ vals L5 = vals (L.take i))) ⟨_, _, ⟨0, none, 0, 0, (blk (.slice none 0 0)), [], rfl, rfl, hC10, own_nil _ _ _ _, hl11, Nat.zero_le _, rfl⟩, sub_of ⟨rfl, rfl, rfl, trivial⟩⟩ (fun m15 E_ w16 K12 hK13 hI14 => ?_)
 obtain ⟨i, A5, n5, c5, R5, L5, rfl, rfl, hC17, hrow5, hlog5, hi, hvv⟩ := hI14
 have hcn5_ := own_count cellsC_len (by decide) hrow5
 have hvl5_ := vals_len L5
 have hvt_ := congrArg List.length hvv
 rw [vals_len, vals_len, List.length_take] at hvt_
 refine WCs (fun K18 hK19 => ?_)
 refine WCs (fun K20 hK21 => ?_)
 refine WCg (WLr 4 [(9, .bool (decide ((i : Int) < (L.length : Int)))), (8, .int .i64 (L.length : Int)), (7, .slice A L.length c), (6, .int .i64 (i : Int))] (fun _ => by kernel_rfl) (WLd rfl (QXn (hK21 _ _ ?_))))
 refine WCa 9 (decide ((i : Int) < (L.length : Int))) rfl (fun t22b => ?_) (fun t22b => ?_)
 ·
  have t22 : (i : Int) < (L.length : Int) := by have q_ := of_decide_eq_true t22b; omega
  refine WCt rfl ?_
  refine WC.skip ?_
  refine QXn (hK19 _ _ ?_)
  refine WCs (fun K23 hK24 => ?_)
  refine WC.block ?_
  refine WCs (fun K25 hK26 => ?_)
  refine WCg (WLr 2 [(13, .int .i64 (i : Int)), (12, .slice A L.length c)] (fun _ => by kernel_rfl) ?_)
  obtain ⟨e27, he28⟩ := get_some (xs := L) (i := i) (by omega)
  obtain ⟨b29, o31, hA30, hc32⟩ := hr.at_ _ _ he28
  have hc_e27 := hL _ (List.mem_of_getElem? he28)
  obtain ⟨hbs0_e27, hbs1_e27⟩ := hc_e27.wf.svip
  obtain ⟨hbd0_e27, hbd1_e27⟩ := hc_e27.wf.dip
  obtain ⟨hbv0_e27, hbv1_e27⟩ := hc_e27.wf.vip
  have hbl_e27 := hc_e27.lim
  refine WLi A L.length c 14 .i64 (i : Int) b29 o31 i 12 (by kernel_rfl) hA30 (by omega) (by omega) (o31 + i * 12) (by first | (simp; done) | omega) ?_
  refine WL.load 61 (.pointer (some ⟨b29, o31 + i * 12, none⟩)) (.agg #[.int .i64 e27.v.node, .int .i64 e27.v.boot, .int .i64 e27.v.seq, .int .i64 e27.v.time, .int .i64 e27.v.kind, .int .u32 e27.v.svip, .int .i64 e27.v.sproto, .int .i64 e27.v.sport, .slice e27.a e27.v.ends.length e27.c, .int .u32 e27.v.dip, .int .u32 e27.v.vip, .bool e27.v.up]) 15 (by kernel_rfl) (run_rdN (l := [.int .i64 e27.v.node, .int .i64 e27.v.boot, .int .i64 e27.v.seq, .int .i64 e27.v.time, .int .i64 e27.v.kind, .int .u32 e27.v.svip, .int .i64 e27.v.sproto, .int .i64 e27.v.sport, .slice e27.a e27.v.ends.length e27.c, .int .u32 e27.v.dip, .int .u32 e27.v.vip, .bool e27.v.up]) rfl rfl (fun j u hu => by have hq_ := hC17.fr.cell (hc32 j u hu) (by simp); simpa [Nat.add_assoc] using hq_)) ?_
  refine WL.newM hC17 (fun b => .pointer (some ⟨b, 0, none⟩)) (.cells #[.int .i64 0, .int .i64 0, .int .i64 0, .int .i64 0, .int .i64 0, .int .u32 0, .int .i64 0, .int .i64 0, .slice none 0 0, .int .u32 0, .int .u32 0, .bool false] 61) 5 (fun _ => by kernel_rfl) (fun g33 w34 hb37 hF35 hC36 => ?_)
  have ho38 := own_fr hrow5 hF35 (by simp)
  have hl39 := logIn.fr hlog5 hF35 (by simp)
  refine WLs (c' := #[.int .i64 e27.v.node, .int .i64 e27.v.boot, .int .i64 e27.v.seq, .int .i64 e27.v.time, .int .i64 e27.v.kind, .int .u32 e27.v.svip, .int .i64 e27.v.sproto, .int .i64 e27.v.sport, .slice e27.a e27.v.ends.length e27.c, .int .u32 e27.v.dip, .int .u32 e27.v.vip, .bool e27.v.up]) hC36 0 61 g33 0 (.agg #[.int .i64 e27.v.node, .int .i64 e27.v.boot, .int .i64 e27.v.seq, .int .i64 e27.v.time, .int .i64 e27.v.kind, .int .u32 e27.v.svip, .int .i64 e27.v.sproto, .int .i64 e27.v.sport, .slice e27.a e27.v.ends.length e27.c, .int .u32 e27.v.dip, .int .u32 e27.v.vip, .bool e27.v.up]) (by kernel_rfl) rfl (by kernel_rfl) (fun w40 hF42 hC43 => ?_)
  have ho44 := own_fr ho38 hF42 (hC36.apartM 0 0 rfl rfl)
  have hl45 := logIn.fr hl39 hF42 (hC36.apartM 1 0 rfl rfl)
  refine WLd rfl (QXn (hK26 _ _ ?_))
  refine WCs (fun K46 hK47 => ?_)
  refine WCg ?_
  refine WL.newM hC43 (fun b => .slice (some ⟨b, 0, none⟩) 0 0) (.cells #[] 91) 16 (fun _ => by kernel_rfl) (fun g48 w49 hb52 hF50 hC51 => ?_)
  have ho53 := own_fr ho44 hF50 (by simp)
  have hl54 := logIn.fr hl45 hF50 (by simp)
  refine WLr 2 [(18, .pointer (some ⟨g33, 8, none⟩)), (17, .pointer (some ⟨g33, 5, none⟩))] (fun _ => by kernel_rfl) ?_
  refine WL.load 57 (.pointer (some ⟨g33, 8, none⟩)) (.slice e27.a e27.v.ends.length e27.c) 19 (by kernel_rfl) (run_ld (hC51.get 0 rfl) rfl) ?_
  have ho56 : World.ownsRow w49 0 91 3 (.slice (some ⟨g48, 0, none⟩) 0 0) 0 [] := own_of_blk (Nat.zero_le _) (hC51.get 1 rfl) (Nat.le_refl _) (Nat.zero_le _) (by simp) rfl
  have hC55 := hC51.toF 1 rfl
  obtain ⟨v58, w59, hr60, ho61, hF62, hC63, hnil64, hsub65⟩ := app_run Try.prog hC55 2 (v := .slice (some ⟨g48, 0, none⟩) 0 0) rfl 57 57 91 3 24 0 e27.v.ends.length e27.c e27.a rfl ho56 (e27.v.ends.flatMap cellsE) (flat_len_n cellsE_len (by first | rfl | assumption | (simp; done) | (simp; omega))) (Rd.src_n (Rd.fr hc_e27.rd hC55.fr) cellsE_len (by decide) (by first | rfl | assumption | (simp; done) | (simp; omega))) (flat_one cellsE_one _) (by simp only [maxLen]; omega) (by omega)
  have ho69 := own_app (enc := cellsE) (ys := []) (zs := e27.v.ends) ho61
  obtain ⟨A66, c67, rfl, hle68⟩ := own_form ho69
  refine WL.sem (Builtin.append_ #[57, 57] 57 #[.slice (some ⟨g48, 0, none⟩) 0 0, .slice e27.a e27.v.ends.length e27.c]) 20 (.slice A66 (0 + e27.v.ends.length) c67) (by kernel_rfl) hr60 ?_
  have ho70 := own_fr ho53 hF62 (hC55.disj 0 2 rfl rfl (by decide))
  have hl71 := logIn.fr hl54 hF62 (hC55.disj 1 2 rfl rfl (by decide))
  have ho72 : World.ownsRow w59 0 91 3 (.slice A66 e27.v.ends.length c67) e27.v.ends.length (e27.v.ends.flatMap cellsE) := by simpa using ho69
  refine WLt (show (.slice A66 (0 + e27.v.ends.length) c67 : Value) = .slice A66 e27.v.ends.length c67 from by rw [Nat.zero_add]) ?_
  have hl73 : logIn w59 (R5 ++ blk (.slice A66 e27.v.ends.length c67)) (L5 ++ [(⟨e27.v, A66, c67⟩ : Cmd)]) := (hl71.mono (fun _ h_ => List.mem_append_left _ h_)).snoc (cmd_own ho72 hc_e27.wf hc_e27.lim) (fun _ h_ => List.mem_append_right _ h_)
  have hC74 := Cx_join hC63 1 2 rfl rfl (by decide)
  simp only [Nat.zero_add] at hC74
  refine WLr 2 [(22, .pointer (some ⟨g33, 8, none⟩)), (21, .pointer (some ⟨g33, 5, none⟩))] (fun _ => by kernel_rfl) ?_
  refine WLs (c' := #[.int .i64 e27.v.node, .int .i64 e27.v.boot, .int .i64 e27.v.seq, .int .i64 e27.v.time, .int .i64 e27.v.kind, .int .u32 e27.v.svip, .int .i64 e27.v.sproto, .int .i64 e27.v.sport, .slice A66 e27.v.ends.length c67, .int .u32 e27.v.dip, .int .u32 e27.v.vip, .bool e27.v.up]) hC74 0 57 g33 8 (.slice A66 e27.v.ends.length c67) (by kernel_rfl) rfl (by kernel_rfl) (fun w75 hF77 hC78 => ?_)
  have ho79 := own_fr ho70 hF77 (hC74.apartM 0 0 rfl rfl)
  have hl80 := logIn.fr hl73 hF77 (hC74.apartM 1 0 rfl rfl)
  refine WLd rfl (QXn (hK47 _ _ ?_))
  refine WCg (WLr 1 [(23, .slice A5 n5 c5)] (fun _ => by kernel_rfl) ?_)
  refine WL.load 61 (.pointer (some ⟨g33, 0, none⟩)) (.agg #[.int .i64 e27.v.node, .int .i64 e27.v.boot, .int .i64 e27.v.seq, .int .i64 e27.v.time, .int .i64 e27.v.kind, .int .u32 e27.v.svip, .int .i64 e27.v.sproto, .int .i64 e27.v.sport, .slice A66 e27.v.ends.length c67, .int .u32 e27.v.dip, .int .u32 e27.v.vip, .bool e27.v.up]) 24 (by kernel_rfl) (run_ld (hC78.get 0 rfl) rfl) ?_
  refine WL.newM hC78 (fun b => .slice (some ⟨b, 0, none⟩) 1 1) (.cells #[.int .i64 e27.v.node, .int .i64 e27.v.boot, .int .i64 e27.v.seq, .int .i64 e27.v.time, .int .i64 e27.v.kind, .int .u32 e27.v.svip, .int .i64 e27.v.sproto, .int .i64 e27.v.sport, .slice A66 e27.v.ends.length c67, .int .u32 e27.v.dip, .int .u32 e27.v.vip, .bool e27.v.up] 61) 25 (fun _ => by kernel_rfl) (fun g81 w82 hb85 hF83 hC84 => ?_)
  have ho86 := own_fr ho79 hF83 (by simp)
  have hl87 := logIn.fr hl80 hF83 (by simp)
  obtain ⟨v88, w89, hr90, ho91, hF92, hC93, hnil94, hsub95⟩ := app_run Try.prog hC84 0 (v := .slice A5 n5 c5) rfl 25 25 61 12 104 n5 1 1 (some ⟨g81, 0, none⟩) rfl ho86 [.int .i64 e27.v.node, .int .i64 e27.v.boot, .int .i64 e27.v.seq, .int .i64 e27.v.time, .int .i64 e27.v.kind, .int .u32 e27.v.svip, .int .i64 e27.v.sproto, .int .i64 e27.v.sport, .slice A66 e27.v.ends.length c67, .int .u32 e27.v.dip, .int .u32 e27.v.vip, .bool e27.v.up] rfl (srcOk.blk 1 (hC84.get 1 rfl)) rfl (by simp only [maxLen]; omega) (by omega)
  have ho99 := own_snoc (enc := cellsC) (ys := L5) (⟨e27.v, A66, c67⟩ : Cmd) ho91
  obtain ⟨A96, c97, rfl, hle98⟩ := own_form ho99
  refine WL.sem (Builtin.append_ #[25, 25] 25 #[.slice A5 n5 c5, .slice (some ⟨g81, 0, none⟩) 1 1]) 26 (.slice A96 (n5 + 1) c97) (by kernel_rfl) hr90 ?_
  have hl100 := logIn.fr hl87 hF92 (hC84.disj 1 0 rfl rfl (by decide))
  refine WLr 1 [(3, .slice A96 (n5 + 1) c97)] (fun _ => by kernel_rfl) ?_
  refine WLd rfl ?_
  refine QXb ?_
  refine QXn (hK24 _ _ ?_)
  refine WCg (WLr 2 [(11, .int .i64 (IntKind.i64.wrap ((i : Int) + 1))), (10, .int .i64 (i : Int))] (fun _ => by kernel_rfl) ?_)
  refine WLt (show (.int .i64 (IntKind.i64.wrap ((i : Int) + 1)) : Value) = .int .i64 ((i : Int) + 1) from by rw [wrap_in_i64 ((i : Int) + 1) (by omega) (by omega)]) ?_
  refine WLr 1 [(4, .int .i64 ((i : Int) + 1))] (fun _ => by kernel_rfl) ?_
  refine WLd rfl ?_
  refine QXn ?_
  have hC101 := hC93.pick [] [0, 1] rfl rfl
  refine fun a_ ha_ => hK13 _ _ _ ?_ ⟨i + 1, A96, n5 + 1, c97, (R5 ++ blk (.slice A66 e27.v.ends.length c67)), (L5 ++ [(⟨e27.v, A66, c67⟩ : Cmd)]), rfl, rfl, hC101, ho99, hl100, by omega, by rw [vals_take he28, vals_snoc, hvv]⟩ a_ (ha_.weaken (sub_of ⟨rfl, rfl, rfl, trivial⟩))
  omega
 ·
  have t22 : (L.length : Int) ≤ (i : Int) := by have q_ := of_decide_eq_false t22b; omega
  refine WCf rfl ?_
  refine WC.exit ?_
  refine QXe ?_
  refine QXe ?_
  refine QX.block_hit ?_
  refine QXn (hK6 _ _ ?_)
  refine WCs (fun K102 hK103 => ?_)
  refine WCg (WLr 2 [(2, .slice A5 n5 c5), (27, .slice A5 n5 c5)] (fun _ => by kernel_rfl) (WLd rfl (QXn (hK103 _ _ ?_))))
  refine WC.ret ?_
  refine (hret _ _ _ rfl ?_).1
  clear hN hret hret' hK103 hK21 hK19 hK8 hK6 hK4 hK2
  have hie_ : i = L.length := by omega
  subst hie_
  rw [List.take_length] at hvv
  subst hcn5_
  exact ⟨A5, c5, L5, R5, rfl, hC17.fr, own_base hrow5 (newF_of hC17 0 rfl (fun _ h_ => nomatch h_) (fun _ h_ => nomatch h_)), hlog5, hvv, (fun x_ h_ => ⟨newF_of hC17 1 rfl (fun _ h_ => nomatch h_) (fun _ h_ => nomatch h_) x_ h_, hC17.ltF 1 rfl x_ h_⟩), hC17.disj 0 1 rfl rfl (by decide)⟩

end Go.Proofs.Ytjacpjdikhlcoaa
