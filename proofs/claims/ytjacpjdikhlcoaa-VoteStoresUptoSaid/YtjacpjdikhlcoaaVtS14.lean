/- Contracts of functions of the program, each proved by a walk through its code; conditions stand in the statements. -/
import Derived.Test.YtjacpjdikhlcoaaVtR14
namespace Go.Proofs.Ytjacpjdikhlcoaa
set_option linter.unusedSimpArgs false
set_option linter.unusedVariables false
set_option linter.unusedSectionVars false
open Go Go.RowKit Go.Tw
set_option linter.unusedVariables false
set_option maxRecDepth 20000
theorem Cx_join {w0 w : World} {F0 : List Nat} {M : List (Nat × Obj)} {Fs : List (List Nat)} (h : Cx w0 F0 w M Fs) (i j : Nat) {A B : List Nat} (hi : Fs[i]? = some A) (hj : Fs[j]? = some B) (hij : i ≠ j) : Cx w0 F0 w M ((Fs.set i (A ++ B)).set j []) := by
  have hli := (List.getElem?_eq_some_iff.1 hi).1
  have hlj := (List.getElem?_eq_some_iff.1 hj).1
  have at_ : ∀ a G, ((Fs.set i (A ++ B)).set j [])[a]? = some G → ∀ x ∈ G, a ≠ j ∧ ∃ a' G', Fs[a']? = some G' ∧ x ∈ G' ∧ (a' = a ∨ (a = i ∧ a' = j)) := by
    intro a G hG x hx
    by_cases e : a = j
    · subst e
      rw [List.getElem?_set_self (by rw [List.length_set]; exact hlj)] at hG
      cases hG; cases hx
    · rw [List.getElem?_set_ne (Ne.symm e)] at hG
      refine ⟨e, ?_⟩
      by_cases e2 : a = i
      · subst e2
        rw [List.getElem?_set_self hli] at hG
        cases hG
        rcases List.mem_append.1 hx with hx | hx
        · exact ⟨a, A, hi, hx, .inl rfl⟩
        · exact ⟨j, B, hj, hx, .inr ⟨rfl, rfl⟩⟩
      · rw [List.getElem?_set_ne (Ne.symm e2)] at hG
        exact ⟨a, G, hG, hx, .inl rfl⟩
  have mem_ : ∀ G ∈ (Fs.set i (A ++ B)).set j [], ∀ x ∈ G, ∃ G' ∈ Fs, x ∈ G' := by
    intro G hG x hx
    obtain ⟨a, ha⟩ := List.getElem?_of_mem hG
    obtain ⟨_, a', G', h1, h2, _⟩ := at_ a G ha x hx
    exact ⟨G', List.mem_of_getElem? h1, h2⟩
  refine ⟨h.fr, h.has, h.nodup, ?_, ?_, ?_, h.ownM, ?_⟩
  · rw [List.pairwise_iff_getElem]
    intro a b ha hb hab x hx hx2
    obtain ⟨n1, a', G1, g1, m1, q1⟩ := at_ a _ (List.getElem?_eq_getElem ha) x hx
    obtain ⟨n2, b', G2, g2, m2, q2⟩ := at_ b _ (List.getElem?_eq_getElem hb) x hx2
    have hne : a' ≠ b' := by rcases q1 with rfl | ⟨rfl, rfl⟩ <;> rcases q2 with rfl | ⟨rfl, rfl⟩ <;> omega
    exact h.disj a' b' g1 g2 hne x m1 m2
  · intro G hG p hp hx
    obtain ⟨G', h1, h2⟩ := mem_ G hG _ hx
    exact h.apart G' h1 p hp h2
  · intro G hG x hx
    obtain ⟨G', h1, h2⟩ := mem_ G hG x hx
    exact h.bound G' h1 x h2
  · intro G hG x hx
    obtain ⟨G', h1, h2⟩ := mem_ G hG x hx
    exact h.ownF G' h1 x h2
set_option maxHeartbeats 1000000 in
theorem RGoodLog_ct (A : Option Addr) (c : Nat) (L : List Cmd) (w : World) (hr : Rd w 12 cellsC A L) (hL : ∀ m ∈ L, cmdAt w m) : Calls Try.prog 55 #[.slice A L.length c] w fun e w' => e = .returned (.bool (goodL (vals L))) ∧ Fr w w' [] := by
 refine enterD (n := 62) Try.func55 rfl rfl (Nat.le_of_ble_eq_true rfl) ?_
 intro Q0 hN hret hret'
 have hC := Cx.start w
 refine WC.seq (fun K1 hK2 => ?_)
 refine WC.region ?_
 refine WL.runs 1 [(2, .bool false)] (fun _ => by kernel_rfl) ?_
 refine WL.done rfl ?_
 refine QX.then_normal (hK2 _ _ ?_)
 refine WC.seq (fun K3 hK4 => ?_)
 refine WC.seq (fun K5 hK6 => ?_)
 refine WC.region ?_
 refine WL.runs 3 [(7, .bool (decide ((L.length : Int) > 256))), (6, .int .i64 (L.length : Int)), (5, .slice A L.length c)] (fun _ => by kernel_rfl) ?_
 refine WL.done rfl ?_
 refine QX.then_normal (hK6 _ _ ?_)
 refine WC.test_at 7 (decide ((L.length : Int) > 256)) rfl (fun t7b => ?_) (fun t7b => ?_)
 ·
  have t7 : (256 : Int) < (L.length : Int) := by have q_ := of_decide_eq_true t7b; omega
  refine WC.cond_true rfl ?_
  refine WC.seq (fun K8 hK9 => ?_)
  refine WC.region ?_
  refine WL.runs 1 [(2, .bool false)] (fun _ => by kernel_rfl) ?_
  refine WL.done rfl ?_
  refine QX.then_normal (hK9 _ _ ?_)
  refine WC.ret ?_
  refine QX.then_ret ?_
  refine (hret _ _ _ rfl ?_).1
  clear hN hret hret' hK9 hK6 hK4 hK2
  rw [goodL_no0 (by rw [vals_len]; omega)]
  exact ⟨rfl, hC.fr⟩
 ·
  have t7 : (L.length : Int) ≤ 256 := by have q_ := of_decide_eq_false t7b; omega
  refine WC.cond_false rfl ?_
  refine WC.skip ?_
  refine QX.then_normal (hK4 _ _ ?_)
  refine WC.seq (fun K10 hK11 => ?_)
  refine WC.seq (fun K12 hK13 => ?_)
  refine WC.region ?_
  refine WL.runs 1 [(3, .int .i64 0)] (fun _ => by kernel_rfl) ?_
  refine WL.done rfl ?_
  refine QX.then_normal (hK13 _ _ ?_)
  refine WC.block ?_
  refine WC.loop (fun m_ E_ w_ => ∃ (i : Nat), m_ = L.length - i ∧ E_ = [(0, .slice A L.length c), (3, .int .i64 (i : Int))] ∧ Cx w [] w_ [] [] ∧ (i ≤ L.length ∧ ((vals L).take i).all goodC = true ∧ (((vals L).take i).map idV).Nodup)) ⟨_, _, ⟨0, rfl, rfl, hC, Nat.zero_le _, rfl, List.nodup_nil⟩, sub_of ⟨rfl, rfl, trivial⟩⟩ (fun m17 E_ w18 K14 hK15 hI16 => ?_)
  obtain ⟨i, rfl, rfl, hC19, hi, hall, hnd⟩ := hI16
  refine WC.seq (fun K20 hK21 => ?_)
  refine WC.seq (fun K22 hK23 => ?_)
  refine WC.region ?_
  refine WL.runs 4 [(11, .bool (decide ((i : Int) < (L.length : Int)))), (10, .int .i64 (L.length : Int)), (9, .slice A L.length c), (8, .int .i64 (i : Int))] (fun _ => by kernel_rfl) ?_
  refine WL.done rfl ?_
  refine QX.then_normal (hK23 _ _ ?_)
  refine WC.test_at 11 (decide ((i : Int) < (L.length : Int))) rfl (fun t24b => ?_) (fun t24b => ?_)
  ·
   have t24 : (i : Int) < (L.length : Int) := by have q_ := of_decide_eq_true t24b; omega
   refine WC.cond_true rfl ?_
   refine WC.skip ?_
   refine QX.then_normal (hK21 _ _ ?_)
   refine WC.seq (fun K25 hK26 => ?_)
   refine WC.block ?_
   refine WC.seq (fun K27 hK28 => ?_)
   refine WC.seq (fun K29 hK30 => ?_)
   refine WC.region ?_
   refine WL.runs 2 [(15, .int .i64 (i : Int)), (14, .slice A L.length c)] (fun _ => by kernel_rfl) ?_
   obtain ⟨e31, he32⟩ := get_some (xs := L) (i := i) (by omega)
   obtain ⟨b33, o35, hA34, hc36⟩ := hr.at_ _ _ he32
   have hc_e31 := hL _ (List.mem_of_getElem? he32)
   obtain ⟨hbs0_e31, hbs1_e31⟩ := hc_e31.wf.svip
   obtain ⟨hbd0_e31, hbd1_e31⟩ := hc_e31.wf.dip
   obtain ⟨hbv0_e31, hbv1_e31⟩ := hc_e31.wf.vip
   have hbl_e31 := hc_e31.lim
   refine WL.index A L.length c 16 .i64 (i : Int) b33 o35 i 12 (by kernel_rfl) hA34 (by omega) (by omega) (o35 + i * 12) (by first | (simp; done) | omega) ?_
   refine WL.load 61 (.pointer (some ⟨b33, o35 + i * 12, none⟩)) (.agg #[.int .i64 e31.v.node, .int .i64 e31.v.boot, .int .i64 e31.v.seq, .int .i64 e31.v.time, .int .i64 e31.v.kind, .int .u32 e31.v.svip, .int .i64 e31.v.sproto, .int .i64 e31.v.sport, .slice e31.a e31.v.ends.length e31.c, .int .u32 e31.v.dip, .int .u32 e31.v.vip, .bool e31.v.up]) 17 (by kernel_rfl) (run_rdN (l := [.int .i64 e31.v.node, .int .i64 e31.v.boot, .int .i64 e31.v.seq, .int .i64 e31.v.time, .int .i64 e31.v.kind, .int .u32 e31.v.svip, .int .i64 e31.v.sproto, .int .i64 e31.v.sport, .slice e31.a e31.v.ends.length e31.c, .int .u32 e31.v.dip, .int .u32 e31.v.vip, .bool e31.v.up]) rfl rfl (fun j u hu => by have hq_ := hC19.fr.cell (hc36 j u hu) (by simp); simpa [Nat.add_assoc] using hq_)) ?_
   refine WL.call rfl rfl rfl rfl rfl (by kernel_rfl) (RGood_ct e31 w18 (cmdAt.fr0 hc_e31 hC19.fr)) ?_
   rintro _ w38 ⟨rfl, hF37⟩
   refine ⟨_, rfl, ?_⟩
   have hC39 := hC19.call hF37
   refine WL.runs 1 [(19, .bool (!(goodC e31.v)))] (fun _ => by kernel_rfl) ?_
   refine WL.done rfl ?_
   refine QX.then_normal (hK30 _ _ ?_)
   refine WC.test_at 19 (!(goodC e31.v)) rfl (fun t40b => ?_) (fun t40b => ?_)
   ·
    have t40 : (goodC e31.v) = false := by first | (simpa only [Bool.not_eq_true', Bool.not_eq_false'] using t40b) | simpa using t40b
    refine WC.cond_true rfl ?_
    refine WC.seq (fun K41 hK42 => ?_)
    refine WC.region ?_
    refine WL.runs 1 [(2, .bool false)] (fun _ => by kernel_rfl) ?_
    refine WL.done rfl ?_
    refine QX.then_normal (hK42 _ _ ?_)
    refine WC.ret ?_
    refine QX.then_ret ?_
    refine QX.block_ret ?_
    refine QX.then_ret ?_
    refine QX.then_ret ?_
    refine QX.block_ret ?_
    refine QX.then_ret ?_
    refine (hret _ _ _ rfl ?_).1
    clear hN hret hret' hK42 hK30 hK28 hK26 hK23 hK21 hK13 hK11 hK6 hK4 hK2
    rw [goodL_no1 (all_no (vals_get he32) (by simpa using t40))]
    exact ⟨rfl, hC39.fr⟩
   ·
    have t40 : (goodC e31.v) = true := by first | (simpa only [Bool.not_eq_true', Bool.not_eq_false'] using t40b) | simpa using t40b
    refine WC.cond_false rfl ?_
    refine WC.skip ?_
    refine QX.then_normal (hK28 _ _ ?_)
    refine WC.seq (fun K43 hK44 => ?_)
    refine WC.region ?_
    refine WL.runs 1 [(4, .int .i64 0)] (fun _ => by kernel_rfl) ?_
    refine WL.done rfl ?_
    refine QX.then_normal (hK44 _ _ ?_)
    refine WC.block ?_
    refine WC.loop (fun m_ E_ w_ => ∃ (j : Nat), m_ = i - j ∧ E_ = [(0, .slice A L.length c), (3, .int .i64 (i : Int)), (4, .int .i64 (j : Int))] ∧ Cx w [] w_ [] [] ∧ (j ≤ i ∧ ¬ dupK idV (vals L) i j)) ⟨_, _, ⟨0, rfl, rfl, hC39, Nat.zero_le _, dupK_0 _ _ _⟩, sub_of ⟨rfl, rfl, rfl, trivial⟩⟩ (fun m48 E_ w49 K45 hK46 hI47 => ?_)
    obtain ⟨j, rfl, rfl, hC50, hj, hdup⟩ := hI47
    refine WC.seq (fun K51 hK52 => ?_)
    refine WC.seq (fun K53 hK54 => ?_)
    refine WC.region ?_
    refine WL.runs 3 [(22, .bool (decide ((j : Int) < (i : Int)))), (21, .int .i64 (i : Int)), (20, .int .i64 (j : Int))] (fun _ => by kernel_rfl) ?_
    refine WL.done rfl ?_
    refine QX.then_normal (hK54 _ _ ?_)
    refine WC.test_at 22 (decide ((j : Int) < (i : Int))) rfl (fun t55b => ?_) (fun t55b => ?_)
    ·
     have t55 : (j : Int) < (i : Int) := by have q_ := of_decide_eq_true t55b; omega
     refine WC.cond_true rfl ?_
     refine WC.skip ?_
     refine QX.then_normal (hK52 _ _ ?_)
     refine WC.seq (fun K56 hK57 => ?_)
     refine WC.block ?_
     refine WC.seq (fun K58 hK59 => ?_)
     refine WC.drawC hC50 [] (by kernel_rfl) (fun w60 hF61 hC62 hS63 => ?_)
     refine WD.pure (NoPanic.then (NoPanic.block (NoPanic.then (NoPanic.then (NoPanic.block (NoPanic.block (NoPanic.then (NoPanic.then (NoPanic.block (NoPanic.then hN)))))))))) 0 25 (.slice A L.length c) (by kernel_rfl) (fun _ => by kernel_rfl) hS63 ?_
     refine WD.pure (NoPanic.then (NoPanic.block (NoPanic.then (NoPanic.then (NoPanic.block (NoPanic.block (NoPanic.then (NoPanic.then (NoPanic.block (NoPanic.then hN)))))))))) 1 26 (.int .i64 (i : Int)) (by kernel_rfl) (fun _ => by kernel_rfl) hS63 ?_
     obtain ⟨e64, he65⟩ := get_some (xs := L) (i := i) (by omega)
     obtain ⟨b66, o68, hA67, hc69⟩ := hr.at_ _ _ he65
     have hc_e64 := hL _ (List.mem_of_getElem? he65)
     obtain ⟨hbs0_e64, hbs1_e64⟩ := hc_e64.wf.svip
     obtain ⟨hbd0_e64, hbd1_e64⟩ := hc_e64.wf.dip
     obtain ⟨hbv0_e64, hbv1_e64⟩ := hc_e64.wf.vip
     have hbl_e64 := hc_e64.lim
     refine WD.index (NoPanic.then (NoPanic.block (NoPanic.then (NoPanic.then (NoPanic.block (NoPanic.block (NoPanic.then (NoPanic.then (NoPanic.block (NoPanic.then hN)))))))))) 2 A L.length c 27 .i64 (i : Int) b66 o68 i 12 (by kernel_rfl) (by kernel_rfl) hA67 (by omega) (by omega) (o68 + i * 12) (by first | (simp; done) | omega) hS63 ?_
     refine WD.pure (NoPanic.then (NoPanic.block (NoPanic.then (NoPanic.then (NoPanic.block (NoPanic.block (NoPanic.then (NoPanic.then (NoPanic.block (NoPanic.then hN)))))))))) 3 28 (.pointer (some ⟨b66, o68 + i * 12, none⟩)) (by kernel_rfl) (fun _ => by kernel_rfl) hS63 ?_
     refine WD.pure (NoPanic.then (NoPanic.block (NoPanic.then (NoPanic.then (NoPanic.block (NoPanic.block (NoPanic.then (NoPanic.then (NoPanic.block (NoPanic.then hN)))))))))) 5 30 (.slice A L.length c) (by kernel_rfl) (fun _ => by kernel_rfl) hS63 ?_
     refine WD.pure (NoPanic.then (NoPanic.block (NoPanic.then (NoPanic.then (NoPanic.block (NoPanic.block (NoPanic.then (NoPanic.then (NoPanic.block (NoPanic.then hN)))))))))) 6 31 (.int .i64 (j : Int)) (by kernel_rfl) (fun _ => by kernel_rfl) hS63 ?_
     obtain ⟨e70, he71⟩ := get_some (xs := L) (i := j) (by omega)
     obtain ⟨b72, o74, hA73, hc75⟩ := hr.at_ _ _ he71
     have hc_e70 := hL _ (List.mem_of_getElem? he71)
     obtain ⟨hbs0_e70, hbs1_e70⟩ := hc_e70.wf.svip
     obtain ⟨hbd0_e70, hbd1_e70⟩ := hc_e70.wf.dip
     obtain ⟨hbv0_e70, hbv1_e70⟩ := hc_e70.wf.vip
     have hbl_e70 := hc_e70.lim
     refine WD.index (NoPanic.then (NoPanic.block (NoPanic.then (NoPanic.then (NoPanic.block (NoPanic.block (NoPanic.then (NoPanic.then (NoPanic.block (NoPanic.then hN)))))))))) 7 A L.length c 32 .i64 (j : Int) b72 o74 j 12 (by kernel_rfl) (by kernel_rfl) hA73 (by omega) (by omega) (o74 + j * 12) (by first | (simp; done) | omega) hS63 ?_
     refine WD.pure (NoPanic.then (NoPanic.block (NoPanic.then (NoPanic.then (NoPanic.block (NoPanic.block (NoPanic.then (NoPanic.then (NoPanic.block (NoPanic.then hN)))))))))) 8 33 (.pointer (some ⟨b72, o74 + j * 12, none⟩)) (by kernel_rfl) (fun _ => by kernel_rfl) hS63 ?_
     refine WD.load (NoPanic.then (NoPanic.block (NoPanic.then (NoPanic.then (NoPanic.block (NoPanic.block (NoPanic.then (NoPanic.then (NoPanic.block (NoPanic.then hN)))))))))) 4 3 (.pointer (some ⟨b66, o68 + i * 12, none⟩)) (.int .i64 e64.v.node) 29 (by kernel_rfl) (by kernel_rfl) (fun _ hS_ => run_load1 rfl (by simpa [Nat.add_assoc] using Fr.cell hS_ (hC62.fr.cell (hc69 0 _ rfl) (by simp)) (by simp))) hS63 ?_
     refine WD.load (NoPanic.then (NoPanic.block (NoPanic.then (NoPanic.then (NoPanic.block (NoPanic.block (NoPanic.then (NoPanic.then (NoPanic.block (NoPanic.then hN)))))))))) 9 3 (.pointer (some ⟨b72, o74 + j * 12, none⟩)) (.int .i64 e70.v.node) 34 (by kernel_rfl) (by kernel_rfl) (fun _ hS_ => run_load1 rfl (by simpa [Nat.add_assoc] using Fr.cell hS_ (hC62.fr.cell (hc75 0 _ rfl) (by simp)) (by simp))) hS63 ?_
     refine WD.pure (NoPanic.then (NoPanic.block (NoPanic.then (NoPanic.then (NoPanic.block (NoPanic.block (NoPanic.then (NoPanic.then (NoPanic.block (NoPanic.then hN)))))))))) 10 35 (.bool (e64.v.node == e70.v.node)) (by kernel_rfl) (fun _ => by kernel_rfl) hS63 ?_
     refine WD.pure (NoPanic.then (NoPanic.block (NoPanic.then (NoPanic.then (NoPanic.block (NoPanic.block (NoPanic.then (NoPanic.then (NoPanic.block (NoPanic.then hN)))))))))) 11 36 (.bool (e64.v.node == e70.v.node)) (by kernel_rfl) (fun _ => by kernel_rfl) hS63 ?_
     refine WD.test_at 36 (e64.v.node == e70.v.node) rfl (fun t76b => ?_) (fun t76b => ?_)
     ·
      have t76 : e64.v.node = e70.v.node := by simpa using t76b
      refine WD.pure (NoPanic.then (NoPanic.block (NoPanic.then (NoPanic.then (NoPanic.block (NoPanic.block (NoPanic.then (NoPanic.then (NoPanic.block (NoPanic.then hN)))))))))) 12 37 (.slice A L.length c) (by kernel_rfl) (fun _ => by kernel_rfl) hS63 ?_
      refine WD.pure (NoPanic.then (NoPanic.block (NoPanic.then (NoPanic.then (NoPanic.block (NoPanic.block (NoPanic.then (NoPanic.then (NoPanic.block (NoPanic.then hN)))))))))) 13 38 (.int .i64 (i : Int)) (by kernel_rfl) (fun _ => by kernel_rfl) hS63 ?_
      refine WD.index (NoPanic.then (NoPanic.block (NoPanic.then (NoPanic.then (NoPanic.block (NoPanic.block (NoPanic.then (NoPanic.then (NoPanic.block (NoPanic.then hN)))))))))) 14 A L.length c 39 .i64 (i : Int) b66 o68 i 12 (by kernel_rfl) (by kernel_rfl) hA67 (by omega) (by omega) (o68 + i * 12) (by first | (simp; done) | omega) hS63 ?_
      refine WD.pure (NoPanic.then (NoPanic.block (NoPanic.then (NoPanic.then (NoPanic.block (NoPanic.block (NoPanic.then (NoPanic.then (NoPanic.block (NoPanic.then hN)))))))))) 15 40 (.pointer (some ⟨b66, o68 + i * 12 + 1, none⟩)) (by kernel_rfl) (fun _ => by kernel_rfl) hS63 ?_
      refine WD.pure (NoPanic.then (NoPanic.block (NoPanic.then (NoPanic.then (NoPanic.block (NoPanic.block (NoPanic.then (NoPanic.then (NoPanic.block (NoPanic.then hN)))))))))) 17 42 (.slice A L.length c) (by kernel_rfl) (fun _ => by kernel_rfl) hS63 ?_
      refine WD.pure (NoPanic.then (NoPanic.block (NoPanic.then (NoPanic.then (NoPanic.block (NoPanic.block (NoPanic.then (NoPanic.then (NoPanic.block (NoPanic.then hN)))))))))) 18 43 (.int .i64 (j : Int)) (by kernel_rfl) (fun _ => by kernel_rfl) hS63 ?_
      refine WD.index (NoPanic.then (NoPanic.block (NoPanic.then (NoPanic.then (NoPanic.block (NoPanic.block (NoPanic.then (NoPanic.then (NoPanic.block (NoPanic.then hN)))))))))) 19 A L.length c 44 .i64 (j : Int) b72 o74 j 12 (by kernel_rfl) (by kernel_rfl) hA73 (by omega) (by omega) (o74 + j * 12) (by first | (simp; done) | omega) hS63 ?_
      refine WD.pure (NoPanic.then (NoPanic.block (NoPanic.then (NoPanic.then (NoPanic.block (NoPanic.block (NoPanic.then (NoPanic.then (NoPanic.block (NoPanic.then hN)))))))))) 20 45 (.pointer (some ⟨b72, o74 + j * 12 + 1, none⟩)) (by kernel_rfl) (fun _ => by kernel_rfl) hS63 ?_
      refine WD.load (NoPanic.then (NoPanic.block (NoPanic.then (NoPanic.then (NoPanic.block (NoPanic.block (NoPanic.then (NoPanic.then (NoPanic.block (NoPanic.then hN)))))))))) 16 3 (.pointer (some ⟨b66, o68 + i * 12 + 1, none⟩)) (.int .i64 e64.v.boot) 41 (by kernel_rfl) (by kernel_rfl) (fun _ hS_ => run_load1 rfl (by simpa [Nat.add_assoc] using Fr.cell hS_ (hC62.fr.cell (hc69 1 _ rfl) (by simp)) (by simp))) hS63 ?_
      refine WD.load (NoPanic.then (NoPanic.block (NoPanic.then (NoPanic.then (NoPanic.block (NoPanic.block (NoPanic.then (NoPanic.then (NoPanic.block (NoPanic.then hN)))))))))) 21 3 (.pointer (some ⟨b72, o74 + j * 12 + 1, none⟩)) (.int .i64 e70.v.boot) 46 (by kernel_rfl) (by kernel_rfl) (fun _ hS_ => run_load1 rfl (by simpa [Nat.add_assoc] using Fr.cell hS_ (hC62.fr.cell (hc75 1 _ rfl) (by simp)) (by simp))) hS63 ?_
      refine WD.pure (NoPanic.then (NoPanic.block (NoPanic.then (NoPanic.then (NoPanic.block (NoPanic.block (NoPanic.then (NoPanic.then (NoPanic.block (NoPanic.then hN)))))))))) 22 47 (.bool (e64.v.boot == e70.v.boot)) (by kernel_rfl) (fun _ => by kernel_rfl) hS63 ?_
      refine WD.pure (NoPanic.then (NoPanic.block (NoPanic.then (NoPanic.then (NoPanic.block (NoPanic.block (NoPanic.then (NoPanic.then (NoPanic.block (NoPanic.then hN)))))))))) 23 48 (.bool (e64.v.boot == e70.v.boot)) (by kernel_rfl) (fun _ => by kernel_rfl) hS63 ?_
      refine WD.pure (NoPanic.then (NoPanic.block (NoPanic.then (NoPanic.then (NoPanic.block (NoPanic.block (NoPanic.then (NoPanic.then (NoPanic.block (NoPanic.then hN)))))))))) 24 49 (.bool (e64.v.boot == e70.v.boot)) (by kernel_rfl) (fun _ => by kernel_rfl) hS63 ?_
      refine WD.test_at 49 (e64.v.boot == e70.v.boot) rfl (fun t85b => ?_) (fun t85b => ?_)
      ·
       have t85 : e64.v.boot = e70.v.boot := by simpa using t85b
       refine WD.pure (NoPanic.then (NoPanic.block (NoPanic.then (NoPanic.then (NoPanic.block (NoPanic.block (NoPanic.then (NoPanic.then (NoPanic.block (NoPanic.then hN)))))))))) 25 50 (.slice A L.length c) (by kernel_rfl) (fun _ => by kernel_rfl) hS63 ?_
       refine WD.pure (NoPanic.then (NoPanic.block (NoPanic.then (NoPanic.then (NoPanic.block (NoPanic.block (NoPanic.then (NoPanic.then (NoPanic.block (NoPanic.then hN)))))))))) 26 51 (.int .i64 (i : Int)) (by kernel_rfl) (fun _ => by kernel_rfl) hS63 ?_
       refine WD.index (NoPanic.then (NoPanic.block (NoPanic.then (NoPanic.then (NoPanic.block (NoPanic.block (NoPanic.then (NoPanic.then (NoPanic.block (NoPanic.then hN)))))))))) 27 A L.length c 52 .i64 (i : Int) b66 o68 i 12 (by kernel_rfl) (by kernel_rfl) hA67 (by omega) (by omega) (o68 + i * 12) (by first | (simp; done) | omega) hS63 ?_
       refine WD.pure (NoPanic.then (NoPanic.block (NoPanic.then (NoPanic.then (NoPanic.block (NoPanic.block (NoPanic.then (NoPanic.then (NoPanic.block (NoPanic.then hN)))))))))) 28 53 (.pointer (some ⟨b66, o68 + i * 12 + 2, none⟩)) (by kernel_rfl) (fun _ => by kernel_rfl) hS63 ?_
       refine WD.pure (NoPanic.then (NoPanic.block (NoPanic.then (NoPanic.then (NoPanic.block (NoPanic.block (NoPanic.then (NoPanic.then (NoPanic.block (NoPanic.then hN)))))))))) 30 55 (.slice A L.length c) (by kernel_rfl) (fun _ => by kernel_rfl) hS63 ?_
       refine WD.pure (NoPanic.then (NoPanic.block (NoPanic.then (NoPanic.then (NoPanic.block (NoPanic.block (NoPanic.then (NoPanic.then (NoPanic.block (NoPanic.then hN)))))))))) 31 56 (.int .i64 (j : Int)) (by kernel_rfl) (fun _ => by kernel_rfl) hS63 ?_
       refine WD.index (NoPanic.then (NoPanic.block (NoPanic.then (NoPanic.then (NoPanic.block (NoPanic.block (NoPanic.then (NoPanic.then (NoPanic.block (NoPanic.then hN)))))))))) 32 A L.length c 57 .i64 (j : Int) b72 o74 j 12 (by kernel_rfl) (by kernel_rfl) hA73 (by omega) (by omega) (o74 + j * 12) (by first | (simp; done) | omega) hS63 ?_
       refine WD.pure (NoPanic.then (NoPanic.block (NoPanic.then (NoPanic.then (NoPanic.block (NoPanic.block (NoPanic.then (NoPanic.then (NoPanic.block (NoPanic.then hN)))))))))) 33 58 (.pointer (some ⟨b72, o74 + j * 12 + 2, none⟩)) (by kernel_rfl) (fun _ => by kernel_rfl) hS63 ?_
       refine WD.load (NoPanic.then (NoPanic.block (NoPanic.then (NoPanic.then (NoPanic.block (NoPanic.block (NoPanic.then (NoPanic.then (NoPanic.block (NoPanic.then hN)))))))))) 29 3 (.pointer (some ⟨b66, o68 + i * 12 + 2, none⟩)) (.int .i64 e64.v.seq) 54 (by kernel_rfl) (by kernel_rfl) (fun _ hS_ => run_load1 rfl (by simpa [Nat.add_assoc] using Fr.cell hS_ (hC62.fr.cell (hc69 2 _ rfl) (by simp)) (by simp))) hS63 ?_
       refine WD.load (NoPanic.then (NoPanic.block (NoPanic.then (NoPanic.then (NoPanic.block (NoPanic.block (NoPanic.then (NoPanic.then (NoPanic.block (NoPanic.then hN)))))))))) 34 3 (.pointer (some ⟨b72, o74 + j * 12 + 2, none⟩)) (.int .i64 e70.v.seq) 59 (by kernel_rfl) (by kernel_rfl) (fun _ hS_ => run_load1 rfl (by simpa [Nat.add_assoc] using Fr.cell hS_ (hC62.fr.cell (hc75 2 _ rfl) (by simp)) (by simp))) hS63 ?_
       refine WD.pure (NoPanic.then (NoPanic.block (NoPanic.then (NoPanic.then (NoPanic.block (NoPanic.block (NoPanic.then (NoPanic.then (NoPanic.block (NoPanic.then hN)))))))))) 35 60 (.bool (e64.v.seq == e70.v.seq)) (by kernel_rfl) (fun _ => by kernel_rfl) hS63 ?_
       refine WD.pure (NoPanic.then (NoPanic.block (NoPanic.then (NoPanic.then (NoPanic.block (NoPanic.block (NoPanic.then (NoPanic.then (NoPanic.block (NoPanic.then hN)))))))))) 36 61 (.bool (e64.v.seq == e70.v.seq)) (by kernel_rfl) (fun _ => by kernel_rfl) hS63 ?_
       refine WD.done (by kernel_rfl) ?_
       refine QX.then_normal (hK59 _ _ ?_)
       refine WC.test_at 61 (e64.v.seq == e70.v.seq) rfl (fun t94b => ?_) (fun t94b => ?_)
       ·
        have t94 : e64.v.seq = e70.v.seq := by simpa using t94b
        refine WC.cond_true rfl ?_
        refine WC.seq (fun K95 hK96 => ?_)
        refine WC.region ?_
        refine WL.runs 1 [(2, .bool false)] (fun _ => by kernel_rfl) ?_
        refine WL.done rfl ?_
        refine QX.then_normal (hK96 _ _ ?_)
        refine WC.ret ?_
        refine QX.block_ret ?_
        refine QX.then_ret ?_
        refine QX.then_ret ?_
        refine QX.block_ret ?_
        refine QX.block_ret ?_
        refine QX.then_ret ?_
        refine QX.then_ret ?_
        refine QX.block_ret ?_
        refine QX.then_ret ?_
        refine (hret _ _ _ rfl ?_).1
        clear hN hret hret' hK96 hK59 hK57 hK54 hK52 hK44 hK30 hK28 hK26 hK23 hK21 hK13 hK11 hK6 hK4 hK2
        rw [goodL_no2 (dup_not (f := idV) (vals_get he65) (vals_get he71) (by omega) (by unfold idV; simp_all))]
        exact ⟨rfl, hC62.fr⟩
       ·
        have t94 : ¬ (e64.v.seq = e70.v.seq) := by simpa using t94b
        refine WC.cond_false rfl ?_
        refine WC.skip ?_
        refine QX.block_normal ?_
        refine QX.then_normal (hK57 _ _ ?_)
        refine WC.region ?_
        refine WL.runs 2 [(24, .int .i64 (IntKind.i64.wrap ((j : Int) + 1))), (23, .int .i64 (j : Int))] (fun _ => by kernel_rfl) ?_
        refine WL.recast (show (.int .i64 (IntKind.i64.wrap ((j : Int) + 1)) : Value) = .int .i64 ((j : Int) + 1) from by rw [wrap_in_i64 ((j : Int) + 1) (by omega) (by omega)]) ?_
        refine WL.runs 1 [(4, .int .i64 ((j : Int) + 1))] (fun _ => by kernel_rfl) ?_
        refine WL.done rfl ?_
        refine QX.then_normal ?_
        have hC97 := hC62.pick [] [] rfl rfl
        refine fun a_ ha_ => hK46 _ _ _ ?_ ⟨j + 1, rfl, rfl, hC97, by omega, dupK_step hdup (vals_get he65) (vals_get he71) (fun e_ => by unfold idV at e_; simp only [Prod.mk.injEq] at e_; obtain ⟨q1_, q2_, q3_⟩ := e_; first | omega | simp_all)⟩ a_ (ha_.weaken (sub_of ⟨rfl, rfl, rfl, trivial⟩))
        omega
      ·
       have t85 : ¬ (e64.v.boot = e70.v.boot) := by simpa using t85b
       refine WD.pure (NoPanic.then (NoPanic.block (NoPanic.then (NoPanic.then (NoPanic.block (NoPanic.block (NoPanic.then (NoPanic.then (NoPanic.block (NoPanic.then hN)))))))))) 25 50 (undef) (by kernel_rfl) (fun _ => by kernel_rfl) hS63 ?_
       refine WD.pure (NoPanic.then (NoPanic.block (NoPanic.then (NoPanic.then (NoPanic.block (NoPanic.block (NoPanic.then (NoPanic.then (NoPanic.block (NoPanic.then hN)))))))))) 26 51 (undef) (by kernel_rfl) (fun _ => by kernel_rfl) hS63 ?_
       refine WD.pure (NoPanic.then (NoPanic.block (NoPanic.then (NoPanic.then (NoPanic.block (NoPanic.block (NoPanic.then (NoPanic.then (NoPanic.block (NoPanic.then hN)))))))))) 27 52 (undef) (by kernel_rfl) (fun _ => by kernel_rfl) hS63 ?_
       refine WD.pure (NoPanic.then (NoPanic.block (NoPanic.then (NoPanic.then (NoPanic.block (NoPanic.block (NoPanic.then (NoPanic.then (NoPanic.block (NoPanic.then hN)))))))))) 28 53 (undef) (by kernel_rfl) (fun _ => by kernel_rfl) hS63 ?_
       refine WD.pure (NoPanic.then (NoPanic.block (NoPanic.then (NoPanic.then (NoPanic.block (NoPanic.block (NoPanic.then (NoPanic.then (NoPanic.block (NoPanic.then hN)))))))))) 29 54 (undef) (by kernel_rfl) (fun _ => by kernel_rfl) hS63 ?_
       refine WD.pure (NoPanic.then (NoPanic.block (NoPanic.then (NoPanic.then (NoPanic.block (NoPanic.block (NoPanic.then (NoPanic.then (NoPanic.block (NoPanic.then hN)))))))))) 30 55 (undef) (by kernel_rfl) (fun _ => by kernel_rfl) hS63 ?_
       refine WD.pure (NoPanic.then (NoPanic.block (NoPanic.then (NoPanic.then (NoPanic.block (NoPanic.block (NoPanic.then (NoPanic.then (NoPanic.block (NoPanic.then hN)))))))))) 31 56 (undef) (by kernel_rfl) (fun _ => by kernel_rfl) hS63 ?_
       refine WD.pure (NoPanic.then (NoPanic.block (NoPanic.then (NoPanic.then (NoPanic.block (NoPanic.block (NoPanic.then (NoPanic.then (NoPanic.block (NoPanic.then hN)))))))))) 32 57 (undef) (by kernel_rfl) (fun _ => by kernel_rfl) hS63 ?_
       refine WD.pure (NoPanic.then (NoPanic.block (NoPanic.then (NoPanic.then (NoPanic.block (NoPanic.block (NoPanic.then (NoPanic.then (NoPanic.block (NoPanic.then hN)))))))))) 33 58 (undef) (by kernel_rfl) (fun _ => by kernel_rfl) hS63 ?_
       refine WD.pure (NoPanic.then (NoPanic.block (NoPanic.then (NoPanic.then (NoPanic.block (NoPanic.block (NoPanic.then (NoPanic.then (NoPanic.block (NoPanic.then hN)))))))))) 34 59 (undef) (by kernel_rfl) (fun _ => by kernel_rfl) hS63 ?_
       refine WD.pure (NoPanic.then (NoPanic.block (NoPanic.then (NoPanic.then (NoPanic.block (NoPanic.block (NoPanic.then (NoPanic.then (NoPanic.block (NoPanic.then hN)))))))))) 35 60 (undef) (by kernel_rfl) (fun _ => by kernel_rfl) hS63 ?_
       refine WD.pure (NoPanic.then (NoPanic.block (NoPanic.then (NoPanic.then (NoPanic.block (NoPanic.block (NoPanic.then (NoPanic.then (NoPanic.block (NoPanic.then hN)))))))))) 36 61 (.bool false) (by kernel_rfl) (fun _ => by kernel_rfl) hS63 ?_
       refine WD.done (by kernel_rfl) ?_
       refine QX.then_normal (hK59 _ _ ?_)
       refine WC.cond_false rfl ?_
       refine WC.skip ?_
       refine QX.block_normal ?_
       refine QX.then_normal (hK57 _ _ ?_)
       refine WC.region ?_
       refine WL.runs 2 [(24, .int .i64 (IntKind.i64.wrap ((j : Int) + 1))), (23, .int .i64 (j : Int))] (fun _ => by kernel_rfl) ?_
       refine WL.recast (show (.int .i64 (IntKind.i64.wrap ((j : Int) + 1)) : Value) = .int .i64 ((j : Int) + 1) from by rw [wrap_in_i64 ((j : Int) + 1) (by omega) (by omega)]) ?_
       refine WL.runs 1 [(4, .int .i64 ((j : Int) + 1))] (fun _ => by kernel_rfl) ?_
       refine WL.done rfl ?_
       refine QX.then_normal ?_
       have hC98 := hC62.pick [] [] rfl rfl
       refine fun a_ ha_ => hK46 _ _ _ ?_ ⟨j + 1, rfl, rfl, hC98, by omega, dupK_step hdup (vals_get he65) (vals_get he71) (fun e_ => by unfold idV at e_; simp only [Prod.mk.injEq] at e_; obtain ⟨q1_, q2_, q3_⟩ := e_; first | omega | simp_all)⟩ a_ (ha_.weaken (sub_of ⟨rfl, rfl, rfl, trivial⟩))
       omega
     ·
      have t76 : ¬ (e64.v.node = e70.v.node) := by simpa using t76b
      refine WD.pure (NoPanic.then (NoPanic.block (NoPanic.then (NoPanic.then (NoPanic.block (NoPanic.block (NoPanic.then (NoPanic.then (NoPanic.block (NoPanic.then hN)))))))))) 12 37 (undef) (by kernel_rfl) (fun _ => by kernel_rfl) hS63 ?_
      refine WD.pure (NoPanic.then (NoPanic.block (NoPanic.then (NoPanic.then (NoPanic.block (NoPanic.block (NoPanic.then (NoPanic.then (NoPanic.block (NoPanic.then hN)))))))))) 13 38 (undef) (by kernel_rfl) (fun _ => by kernel_rfl) hS63 ?_
      refine WD.pure (NoPanic.then (NoPanic.block (NoPanic.then (NoPanic.then (NoPanic.block (NoPanic.block (NoPanic.then (NoPanic.then (NoPanic.block (NoPanic.then hN)))))))))) 14 39 (undef) (by kernel_rfl) (fun _ => by kernel_rfl) hS63 ?_
      refine WD.pure (NoPanic.then (NoPanic.block (NoPanic.then (NoPanic.then (NoPanic.block (NoPanic.block (NoPanic.then (NoPanic.then (NoPanic.block (NoPanic.then hN)))))))))) 15 40 (undef) (by kernel_rfl) (fun _ => by kernel_rfl) hS63 ?_
      refine WD.pure (NoPanic.then (NoPanic.block (NoPanic.then (NoPanic.then (NoPanic.block (NoPanic.block (NoPanic.then (NoPanic.then (NoPanic.block (NoPanic.then hN)))))))))) 16 41 (undef) (by kernel_rfl) (fun _ => by kernel_rfl) hS63 ?_
      refine WD.pure (NoPanic.then (NoPanic.block (NoPanic.then (NoPanic.then (NoPanic.block (NoPanic.block (NoPanic.then (NoPanic.then (NoPanic.block (NoPanic.then hN)))))))))) 17 42 (undef) (by kernel_rfl) (fun _ => by kernel_rfl) hS63 ?_
      refine WD.pure (NoPanic.then (NoPanic.block (NoPanic.then (NoPanic.then (NoPanic.block (NoPanic.block (NoPanic.then (NoPanic.then (NoPanic.block (NoPanic.then hN)))))))))) 18 43 (undef) (by kernel_rfl) (fun _ => by kernel_rfl) hS63 ?_
      refine WD.pure (NoPanic.then (NoPanic.block (NoPanic.then (NoPanic.then (NoPanic.block (NoPanic.block (NoPanic.then (NoPanic.then (NoPanic.block (NoPanic.then hN)))))))))) 19 44 (undef) (by kernel_rfl) (fun _ => by kernel_rfl) hS63 ?_
      refine WD.pure (NoPanic.then (NoPanic.block (NoPanic.then (NoPanic.then (NoPanic.block (NoPanic.block (NoPanic.then (NoPanic.then (NoPanic.block (NoPanic.then hN)))))))))) 20 45 (undef) (by kernel_rfl) (fun _ => by kernel_rfl) hS63 ?_
      refine WD.pure (NoPanic.then (NoPanic.block (NoPanic.then (NoPanic.then (NoPanic.block (NoPanic.block (NoPanic.then (NoPanic.then (NoPanic.block (NoPanic.then hN)))))))))) 21 46 (undef) (by kernel_rfl) (fun _ => by kernel_rfl) hS63 ?_
      refine WD.pure (NoPanic.then (NoPanic.block (NoPanic.then (NoPanic.then (NoPanic.block (NoPanic.block (NoPanic.then (NoPanic.then (NoPanic.block (NoPanic.then hN)))))))))) 22 47 (undef) (by kernel_rfl) (fun _ => by kernel_rfl) hS63 ?_
      refine WD.pure (NoPanic.then (NoPanic.block (NoPanic.then (NoPanic.then (NoPanic.block (NoPanic.block (NoPanic.then (NoPanic.then (NoPanic.block (NoPanic.then hN)))))))))) 23 48 (.bool false) (by kernel_rfl) (fun _ => by kernel_rfl) hS63 ?_
      refine WD.pure (NoPanic.then (NoPanic.block (NoPanic.then (NoPanic.then (NoPanic.block (NoPanic.block (NoPanic.then (NoPanic.then (NoPanic.block (NoPanic.then hN)))))))))) 24 49 (.bool false) (by kernel_rfl) (fun _ => by kernel_rfl) hS63 ?_
      refine WD.pure (NoPanic.then (NoPanic.block (NoPanic.then (NoPanic.then (NoPanic.block (NoPanic.block (NoPanic.then (NoPanic.then (NoPanic.block (NoPanic.then hN)))))))))) 25 50 (undef) (by kernel_rfl) (fun _ => by kernel_rfl) hS63 ?_
      refine WD.pure (NoPanic.then (NoPanic.block (NoPanic.then (NoPanic.then (NoPanic.block (NoPanic.block (NoPanic.then (NoPanic.then (NoPanic.block (NoPanic.then hN)))))))))) 26 51 (undef) (by kernel_rfl) (fun _ => by kernel_rfl) hS63 ?_
      refine WD.pure (NoPanic.then (NoPanic.block (NoPanic.then (NoPanic.then (NoPanic.block (NoPanic.block (NoPanic.then (NoPanic.then (NoPanic.block (NoPanic.then hN)))))))))) 27 52 (undef) (by kernel_rfl) (fun _ => by kernel_rfl) hS63 ?_
      refine WD.pure (NoPanic.then (NoPanic.block (NoPanic.then (NoPanic.then (NoPanic.block (NoPanic.block (NoPanic.then (NoPanic.then (NoPanic.block (NoPanic.then hN)))))))))) 28 53 (undef) (by kernel_rfl) (fun _ => by kernel_rfl) hS63 ?_
      refine WD.pure (NoPanic.then (NoPanic.block (NoPanic.then (NoPanic.then (NoPanic.block (NoPanic.block (NoPanic.then (NoPanic.then (NoPanic.block (NoPanic.then hN)))))))))) 29 54 (undef) (by kernel_rfl) (fun _ => by kernel_rfl) hS63 ?_
      refine WD.pure (NoPanic.then (NoPanic.block (NoPanic.then (NoPanic.then (NoPanic.block (NoPanic.block (NoPanic.then (NoPanic.then (NoPanic.block (NoPanic.then hN)))))))))) 30 55 (undef) (by kernel_rfl) (fun _ => by kernel_rfl) hS63 ?_
      refine WD.pure (NoPanic.then (NoPanic.block (NoPanic.then (NoPanic.then (NoPanic.block (NoPanic.block (NoPanic.then (NoPanic.then (NoPanic.block (NoPanic.then hN)))))))))) 31 56 (undef) (by kernel_rfl) (fun _ => by kernel_rfl) hS63 ?_
      refine WD.pure (NoPanic.then (NoPanic.block (NoPanic.then (NoPanic.then (NoPanic.block (NoPanic.block (NoPanic.then (NoPanic.then (NoPanic.block (NoPanic.then hN)))))))))) 32 57 (undef) (by kernel_rfl) (fun _ => by kernel_rfl) hS63 ?_
      refine WD.pure (NoPanic.then (NoPanic.block (NoPanic.then (NoPanic.then (NoPanic.block (NoPanic.block (NoPanic.then (NoPanic.then (NoPanic.block (NoPanic.then hN)))))))))) 33 58 (undef) (by kernel_rfl) (fun _ => by kernel_rfl) hS63 ?_
      refine WD.pure (NoPanic.then (NoPanic.block (NoPanic.then (NoPanic.then (NoPanic.block (NoPanic.block (NoPanic.then (NoPanic.then (NoPanic.block (NoPanic.then hN)))))))))) 34 59 (undef) (by kernel_rfl) (fun _ => by kernel_rfl) hS63 ?_
      refine WD.pure (NoPanic.then (NoPanic.block (NoPanic.then (NoPanic.then (NoPanic.block (NoPanic.block (NoPanic.then (NoPanic.then (NoPanic.block (NoPanic.then hN)))))))))) 35 60 (undef) (by kernel_rfl) (fun _ => by kernel_rfl) hS63 ?_
      refine WD.pure (NoPanic.then (NoPanic.block (NoPanic.then (NoPanic.then (NoPanic.block (NoPanic.block (NoPanic.then (NoPanic.then (NoPanic.block (NoPanic.then hN)))))))))) 36 61 (.bool false) (by kernel_rfl) (fun _ => by kernel_rfl) hS63 ?_
      refine WD.done (by kernel_rfl) ?_
      refine QX.then_normal (hK59 _ _ ?_)
      refine WC.cond_false rfl ?_
      refine WC.skip ?_
      refine QX.block_normal ?_
      refine QX.then_normal (hK57 _ _ ?_)
      refine WC.region ?_
      refine WL.runs 2 [(24, .int .i64 (IntKind.i64.wrap ((j : Int) + 1))), (23, .int .i64 (j : Int))] (fun _ => by kernel_rfl) ?_
      refine WL.recast (show (.int .i64 (IntKind.i64.wrap ((j : Int) + 1)) : Value) = .int .i64 ((j : Int) + 1) from by rw [wrap_in_i64 ((j : Int) + 1) (by omega) (by omega)]) ?_
      refine WL.runs 1 [(4, .int .i64 ((j : Int) + 1))] (fun _ => by kernel_rfl) ?_
      refine WL.done rfl ?_
      refine QX.then_normal ?_
      have hC99 := hC62.pick [] [] rfl rfl
      refine fun a_ ha_ => hK46 _ _ _ ?_ ⟨j + 1, rfl, rfl, hC99, by omega, dupK_step hdup (vals_get he65) (vals_get he71) (fun e_ => by unfold idV at e_; simp only [Prod.mk.injEq] at e_; obtain ⟨q1_, q2_, q3_⟩ := e_; first | omega | simp_all)⟩ a_ (ha_.weaken (sub_of ⟨rfl, rfl, rfl, trivial⟩))
      omega
    ·
     have t55 : (i : Int) ≤ (j : Int) := by have q_ := of_decide_eq_false t55b; omega
     refine WC.cond_false rfl ?_
     refine WC.exit ?_
     refine QX.then_exit ?_
     refine QX.then_exit ?_
     refine QX.block_hit ?_
     refine QX.block_normal ?_
     refine QX.then_normal (hK26 _ _ ?_)
     refine WC.region ?_
     refine WL.runs 2 [(13, .int .i64 (IntKind.i64.wrap ((i : Int) + 1))), (12, .int .i64 (i : Int))] (fun _ => by kernel_rfl) ?_
     refine WL.recast (show (.int .i64 (IntKind.i64.wrap ((i : Int) + 1)) : Value) = .int .i64 ((i : Int) + 1) from by rw [wrap_in_i64 ((i : Int) + 1) (by omega) (by omega)]) ?_
     refine WL.runs 1 [(3, .int .i64 ((i : Int) + 1))] (fun _ => by kernel_rfl) ?_
     refine WL.done rfl ?_
     refine QX.then_normal ?_
     have hC100 := hC50.pick [] [] rfl rfl
     refine fun a_ ha_ => hK15 _ _ _ ?_ ⟨i + 1, rfl, rfl, hC100, by omega, all_snoc hall (vals_get he32) (by simpa using t40), nodup_step hnd (by have hj_ : j = i := (by omega); subst hj_; exact hdup) (vals_get he32)⟩ a_ (ha_.weaken (sub_of ⟨rfl, rfl, trivial⟩))
     omega
  ·
   have t24 : (L.length : Int) ≤ (i : Int) := by have q_ := of_decide_eq_false t24b; omega
   refine WC.cond_false rfl ?_
   refine WC.exit ?_
   refine QX.then_exit ?_
   refine QX.then_exit ?_
   refine QX.block_hit ?_
   refine QX.then_normal (hK11 _ _ ?_)
   refine WC.seq (fun K101 hK102 => ?_)
   refine WC.region ?_
   refine WL.runs 1 [(2, .bool true)] (fun _ => by kernel_rfl) ?_
   refine WL.done rfl ?_
   refine QX.then_normal (hK102 _ _ ?_)
   refine WC.ret ?_
   refine (hret _ _ _ rfl ?_).1
   clear hN hret hret' hK102 hK23 hK21 hK13 hK11 hK6 hK4 hK2
   have hie_ : i = L.length := by omega
   have hvl_ := vals_len L
   rw [List.take_of_length_le (by omega)] at hall hnd
   rw [goodL_yes (by omega) hall hnd]
   exact ⟨rfl, hC19.fr⟩

theorem RGoodLog_n (A : Option Addr) (n c : Nat) (L : List Cmd) (w : World) (hr : Rd w 12 cellsC A L) (hn : L.length = n) (hL : ∀ m ∈ L, cmdAt w m) : Calls Try.prog 55 #[.slice A n c] w fun e w' => e = .returned (.bool (goodL (vals L))) ∧ Fr w w' [] := by subst hn; exact RGoodLog_ct A c L w hr hL
theorem RWrite_ct (A : Option Addr) (c : Nat) (L : List Cmd) (w : World) (hr : Rd w 12 cellsC A L) (hL : ∀ m ∈ L, cmdAt w m) (hlim : totE L ≤ 4398046511104) : Calls Try.prog 28 #[.slice A L.length c] w fun e w' => ∃ v, e = .returned (.tuple #[v, .int .i64 (if goodL (vals L) then 0 else 9)]) ∧ Fr w w' [] ∧ w'.ownsRow w.heap.size 5 1 v (if goodL (vals L) then bytesL (vals L) else []).length ((if goodL (vals L) then bytesL (vals L) else []).flatMap (Go.Tw.encI .u8)) := by
 refine enterD (n := 9) Try.func28 rfl rfl (Nat.le_of_ble_eq_true rfl) ?_
 intro Q0 hN hret hret'
 have hC := Cx.start w
 refine WC.seq (fun K1 hK2 => ?_)
 refine WC.region ?_
 refine WL.runs 2 [(3, .int .i64 0), (2, .slice none 0 0)] (fun _ => by kernel_rfl) ?_
 refine WL.done rfl ?_
 refine QX.then_normal (hK2 _ _ ?_)
 refine WC.seq (fun K3 hK4 => ?_)
 refine WC.seq (fun K5 hK6 => ?_)
 refine WC.region ?_
 refine WL.runs 1 [(4, .slice A L.length c)] (fun _ => by kernel_rfl) ?_
 refine WL.call rfl rfl rfl rfl rfl (by kernel_rfl) (RGoodLog_n A L.length c L w (Rd.fr hr hC.fr) (by first | rfl | assumption | omega) (fun m_ h_ => cmdAt.fr0 (hL m_ h_) hC.fr)) ?_
 rintro _ w8 ⟨rfl, hF7⟩
 refine ⟨_, rfl, ?_⟩
 have hC9 := hC.call hF7
 refine WL.runs 1 [(6, .bool (!(goodL (vals L))))] (fun _ => by kernel_rfl) ?_
 refine WL.done rfl ?_
 refine QX.then_normal (hK6 _ _ ?_)
 refine WC.test_at 6 (!(goodL (vals L))) rfl (fun t10b => ?_) (fun t10b => ?_)
 ·
  have t10 : (goodL (vals L)) = false := by first | (simpa only [Bool.not_eq_true', Bool.not_eq_false'] using t10b) | simpa using t10b
  refine WC.cond_true rfl ?_
  refine WC.seq (fun K11 hK12 => ?_)
  refine WC.region ?_
  refine WL.runs 2 [(3, .int .i64 9), (2, .slice none 0 0)] (fun _ => by kernel_rfl) ?_
  refine WL.done rfl ?_
  refine QX.then_normal (hK12 _ _ ?_)
  refine WC.ret ?_
  refine QX.then_ret ?_
  refine (hret _ _ _ rfl ?_).1
  clear hN hret hret' hK12 hK6 hK4 hK2
  have hg_ : goodL (vals L) = false := (by simpa using t10b)
  rw [hg_]
  exact ⟨_, rfl, hC9.fr, own_nil _ _ _ _⟩
 ·
  have t10 : (goodL (vals L)) = true := by first | (simpa only [Bool.not_eq_true', Bool.not_eq_false'] using t10b) | simpa using t10b
  refine WC.cond_false rfl ?_
  refine WC.skip ?_
  refine QX.then_normal (hK4 _ _ ?_)
  refine WC.seq (fun K13 hK14 => ?_)
  refine WC.region ?_
  refine WL.runs 1 [(7, .slice A L.length c)] (fun _ => by kernel_rfl) ?_
  refine WL.call rfl rfl rfl rfl rfl (by kernel_rfl) (RBytes_n A L.length c L w8 (Rd.fr hr hC9.fr) (by first | rfl | assumption | omega) (fun m_ h_ => cmdAt.fr0 (hL m_ h_) hC9.fr) hlim) ?_
  rintro _ w17 ⟨v_, rfl, hF16, ho15⟩
  have hC18 := hC9.callN hF16 (own_ge ho15) (own_lt ho15)
  obtain ⟨A19, c20, rfl, hle21⟩ := own_form ho15
  have ho23 := own_base (b' := 0) ho15 (fun _ _ => Nat.zero_le _)
  refine ⟨_, rfl, ?_⟩
  refine WL.runs 2 [(3, .int .i64 0), (2, .slice A19 ((bytesL (vals L)).length) c20)] (fun _ => by kernel_rfl) ?_
  refine WL.done rfl ?_
  refine QX.then_normal (hK14 _ _ ?_)
  refine WC.ret ?_
  refine (hret _ _ _ rfl ?_).1
  clear hN hret hret' hK14 hK6 hK4 hK2
  have hg_ : goodL (vals L) = true := (by simpa using t10b)
  rw [hg_, if_pos rfl]
  exact ⟨_, rfl, hC18.fr, own_base ho23 (newF_of hC18 0 rfl (fun _ h_ => nomatch h_) (fun _ h_ => nomatch h_))⟩

theorem RWrite_n (A : Option Addr) (n c : Nat) (L : List Cmd) (w : World) (hr : Rd w 12 cellsC A L) (hn : L.length = n) (hL : ∀ m ∈ L, cmdAt w m) (hlim : totE L ≤ 4398046511104) : Calls Try.prog 28 #[.slice A n c] w fun e w' => ∃ v, e = .returned (.tuple #[v, .int .i64 (if goodL (vals L) then 0 else 9)]) ∧ Fr w w' [] ∧ w'.ownsRow w.heap.size 5 1 v (if goodL (vals L) then bytesL (vals L) else []).length ((if goodL (vals L) then bytesL (vals L) else []).flatMap (Go.Tw.encI .u8)) := by subst hn; exact RWrite_ct A c L w hr hL hlim
end Go.Proofs.Ytjacpjdikhlcoaa
