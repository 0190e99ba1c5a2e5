/- Contracts of functions of the program, each proved by a walk through its code; conditions stand in the statements. -/
import Derived.Test.YtfligklljkcbfaaGreatDoorStA16
namespace Go.Proofs.YtfligklljkcbfaaGreatDoor
set_option linter.unusedSimpArgs false
set_option linter.unusedVariables false
set_option linter.unusedSectionVars false
open Go Go.RowKit Go.Tw
set_option linter.unusedVariables false
set_option maxRecDepth 20000
def anyDip (e : EndV) (xs : List EndV) : Bool := xs.any fun d => d.dip == e.dip
theorem any_snocD {e : EndV} {xs : List EndV} {i : Nat} {d : EndV} (h : xs[i]? = some d) : anyDip e (xs.take (i + 1)) = (anyDip e (xs.take i) || (d.dip == e.dip)) := by
  obtain ⟨hi, rfl⟩ := List.getElem?_eq_some_iff.1 h
  unfold anyDip; rw [List.take_succ_eq_append_getElem hi, List.any_append]; simp
theorem any_subD {e : EndV} {xs : List EndV} {i : Nat} (h : anyDip e (xs.take i) = true) : anyDip e xs = true := by
  unfold anyDip at h ⊢
  rw [List.any_eq_true] at h ⊢
  obtain ⟨d, hd, he⟩ := h
  exact ⟨d, List.mem_of_mem_take hd, he⟩
theorem ends_step {ends : List EndV} {i : Nat} {e : EndV} (he : ends[i]? = some e) (hall : (ends.take i).all goodE1 = true) (hnd : ((ends.take i).map (·.dip)).Nodup) (h1 : goodE1 e = true) (h2 : anyDip e (ends.take i) = false) : (ends.take (i + 1)).all goodE1 = true ∧ ((ends.take (i + 1)).map (·.dip)).Nodup := by
  obtain ⟨hi, rfl⟩ := List.getElem?_eq_some_iff.1 he
  rw [List.take_succ_eq_append_getElem hi]
  refine ⟨by rw [List.all_append, hall]; simp [h1], ?_⟩
  rw [List.map_append, List.nodup_append]
  refine ⟨hnd, by simp, fun a ha b hb => ?_⟩
  simp only [List.map_cons, List.map_nil, List.mem_singleton] at hb
  subst hb
  obtain ⟨d, hd, rfl⟩ := List.mem_map.1 ha
  intro hx
  have : anyDip ends[i] (ends.take i) = true := by unfold anyDip; rw [List.any_eq_true]; exact ⟨d, hd, by simp [hx]⟩
  rw [h2] at this; cases this
theorem ends_bad1 {ends : List EndV} {i : Nat} {e : EndV} (he : ends[i]? = some e) (h1 : goodE1 e = false) : goodE ends = false := by
  unfold goodE
  have : ends.all goodE1 = false := by
    rw [Bool.eq_false_iff]; intro h; rw [List.all_eq_true] at h
    have := h e (List.mem_of_getElem? he); rw [h1] at this; cases this
  rw [this]; simp
theorem ends_bad2 {ends : List EndV} {i : Nat} {e : EndV} (he : ends[i]? = some e) (h2 : anyDip e (ends.take i) = true) : goodE ends = false := by
  unfold goodE
  have : ¬ (ends.map (·.dip)).Nodup := by
    intro hn
    unfold anyDip at h2
    rw [List.any_eq_true] at h2
    obtain ⟨d, hd, hx⟩ := h2
    obtain ⟨hi, rfl⟩ := List.getElem?_eq_some_iff.1 he
    obtain ⟨j, hj⟩ := List.getElem?_of_mem hd
    rw [List.getElem?_take] at hj
    split at hj
    · rename_i hlt
      have hdj := (List.getElem?_eq_some_iff.1 hj).2
      have hjl := (List.getElem?_eq_some_iff.1 hj).1
      have := (List.getElem_inj (i := j) (j := i) (h₀ := by rw [List.length_map]; omega) (h₁ := by rw [List.length_map]; omega) hn).1 (by
        simp only [List.getElem_map]; rw [hdj]; simpa using hx)
      omega
    · cases hj
  rw [decide_eq_false this]; simp
theorem ends_long {ends : List EndV} (h : 64 < ends.length) : goodE ends = false := by unfold goodE; rw [decide_eq_false (by omega)]; rfl
theorem ends_good {ends : List EndV} (h : ends.length ≤ 64) (hall : ends.all goodE1 = true) (hnd : (ends.map (·.dip)).Nodup) : goodE ends = true := by
  unfold goodE; rw [decide_eq_true h, hall, decide_eq_true hnd]; rfl
theorem goodE1_yes {e : EndV} (h : isHome e.dip = true) (h1 : 0 ≤ e.port) (h2 : e.port ≤ 65535) (h3 : 1 ≤ e.weight) (h4 : e.weight ≤ 16) : goodE1 e = true := by
  unfold goodE1; rw [h, decide_eq_true ⟨h1, h2, h3, h4⟩]; rfl
theorem goodE1_no {e : EndV} (h : e.port < 0 ∨ 65535 < e.port ∨ e.weight < 1 ∨ 16 < e.weight) : goodE1 e = false := by
  unfold goodE1; rw [decide_eq_false (by omega)]; simp
theorem goodE1_home {e : EndV} (h : isHome e.dip = false) : goodE1 e = false := by unfold goodE1; rw [h]; rfl
theorem like_last {a b : CmdV} (h1 : a.node = b.node) (h2 : a.boot = b.boot) (h3 : a.seq = b.seq) (h4 : a.time = b.time) (h5 : a.kind = b.kind) (h6 : a.dip = b.dip) (h7 : a.vip = b.vip) (h8 : a.up = b.up) (h9 : a.svip = b.svip) (h10 : a.sproto = b.sproto) (h11 : a.sport = b.sport) : decide (a.ends = b.ends) = decide (a = b) := by
  cases a; cases b
  simp only at h1 h2 h3 h4 h5 h6 h7 h8 h9 h10 h11
  subst h1 h2 h3 h4 h5 h6 h7 h8 h9 h10 h11
  simp
def saidM (m : Cmd) : Cmd :=
  if m.v.kind = 1 then ⟨⟨m.v.node, m.v.boot, m.v.seq, m.v.time, m.v.kind, m.v.svip, m.v.sproto, m.v.sport, m.v.ends, 0, 0, false⟩, m.a, m.c⟩
  else if m.v.kind = 2 then ⟨⟨m.v.node, m.v.boot, m.v.seq, m.v.time, m.v.kind, 0, 0, 0, [], m.v.dip, m.v.vip, m.v.up⟩, none, 0⟩
  else if m.v.kind = 3 then ⟨⟨m.v.node, m.v.boot, m.v.seq, m.v.time, m.v.kind, 0, 0, 0, [], m.v.dip, 0, m.v.up⟩, none, 0⟩
  else if m.v.kind = 4 then ⟨⟨m.v.node, m.v.boot, m.v.seq, m.v.time, m.v.kind, 0, 0, 0, [], m.v.dip, 0, false⟩, none, 0⟩
  else ⟨⟨m.v.node, m.v.boot, m.v.seq, m.v.time, m.v.kind, 0, 0, 0, [], 0, 0, false⟩, none, 0⟩
def saidB (v : CmdV) : Bool :=
  if v.kind = 1 then isVip v.svip && (decide (v.sproto = 6 ∨ v.sproto = 17) && (decide (1 ≤ v.sport ∧ v.sport ≤ 1023) && goodE v.ends))
  else if v.kind = 2 then isHome v.dip && (v.up && isVip v.vip || !v.up && decide (v.vip = 0))
  else if v.kind = 3 then isHome v.dip
  else if v.kind = 4 then isHome v.dip
  else false
theorem chk_eq (m : Cmd) (h1 : timB m.v.boot = true) (h2 : timB m.v.seq = true) (h3 : timB m.v.time = true) : goodC m.v = (saidB m.v && (mgrB m.v.node && decide (m.v = (saidM m).v))) := by
  obtain ⟨⟨node, boot, seq, time, kind, svip, sproto, sport, ends, dip, vip, up⟩, a, c⟩ := m
  simp only at h1 h2 h3
  unfold goodC saidB saidM goodK noneS
  simp only [h1, h2, h3, Bool.true_and]
  by_cases k1 : kind = 1
  · subst k1; simp only [if_true, CmdV.mk.injEq, true_and]
    cases mgrB node <;> cases isVip svip <;> cases decide (sproto = 6 ∨ sproto = 17) <;> cases decide (1 ≤ sport ∧ sport ≤ 1023) <;> cases goodE ends <;> simp
  · rw [if_neg k1, if_neg k1, if_neg k1]
    by_cases k2 : kind = 2
    · subst k2; simp only [if_true, CmdV.mk.injEq, true_and, and_true]
      generalize (up && isVip vip || !up && decide (vip = 0)) = B1
      cases mgrB node <;> cases isHome dip <;> cases B1 <;> simp
    · rw [if_neg k2, if_neg k2, if_neg k2]
      by_cases k3 : kind = 3
      · subst k3; simp only [if_true, CmdV.mk.injEq, true_and, and_true]
        cases mgrB node <;> cases isHome dip <;> simp [and_assoc]
        all_goals (by_cases q : vip = 0 <;> simp [q])
      · rw [if_neg k3, if_neg k3, if_neg k3]
        by_cases k4 : kind = 4
        · subst k4; simp only [if_true, CmdV.mk.injEq, true_and, and_true]
          cases mgrB node <;> cases isHome dip <;> cases up <;> simp [and_assoc]
          all_goals (by_cases q : vip = 0 <;> simp [q])
        · rw [if_neg k4, if_neg k4, if_neg k4]; simp
theorem times_el {a b c : Int} {k : Nat} {e : Int} (h : [a, b, c][k]? = some e) : (k = 0 ∧ e = a) ∨ (k = 1 ∧ e = b) ∨ (k = 2 ∧ e = c) := by
  match k, h with
  | 0, h => exact .inl ⟨rfl, by simpa using h.symm⟩
  | 1, h => exact .inr (.inl ⟨rfl, by simpa using h.symm⟩)
  | 2, h => exact .inr (.inr ⟨rfl, by simpa using h.symm⟩)
  | _ + 3, h => simp at h
theorem timB_yes {x : Int} (h : 0 ≤ x) (h1 : x ≤ 1099511627776) : timB x = true := decide_eq_true ⟨h, h1⟩
theorem timB_no {x : Int} (h : x < 0 ∨ 1099511627776 < x) : timB x = false := decide_eq_false (by omega)
theorem goodC_tim {v : CmdV} (h : timB v.boot = false ∨ timB v.seq = false ∨ timB v.time = false) : goodC v = false := by
  unfold goodC; rcases h with h | h | h <;> rw [h] <;> simp
/-! ### logs in form -/
abbrev Idm := List ((Int × Int × Int) × Int)
theorem endV_ext {a b : EndV} : a = b ↔ a.dip = b.dip ∧ a.port = b.port ∧ a.weight = b.weight := by
  cases a; cases b; simp
theorem endV_beq (a b : EndV) : (a.dip == b.dip && (a.port == b.port && (a.weight == b.weight && true))) = decide (a = b) := by
  rw [Bool.eq_iff_iff, decide_eq_true_eq, endV_ext]; simp
theorem eq_snocE {xs ys : List EndV} {i : Nat} {a b : EndV} (h : xs.take i = ys.take i) (ha : xs[i]? = some a) (hb : ys[i]? = some b) (he : (!(a.dip == b.dip && (a.port == b.port && (a.weight == b.weight && true)))) = false) : xs.take (i + 1) = ys.take (i + 1) := by
  rw [endV_beq] at he
  have e : a = b := by simpa using he
  subst e
  obtain ⟨hi, h1⟩ := List.getElem?_eq_some_iff.1 ha
  obtain ⟨hj, h2⟩ := List.getElem?_eq_some_iff.1 hb
  rw [List.take_succ_eq_append_getElem hi, List.take_succ_eq_append_getElem hj, h, h1, h2]
theorem eq_missE {xs ys : List EndV} {i : Nat} {a b : EndV} (ha : xs[i]? = some a) (hb : ys[i]? = some b) (he : (!(a.dip == b.dip && (a.port == b.port && (a.weight == b.weight && true)))) = true) : decide (xs = ys) = false := by
  rw [endV_beq] at he
  refine decide_eq_false fun e => ?_
  subst e
  rw [ha] at hb; cases hb; simp at he
theorem EqualE_ct (A B : Option Addr) (c d : Nat) (xs ys : List EndV) (w : World) (hA : Rd w 3 cellsE A xs) (hB : Rd w 3 cellsE B ys) (hlx : xs.length ≤ 1099511627776) : Calls Tryz.prog 38 #[.slice A xs.length c, .slice B ys.length d] w fun e w' => e = .returned (.bool (decide (xs = ys))) ∧ Fr w w' [] := by
 refine enterD (n := 26) Tryz.func38 rfl rfl (Nat.le_of_ble_eq_true rfl) ?_
 intro Q0 hN hret hret'
 have hC := Cx.start w
 refine WCs (fun K1 hK2 => WCg (WLq 1 [(4, .bool false)] (WLd rfl (QXn (hK2 _ _ (WCs (fun K3 hK4 => WCs (fun K5 hK6 => WCg (WLz 5 [(10, .bool ((xs.length : Int) != (ys.length : Int)))] (WLd rfl (QXn (hK6 _ _ ?_))))))))))))
 refine WCa 10 ((xs.length : Int) != (ys.length : Int)) rfl (fun t7b => ?_) (fun t7b => ?_)
 ·
  have t7 : (xs.length : Int) ≠ (ys.length : Int) := by simpa using t7b
  refine WCt rfl (WCs (fun K8 hK9 => WCg (WLq 1 [(4, .bool false)] (WLd rfl (QXn (hK9 _ _ (WC.ret (QXr ?_))))))))
  refine (hret _ _ _ rfl ?_).1
  exact ⟨congrArg (fun b_ => Ending.returned (Value.bool b_)) (decide_eq_false (fun e_ => by subst e_; omega)).symm, hC.fr⟩
 ·
  have t7 : (xs.length : Int) = (ys.length : Int) := by simpa using t7b
  refine WCf rfl (WC.skip (QXn (hK4 _ _ (WCs (fun aF af => WCs (fun aG ag => WCg (WLz 3 [(13, I6 0), (12, I6 (xs.length : Int))] (WLd rfl (QXn (ag _ _ (WC.block ?_)))))))))))
  refine WC.loop (fun m_ E_ w_ => ∃ (i : Nat), m_ = xs.length - i ∧ E_ = [(0, .slice A xs.length c), (1, .slice B ys.length d), (12, I6 (xs.length : Int)), (13, I6 (i : Int))] ∧ Cx w [] w_ [] [] ∧ (i ≤ xs.length ∧ xs.take i = ys.take i)) ⟨_, _, ⟨0, rfl, rfl, hC, Nat.zero_le _, rfl⟩, sub_of ⟨rfl, rfl, rfl, rfl, trivial⟩⟩ (fun m17 E_ aH aI au av => ?_)
  obtain ⟨i, rfl, rfl, am, hi, hpre⟩ := av
  refine WCs (fun aJ ah => WCg (WLq 1 [(14, .bool (decide ((i : Int) < (xs.length : Int))))] (WLd rfl (QXn (ah _ _ (WCs (fun aK ai => WCa 14 (decide ((i : Int) < (xs.length : Int))) rfl (fun aj => ?_) (fun aj => ?_))))))))
  ·
   have aC : (i : Int) < (xs.length : Int) := by have q_ := of_decide_eq_true aj; omega
   refine WCt rfl (WC.skip (QXn (ai _ _ (WCs (fun aL an => WC.block (WCs (fun aM ao => ?_)))))))
   refine WCg (WLz 2 [(5, I6 (i : Int))] (WLd rfl (QXn (ao _ _ (WCs (fun aN ap => WC.drawC am [] (by kernel_rfl) (fun aO aD ae ac => WDx 2 [(0, 16, .slice A xs.length c), (1, 17, I6 (i : Int))] ac ?_)))))))
   obtain ⟨aa, ak⟩ := get_some (xs := xs) (i := i) (by omega)
   obtain ⟨b37, o39, aw, ax⟩ := hA.at_ _ _ ak
   refine WDi (NPt (NPb (NPt (NPt (NPb (NPt hN)))))) 2 A xs.length c 18 .i64 (i : Int) b37 o39 i 3 (by kernel_rfl) (by kernel_rfl) aw (by omega) (by omega) (o39 + i * 3) (by first | (simp; done) | omega) ac (WDx 2 [(4, 20, .slice B ys.length d), (5, 21, I6 (i : Int))] ac ?_)
   obtain ⟨ab, al⟩ := get_some (xs := ys) (i := i) (by omega)
   obtain ⟨b43, o45, ay, az⟩ := hB.at_ _ _ al
   refine WDi (NPt (NPb (NPt (NPt (NPb (NPt hN)))))) 6 B ys.length d 22 .i64 (i : Int) b43 o45 i 3 (by kernel_rfl) (by kernel_rfl) ay (by omega) (by omega) (o45 + i * 3) (by first | (simp; done) | omega) ac (WDm 3 47 (P0 b37 (o39 + i * 3)) (.agg #[U4 aa.dip, I6 aa.port, I6 aa.weight]) 19 (fun _ hS_ => run_rdN (l := [U4 aa.dip, I6 aa.port, I6 aa.weight]) rfl rfl (fun j u hu => by have hq_ := Fr.cell hS_ (ae.fr.cell (ax j u hu) (by simp)) (by simp); simpa [Nat.add_assoc] using hq_)) ac (WDm 7 47 (P0 b43 (o45 + i * 3)) (.agg #[U4 ab.dip, I6 ab.port, I6 ab.weight]) 23 (fun _ hS_ => run_rdN (l := [U4 ab.dip, I6 ab.port, I6 ab.weight]) rfl rfl (fun j u hu => by have hq_ := Fr.cell hS_ (ae.fr.cell (az j u hu) (by simp)) (by simp); simpa [Nat.add_assoc] using hq_)) ac ?_))
   have aA : ∀ w_, Sem.run Tryz.prog (do eqGuard .neq 47 (Operand.tmp 19) (Operand.tmp 23) (.agg #[U4 aa.dip, I6 aa.port, I6 aa.weight]) (.agg #[U4 ab.dip, I6 ab.port, I6 ab.weight]); binOp .neq 47 (.agg #[U4 aa.dip, I6 aa.port, I6 aa.weight]) (.agg #[U4 ab.dip, I6 ab.port, I6 ab.weight])) w_ = .ok (.bool (!(aa.dip == ab.dip && (aa.port == ab.port && (aa.weight == ab.weight && true))))) w_ := fun w_ => (run_neq_S (by kernel_rfl))
   refine WD.semP (NPt (NPb (NPt (NPt (NPb (NPt hN)))))) 8 (do eqGuard .neq 47 (Operand.tmp 19) (Operand.tmp 23) (.agg #[U4 aa.dip, I6 aa.port, I6 aa.weight]) (.agg #[U4 ab.dip, I6 ab.port, I6 ab.weight]); binOp .neq 47 (.agg #[U4 aa.dip, I6 aa.port, I6 aa.weight]) (.agg #[U4 ab.dip, I6 ab.port, I6 ab.weight])) 24 (.bool (!(aa.dip == ab.dip && (aa.port == ab.port && (aa.weight == ab.weight && true))))) (by kernel_rfl) (by kernel_rfl) (fun _ _ => aA _) ac (WDd (QXn (ap _ _ (WCa 24 (!(aa.dip == ab.dip && (aa.port == ab.port && (aa.weight == ab.weight && true)))) rfl (fun ad => ?_) (fun ad => ?_)))))
   ·
    have aE : (aa.dip == ab.dip && (aa.port == ab.port && (aa.weight == ab.weight && true))) = false := by first | (simpa only [Bool.not_eq_true', Bool.not_eq_false'] using ad) | simpa using ad
    refine WCt rfl (WCs (fun aP aq => WCg (WLq 1 [(4, .bool false)] (WLd rfl (QXn (aq _ _ (WC.ret (QXk (QXr ?_)))))))))
    refine QXr (QXk (QXr ?_))
    refine (hret _ _ _ rfl ?_).1
    clear hN hret hret' aq ap ao an ai ah ag af hK6 hK4 hK2
    exact ⟨congrArg (fun b_ => Ending.returned (Value.bool b_)) (eq_missE ak al (by assumption)).symm, ae.fr⟩
   ·
    have aE : (aa.dip == ab.dip && (aa.port == ab.port && (aa.weight == ab.weight && true))) = true := by first | (simpa only [Bool.not_eq_true', Bool.not_eq_false'] using ad) | simpa using ad
    refine WCf rfl (WC.skip (QXb (QXn (an _ _ (WCg (WLq 1 [(25, I6 (IntKind.i64.wrap ((i : Int) + 1)))] (WLt (show (I6 (IntKind.i64.wrap ((i : Int) + 1)) : Value) = I6 ((i : Int) + 1) from by rw [wrap_in_i64 ((i : Int) + 1) (by omega) (by omega)]) (WLq 1 [(13, I6 ((i : Int) + 1))] ?_))))))))
    refine WLd rfl (QXn ?_)
    have aB := ae.pick [] [] rfl rfl
    refine fun a_ ha_ => au _ _ _ ?_ ⟨i + 1, rfl, rfl, aB, by omega, eq_snocE hpre ak al ad⟩ a_ (ha_.weaken (sub_of ⟨rfl, rfl, rfl, rfl, trivial⟩))
    omega
  ·
   have aC : (xs.length : Int) ≤ (i : Int) := by have q_ := of_decide_eq_false aj; omega
   refine WCf rfl (WC.exit (QXe (QXe (QX.block_hit (QXn (af _ _ ?_))))))
   refine WCs (fun aQ ar => WCg (WLq 1 [(4, .bool true)] (WLd rfl (QXn (ar _ _ (WC.ret ?_))))))
   refine (hret _ _ _ rfl ?_).1
   clear hN hret hret' ar ai ah ag af hK6 hK4 hK2
   have hie_ : i = xs.length := by omega
   rw [List.take_of_length_le (by omega), List.take_of_length_le (by omega)] at hpre
   exact ⟨congrArg (fun b_ => Ending.returned (Value.bool b_)) (decide_eq_true hpre).symm, am.fr⟩

theorem EqualE_n (A B : Option Addr) (n c n2 d : Nat) (xs ys : List EndV) (w : World) (hA : Rd w 3 cellsE A xs) (hB : Rd w 3 cellsE B ys) (h1 : xs.length = n) (h2 : ys.length = n2) (hlx : n ≤ 1099511627776) : Calls Tryz.prog 38 #[.slice A n c, .slice B n2 d] w fun e w' => e = .returned (.bool (decide (xs = ys))) ∧ Fr w w' [] := by subst h1 h2; exact EqualE_ct A B c d xs ys w hA hB hlx
theorem dipIs_ct (g : Nat) (e0 d : EndV) (w : World) (hg : w.heap[g]? = some (.cells #[U4 e0.dip, I6 e0.port, I6 e0.weight] 47 (0, 0))) : Calls Tryz.prog 141 #[.agg #[U4 d.dip, I6 d.port, I6 d.weight], P0 g 0] w fun e w' => e = .returned (.bool (d.dip == e0.dip)) ∧ Fr w w' [] := by
 refine enterD (n := 9) Tryz.func141 rfl rfl (Nat.le_of_ble_eq_true rfl) ?_
 intro Q0 hN hret hret'
 have hC := Cx.startMs w [(g, .cells #[U4 e0.dip, I6 e0.port, I6 e0.weight] 47)] (by simp) (by simp [hg])
 refine WCs (fun K1 hK2 => WCg (WLb hC (.cells #[U4 d.dip, I6 d.port, I6 d.weight] 47) 2 (fun g3 w4 hb7 hF5 hC6 => ?_)))
 have hf8 := (Fr.refl w []).trans hF5 (by simp)
 refine WLq 1 [(3, .bool false)] (WLd rfl (QXn (hK2 _ _ (WCs (fun K9 aa => WCg (WLq 1 [(4, P0 g3 0)] (WLo 40 (P0 g3 0) (U4 d.dip) 5 (run_ld (hC6.get 1 rfl) rfl) (WLq 1 [(6, P0 g 0)] (WLo 40 (P0 g 0) (U4 e0.dip) 7 (run_ld (hC6.get 0 rfl) rfl) ?_)))))))))
 refine WLz 2 [(3, .bool (d.dip == e0.dip))] (WLd rfl (QXn (aa _ _ (WC.ret ?_))))
 refine (hret _ _ _ rfl ?_).1
 exact ⟨rfl, hf8⟩

theorem IndexE_ct (g : Nat) (e0 : EndV) (A : Option Addr) (c : Nat) (xs : List EndV) (w : World) (hg : w.heap[g]? = some (.cells #[U4 e0.dip, I6 e0.port, I6 e0.weight] 47 (0, 0))) (hr : Rd w 3 cellsE A xs) (hl : xs.length ≤ 1099511627776) : Calls Tryz.prog 159 #[.slice A xs.length c, .func (.func 141) #[] #[P0 g 0]] w fun e w' => ∃ r : Int, e = .returned (I6 r) ∧ Fr w w' [] ∧ decide (0 ≤ r) = anyDip e0 xs ∧ -1 ≤ r := by
 refine enterD (n := 19) Tryz.func159 rfl rfl (Nat.le_of_ble_eq_true rfl) ?_
 intro Q0 hN hret hret'
 have hC := Cx.start w
 refine WCs (fun K1 hK2 => WCg (WLq 1 [(4, I6 0)] (WLd rfl (QXn (hK2 _ _ (WCs (fun K3 hK4 => WCs (fun K5 hK6 => WCg (WLz 3 [(8, I6 0), (7, I6 (xs.length : Int))] (WLd rfl (QXn (hK6 _ _ ?_))))))))))))
 refine WC.block (WC.loop (fun m_ E_ w_ => ∃ (i : Nat), m_ = xs.length - i ∧ E_ = [(0, .slice A xs.length c), (1, .func (.func 141) #[] #[P0 g 0]), (7, I6 (xs.length : Int)), (8, I6 (i : Int))] ∧ Cx w [] w_ [] [] ∧ (i ≤ xs.length ∧ anyDip e0 (xs.take i) = false)) ⟨_, _, ⟨0, rfl, rfl, hC, Nat.zero_le _, rfl⟩, sub_of ⟨rfl, rfl, rfl, rfl, trivial⟩⟩ (fun m10 E_ ar K7 hK8 hI9 => ?_))
 obtain ⟨i, rfl, rfl, aa, hi, hall⟩ := hI9
 refine WCs (fun av ac => WCg (WLq 1 [(9, .bool (decide ((i : Int) < (xs.length : Int))))] (WLd rfl (QXn (ac _ _ (WCs (fun aw ad => WCa 9 (decide ((i : Int) < (xs.length : Int))) rfl (fun ae => ?_) (fun ae => ?_))))))))
 ·
  have au : (i : Int) < (xs.length : Int) := by have q_ := of_decide_eq_true ae; omega
  refine WCt rfl (WC.skip (QXn (ad _ _ (WCs (fun ax ah => WC.block (WCs (fun ay ai => ?_)))))))
  refine WCg (WLz 2 [(5, I6 (i : Int))] (WLd rfl (QXn (ai _ _ (WCs (fun az aj => WCg (WLq 3 [(13, I6 (i : Int)), (12, .slice A xs.length c), (11, .func (.func 141) #[] #[P0 g 0])] ?_)))))))
  obtain ⟨ab, af⟩ := get_some (xs := xs) (i := i) (by omega)
  obtain ⟨b26, o28, an, ao⟩ := hr.at_ _ _ af
  refine WLi A xs.length c 14 .i64 (i : Int) b26 o28 i 3 (by kernel_rfl) an (by omega) (by omega) (o28 + i * 3) (by first | (simp; done) | omega) (WLo 47 (P0 b26 (o28 + i * 3)) (.agg #[U4 ab.dip, I6 ab.port, I6 ab.weight]) 15 (run_rdN (l := [U4 ab.dip, I6 ab.port, I6 ab.weight]) rfl rfl (fun j u hu => by have hq_ := aa.fr.cell (ao j u hu) (by simp); simpa [Nat.add_assoc] using hq_)) (WLk (dipIs_ct g e0 ab ar (aa.fr.has hg (by simp))) ?_))
  rintro _ aA ⟨rfl, ap⟩
  refine ⟨_, rfl, ?_⟩
  have ak := aa.call ap
  refine WLd rfl (QXn (aj _ _ (WCa 16 (ab.dip == e0.dip) rfl (fun ag => ?_) (fun ag => ?_))))
  ·
   refine WCt rfl (WCs (fun aB al => WCg (WLz 2 [(4, I6 (i : Int))] (WLd rfl (QXn (al _ _ (WC.ret (QXk ?_))))))))
   refine QXr (QXr (QXk (QXr ?_)))
   refine (hret _ _ _ rfl ?_).1
   clear hN hret hret' al aj ai ah ad ac hK6 hK4 hK2
   have hh_ := any_snocD (e := e0) af
   rw [ag, Bool.or_true] at hh_
   exact ⟨_, rfl, ak.fr, by rw [any_subD hh_]; exact decide_eq_true (by omega), by omega⟩
  ·
   refine WCf rfl (WC.skip (QXb (QXn (ah _ _ (WCg (WLq 1 [(18, I6 (IntKind.i64.wrap ((i : Int) + 1)))] (WLt (show (I6 (IntKind.i64.wrap ((i : Int) + 1)) : Value) = I6 ((i : Int) + 1) from by rw [wrap_in_i64 ((i : Int) + 1) (by omega) (by omega)]) (WLq 1 [(8, I6 ((i : Int) + 1))] ?_))))))))
   refine WLd rfl (QXn ?_)
   have aq := ak.pick [] [] rfl rfl
   refine fun a_ ha_ => hK8 _ _ _ ?_ ⟨i + 1, rfl, rfl, aq, by omega, by rw [any_snocD af, hall]; simpa using ag⟩ a_ (ha_.weaken (sub_of ⟨rfl, rfl, rfl, rfl, trivial⟩))
   omega
 ·
  have au : (xs.length : Int) ≤ (i : Int) := by have q_ := of_decide_eq_false ae; omega
  refine WCf rfl (WC.exit (QXe (QXe (QX.block_hit (QXn (hK4 _ _ ?_))))))
  refine WCs (fun aC am => WCg (WLq 1 [(4, I6 (-1))] (WLd rfl (QXn (am _ _ (WC.ret ?_))))))
  refine (hret _ _ _ rfl ?_).1
  clear hN hret hret' am ad ac hK6 hK4 hK2
  rw [List.take_of_length_le (by omega)] at hall
  exact ⟨-1, rfl, aa.fr, by rw [hall]; rfl, by omega⟩

theorem ContE_ct (g : Nat) (e0 : EndV) (A : Option Addr) (c : Nat) (xs : List EndV) (w : World) (hg : w.heap[g]? = some (.cells #[U4 e0.dip, I6 e0.port, I6 e0.weight] 47 (0, 0))) (hr : Rd w 3 cellsE A xs) (hl : xs.length ≤ 1099511627776) : Calls Tryz.prog 140 #[.slice A xs.length c, .func (.func 141) #[] #[P0 g 0]] w fun e w' => e = .returned (.bool (anyDip e0 xs)) ∧ Fr w w' [] := by
 refine enterD (n := 9) Tryz.func140 rfl rfl (Nat.le_of_ble_eq_true rfl) ?_
 intro Q0 hN hret hret'
 have hC := Cx.start w
 refine WCs (fun K1 hK2 => WCg (WLq 1 [(4, .bool false)] (WLd rfl (QXn (hK2 _ _ (WCs (fun K3 hK4 => WCg (WLq 2 [(6, .func (.func 141) #[] #[P0 g 0]), (5, .slice A xs.length c)] (WLk (IndexE_ct g e0 A c xs w (hC.fr.has hg (by simp)) (Rd.fr hr hC.fr) hl) ?_)))))))))
 rintro _ w6 ⟨r_, rfl, hF5, hr1_, hr2_⟩
 refine ⟨_, rfl, ?_⟩
 have hC7 := hC.call hF5
 refine WLz 2 [(4, .bool (decide (r_ ≥ 0)))] (WLd rfl (QXn (hK4 _ _ (WC.ret ?_))))
 refine (hret _ _ _ rfl ?_).1
 exact ⟨congrArg (fun b_ => Ending.returned (Value.bool b_)) (by rw [← hr1_]), hC7.fr⟩

theorem ContE_n (g : Nat) (e0 : EndV) (A : Option Addr) (n c : Nat) (xs : List EndV) (w : World) (hg : w.heap[g]? = some (.cells #[.int .u32 e0.dip, .int .i64 e0.port, .int .i64 e0.weight] 47 (0, 0))) (hr : Rd w 3 cellsE A xs) (hn : xs.length = n) (hl : n ≤ 1099511627776) : Calls Tryz.prog 140 #[.slice A n c, .func (.func 141) #[] #[.pointer (some ⟨g, 0, none⟩)]] w fun e w' => e = .returned (.bool (anyDip e0 xs)) ∧ Fr w w' [] := by subst hn; exact ContE_ct g e0 A c xs w hg hr hl
theorem ringCheck_ct (A : Option Addr) (c : Nat) (ends : List EndV) (w : World) (hr : Rd w 3 cellsE A ends) (hwf : ∀ e ∈ ends, wfE e) (hl : ends.length ≤ 1099511627776) (hlc : ends.length ≤ c) : Calls Tryz.prog 110 #[.slice A ends.length c] w fun e w' => e = .returned (errV 118 (if goodE ends then 0 else 9)) ∧ Fr w w' [] := by
 refine enterD (n := 59) Tryz.func110 rfl rfl (Nat.le_of_ble_eq_true rfl) ?_
 intro Q0 hN hret hret'
 have hC := Cx.start w
 refine WCs (fun K1 hK2 => WCg (WLq 1 [(2, .nilIface)] (WLd rfl (QXn (hK2 _ _ (WCs (fun K3 hK4 => WCs (fun K5 hK6 => WCg (WLz 3 [(11, .bool (decide ((ends.length : Int) > 64)))] (WLd rfl (QXn (hK6 _ _ ?_))))))))))))
 refine WCa 11 (decide ((ends.length : Int) > 64)) rfl (fun t7b => ?_) (fun t7b => ?_)
 ·
  have t7 : (64 : Int) < (ends.length : Int) := by have q_ := of_decide_eq_true t7b; omega
  refine WCt rfl (WCs (fun K8 hK9 => WCg (WLz 2 [(2, .iface 118 (I6 9))] (WLd rfl (QXn (hK9 _ _ (WC.ret (QXr ?_))))))))
  refine (hret _ _ _ rfl ?_).1
  clear hN hret hret' hK9 hK6 hK4 hK2
  rw [ends_long (by omega)]
  exact ⟨rfl, hC.fr⟩
 ·
  have t7 : (ends.length : Int) ≤ 64 := by have q_ := of_decide_eq_false t7b; omega
  refine WCf rfl (WC.skip (QXn (hK4 _ _ (WCs (fun a1 ae => WCs (fun a2 af => WCg (WLq 3 [(15, I6 0), (14, I6 (ends.length : Int)), (13, .slice A ends.length c)] (WLd rfl (QXn (af _ _ (WC.block (WC.loop (fun m_ E_ w_ => ∃ (i : Nat), m_ = ends.length - i ∧ E_ = [(0, .slice A ends.length c), (13, .slice A ends.length c), (14, I6 (ends.length : Int)), (15, I6 (i : Int))] ∧ Cx w [] w_ [] [] ∧ (i ≤ ends.length ∧ (ends.take i).all goodE1 = true ∧ ((ends.take i).map (·.dip)).Nodup)) ⟨_, _, ⟨0, rfl, rfl, hC, Nat.zero_le _, rfl, List.nodup_nil⟩, sub_of ⟨rfl, rfl, rfl, rfl, trivial⟩⟩ (fun m17 E_ a3 a4 aJ aK => ?_)))))))))))))
  obtain ⟨i, rfl, rfl, ap, hi, hall, hnd⟩ := aK
  refine WCs (fun a5 ag => WCg (WLq 1 [(16, .bool (decide ((i : Int) < (ends.length : Int))))] (WLd rfl (QXn (ag _ _ (WCs (fun a6 ah => WCa 16 (decide ((i : Int) < (ends.length : Int))) rfl (fun aq => ?_) (fun aq => ?_))))))))
  ·
   have aR : (i : Int) < (ends.length : Int) := by have q_ := of_decide_eq_true aq; omega
   refine WCt rfl (WC.skip (QXn (ah _ _ (WCs (fun a7 ai => WC.block (WCs (fun a8 aj => ?_)))))))
   refine WCg (WLq 1 [(17, I6 (i : Int))] ?_)
   obtain ⟨aa, ad⟩ := get_some (xs := ends) (i := i) (by omega)
   obtain ⟨b31, o33, aL, aM⟩ := hr.at_ _ _ ad
   have hwe_ := hwf _ (List.mem_of_getElem? ad)
   obtain ⟨hwd0_, hwd1_⟩ := hwe_.dip
   refine WLi A ends.length c 18 .i64 (i : Int) b31 o33 i 3 (by kernel_rfl) aL (by omega) (by omega) (o33 + i * 3) (by first | (simp; done) | omega) (WLo 47 (P0 b31 (o33 + i * 3)) (.agg #[U4 aa.dip, I6 aa.port, I6 aa.weight]) 19 (run_rdN (l := [U4 aa.dip, I6 aa.port, I6 aa.weight]) rfl rfl (fun j u hu => by have hq_ := ap.fr.cell (aM j u hu) (by simp); simpa [Nat.add_assoc] using hq_)) (WLb ap (.cells #[U4 0, I6 0, I6 0] 47) 4 (fun am a9 aS aT aN => WLq 1 [(3, I6 (i : Int))] (WLv (c' := #[U4 aa.dip, I6 aa.port, I6 aa.weight]) aN 0 47 am 0 (.agg #[U4 aa.dip, I6 aa.port, I6 aa.weight]) (fun aU aV ay => WLd rfl (QXn (aj _ _ ?_)))))))
   refine WCs (fun ba ak => WCg (WLq 1 [(21, P0 am 0)] (WLo 40 (P0 am 0) (U4 aa.dip) 22 (run_ld (ay.get 0 rfl) rfl) (WLk (Home_ct aa.dip aU (by omega) (by omega)) ?_))))
   rintro _ aW ⟨rfl, aO⟩
   refine ⟨_, rfl, ?_⟩
   have ar := ay.call aO
   refine WLz 7 [(7, .bool (isHome aa.dip))] (WLd rfl (QXn (ak _ _ (WCs (fun bb al => WCg (WLq 2 [(28, I6 (i : Int)), (27, .slice A ends.length c)] ?_))))))
   have az : i ≤ c := by omega
   refine WL.slc 41 47 3 A A ends.length c 0 i i c none (some (I6 (i : Int))) 29 (by kernel_rfl) (by kernel_rfl) bnd.no (bnd.yes (by omega)) (by omega) az (slcAt_pre _ _ _) (by first | rfl | omega) (by first | rfl | omega) ?_
   have aA := Rd.slc hr 0 i c az (slcAt_pre _ _ _)
   refine WLq 1 [(30, .func (.func 141) #[] #[P0 am 0])] (WLk (ContE_n am aa A i c ((ends.take i).drop 0) aW (ar.get 0 rfl) (Rd.fr aA ar.fr) (by simp only [List.length_drop, List.length_take]; omega) (by omega)) ?_)
   rintro _ bc ⟨rfl, aP⟩
   refine ⟨_, rfl, ?_⟩
   have ac := ar.call aP
   refine WLq 1 [(8, .bool (anyDip aa ((ends.take i).drop 0)))] (WLd rfl (QXn (al _ _ (WCs (fun bd ab => WCg (WLz 3 [(34, .bool (!(isHome aa.dip)))] (WLa 34 (!(isHome aa.dip)) rfl (fun an => ?_) (fun an => ?_))))))))
   ·
    have aI : (isHome aa.dip) = false := by first | (simpa only [Bool.not_eq_true', Bool.not_eq_false'] using an) | simpa using an
    refine WLz 22 [(56, .bool true)] (WLd rfl (QXn (ab _ _ (WCt rfl (WCs (fun be aB => WCg (WLz 2 [(2, .iface 118 (I6 9))] (WLd rfl (QXn (aB _ _ (WC.ret ?_)))))))))))
    refine QXk (QXr (QXr (QXk (QXr ?_))))
    refine (hret _ _ _ rfl ?_).1
    clear hN hret hret' aB ab al ak aj ai ah ag af ae hK6 hK4 hK2
    rw [ends_bad1 ad (goodE1_home aI)]
    exact ⟨rfl, ac.fr⟩
   ·
    have aI : (isHome aa.dip) = true := by first | (simpa only [Bool.not_eq_true', Bool.not_eq_false'] using an) | simpa using an
    refine WLz 3 [(37, .bool (anyDip aa ((ends.take i).drop 0)))] (WLa 37 (anyDip aa ((ends.take i).drop 0)) rfl (fun ao => ?_) (fun ao => ?_))
    ·
     refine WLz 19 [(56, .bool true)] (WLd rfl (QXn (ab _ _ (WCt rfl (WCs (fun bf aC => WCg (WLz 2 [(2, .iface 118 (I6 9))] (WLd rfl (QXn (aC _ _ (WC.ret ?_)))))))))))
     refine QXk (QXr (QXr (QXk (QXr ?_))))
     refine (hret _ _ _ rfl ?_).1
     clear hN hret hret' aC ab al ak aj ai ah ag af ae hK6 hK4 hK2
     rw [ends_bad2 ad (by simpa using ao)]
     exact ⟨rfl, ac.fr⟩
    ·
     refine WLq 1 [(38, P0 am 1)] (WLo 3 (P0 am 1) (I6 aa.port) 39 (run_ld (ac.get 0 rfl) rfl) (WLz 3 [(42, .bool (decide (aa.port < 0)))] (WLa 42 (decide (aa.port < 0)) rfl (fun au => ?_) (fun au => ?_))))
     ·
      have aX : aa.port < 0 := by have q_ := of_decide_eq_true au; omega
      refine WLz 14 [(56, .bool true)] (WLd rfl (QXn (ab _ _ (WCt rfl (WCs (fun bg aD => WCg (WLz 2 [(2, .iface 118 (I6 9))] (WLd rfl (QXn (aD _ _ (WC.ret ?_)))))))))))
      refine QXk (QXr (QXr (QXk (QXr ?_))))
      refine (hret _ _ _ rfl ?_).1
      clear hN hret hret' aD ab al ak aj ai ah ag af ae hK6 hK4 hK2
      rw [ends_bad1 ad (goodE1_no (by omega))]
      exact ⟨rfl, ac.fr⟩
     ·
      have aX : (0 : Int) ≤ aa.port := by have q_ := of_decide_eq_false au; omega
      refine WLq 1 [(43, P0 am 1)] (WLo 3 (P0 am 1) (I6 aa.port) 44 (run_ld (ac.get 0 rfl) rfl) (WLz 3 [(47, .bool (decide (aa.port > 65535)))] (WLa 47 (decide (aa.port > 65535)) rfl (fun av => ?_) (fun av => ?_))))
      ·
       have aY : (65535 : Int) < aa.port := by have q_ := of_decide_eq_true av; omega
       refine WLz 9 [(56, .bool true)] (WLd rfl (QXn (ab _ _ (WCt rfl (WCs (fun bh aE => WCg (WLz 2 [(2, .iface 118 (I6 9))] (WLd rfl (QXn (aE _ _ (WC.ret ?_)))))))))))
       refine QXk (QXr (QXr (QXk (QXr ?_))))
       refine (hret _ _ _ rfl ?_).1
       clear hN hret hret' aE ab al ak aj ai ah ag af ae hK6 hK4 hK2
       rw [ends_bad1 ad (goodE1_no (by omega))]
       exact ⟨rfl, ac.fr⟩
      ·
       have aY : aa.port ≤ 65535 := by have q_ := of_decide_eq_false av; omega
       refine WLq 1 [(48, P0 am 2)] (WLo 3 (P0 am 2) (I6 aa.weight) 49 (run_ld (ac.get 0 rfl) rfl) (WLz 3 [(52, .bool (decide (aa.weight < 1)))] (WLa 52 (decide (aa.weight < 1)) rfl (fun aw => ?_) (fun aw => ?_))))
       ·
        have aZ : aa.weight < 1 := by have q_ := of_decide_eq_true aw; omega
        refine WLz 4 [(56, .bool true)] (WLd rfl (QXn (ab _ _ (WCt rfl (WCs (fun bi aF => WCg (WLz 2 [(2, .iface 118 (I6 9))] (WLd rfl (QXn (aF _ _ (WC.ret ?_)))))))))))
        refine QXk (QXr (QXr (QXk (QXr ?_))))
        refine (hret _ _ _ rfl ?_).1
        clear hN hret hret' aF ab al ak aj ai ah ag af ae hK6 hK4 hK2
        rw [ends_bad1 ad (goodE1_no (by omega))]
        exact ⟨rfl, ac.fr⟩
       ·
        have aZ : (1 : Int) ≤ aa.weight := by have q_ := of_decide_eq_false aw; omega
        refine WLq 1 [(53, P0 am 2)] (WLo 3 (P0 am 2) (I6 aa.weight) 54 (run_ld (ac.get 0 rfl) rfl) (WLz 2 [(56, .bool (decide (aa.weight > 16)))] (WLd rfl (QXn (ab _ _ (WCa 56 (decide (aa.weight > 16)) rfl (fun ax => ?_) (fun ax => ?_)))))))
        ·
         have a0 : (16 : Int) < aa.weight := by have q_ := of_decide_eq_true ax; omega
         refine WCt rfl (WCs (fun bj aG => WCg (WLz 2 [(2, .iface 118 (I6 9))] (WLd rfl (QXn (aG _ _ (WC.ret (QXk ?_))))))))
         refine QXr (QXr (QXk (QXr ?_)))
         refine (hret _ _ _ rfl ?_).1
         clear hN hret hret' aG ab al ak aj ai ah ag af ae hK6 hK4 hK2
         rw [ends_bad1 ad (goodE1_no (by omega))]
         exact ⟨rfl, ac.fr⟩
        ·
         have a0 : aa.weight ≤ 16 := by have q_ := of_decide_eq_false ax; omega
         refine WCf rfl (WC.skip (QXb (QXn (ai _ _ (WCg (WLq 1 [(58, I6 (IntKind.i64.wrap ((i : Int) + 1)))] (WLt (show (I6 (IntKind.i64.wrap ((i : Int) + 1)) : Value) = I6 ((i : Int) + 1) from by rw [wrap_in_i64 ((i : Int) + 1) (by omega) (by omega)]) (WLq 1 [(15, I6 ((i : Int) + 1))] ?_))))))))
         refine WLd rfl (QXn ?_)
         have aQ := ac.pick [] [] rfl rfl
         refine fun a_ ha_ => aJ _ _ _ ?_ ⟨i + 1, rfl, rfl, aQ, by omega, (ends_step ad hall hnd (goodE1_yes aI (by omega) (by omega) (by omega) (by omega)) (by simpa using ao)).1, (ends_step ad hall hnd (goodE1_yes aI (by omega) (by omega) (by omega) (by omega)) (by simpa using ao)).2⟩ a_ (ha_.weaken (sub_of ⟨rfl, rfl, rfl, rfl, trivial⟩))
         omega
  ·
   have aR : (ends.length : Int) ≤ (i : Int) := by have q_ := of_decide_eq_false aq; omega
   refine WCf rfl (WC.exit (QXe (QXe (QX.block_hit (QXn (ae _ _ ?_))))))
   refine WCs (fun bk aH => WCg (WLq 1 [(2, .nilIface)] (WLd rfl (QXn (aH _ _ (WC.ret ?_))))))
   refine (hret _ _ _ rfl ?_).1
   clear hN hret hret' aH ah ag af ae hK6 hK4 hK2
   have hie_ : i = ends.length := by omega
   rw [List.take_of_length_le (by omega)] at hall hnd
   rw [ends_good (by omega) hall hnd]
   exact ⟨rfl, ap.fr⟩

set_option maxHeartbeats 1000000 in
theorem like_ct (a b : Cmd) (w : World) (ha : cmdAt w a) (hb : cmdAt w b) : Calls Tryz.prog 77 #[.agg #[I6 a.v.node, I6 a.v.boot, I6 a.v.seq, I6 a.v.time, I6 a.v.kind, U4 a.v.svip, I6 a.v.sproto, I6 a.v.sport, .slice a.a a.v.ends.length a.c, U4 a.v.dip, U4 a.v.vip, .bool a.v.up], .agg #[I6 b.v.node, I6 b.v.boot, I6 b.v.seq, I6 b.v.time, I6 b.v.kind, U4 b.v.svip, I6 b.v.sproto, I6 b.v.sport, .slice b.a b.v.ends.length b.c, U4 b.v.dip, U4 b.v.vip, .bool b.v.up]] w fun e w' => e = .returned (.bool (decide (a.v = b.v))) ∧ Fr w w' [] := by
 refine enterD (n := 93) Tryz.func77 rfl rfl (Nat.le_of_ble_eq_true rfl) ?_
 intro Q0 hN hret hret'
 have hC := Cx.start w
 refine WCs (fun K1 hK2 => WCg (WLb hC (.cells #[I6 a.v.node, I6 a.v.boot, I6 a.v.seq, I6 a.v.time, I6 a.v.kind, U4 a.v.svip, I6 a.v.sproto, I6 a.v.sport, .slice a.a a.v.ends.length a.c, U4 a.v.dip, U4 a.v.vip, .bool a.v.up] 45) 2 (fun g3 w4 hb7 hF5 hC6 => WLb hC6 (.cells #[I6 b.v.node, I6 b.v.boot, I6 b.v.seq, I6 b.v.time, I6 b.v.kind, U4 b.v.svip, I6 b.v.sproto, I6 b.v.sport, .slice b.a b.v.ends.length b.c, U4 b.v.dip, U4 b.v.vip, .bool b.v.up] 45) 3 (fun g8 w9 bm bn aV => WLq 1 [(4, .bool false)] (WLd rfl (QXn (hK2 _ _ (WCs (fun bR aM => ?_)))))))))
 refine WC.drawC aV [] (by kernel_rfl) (fun bS bo aF ae => WDx 2 [(0, 7, P0 g3 5), (2, 9, P0 g8 5)] ae (WDm 1 43 (P0 g3 5) (.agg #[U4 a.v.svip, I6 a.v.sproto, I6 a.v.sport, .slice a.a a.v.ends.length a.c]) 8 (fun _ hS_ => run_ld (Fr.has hS_ (aF.get 0 rfl) (by simp)) rfl) ae (WDm 3 43 (P0 g8 5) (.agg #[U4 b.v.svip, I6 b.v.sproto, I6 b.v.sport, .slice b.a b.v.ends.length b.c]) 10 (fun _ hS_ => run_ld (Fr.has hS_ (aF.get 1 rfl) (by simp)) rfl) ae (WD.all2 4 5 (by kernel_rfl) ?_ ?_))))
 ·
  refine WO.new 4 (fun b => P0 b 0) (.cells #[U4 0, I6 0, I6 0, .slice none 0 0] 43) (by kernel_rfl) rfl rfl rfl rfl rfl (fun _ => by kernel_rfl) (fun aB bT aW bp aN aX => ?_)
  have aY := aF.callB aN aW aX
  have aO := ae.trans aN (by simp)
  refine ⟨aO, ?_⟩
  refine WD.new 5 (fun b => P0 b 0) (.cells #[U4 0, I6 0, I6 0, .slice none 0 0] 43) (by kernel_rfl) rfl rfl rfl rfl rfl (fun _ => by kernel_rfl) (fun aC bU aZ bq aP a0 => ?_)
  have a1 := aY.callB aP aZ a0
  have aG := aO.trans aP (by simp)
  refine ⟨aG, ?_⟩
  obtain ⟨bV, a2, a3, a4⟩ := sto_run (c' := #[U4 a.v.svip, I6 a.v.sproto, I6 a.v.sport, .slice a.a a.v.ends.length a.c]) Tryz.prog a1 2 43 aB 0 (.agg #[U4 a.v.svip, I6 a.v.sproto, I6 a.v.sport, .slice a.a a.v.ends.length a.c]) rfl (by kernel_rfl)
  have aH := aG.trans a3 (by first | (simp; done) | (simp [*]; done) | (have q_ := aG.size; simp; omega))
  refine WDu 6 a2 aH ?_
  obtain ⟨br, a5, a6, aa⟩ := sto_run (c' := #[U4 b.v.svip, I6 b.v.sproto, I6 b.v.sport, .slice b.a b.v.ends.length b.c]) Tryz.prog a4 3 43 aC 0 (.agg #[U4 b.v.svip, I6 b.v.sproto, I6 b.v.sport, .slice b.a b.v.ends.length b.c]) rfl (by kernel_rfl)
  have a7 := aH.trans a6 (by first | (simp; done) | (simp [*]; done) | (have q_ := aH.size; simp; omega))
  refine WDu 7 a5 a7 (WDd (QXn (aM _ _ (WCs (fun bW ac => WCg (WLq 1 [(11, P0 g3 0)] (WLo 3 (P0 g3 0) (I6 a.v.node) 12 (run_ld (aa.get 0 rfl) rfl) ?_)))))))
  refine WLq 1 [(13, P0 g8 0)] (WLo 3 (P0 g8 0) (I6 b.v.node) 14 (run_ld (aa.get 1 rfl) rfl) (WLz 2 [(16, .bool (a.v.node == b.v.node))] (WLa 16 (a.v.node == b.v.node) rfl (fun af => ?_) (fun af => ?_))))
  ·
   have bs : a.v.node = b.v.node := by simpa using af
   refine WLq 1 [(17, P0 g3 1)] (WLo 3 (P0 g3 1) (I6 a.v.boot) 18 (run_ld (aa.get 0 rfl) rfl) (WLq 1 [(19, P0 g8 1)] (WLo 3 (P0 g8 1) (I6 b.v.boot) 20 (run_ld (aa.get 1 rfl) rfl) (WLz 3 [(23, .bool (a.v.boot == b.v.boot))] (WLa 23 (a.v.boot == b.v.boot) rfl (fun ag => ?_) (fun ag => ?_))))))
   ·
    have bt : a.v.boot = b.v.boot := by simpa using ag
    refine WLq 1 [(24, P0 g3 2)] (WLo 3 (P0 g3 2) (I6 a.v.seq) 25 (run_ld (aa.get 0 rfl) rfl) (WLq 1 [(26, P0 g8 2)] (WLo 3 (P0 g8 2) (I6 b.v.seq) 27 (run_ld (aa.get 1 rfl) rfl) (WLz 3 [(30, .bool (a.v.seq == b.v.seq))] (WLa 30 (a.v.seq == b.v.seq) rfl (fun ah => ?_) (fun ah => ?_))))))
    ·
     have bu : a.v.seq = b.v.seq := by simpa using ah
     refine WLq 1 [(31, P0 g3 3)] (WLo 3 (P0 g3 3) (I6 a.v.time) 32 (run_ld (aa.get 0 rfl) rfl) (WLq 1 [(33, P0 g8 3)] (WLo 3 (P0 g8 3) (I6 b.v.time) 34 (run_ld (aa.get 1 rfl) rfl) (WLz 3 [(37, .bool (a.v.time == b.v.time))] (WLa 37 (a.v.time == b.v.time) rfl (fun ai => ?_) (fun ai => ?_))))))
     ·
      have bv : a.v.time = b.v.time := by simpa using ai
      refine WLq 1 [(38, P0 g3 4)] (WLo 3 (P0 g3 4) (I6 a.v.kind) 39 (run_ld (aa.get 0 rfl) rfl) (WLq 1 [(40, P0 g8 4)] (WLo 3 (P0 g8 4) (I6 b.v.kind) 41 (run_ld (aa.get 1 rfl) rfl) (WLz 3 [(44, .bool (a.v.kind == b.v.kind))] (WLa 44 (a.v.kind == b.v.kind) rfl (fun aj => ?_) (fun aj => ?_))))))
      ·
       have bw : a.v.kind = b.v.kind := by simpa using aj
       refine WLq 1 [(45, P0 g3 9)] (WLo 40 (P0 g3 9) (U4 a.v.dip) 46 (run_ld (aa.get 0 rfl) rfl) (WLq 1 [(47, P0 g8 9)] (WLo 40 (P0 g8 9) (U4 b.v.dip) 48 (run_ld (aa.get 1 rfl) rfl) (WLz 3 [(51, .bool (a.v.dip == b.v.dip))] (WLa 51 (a.v.dip == b.v.dip) rfl (fun ak => ?_) (fun ak => ?_))))))
       ·
        have bx : a.v.dip = b.v.dip := by simpa using ak
        refine WLq 1 [(52, P0 g3 10)] (WLo 40 (P0 g3 10) (U4 a.v.vip) 53 (run_ld (aa.get 0 rfl) rfl) (WLq 1 [(54, P0 g8 10)] (WLo 40 (P0 g8 10) (U4 b.v.vip) 55 (run_ld (aa.get 1 rfl) rfl) (WLz 3 [(58, .bool (a.v.vip == b.v.vip))] (WLa 58 (a.v.vip == b.v.vip) rfl (fun al => ?_) (fun al => ?_))))))
        ·
         have bz : a.v.vip = b.v.vip := by simpa using al
         refine WLq 1 [(59, P0 g3 11)] (WLo 4 (P0 g3 11) (.bool a.v.up) 60 (run_ld (aa.get 0 rfl) rfl) (WLq 1 [(61, P0 g8 11)] (WLo 4 (P0 g8 11) (.bool b.v.up) 62 (run_ld (aa.get 1 rfl) rfl) (WLz 3 [(65, .bool (a.v.up == b.v.up))] (WLa 65 (a.v.up == b.v.up) rfl (fun aI => ?_) (fun aI => ?_))))))
         ·
          refine WLq 1 [(66, P0 aB 0)] (WLo 40 (P0 aB 0) (U4 a.v.svip) 67 (run_ld (aa.get 2 rfl) rfl) (WLq 1 [(68, P0 aC 0)] (WLo 40 (P0 aC 0) (U4 b.v.svip) 69 (run_ld (aa.get 3 rfl) rfl) (WLz 3 [(72, .bool (a.v.svip == b.v.svip))] (WLa 72 (a.v.svip == b.v.svip) rfl (fun am => ?_) (fun am => ?_))))))
          ·
           have bA : a.v.svip = b.v.svip := by simpa using am
           refine WLq 1 [(73, P0 aB 1)] (WLo 3 (P0 aB 1) (I6 a.v.sproto) 74 (run_ld (aa.get 2 rfl) rfl) (WLq 1 [(75, P0 aC 1)] (WLo 3 (P0 aC 1) (I6 b.v.sproto) 76 (run_ld (aa.get 3 rfl) rfl) (WLz 3 [(79, .bool (a.v.sproto == b.v.sproto))] (WLa 79 (a.v.sproto == b.v.sproto) rfl (fun an => ?_) (fun an => ?_))))))
           ·
            have bB : a.v.sproto = b.v.sproto := by simpa using an
            refine WLq 1 [(80, P0 aB 2)] (WLo 3 (P0 aB 2) (I6 a.v.sport) 81 (run_ld (aa.get 2 rfl) rfl) (WLq 1 [(82, P0 aC 2)] (WLo 3 (P0 aC 2) (I6 b.v.sport) 83 (run_ld (aa.get 3 rfl) rfl) (WLz 3 [(86, .bool (a.v.sport == b.v.sport))] (WLa 86 (a.v.sport == b.v.sport) rfl (fun ao => ?_) (fun ao => ?_))))))
            ·
             have bC : a.v.sport = b.v.sport := by simpa using ao
             refine WLq 1 [(87, P0 aB 3)] (WLo 41 (P0 aB 3) (.slice a.a a.v.ends.length a.c) 88 (run_ld (aa.get 2 rfl) rfl) (WLq 1 [(89, P0 aC 3)] (WLo 41 (P0 aC 3) (.slice b.a b.v.ends.length b.c) 90 (run_ld (aa.get 3 rfl) rfl) (WLk (EqualE_n a.a b.a a.v.ends.length a.c b.v.ends.length b.c a.v.ends b.v.ends br (Rd.fr ha.rd aa.fr) (Rd.fr hb.rd aa.fr) rfl rfl ha.lim) ?_))))
             rintro _ bX ⟨rfl, a8⟩
             refine ⟨_, rfl, ?_⟩
             have a9 := aa.call a8
             refine WLz 2 [(4, .bool (decide (a.v.ends = b.v.ends)))] (WLd rfl (QXn (ac _ _ (WC.ret ?_))))
             refine (hret _ _ _ rfl ?_).1
             exact ⟨congrArg (fun b_ => Ending.returned (Value.bool b_)) (like_last (by simpa using af) (by simpa using ag) (by simpa using ah) (by simpa using ai) (by simpa using aj) (by simpa using ak) (by simpa using al) (by simpa using aI) (by simpa using am) (by simpa using an) (by simpa using ao)), a9.fr⟩
            ·
             have bC : ¬ (a.v.sport = b.v.sport) := by simpa using ao
             refine WLz 7 [(4, .bool false)] (WLd rfl (QXn (ac _ _ (WC.ret ?_))))
             refine (hret _ _ _ rfl ?_).1
             exact ⟨congrArg (fun b_ => Ending.returned (Value.bool b_)) (decide_eq_false (fun e_ => absurd (congrArg CmdV.sport e_) (by simpa using ao))).symm, aa.fr⟩
           ·
            have bB : ¬ (a.v.sproto = b.v.sproto) := by simpa using an
            refine WLz 14 [(4, .bool false)] (WLd rfl (QXn (ac _ _ (WC.ret ?_))))
            refine (hret _ _ _ rfl ?_).1
            exact ⟨congrArg (fun b_ => Ending.returned (Value.bool b_)) (decide_eq_false (fun e_ => absurd (congrArg CmdV.sproto e_) (by simpa using an))).symm, aa.fr⟩
          ·
           have bA : ¬ (a.v.svip = b.v.svip) := by simpa using am
           refine WLz 21 [(4, .bool false)] (WLd rfl (QXn (ac _ _ (WC.ret ?_))))
           refine (hret _ _ _ rfl ?_).1
           exact ⟨congrArg (fun b_ => Ending.returned (Value.bool b_)) (decide_eq_false (fun e_ => absurd (congrArg CmdV.svip e_) (by simpa using am))).symm, aa.fr⟩
         ·
          refine WLz 28 [(4, .bool false)] (WLd rfl (QXn (ac _ _ (WC.ret ?_))))
          refine (hret _ _ _ rfl ?_).1
          exact ⟨congrArg (fun b_ => Ending.returned (Value.bool b_)) (decide_eq_false (fun e_ => absurd (congrArg CmdV.up e_) (by simpa using aI))).symm, aa.fr⟩
        ·
         have bz : ¬ (a.v.vip = b.v.vip) := by simpa using al
         refine WLz 35 [(4, .bool false)] (WLd rfl (QXn (ac _ _ (WC.ret ?_))))
         refine (hret _ _ _ rfl ?_).1
         exact ⟨congrArg (fun b_ => Ending.returned (Value.bool b_)) (decide_eq_false (fun e_ => absurd (congrArg CmdV.vip e_) (by simpa using al))).symm, aa.fr⟩
       ·
        have bx : ¬ (a.v.dip = b.v.dip) := by simpa using ak
        refine WLz 42 [(4, .bool false)] (WLd rfl (QXn (ac _ _ (WC.ret ?_))))
        refine (hret _ _ _ rfl ?_).1
        exact ⟨congrArg (fun b_ => Ending.returned (Value.bool b_)) (decide_eq_false (fun e_ => absurd (congrArg CmdV.dip e_) (by simpa using ak))).symm, aa.fr⟩
      ·
       have bw : ¬ (a.v.kind = b.v.kind) := by simpa using aj
       refine WLz 49 [(4, .bool false)] (WLd rfl (QXn (ac _ _ (WC.ret ?_))))
       refine (hret _ _ _ rfl ?_).1
       exact ⟨congrArg (fun b_ => Ending.returned (Value.bool b_)) (decide_eq_false (fun e_ => absurd (congrArg CmdV.kind e_) (by simpa using aj))).symm, aa.fr⟩
     ·
      have bv : ¬ (a.v.time = b.v.time) := by simpa using ai
      refine WLz 56 [(4, .bool false)] (WLd rfl (QXn (ac _ _ (WC.ret ?_))))
      refine (hret _ _ _ rfl ?_).1
      exact ⟨congrArg (fun b_ => Ending.returned (Value.bool b_)) (decide_eq_false (fun e_ => absurd (congrArg CmdV.time e_) (by simpa using ai))).symm, aa.fr⟩
    ·
     have bu : ¬ (a.v.seq = b.v.seq) := by simpa using ah
     refine WLz 63 [(4, .bool false)] (WLd rfl (QXn (ac _ _ (WC.ret ?_))))
     refine (hret _ _ _ rfl ?_).1
     exact ⟨congrArg (fun b_ => Ending.returned (Value.bool b_)) (decide_eq_false (fun e_ => absurd (congrArg CmdV.seq e_) (by simpa using ah))).symm, aa.fr⟩
   ·
    have bt : ¬ (a.v.boot = b.v.boot) := by simpa using ag
    refine WLz 70 [(4, .bool false)] (WLd rfl (QXn (ac _ _ (WC.ret ?_))))
    refine (hret _ _ _ rfl ?_).1
    exact ⟨congrArg (fun b_ => Ending.returned (Value.bool b_)) (decide_eq_false (fun e_ => absurd (congrArg CmdV.boot e_) (by simpa using ag))).symm, aa.fr⟩
  ·
   have bs : ¬ (a.v.node = b.v.node) := by simpa using af
   refine WLz 77 [(4, .bool false)] (WLd rfl (QXn (ac _ _ (WC.ret ?_))))
   refine (hret _ _ _ rfl ?_).1
   exact ⟨congrArg (fun b_ => Ending.returned (Value.bool b_)) (decide_eq_false (fun e_ => absurd (congrArg CmdV.node e_) (by simpa using af))).symm, aa.fr⟩
 ·
  refine WO.new 5 (fun b => P0 b 0) (.cells #[U4 0, I6 0, I6 0, .slice none 0 0] 43) (by kernel_rfl) rfl rfl rfl rfl rfl (fun _ => by kernel_rfl) (fun aD bY ba bD aQ bb => ?_)
  have bc := aF.callB aQ ba bb
  have aR := ae.trans aQ (by simp)
  refine ⟨aR, ?_⟩
  refine WD.new 4 (fun b => P0 b 0) (.cells #[U4 0, I6 0, I6 0, .slice none 0 0] 43) (by kernel_rfl) rfl rfl rfl rfl rfl (fun _ => by kernel_rfl) (fun aE bZ bd bE aS be => ?_)
  have bf := bc.callB aS bd be
  have aJ := aR.trans aS (by simp)
  refine ⟨aJ, ?_⟩
  obtain ⟨b0, bg, bh, bi⟩ := sto_run (c' := #[U4 a.v.svip, I6 a.v.sproto, I6 a.v.sport, .slice a.a a.v.ends.length a.c]) Tryz.prog bf 3 43 aE 0 (.agg #[U4 a.v.svip, I6 a.v.sproto, I6 a.v.sport, .slice a.a a.v.ends.length a.c]) rfl (by kernel_rfl)
  have aK := aJ.trans bh (by first | (simp; done) | (simp [*]; done) | (have q_ := aJ.size; simp; omega))
  refine WDu 6 bg aK ?_
  obtain ⟨bF, bj, bk, ab⟩ := sto_run (c' := #[U4 b.v.svip, I6 b.v.sproto, I6 b.v.sport, .slice b.a b.v.ends.length b.c]) Tryz.prog bi 2 43 aD 0 (.agg #[U4 b.v.svip, I6 b.v.sproto, I6 b.v.sport, .slice b.a b.v.ends.length b.c]) rfl (by kernel_rfl)
  have bl := aK.trans bk (by first | (simp; done) | (simp [*]; done) | (have q_ := aK.size; simp; omega))
  refine WDu 7 bj bl (WDd (QXn (aM _ _ (WCs (fun b1 ad => WCg (WLq 1 [(11, P0 g3 0)] (WLo 3 (P0 g3 0) (I6 a.v.node) 12 (run_ld (ab.get 0 rfl) rfl) ?_)))))))
  refine WLq 1 [(13, P0 g8 0)] (WLo 3 (P0 g8 0) (I6 b.v.node) 14 (run_ld (ab.get 1 rfl) rfl) (WLz 2 [(16, .bool (a.v.node == b.v.node))] (WLa 16 (a.v.node == b.v.node) rfl (fun ap => ?_) (fun ap => ?_))))
  ·
   have bG : a.v.node = b.v.node := by simpa using ap
   refine WLq 1 [(17, P0 g3 1)] (WLo 3 (P0 g3 1) (I6 a.v.boot) 18 (run_ld (ab.get 0 rfl) rfl) (WLq 1 [(19, P0 g8 1)] (WLo 3 (P0 g8 1) (I6 b.v.boot) 20 (run_ld (ab.get 1 rfl) rfl) (WLz 3 [(23, .bool (a.v.boot == b.v.boot))] (WLa 23 (a.v.boot == b.v.boot) rfl (fun aq => ?_) (fun aq => ?_))))))
   ·
    have bH : a.v.boot = b.v.boot := by simpa using aq
    refine WLq 1 [(24, P0 g3 2)] (WLo 3 (P0 g3 2) (I6 a.v.seq) 25 (run_ld (ab.get 0 rfl) rfl) (WLq 1 [(26, P0 g8 2)] (WLo 3 (P0 g8 2) (I6 b.v.seq) 27 (run_ld (ab.get 1 rfl) rfl) (WLz 3 [(30, .bool (a.v.seq == b.v.seq))] (WLa 30 (a.v.seq == b.v.seq) rfl (fun ar => ?_) (fun ar => ?_))))))
    ·
     have bI : a.v.seq = b.v.seq := by simpa using ar
     refine WLq 1 [(31, P0 g3 3)] (WLo 3 (P0 g3 3) (I6 a.v.time) 32 (run_ld (ab.get 0 rfl) rfl) (WLq 1 [(33, P0 g8 3)] (WLo 3 (P0 g8 3) (I6 b.v.time) 34 (run_ld (ab.get 1 rfl) rfl) (WLz 3 [(37, .bool (a.v.time == b.v.time))] (WLa 37 (a.v.time == b.v.time) rfl (fun au => ?_) (fun au => ?_))))))
     ·
      have bJ : a.v.time = b.v.time := by simpa using au
      refine WLq 1 [(38, P0 g3 4)] (WLo 3 (P0 g3 4) (I6 a.v.kind) 39 (run_ld (ab.get 0 rfl) rfl) (WLq 1 [(40, P0 g8 4)] (WLo 3 (P0 g8 4) (I6 b.v.kind) 41 (run_ld (ab.get 1 rfl) rfl) (WLz 3 [(44, .bool (a.v.kind == b.v.kind))] (WLa 44 (a.v.kind == b.v.kind) rfl (fun av => ?_) (fun av => ?_))))))
      ·
       have bK : a.v.kind = b.v.kind := by simpa using av
       refine WLq 1 [(45, P0 g3 9)] (WLo 40 (P0 g3 9) (U4 a.v.dip) 46 (run_ld (ab.get 0 rfl) rfl) (WLq 1 [(47, P0 g8 9)] (WLo 40 (P0 g8 9) (U4 b.v.dip) 48 (run_ld (ab.get 1 rfl) rfl) (WLz 3 [(51, .bool (a.v.dip == b.v.dip))] (WLa 51 (a.v.dip == b.v.dip) rfl (fun aw => ?_) (fun aw => ?_))))))
       ·
        have bL : a.v.dip = b.v.dip := by simpa using aw
        refine WLq 1 [(52, P0 g3 10)] (WLo 40 (P0 g3 10) (U4 a.v.vip) 53 (run_ld (ab.get 0 rfl) rfl) (WLq 1 [(54, P0 g8 10)] (WLo 40 (P0 g8 10) (U4 b.v.vip) 55 (run_ld (ab.get 1 rfl) rfl) (WLz 3 [(58, .bool (a.v.vip == b.v.vip))] (WLa 58 (a.v.vip == b.v.vip) rfl (fun ax => ?_) (fun ax => ?_))))))
        ·
         have bM : a.v.vip = b.v.vip := by simpa using ax
         refine WLq 1 [(59, P0 g3 11)] (WLo 4 (P0 g3 11) (.bool a.v.up) 60 (run_ld (ab.get 0 rfl) rfl) (WLq 1 [(61, P0 g8 11)] (WLo 4 (P0 g8 11) (.bool b.v.up) 62 (run_ld (ab.get 1 rfl) rfl) (WLz 3 [(65, .bool (a.v.up == b.v.up))] (WLa 65 (a.v.up == b.v.up) rfl (fun aL => ?_) (fun aL => ?_))))))
         ·
          refine WLq 1 [(66, P0 aE 0)] (WLo 40 (P0 aE 0) (U4 a.v.svip) 67 (run_ld (ab.get 3 rfl) rfl) (WLq 1 [(68, P0 aD 0)] (WLo 40 (P0 aD 0) (U4 b.v.svip) 69 (run_ld (ab.get 2 rfl) rfl) (WLz 3 [(72, .bool (a.v.svip == b.v.svip))] (WLa 72 (a.v.svip == b.v.svip) rfl (fun ay => ?_) (fun ay => ?_))))))
          ·
           have bN : a.v.svip = b.v.svip := by simpa using ay
           refine WLq 1 [(73, P0 aE 1)] (WLo 3 (P0 aE 1) (I6 a.v.sproto) 74 (run_ld (ab.get 3 rfl) rfl) (WLq 1 [(75, P0 aD 1)] (WLo 3 (P0 aD 1) (I6 b.v.sproto) 76 (run_ld (ab.get 2 rfl) rfl) (WLz 3 [(79, .bool (a.v.sproto == b.v.sproto))] (WLa 79 (a.v.sproto == b.v.sproto) rfl (fun az => ?_) (fun az => ?_))))))
           ·
            have bO : a.v.sproto = b.v.sproto := by simpa using az
            refine WLq 1 [(80, P0 aE 2)] (WLo 3 (P0 aE 2) (I6 a.v.sport) 81 (run_ld (ab.get 3 rfl) rfl) (WLq 1 [(82, P0 aD 2)] (WLo 3 (P0 aD 2) (I6 b.v.sport) 83 (run_ld (ab.get 2 rfl) rfl) (WLz 3 [(86, .bool (a.v.sport == b.v.sport))] (WLa 86 (a.v.sport == b.v.sport) rfl (fun aA => ?_) (fun aA => ?_))))))
            ·
             have bP : a.v.sport = b.v.sport := by simpa using aA
             refine WLq 1 [(87, P0 aE 3)] (WLo 41 (P0 aE 3) (.slice a.a a.v.ends.length a.c) 88 (run_ld (ab.get 3 rfl) rfl) (WLq 1 [(89, P0 aD 3)] (WLo 41 (P0 aD 3) (.slice b.a b.v.ends.length b.c) 90 (run_ld (ab.get 2 rfl) rfl) (WLk (EqualE_n a.a b.a a.v.ends.length a.c b.v.ends.length b.c a.v.ends b.v.ends bF (Rd.fr ha.rd ab.fr) (Rd.fr hb.rd ab.fr) rfl rfl ha.lim) ?_))))
             rintro _ bQ ⟨rfl, aT⟩
             refine ⟨_, rfl, ?_⟩
             have aU := ab.call aT
             refine WLz 2 [(4, .bool (decide (a.v.ends = b.v.ends)))] (WLd rfl (QXn (ad _ _ (WC.ret ?_))))
             refine (hret _ _ _ rfl ?_).1
             exact ⟨congrArg (fun b_ => Ending.returned (Value.bool b_)) (like_last (by simpa using ap) (by simpa using aq) (by simpa using ar) (by simpa using au) (by simpa using av) (by simpa using aw) (by simpa using ax) (by simpa using aL) (by simpa using ay) (by simpa using az) (by simpa using aA)), aU.fr⟩
            ·
             have bP : ¬ (a.v.sport = b.v.sport) := by simpa using aA
             refine WLz 7 [(4, .bool false)] (WLd rfl (QXn (ad _ _ (WC.ret ?_))))
             refine (hret _ _ _ rfl ?_).1
             exact ⟨congrArg (fun b_ => Ending.returned (Value.bool b_)) (decide_eq_false (fun e_ => absurd (congrArg CmdV.sport e_) (by simpa using aA))).symm, ab.fr⟩
           ·
            have bO : ¬ (a.v.sproto = b.v.sproto) := by simpa using az
            refine WLz 14 [(4, .bool false)] (WLd rfl (QXn (ad _ _ (WC.ret ?_))))
            refine (hret _ _ _ rfl ?_).1
            exact ⟨congrArg (fun b_ => Ending.returned (Value.bool b_)) (decide_eq_false (fun e_ => absurd (congrArg CmdV.sproto e_) (by simpa using az))).symm, ab.fr⟩
          ·
           have bN : ¬ (a.v.svip = b.v.svip) := by simpa using ay
           refine WLz 21 [(4, .bool false)] (WLd rfl (QXn (ad _ _ (WC.ret ?_))))
           refine (hret _ _ _ rfl ?_).1
           exact ⟨congrArg (fun b_ => Ending.returned (Value.bool b_)) (decide_eq_false (fun e_ => absurd (congrArg CmdV.svip e_) (by simpa using ay))).symm, ab.fr⟩
         ·
          refine WLz 28 [(4, .bool false)] (WLd rfl (QXn (ad _ _ (WC.ret ?_))))
          refine (hret _ _ _ rfl ?_).1
          exact ⟨congrArg (fun b_ => Ending.returned (Value.bool b_)) (decide_eq_false (fun e_ => absurd (congrArg CmdV.up e_) (by simpa using aL))).symm, ab.fr⟩
        ·
         have bM : ¬ (a.v.vip = b.v.vip) := by simpa using ax
         refine WLz 35 [(4, .bool false)] (WLd rfl (QXn (ad _ _ (WC.ret ?_))))
         refine (hret _ _ _ rfl ?_).1
         exact ⟨congrArg (fun b_ => Ending.returned (Value.bool b_)) (decide_eq_false (fun e_ => absurd (congrArg CmdV.vip e_) (by simpa using ax))).symm, ab.fr⟩
       ·
        have bL : ¬ (a.v.dip = b.v.dip) := by simpa using aw
        refine WLz 42 [(4, .bool false)] (WLd rfl (QXn (ad _ _ (WC.ret ?_))))
        refine (hret _ _ _ rfl ?_).1
        exact ⟨congrArg (fun b_ => Ending.returned (Value.bool b_)) (decide_eq_false (fun e_ => absurd (congrArg CmdV.dip e_) (by simpa using aw))).symm, ab.fr⟩
      ·
       have bK : ¬ (a.v.kind = b.v.kind) := by simpa using av
       refine WLz 49 [(4, .bool false)] (WLd rfl (QXn (ad _ _ (WC.ret ?_))))
       refine (hret _ _ _ rfl ?_).1
       exact ⟨congrArg (fun b_ => Ending.returned (Value.bool b_)) (decide_eq_false (fun e_ => absurd (congrArg CmdV.kind e_) (by simpa using av))).symm, ab.fr⟩
     ·
      have bJ : ¬ (a.v.time = b.v.time) := by simpa using au
      refine WLz 56 [(4, .bool false)] (WLd rfl (QXn (ad _ _ (WC.ret ?_))))
      refine (hret _ _ _ rfl ?_).1
      exact ⟨congrArg (fun b_ => Ending.returned (Value.bool b_)) (decide_eq_false (fun e_ => absurd (congrArg CmdV.time e_) (by simpa using au))).symm, ab.fr⟩
    ·
     have bI : ¬ (a.v.seq = b.v.seq) := by simpa using ar
     refine WLz 63 [(4, .bool false)] (WLd rfl (QXn (ad _ _ (WC.ret ?_))))
     refine (hret _ _ _ rfl ?_).1
     exact ⟨congrArg (fun b_ => Ending.returned (Value.bool b_)) (decide_eq_false (fun e_ => absurd (congrArg CmdV.seq e_) (by simpa using ar))).symm, ab.fr⟩
   ·
    have bH : ¬ (a.v.boot = b.v.boot) := by simpa using aq
    refine WLz 70 [(4, .bool false)] (WLd rfl (QXn (ad _ _ (WC.ret ?_))))
    refine (hret _ _ _ rfl ?_).1
    exact ⟨congrArg (fun b_ => Ending.returned (Value.bool b_)) (decide_eq_false (fun e_ => absurd (congrArg CmdV.boot e_) (by simpa using aq))).symm, ab.fr⟩
  ·
   have bG : ¬ (a.v.node = b.v.node) := by simpa using ap
   refine WLz 77 [(4, .bool false)] (WLd rfl (QXn (ad _ _ (WC.ret ?_))))
   refine (hret _ _ _ rfl ?_).1
   exact ⟨congrArg (fun b_ => Ending.returned (Value.bool b_)) (decide_eq_false (fun e_ => absurd (congrArg CmdV.node e_) (by simpa using ap))).symm, ab.fr⟩

theorem ringCheck_n (A : Option Addr) (n c : Nat) (ends : List EndV) (w : World) (hr : Rd w 3 cellsE A ends) (hn : ends.length = n) (hwf : ∀ e ∈ ends, wfE e) (hl : n ≤ 1099511627776) (hlc : n ≤ c) : Calls Tryz.prog 110 #[.slice A n c] w fun e w' => e = .returned (errV 118 (if goodE ends then 0 else 9)) ∧ Fr w w' [] := by subst hn; exact ringCheck_ct A c ends w hr hwf hl hlc
set_option maxHeartbeats 2000000 in
theorem said_ct (c : Cmd) (w : World) (h : cmdAt w c) : Calls Tryz.prog 75 #[.agg #[I6 c.v.node, I6 c.v.boot, I6 c.v.seq, I6 c.v.time, I6 c.v.kind, U4 c.v.svip, I6 c.v.sproto, I6 c.v.sport, .slice c.a c.v.ends.length c.c, U4 c.v.dip, U4 c.v.vip, .bool c.v.up]] w fun e w' => e = .returned (.tuple #[.agg #[I6 (((saidM c).v).node), I6 (((saidM c).v).boot), I6 (((saidM c).v).seq), I6 (((saidM c).v).time), I6 (((saidM c).v).kind), U4 (((saidM c).v).svip), I6 (((saidM c).v).sproto), I6 (((saidM c).v).sport), .slice ((saidM c).a) ((saidM c).v.ends.length) ((saidM c).c), U4 (((saidM c).v).dip), U4 (((saidM c).v).vip), .bool (((saidM c).v).up)], .bool (saidB c.v)]) ∧ Fr w w' [] := by
 refine enterD (n := 115) Tryz.func75 rfl rfl (Nat.le_of_ble_eq_true rfl) ?_
 intro Q0 hN hret hret'
 have hC := Cx.start w
 refine WCs (fun K1 hK2 => WCg (WLb hC (.cells #[I6 c.v.node, I6 c.v.boot, I6 c.v.seq, I6 c.v.time, I6 c.v.kind, U4 c.v.svip, I6 c.v.sproto, I6 c.v.sport, .slice c.a c.v.ends.length c.c, U4 c.v.dip, U4 c.v.vip, .bool c.v.up] 45) 1 (fun g3 w4 hb7 hF5 hC6 => WLb hC6 (.cells #[I6 0, I6 0, I6 0, I6 0, I6 0, U4 0, I6 0, I6 0, .slice none 0 0, U4 0, U4 0, .bool false] 45) 2 (fun g8 w9 cT cU aP => WLq 1 [(3, .bool false)] (WLd rfl (QXn (hK2 _ _ (WCs (fun dD ah => ?_)))))))))
 refine WCg (WLq 1 [(9, P0 g3 0)] (WLo 3 (P0 g3 0) (I6 c.v.node) 10 (run_ld (aP.get 0 rfl) rfl) (WLq 1 [(11, P0 g3 1)] (WLo 3 (P0 g3 1) (I6 c.v.boot) 12 (run_ld (aP.get 0 rfl) rfl) (WLq 1 [(13, P0 g3 2)] (WLo 3 (P0 g3 2) (I6 c.v.seq) 14 (run_ld (aP.get 0 rfl) rfl) ?_))))))
 refine WLq 1 [(15, P0 g3 3)] (WLo 3 (P0 g3 3) (I6 c.v.time) 16 (run_ld (aP.get 0 rfl) rfl) (WLq 1 [(17, P0 g3 4)] (WLo 3 (P0 g3 4) (I6 c.v.kind) 18 (run_ld (aP.get 0 rfl) rfl) (WLq 1 [(19, .agg #[I6 c.v.node, I6 c.v.boot, I6 c.v.seq, I6 c.v.time, I6 c.v.kind, U4 0, I6 0, I6 0, .slice none 0 0, U4 0, U4 0, .bool false])] (WLb aP (.cells #[I6 0, I6 0, I6 0, I6 0, I6 0, U4 0, I6 0, I6 0, .slice none 0 0, U4 0, U4 0, .bool false] 45) 4 (fun au dE cV cW cp => ?_))))))
 refine WLv (c' := #[I6 c.v.node, I6 c.v.boot, I6 c.v.seq, I6 c.v.time, I6 c.v.kind, U4 0, I6 0, I6 0, .slice none 0 0, U4 0, U4 0, .bool false]) cp 2 45 au 0 (.agg #[I6 c.v.node, I6 c.v.boot, I6 c.v.seq, I6 c.v.time, I6 c.v.kind, U4 0, I6 0, I6 0, .slice none 0 0, U4 0, U4 0, .bool false]) (fun cX cY bz => WLd rfl (QXn (ah _ _ (WCs (fun dF ai => WCg (WLq 1 [(21, P0 g3 9)] (WLo 40 (P0 g3 9) (U4 c.v.dip) 22 (run_ld (bz.get 0 rfl) rfl) (WLk (Home_ct c.v.dip cX h.wf.dip.1 h.wf.dip.2) ?_))))))))
 rintro _ dG ⟨rfl, cq⟩
 refine ⟨_, rfl, ?_⟩
 have bA := bz.call cq
 refine WLz 7 [(7, .bool (isHome c.v.dip))] (WLd rfl (QXn (ai _ _ (WCs (fun dH aj => WCg (WLq 1 [(27, P0 g3 5)] (WLo 43 (P0 g3 5) (.agg #[U4 c.v.svip, I6 c.v.sproto, I6 c.v.sport, .slice c.a c.v.ends.length c.c]) 28 (run_ld (bA.get 0 rfl) rfl) (WLb bA (.cells #[U4 0, I6 0, I6 0, .slice none 0 0] 43) 8 (fun aD dI cZ c0 cr => WLv (c' := #[U4 c.v.svip, I6 c.v.sproto, I6 c.v.sport, .slice c.a c.v.ends.length c.c]) cr 3 43 aD 0 (.agg #[U4 c.v.svip, I6 c.v.sproto, I6 c.v.sport, .slice c.a c.v.ends.length c.c]) (fun dJ c1 aE => ?_))))))))))
 refine WLd rfl (QXn (aj _ _ (WCs (fun dK ak => WCs (fun dL al => WCg (WLq 1 [(29, P0 g3 4)] (WLo 3 (P0 g3 4) (I6 c.v.kind) 30 (run_ld (aE.get 0 rfl) rfl) (WLd rfl (QXn (al _ _ ?_))))))))))
 refine WC.block (WCs (fun dM am => WCg (WLz 2 [(31, .bool (c.v.kind == 1))] (WLd rfl (QXn (am _ _ (WCa 31 (c.v.kind == 1) rfl (fun ad => ?_) (fun ad => ?_))))))))
 ·
  have c2 : c.v.kind = 1 := by simpa using ad
  refine WCt rfl (WCs (fun dN aF => WCg (WLo 43 (P0 aD 0) (.agg #[U4 c.v.svip, I6 c.v.sproto, I6 c.v.sport, .slice c.a c.v.ends.length c.c]) 33 (run_ld (aE.get 3 rfl) rfl) (WLq 1 [(34, P0 au 5)] (WLv (c' := #[I6 c.v.node, I6 c.v.boot, I6 c.v.seq, I6 c.v.time, I6 c.v.kind, U4 c.v.svip, I6 c.v.sproto, I6 c.v.sport, .slice c.a c.v.ends.length c.c, U4 0, U4 0, .bool false]) aE 2 43 au 5 (.agg #[U4 c.v.svip, I6 c.v.sproto, I6 c.v.sport, .slice c.a c.v.ends.length c.c]) (fun dO c3 cs => ?_))))))
  refine WLd rfl (QXn (aF _ _ (WCs (fun dP ao => WC.drawC cs [g8] (by kernel_rfl) (fun c4 c5 aZ a0 => WDq 1 36 (P0 aD 0) a0 (WDm 0 45 (P0 au 0) (.agg #[I6 c.v.node, I6 c.v.boot, I6 c.v.seq, I6 c.v.time, I6 c.v.kind, U4 c.v.svip, I6 c.v.sproto, I6 c.v.sport, .slice c.a c.v.ends.length c.c, U4 0, U4 0, .bool false]) 35 (fun _ hS_ => run_ld (Fr.has hS_ (aZ.get 2 rfl) (by simpa using aZ.ne 2 1 rfl rfl (by decide))) rfl) a0 (WD.sem 2 (Instr.loadAt 40 (P0 aD 0)) 37 (U4 c.v.svip) (by kernel_rfl) (by kernel_rfl) (run_ld (aZ.get 3 rfl) rfl) a0 ?_)))))))
  refine WDc 3 (IsVip_ct c.v.svip c4 h.wf.svip.1 h.wf.svip.2) ?_
  rintro _ cL ⟨rfl, bB⟩
  have aa := a0.trans bB (by simp)
  refine ⟨_, rfl, aa, ?_⟩
  have an := aZ.call bB
  refine WDq 4 39 (.bool (isVip c.v.svip)) aa (WDa 39 (isVip c.v.svip) rfl (fun aG => ?_) (fun aG => ?_))
  ·
   refine WDq 5 40 (P0 aD 1) aa (WD.sem 6 (Instr.loadAt 3 (P0 aD 1)) 41 (I6 c.v.sproto) (by kernel_rfl) (by kernel_rfl) (run_ld (an.get 3 rfl) rfl) aa (WDx 2 [(7, 42, .bool (c.v.sproto == 6)), (8, 43, .bool (c.v.sproto == 6))] aa (WDa 43 (c.v.sproto == 6) rfl (fun aC => ?_) (fun aC => ?_))))
   ·
    have a1 : c.v.sproto = 6 := by simpa using aC
    refine WDx 7 [(9, 44, undef), (10, 45, undef), (11, 46, undef), (12, 47, .bool true), (13, 48, .bool true), (14, 49, .bool true), (15, 50, P0 aD 2)] aa (WD.sem 16 (Instr.loadAt 3 (P0 aD 2)) 51 (I6 c.v.sport) (by kernel_rfl) (by kernel_rfl) (run_ld (an.get 3 rfl) rfl) aa (WDx 3 [(17, 52, .bool (decide (c.v.sport ≥ 1))), (18, 53, .bool (decide (c.v.sport ≥ 1))), (19, 54, .bool (decide (c.v.sport ≥ 1)))] aa (WDa 54 (decide (c.v.sport ≥ 1)) rfl (fun aQ => ?_) (fun aQ => ?_))))
    ·
     have cn : (1 : Int) ≤ c.v.sport := by have q_ := of_decide_eq_true aQ; omega
     refine WDq 20 55 (P0 aD 2) aa (WD.sem 21 (Instr.loadAt 3 (P0 aD 2)) 56 (I6 c.v.sport) (by kernel_rfl) (by kernel_rfl) (run_ld (an.get 3 rfl) rfl) aa (WDx 3 [(22, 57, .bool (decide (c.v.sport ≤ 1023))), (23, 58, .bool (decide (c.v.sport ≤ 1023))), (24, 59, .bool (decide (c.v.sport ≤ 1023)))] aa (WDa 59 (decide (c.v.sport ≤ 1023)) rfl (fun aS => ?_) (fun aS => ?_))))
     ·
      have ct : c.v.sport ≤ 1023 := by have q_ := of_decide_eq_true aS; omega
      refine WDq 25 60 (P0 aD 3) aa (WD.sem 26 (Instr.loadAt 41 (P0 aD 3)) 61 (.slice c.a c.v.ends.length c.c) (by kernel_rfl) (by kernel_rfl) (run_ld (an.get 3 rfl) rfl) aa (WDc 27 (ringCheck_n c.a c.v.ends.length c.c c.v.ends cL (Rd.fr h.rd an.fr) rfl h.wf.ends h.lim h.cap) ?_))
      rintro _ dQ ⟨rfl, bC⟩
      have aT := aa.trans bC (by simp)
      refine ⟨_, rfl, aT, ?_⟩
      have cu := an.call bC
      have cv : ∀ w_, Sem.run Tryz.prog (do eqGuard .eql 97 (Operand.tmp 62) (Operand.const (.nilIface)) (errV 118 (if goodE c.v.ends then 0 else 9)) (.nilIface); binOp .eql 97 (errV 118 (if goodE c.v.ends then 0 else 9)) (.nilIface)) w_ = .ok (.bool (goodE c.v.ends)) w_ := fun w_ => (err_eql _ (if goodE c.v.ends then 0 else 9) (goodE c.v.ends) (by cases goodE c.v.ends <;> rfl) _)
      refine WD.semP (NPt (NPb (NPt hN))) 28 (do eqGuard .eql 97 (Operand.tmp 62) (Operand.const (.nilIface)) (errV 118 (if goodE c.v.ends then 0 else 9)) (.nilIface); binOp .eql 97 (errV 118 (if goodE c.v.ends then 0 else 9)) (.nilIface)) 63 (.bool (goodE c.v.ends)) (by kernel_rfl) (by kernel_rfl) (fun _ _ => cv _) aT (WDq 29 64 (.bool (goodE c.v.ends)) aT ?_)
      obtain ⟨dR, cw, cx, bD⟩ := sto_run (c' := #[I6 c.v.node, I6 c.v.boot, I6 c.v.seq, I6 c.v.time, I6 c.v.kind, U4 c.v.svip, I6 c.v.sproto, I6 c.v.sport, .slice c.a c.v.ends.length c.c, U4 0, U4 0, .bool false]) Tryz.prog cu 1 45 g8 0 (.agg #[I6 c.v.node, I6 c.v.boot, I6 c.v.seq, I6 c.v.time, I6 c.v.kind, U4 c.v.svip, I6 c.v.sproto, I6 c.v.sport, .slice c.a c.v.ends.length c.c, U4 0, U4 0, .bool false]) rfl (by kernel_rfl)
      have bE := aT.trans cx (by first | (simp; done) | (simp [*]; done) | (have q_ := aT.size; simp; omega))
      refine WDu 30 cw bE (WDq 31 3 (.bool (goodE c.v.ends)) bE (WDd (QXn (ao _ _ (WC.ret (QXk ?_))))))
      refine QXr ?_
      refine (hret' _ _ (.tuple #[.agg #[I6 c.v.node, I6 c.v.boot, I6 c.v.seq, I6 c.v.time, I6 c.v.kind, U4 c.v.svip, I6 c.v.sproto, I6 c.v.sport, .slice c.a c.v.ends.length c.c, U4 0, U4 0, .bool false], .bool (goodE c.v.ends)]) (fun a ha => ?_) ?_).1
      ·
       exact res_run ha ((ResR.cell rfl (run_ld (bD.get 1 rfl) rfl) (ResR.tmp rfl ResR.nil))) rfl
      clear hN hret hret' ao aF am al ak aj ai ah hK2
      have hm_ : saidM c = (⟨⟨c.v.node, c.v.boot, c.v.seq, c.v.time, c.v.kind, c.v.svip, c.v.sproto, c.v.sport, c.v.ends, 0, 0, false⟩, c.a, c.c⟩ : Cmd) := by unfold saidM; rw [if_pos (by simpa using ad)]
      have hb_ : saidB c.v = (goodE c.v.ends) := by unfold saidB; rw [if_pos (by simpa using ad)] <;> (first | rfl | (simp [aG, aC, a1, aQ, cn, aS, ct]; done) | (simp_all; done) | (rw [Bool.eq_iff_iff]; simp_all <;> omega))
      rw [hm_, hb_]
      exact ⟨rfl, bD.fr⟩
     ·
      have ct : (1023 : Int) < c.v.sport := by have q_ := of_decide_eq_false aS; omega
      refine WDx 5 [(25, 60, undef), (26, 61, undef), (27, 62, undef), (28, 63, undef), (29, 64, .bool false)] aa ?_
      obtain ⟨dS, cy, cz, bF⟩ := sto_run (c' := #[I6 c.v.node, I6 c.v.boot, I6 c.v.seq, I6 c.v.time, I6 c.v.kind, U4 c.v.svip, I6 c.v.sproto, I6 c.v.sport, .slice c.a c.v.ends.length c.c, U4 0, U4 0, .bool false]) Tryz.prog an 1 45 g8 0 (.agg #[I6 c.v.node, I6 c.v.boot, I6 c.v.seq, I6 c.v.time, I6 c.v.kind, U4 c.v.svip, I6 c.v.sproto, I6 c.v.sport, .slice c.a c.v.ends.length c.c, U4 0, U4 0, .bool false]) rfl (by kernel_rfl)
      have bG := aa.trans cz (by first | (simp; done) | (simp [*]; done) | (have q_ := aa.size; simp; omega))
      refine WDu 30 cy bG (WDq 31 3 (.bool false) bG (WDd (QXn (ao _ _ (WC.ret (QXk ?_))))))
      refine QXr ?_
      refine (hret' _ _ (.tuple #[.agg #[I6 c.v.node, I6 c.v.boot, I6 c.v.seq, I6 c.v.time, I6 c.v.kind, U4 c.v.svip, I6 c.v.sproto, I6 c.v.sport, .slice c.a c.v.ends.length c.c, U4 0, U4 0, .bool false], .bool false]) (fun a ha => ?_) ?_).1
      ·
       exact res_run ha ((ResR.cell rfl (run_ld (bF.get 1 rfl) rfl) (ResR.tmp rfl ResR.nil))) rfl
      clear hN hret hret' ao aF am al ak aj ai ah hK2
      have hm_ : saidM c = (⟨⟨c.v.node, c.v.boot, c.v.seq, c.v.time, c.v.kind, c.v.svip, c.v.sproto, c.v.sport, c.v.ends, 0, 0, false⟩, c.a, c.c⟩ : Cmd) := by unfold saidM; rw [if_pos (by simpa using ad)]
      have hb_ : saidB c.v = false := by unfold saidB; rw [if_pos (by simpa using ad)] <;> (first | rfl | (simp [aG, aC, a1, aQ, cn, aS, ct]; done) | (simp_all; done) | (rw [Bool.eq_iff_iff]; simp_all <;> omega))
      rw [hm_, hb_]
      exact ⟨rfl, bF.fr⟩
    ·
     have cn : c.v.sport < 1 := by have q_ := of_decide_eq_false aQ; omega
     refine WDx 10 [(20, 55, undef), (21, 56, undef), (22, 57, undef), (23, 58, .bool false), (24, 59, .bool false), (25, 60, undef), (26, 61, undef), (27, 62, undef), (28, 63, undef), (29, 64, .bool false)] aa ?_
     obtain ⟨dT, cA, cB, bH⟩ := sto_run (c' := #[I6 c.v.node, I6 c.v.boot, I6 c.v.seq, I6 c.v.time, I6 c.v.kind, U4 c.v.svip, I6 c.v.sproto, I6 c.v.sport, .slice c.a c.v.ends.length c.c, U4 0, U4 0, .bool false]) Tryz.prog an 1 45 g8 0 (.agg #[I6 c.v.node, I6 c.v.boot, I6 c.v.seq, I6 c.v.time, I6 c.v.kind, U4 c.v.svip, I6 c.v.sproto, I6 c.v.sport, .slice c.a c.v.ends.length c.c, U4 0, U4 0, .bool false]) rfl (by kernel_rfl)
     have bI := aa.trans cB (by first | (simp; done) | (simp [*]; done) | (have q_ := aa.size; simp; omega))
     refine WDu 30 cA bI (WDq 31 3 (.bool false) bI (WDd (QXn (ao _ _ (WC.ret (QXk ?_))))))
     refine QXr ?_
     refine (hret' _ _ (.tuple #[.agg #[I6 c.v.node, I6 c.v.boot, I6 c.v.seq, I6 c.v.time, I6 c.v.kind, U4 c.v.svip, I6 c.v.sproto, I6 c.v.sport, .slice c.a c.v.ends.length c.c, U4 0, U4 0, .bool false], .bool false]) (fun a ha => ?_) ?_).1
     ·
      exact res_run ha ((ResR.cell rfl (run_ld (bH.get 1 rfl) rfl) (ResR.tmp rfl ResR.nil))) rfl
     clear hN hret hret' ao aF am al ak aj ai ah hK2
     have hm_ : saidM c = (⟨⟨c.v.node, c.v.boot, c.v.seq, c.v.time, c.v.kind, c.v.svip, c.v.sproto, c.v.sport, c.v.ends, 0, 0, false⟩, c.a, c.c⟩ : Cmd) := by unfold saidM; rw [if_pos (by simpa using ad)]
     have hb_ : saidB c.v = false := by unfold saidB; rw [if_pos (by simpa using ad)] <;> (first | rfl | (simp [aG, aC, a1, aQ, cn]; done) | (simp_all; done) | (rw [Bool.eq_iff_iff]; simp_all <;> omega))
     rw [hm_, hb_]
     exact ⟨rfl, bH.fr⟩
   ·
    have a1 : ¬ (c.v.sproto = 6) := by simpa using aC
    refine WDq 9 44 (P0 aD 1) aa (WD.sem 10 (Instr.loadAt 3 (P0 aD 1)) 45 (I6 c.v.sproto) (by kernel_rfl) (by kernel_rfl) (run_ld (an.get 3 rfl) rfl) aa (WDx 4 [(11, 46, .bool (c.v.sproto == 17)), (12, 47, .bool (c.v.sproto == 17)), (13, 48, .bool (c.v.sproto == 17)), (14, 49, .bool (c.v.sproto == 17))] aa (WDa 49 (c.v.sproto == 17) rfl (fun aI => ?_) (fun aI => ?_))))
    ·
     have bJ : c.v.sproto = 17 := by simpa using aI
     refine WDq 15 50 (P0 aD 2) aa (WD.sem 16 (Instr.loadAt 3 (P0 aD 2)) 51 (I6 c.v.sport) (by kernel_rfl) (by kernel_rfl) (run_ld (an.get 3 rfl) rfl) aa (WDx 3 [(17, 52, .bool (decide (c.v.sport ≥ 1))), (18, 53, .bool (decide (c.v.sport ≥ 1))), (19, 54, .bool (decide (c.v.sport ≥ 1)))] aa (WDa 54 (decide (c.v.sport ≥ 1)) rfl (fun aR => ?_) (fun aR => ?_))))
     ·
      have co : (1 : Int) ≤ c.v.sport := by have q_ := of_decide_eq_true aR; omega
      refine WDq 20 55 (P0 aD 2) aa (WD.sem 21 (Instr.loadAt 3 (P0 aD 2)) 56 (I6 c.v.sport) (by kernel_rfl) (by kernel_rfl) (run_ld (an.get 3 rfl) rfl) aa (WDx 3 [(22, 57, .bool (decide (c.v.sport ≤ 1023))), (23, 58, .bool (decide (c.v.sport ≤ 1023))), (24, 59, .bool (decide (c.v.sport ≤ 1023)))] aa (WDa 59 (decide (c.v.sport ≤ 1023)) rfl (fun aU => ?_) (fun aU => ?_))))
      ·
       have cC : c.v.sport ≤ 1023 := by have q_ := of_decide_eq_true aU; omega
       refine WDq 25 60 (P0 aD 3) aa (WD.sem 26 (Instr.loadAt 41 (P0 aD 3)) 61 (.slice c.a c.v.ends.length c.c) (by kernel_rfl) (by kernel_rfl) (run_ld (an.get 3 rfl) rfl) aa (WDc 27 (ringCheck_n c.a c.v.ends.length c.c c.v.ends cL (Rd.fr h.rd an.fr) rfl h.wf.ends h.lim h.cap) ?_))
       rintro _ dU ⟨rfl, bK⟩
       have aV := aa.trans bK (by simp)
       refine ⟨_, rfl, aV, ?_⟩
       have cD := an.call bK
       have cE : ∀ w_, Sem.run Tryz.prog (do eqGuard .eql 97 (Operand.tmp 62) (Operand.const (.nilIface)) (errV 118 (if goodE c.v.ends then 0 else 9)) (.nilIface); binOp .eql 97 (errV 118 (if goodE c.v.ends then 0 else 9)) (.nilIface)) w_ = .ok (.bool (goodE c.v.ends)) w_ := fun w_ => (err_eql _ (if goodE c.v.ends then 0 else 9) (goodE c.v.ends) (by cases goodE c.v.ends <;> rfl) _)
       refine WD.semP (NPt (NPb (NPt hN))) 28 (do eqGuard .eql 97 (Operand.tmp 62) (Operand.const (.nilIface)) (errV 118 (if goodE c.v.ends then 0 else 9)) (.nilIface); binOp .eql 97 (errV 118 (if goodE c.v.ends then 0 else 9)) (.nilIface)) 63 (.bool (goodE c.v.ends)) (by kernel_rfl) (by kernel_rfl) (fun _ _ => cE _) aV (WDq 29 64 (.bool (goodE c.v.ends)) aV ?_)
       obtain ⟨dV, cF, cG, bL⟩ := sto_run (c' := #[I6 c.v.node, I6 c.v.boot, I6 c.v.seq, I6 c.v.time, I6 c.v.kind, U4 c.v.svip, I6 c.v.sproto, I6 c.v.sport, .slice c.a c.v.ends.length c.c, U4 0, U4 0, .bool false]) Tryz.prog cD 1 45 g8 0 (.agg #[I6 c.v.node, I6 c.v.boot, I6 c.v.seq, I6 c.v.time, I6 c.v.kind, U4 c.v.svip, I6 c.v.sproto, I6 c.v.sport, .slice c.a c.v.ends.length c.c, U4 0, U4 0, .bool false]) rfl (by kernel_rfl)
       have bM := aV.trans cG (by first | (simp; done) | (simp [*]; done) | (have q_ := aV.size; simp; omega))
       refine WDu 30 cF bM (WDq 31 3 (.bool (goodE c.v.ends)) bM (WDd (QXn (ao _ _ (WC.ret (QXk ?_))))))
       refine QXr ?_
       refine (hret' _ _ (.tuple #[.agg #[I6 c.v.node, I6 c.v.boot, I6 c.v.seq, I6 c.v.time, I6 c.v.kind, U4 c.v.svip, I6 c.v.sproto, I6 c.v.sport, .slice c.a c.v.ends.length c.c, U4 0, U4 0, .bool false], .bool (goodE c.v.ends)]) (fun a ha => ?_) ?_).1
       ·
        exact res_run ha ((ResR.cell rfl (run_ld (bL.get 1 rfl) rfl) (ResR.tmp rfl ResR.nil))) rfl
       clear hN hret hret' ao aF am al ak aj ai ah hK2
       have hm_ : saidM c = (⟨⟨c.v.node, c.v.boot, c.v.seq, c.v.time, c.v.kind, c.v.svip, c.v.sproto, c.v.sport, c.v.ends, 0, 0, false⟩, c.a, c.c⟩ : Cmd) := by unfold saidM; rw [if_pos (by simpa using ad)]
       have hb_ : saidB c.v = (goodE c.v.ends) := by unfold saidB; rw [if_pos (by simpa using ad)] <;> (first | rfl | (simp [aG, aC, a1, aI, bJ, aR, co, aU, cC]; done) | (simp_all; done) | (rw [Bool.eq_iff_iff]; simp_all <;> omega))
       rw [hm_, hb_]
       exact ⟨rfl, bL.fr⟩
      ·
       have cC : (1023 : Int) < c.v.sport := by have q_ := of_decide_eq_false aU; omega
       refine WDx 5 [(25, 60, undef), (26, 61, undef), (27, 62, undef), (28, 63, undef), (29, 64, .bool false)] aa ?_
       obtain ⟨c6, bN, bO, a2⟩ := sto_run (c' := #[I6 c.v.node, I6 c.v.boot, I6 c.v.seq, I6 c.v.time, I6 c.v.kind, U4 c.v.svip, I6 c.v.sproto, I6 c.v.sport, .slice c.a c.v.ends.length c.c, U4 0, U4 0, .bool false]) Tryz.prog an 1 45 g8 0 (.agg #[I6 c.v.node, I6 c.v.boot, I6 c.v.seq, I6 c.v.time, I6 c.v.kind, U4 c.v.svip, I6 c.v.sproto, I6 c.v.sport, .slice c.a c.v.ends.length c.c, U4 0, U4 0, .bool false]) rfl (by kernel_rfl)
       have a3 := aa.trans bO (by first | (simp; done) | (simp [*]; done) | (have q_ := aa.size; simp; omega))
       refine WDu 30 bN a3 (WDq 31 3 (.bool false) a3 (WDd (QXn (ao _ _ (WC.ret (QXk ?_))))))
       refine QXr ?_
       refine (hret' _ _ (.tuple #[.agg #[I6 c.v.node, I6 c.v.boot, I6 c.v.seq, I6 c.v.time, I6 c.v.kind, U4 c.v.svip, I6 c.v.sproto, I6 c.v.sport, .slice c.a c.v.ends.length c.c, U4 0, U4 0, .bool false], .bool false]) (fun a ha => ?_) ?_).1
       ·
        exact res_run ha ((ResR.cell rfl (run_ld (a2.get 1 rfl) rfl) (ResR.tmp rfl ResR.nil))) rfl
       clear hN hret hret' ao aF am al ak aj ai ah hK2
       have hm_ : saidM c = (⟨⟨c.v.node, c.v.boot, c.v.seq, c.v.time, c.v.kind, c.v.svip, c.v.sproto, c.v.sport, c.v.ends, 0, 0, false⟩, c.a, c.c⟩ : Cmd) := by unfold saidM; rw [if_pos (by simpa using ad)]
       have hb_ : saidB c.v = false := by unfold saidB; rw [if_pos (by simpa using ad)] <;> (first | rfl | (simp [aG, aC, a1, aI, bJ, aR, co, aU, cC]; done) | (simp_all; done) | (rw [Bool.eq_iff_iff]; simp_all <;> omega))
       rw [hm_, hb_]
       exact ⟨rfl, a2.fr⟩
     ·
      have co : c.v.sport < 1 := by have q_ := of_decide_eq_false aR; omega
      refine WDx 10 [(20, 55, undef), (21, 56, undef), (22, 57, undef), (23, 58, .bool false), (24, 59, .bool false), (25, 60, undef), (26, 61, undef), (27, 62, undef), (28, 63, undef), (29, 64, .bool false)] aa ?_
      obtain ⟨c7, bP, bQ, a4⟩ := sto_run (c' := #[I6 c.v.node, I6 c.v.boot, I6 c.v.seq, I6 c.v.time, I6 c.v.kind, U4 c.v.svip, I6 c.v.sproto, I6 c.v.sport, .slice c.a c.v.ends.length c.c, U4 0, U4 0, .bool false]) Tryz.prog an 1 45 g8 0 (.agg #[I6 c.v.node, I6 c.v.boot, I6 c.v.seq, I6 c.v.time, I6 c.v.kind, U4 c.v.svip, I6 c.v.sproto, I6 c.v.sport, .slice c.a c.v.ends.length c.c, U4 0, U4 0, .bool false]) rfl (by kernel_rfl)
      have a5 := aa.trans bQ (by first | (simp; done) | (simp [*]; done) | (have q_ := aa.size; simp; omega))
      refine WDu 30 bP a5 (WDq 31 3 (.bool false) a5 (WDd (QXn (ao _ _ (WC.ret (QXk ?_))))))
      refine QXr ?_
      refine (hret' _ _ (.tuple #[.agg #[I6 c.v.node, I6 c.v.boot, I6 c.v.seq, I6 c.v.time, I6 c.v.kind, U4 c.v.svip, I6 c.v.sproto, I6 c.v.sport, .slice c.a c.v.ends.length c.c, U4 0, U4 0, .bool false], .bool false]) (fun a ha => ?_) ?_).1
      ·
       exact res_run ha ((ResR.cell rfl (run_ld (a4.get 1 rfl) rfl) (ResR.tmp rfl ResR.nil))) rfl
      clear hN hret hret' ao aF am al ak aj ai ah hK2
      have hm_ : saidM c = (⟨⟨c.v.node, c.v.boot, c.v.seq, c.v.time, c.v.kind, c.v.svip, c.v.sproto, c.v.sport, c.v.ends, 0, 0, false⟩, c.a, c.c⟩ : Cmd) := by unfold saidM; rw [if_pos (by simpa using ad)]
      have hb_ : saidB c.v = false := by unfold saidB; rw [if_pos (by simpa using ad)] <;> (first | rfl | (simp [aG, aC, a1, aI, bJ, aR, co]; done) | (simp_all; done) | (rw [Bool.eq_iff_iff]; simp_all <;> omega))
      rw [hm_, hb_]
      exact ⟨rfl, a4.fr⟩
    ·
     have bJ : ¬ (c.v.sproto = 17) := by simpa using aI
     refine WDx 15 [(15, 50, undef), (16, 51, undef), (17, 52, undef), (18, 53, .bool false), (19, 54, .bool false), (20, 55, undef), (21, 56, undef), (22, 57, undef), (23, 58, .bool false), (24, 59, .bool false), (25, 60, undef), (26, 61, undef), (27, 62, undef), (28, 63, undef), (29, 64, .bool false)] aa ?_
     obtain ⟨c8, bR, bS, a6⟩ := sto_run (c' := #[I6 c.v.node, I6 c.v.boot, I6 c.v.seq, I6 c.v.time, I6 c.v.kind, U4 c.v.svip, I6 c.v.sproto, I6 c.v.sport, .slice c.a c.v.ends.length c.c, U4 0, U4 0, .bool false]) Tryz.prog an 1 45 g8 0 (.agg #[I6 c.v.node, I6 c.v.boot, I6 c.v.seq, I6 c.v.time, I6 c.v.kind, U4 c.v.svip, I6 c.v.sproto, I6 c.v.sport, .slice c.a c.v.ends.length c.c, U4 0, U4 0, .bool false]) rfl (by kernel_rfl)
     have a7 := aa.trans bS (by first | (simp; done) | (simp [*]; done) | (have q_ := aa.size; simp; omega))
     refine WDu 30 bR a7 (WDq 31 3 (.bool false) a7 (WDd (QXn (ao _ _ (WC.ret (QXk ?_))))))
     refine QXr ?_
     refine (hret' _ _ (.tuple #[.agg #[I6 c.v.node, I6 c.v.boot, I6 c.v.seq, I6 c.v.time, I6 c.v.kind, U4 c.v.svip, I6 c.v.sproto, I6 c.v.sport, .slice c.a c.v.ends.length c.c, U4 0, U4 0, .bool false], .bool false]) (fun a ha => ?_) ?_).1
     ·
      exact res_run ha ((ResR.cell rfl (run_ld (a6.get 1 rfl) rfl) (ResR.tmp rfl ResR.nil))) rfl
     clear hN hret hret' ao aF am al ak aj ai ah hK2
     have hm_ : saidM c = (⟨⟨c.v.node, c.v.boot, c.v.seq, c.v.time, c.v.kind, c.v.svip, c.v.sproto, c.v.sport, c.v.ends, 0, 0, false⟩, c.a, c.c⟩ : Cmd) := by unfold saidM; rw [if_pos (by simpa using ad)]
     have hb_ : saidB c.v = false := by unfold saidB; rw [if_pos (by simpa using ad)] <;> (first | rfl | (simp [aG, aC, a1, aI, bJ]; done) | (simp_all; done) | (rw [Bool.eq_iff_iff]; simp_all <;> omega))
     rw [hm_, hb_]
     exact ⟨rfl, a6.fr⟩
  ·
   refine WDx 25 [(5, 40, undef), (6, 41, undef), (7, 42, undef), (8, 43, undef), (9, 44, undef), (10, 45, undef), (11, 46, undef), (12, 47, undef), (13, 48, .bool false), (14, 49, .bool false), (15, 50, undef), (16, 51, undef), (17, 52, undef), (18, 53, .bool false), (19, 54, .bool false), (20, 55, undef), (21, 56, undef), (22, 57, undef), (23, 58, .bool false), (24, 59, .bool false), (25, 60, undef), (26, 61, undef), (27, 62, undef), (28, 63, undef), (29, 64, .bool false)] aa ?_
   obtain ⟨c9, bT, bU, a8⟩ := sto_run (c' := #[I6 c.v.node, I6 c.v.boot, I6 c.v.seq, I6 c.v.time, I6 c.v.kind, U4 c.v.svip, I6 c.v.sproto, I6 c.v.sport, .slice c.a c.v.ends.length c.c, U4 0, U4 0, .bool false]) Tryz.prog an 1 45 g8 0 (.agg #[I6 c.v.node, I6 c.v.boot, I6 c.v.seq, I6 c.v.time, I6 c.v.kind, U4 c.v.svip, I6 c.v.sproto, I6 c.v.sport, .slice c.a c.v.ends.length c.c, U4 0, U4 0, .bool false]) rfl (by kernel_rfl)
   have a9 := aa.trans bU (by first | (simp; done) | (simp [*]; done) | (have q_ := aa.size; simp; omega))
   refine WDu 30 bT a9 (WDq 31 3 (.bool false) a9 (WDd (QXn (ao _ _ (WC.ret (QXk ?_))))))
   refine QXr ?_
   refine (hret' _ _ (.tuple #[.agg #[I6 c.v.node, I6 c.v.boot, I6 c.v.seq, I6 c.v.time, I6 c.v.kind, U4 c.v.svip, I6 c.v.sproto, I6 c.v.sport, .slice c.a c.v.ends.length c.c, U4 0, U4 0, .bool false], .bool false]) (fun a ha => ?_) ?_).1
   ·
    exact res_run ha ((ResR.cell rfl (run_ld (a8.get 1 rfl) rfl) (ResR.tmp rfl ResR.nil))) rfl
   clear hN hret hret' ao aF am al ak aj ai ah hK2
   have hm_ : saidM c = (⟨⟨c.v.node, c.v.boot, c.v.seq, c.v.time, c.v.kind, c.v.svip, c.v.sproto, c.v.sport, c.v.ends, 0, 0, false⟩, c.a, c.c⟩ : Cmd) := by unfold saidM; rw [if_pos (by simpa using ad)]
   have hb_ : saidB c.v = false := by unfold saidB; rw [if_pos (by simpa using ad)] <;> (first | rfl | (simp [aG]; done) | (simp_all; done) | (rw [Bool.eq_iff_iff]; simp_all <;> omega))
   rw [hm_, hb_]
   exact ⟨rfl, a8.fr⟩
 ·
  have c2 : ¬ (c.v.kind = 1) := by simpa using ad
  refine WCf rfl (WCs (fun da ap => WCg (WLz 2 [(65, .bool (c.v.kind == 2))] (WLd rfl (QXn (ap _ _ (WCa 65 (c.v.kind == 2) rfl (fun ae => ?_) (fun ae => ?_))))))))
  ·
   have cH : c.v.kind = 2 := by simpa using ae
   refine WCt rfl (WCs (fun db av => WC.drawC aE [au] (by kernel_rfl) (fun dc cM aw aq => WDx 3 [(0, 67, P0 g3 9), (2, 69, P0 g3 10), (4, 71, P0 g3 11)] aq (WDm 1 40 (P0 g3 9) (U4 c.v.dip) 68 (fun _ hS_ => run_ld (Fr.has hS_ (aw.get 0 rfl) (by simpa using aw.ne 0 2 rfl rfl (by decide))) rfl) aq (WDq 6 73 (P0 au 9) aq ?_)))))
   refine WDm 3 40 (P0 g3 10) (U4 c.v.vip) 70 (fun _ hS_ => run_ld (Fr.has hS_ (aw.get 0 rfl) (by simpa using aw.ne 0 2 rfl rfl (by decide))) rfl) aq (WDm 5 4 (P0 g3 11) (.bool c.v.up) 72 (fun _ hS_ => run_ld (Fr.has hS_ (aw.get 0 rfl) (by simpa using aw.ne 0 2 rfl rfl (by decide))) rfl) aq ?_)
   obtain ⟨dd, bV, bW, bX⟩ := sto_run (c' := #[I6 c.v.node, I6 c.v.boot, I6 c.v.seq, I6 c.v.time, I6 c.v.kind, U4 0, I6 0, I6 0, .slice none 0 0, U4 c.v.dip, U4 0, .bool false]) Tryz.prog aw 2 40 au 9 (U4 c.v.dip) rfl (by kernel_rfl)
   have aJ := aq.trans bW (by first | (simp; done) | (simp [*]; done) | (have q_ := aq.size; simp; omega))
   refine WDu 7 bV aJ (WDq 8 74 (P0 au 10) aJ ?_)
   obtain ⟨de, bY, bZ, b0⟩ := sto_run (c' := #[I6 c.v.node, I6 c.v.boot, I6 c.v.seq, I6 c.v.time, I6 c.v.kind, U4 0, I6 0, I6 0, .slice none 0 0, U4 c.v.dip, U4 c.v.vip, .bool false]) Tryz.prog bX 2 40 au 10 (U4 c.v.vip) rfl (by kernel_rfl)
   have aK := aJ.trans bZ (by first | (simp; done) | (simp [*]; done) | (have q_ := aJ.size; simp; omega))
   refine WDu 9 bY aK (WDq 10 75 (P0 au 11) aK ?_)
   obtain ⟨df, b1, b2, b3⟩ := sto_run (c' := #[I6 c.v.node, I6 c.v.boot, I6 c.v.seq, I6 c.v.time, I6 c.v.kind, U4 0, I6 0, I6 0, .slice none 0 0, U4 c.v.dip, U4 c.v.vip, .bool c.v.up]) Tryz.prog b0 2 4 au 11 (.bool c.v.up) rfl (by kernel_rfl)
   have b4 := aK.trans b2 (by first | (simp; done) | (simp [*]; done) | (have q_ := aK.size; simp; omega))
   refine WDu 11 b1 b4 (WDd (QXn (av _ _ (WCs (fun dg ag => WC.drawC b3 [g8] (by kernel_rfl) (fun cI cN af ab => WDx 2 [(1, 77, .bool (isHome c.v.dip)), (2, 78, .bool (isHome c.v.dip))] ab ?_))))))
   refine WDa 78 (isHome c.v.dip) rfl (fun ax => ?_) (fun ax => ?_)
   ·
    refine WDq 3 79 (P0 g3 11) ab (WDm 0 45 (P0 au 0) (.agg #[I6 c.v.node, I6 c.v.boot, I6 c.v.seq, I6 c.v.time, I6 c.v.kind, U4 0, I6 0, I6 0, .slice none 0 0, U4 c.v.dip, U4 c.v.vip, .bool c.v.up]) 76 (fun _ hS_ => run_ld (Fr.has hS_ (af.get 2 rfl) (by simpa using af.ne 2 1 rfl rfl (by decide))) rfl) ab (WD.sem 4 (Instr.loadAt 4 (P0 g3 11)) 80 (.bool c.v.up) (by kernel_rfl) (by kernel_rfl) (run_ld (af.get 0 rfl) rfl) ab (WDq 5 81 (.bool c.v.up) ab (WDa 81 (c.v.up) rfl (fun ba => ?_) (fun ba => ?_)))))
    ·
     refine WDq 6 82 (P0 g3 10) ab (WD.sem 7 (Instr.loadAt 40 (P0 g3 10)) 83 (U4 c.v.vip) (by kernel_rfl) (by kernel_rfl) (run_ld (af.get 0 rfl) rfl) ab (WDc 8 (IsVip_ct c.v.vip cI h.wf.vip.1 h.wf.vip.2) ?_))
     rintro _ dh ⟨rfl, bb⟩
     have ac := ab.trans bb (by simp)
     refine ⟨_, rfl, ac, ?_⟩
     have aL := af.call bb
     refine WDx 2 [(9, 85, .bool (isVip c.v.vip)), (10, 86, .bool (isVip c.v.vip))] ac (WDa 86 (isVip c.v.vip) rfl (fun aM => ?_) (fun aM => ?_))
     ·
      refine WDx 10 [(11, 87, undef), (12, 88, undef), (13, 89, undef), (14, 90, undef), (15, 91, undef), (16, 92, undef), (17, 93, undef), (18, 94, undef), (19, 95, .bool true), (20, 96, .bool true)] ac ?_
      obtain ⟨di, b5, b6, bc⟩ := sto_run (c' := #[I6 c.v.node, I6 c.v.boot, I6 c.v.seq, I6 c.v.time, I6 c.v.kind, U4 0, I6 0, I6 0, .slice none 0 0, U4 c.v.dip, U4 c.v.vip, .bool c.v.up]) Tryz.prog aL 1 45 g8 0 (.agg #[I6 c.v.node, I6 c.v.boot, I6 c.v.seq, I6 c.v.time, I6 c.v.kind, U4 0, I6 0, I6 0, .slice none 0 0, U4 c.v.dip, U4 c.v.vip, .bool c.v.up]) rfl (by kernel_rfl)
      have bd := ac.trans b6 (by first | (simp; done) | (simp [*]; done) | (have q_ := ac.size; simp; omega))
      refine WDu 21 b5 bd (WDq 22 3 (.bool true) bd (WDd (QXn (ag _ _ (WC.ret (QXk ?_))))))
      refine QXr ?_
      refine (hret' _ _ (.tuple #[.agg #[I6 c.v.node, I6 c.v.boot, I6 c.v.seq, I6 c.v.time, I6 c.v.kind, U4 0, I6 0, I6 0, .slice none 0 0, U4 c.v.dip, U4 c.v.vip, .bool c.v.up], .bool true]) (fun a ha => ?_) ?_).1
      ·
       exact res_run ha ((ResR.cell rfl (run_ld (bc.get 1 rfl) rfl) (ResR.tmp rfl ResR.nil))) rfl
      clear hN hret hret' ag av ap am al ak aj ai ah hK2
      have hm_ : saidM c = (⟨⟨c.v.node, c.v.boot, c.v.seq, c.v.time, c.v.kind, 0, 0, 0, [], c.v.dip, c.v.vip, c.v.up⟩, none, 0⟩ : Cmd) := by unfold saidM; rw [if_neg (by simpa using ad), if_pos (by simpa using ae)]
      have hb_ : saidB c.v = true := by unfold saidB; rw [if_neg (by simpa using ad), if_pos (by simpa using ae)] <;> (first | rfl | (simp [ax, ba, aM]; done) | (simp_all; done) | (rw [Bool.eq_iff_iff]; simp_all <;> omega))
      rw [hm_, hb_]
      exact ⟨rfl, bc.fr⟩
     ·
      refine WDq 11 87 (P0 g3 11) ac (WD.sem 12 (Instr.loadAt 4 (P0 g3 11)) 88 (.bool c.v.up) (by kernel_rfl) (by kernel_rfl) (run_ld (aL.get 0 rfl) rfl) ac (WDx 2 [(13, 89, .bool !c.v.up), (14, 90, .bool !c.v.up)] ac (WDa 90 (!c.v.up) rfl (fun ay => ?_) (fun ay => ?_))))
      ·
       have aW : c.v.up = false := by first | (simpa only [Bool.not_eq_true', Bool.not_eq_false'] using ay) | simpa using ay
       refine WDq 15 91 (P0 g3 10) ac (WDm 16 40 (P0 g3 10) (U4 c.v.vip) 92 (fun _ hS_ => run_ld (Fr.has hS_ (af.get 0 rfl) (by simpa using af.ne 0 1 rfl rfl (by decide))) rfl) ac (WDx 4 [(17, 93, .bool (c.v.vip == 0)), (18, 94, .bool (c.v.vip == 0)), (19, 95, .bool (c.v.vip == 0)), (20, 96, .bool (c.v.vip == 0))] ac ?_))
       obtain ⟨dj, b7, b8, be⟩ := sto_run (c' := #[I6 c.v.node, I6 c.v.boot, I6 c.v.seq, I6 c.v.time, I6 c.v.kind, U4 0, I6 0, I6 0, .slice none 0 0, U4 c.v.dip, U4 c.v.vip, .bool c.v.up]) Tryz.prog aL 1 45 g8 0 (.agg #[I6 c.v.node, I6 c.v.boot, I6 c.v.seq, I6 c.v.time, I6 c.v.kind, U4 0, I6 0, I6 0, .slice none 0 0, U4 c.v.dip, U4 c.v.vip, .bool c.v.up]) rfl (by kernel_rfl)
       have bf := ac.trans b8 (by first | (simp; done) | (simp [*]; done) | (have q_ := ac.size; simp; omega))
       refine WDu 21 b7 bf (WDq 22 3 (.bool (c.v.vip == 0)) bf (WDd (QXn (ag _ _ (WC.ret (QXk ?_))))))
       refine QXr ?_
       refine (hret' _ _ (.tuple #[.agg #[I6 c.v.node, I6 c.v.boot, I6 c.v.seq, I6 c.v.time, I6 c.v.kind, U4 0, I6 0, I6 0, .slice none 0 0, U4 c.v.dip, U4 c.v.vip, .bool c.v.up], .bool (c.v.vip == 0)]) (fun a ha => ?_) ?_).1
       ·
        exact res_run ha ((ResR.cell rfl (run_ld (be.get 1 rfl) rfl) (ResR.tmp rfl ResR.nil))) rfl
       clear hN hret hret' ag av ap am al ak aj ai ah hK2
       have hm_ : saidM c = (⟨⟨c.v.node, c.v.boot, c.v.seq, c.v.time, c.v.kind, 0, 0, 0, [], c.v.dip, c.v.vip, c.v.up⟩, none, 0⟩ : Cmd) := by unfold saidM; rw [if_neg (by simpa using ad), if_pos (by simpa using ae)]
       have hb_ : saidB c.v = (c.v.vip == 0) := by unfold saidB; rw [if_neg (by simpa using ad), if_pos (by simpa using ae)] <;> (first | rfl | (simp [ax, aW, aM, ay, aW]; done) | (simp_all; done) | (rw [Bool.eq_iff_iff]; simp_all <;> omega))
       rw [hm_, hb_]
       exact ⟨rfl, be.fr⟩
      ·
       have aW : c.v.up = true := by first | (simpa only [Bool.not_eq_true', Bool.not_eq_false'] using ay) | simpa using ay
       refine WDx 6 [(15, 91, undef), (16, 92, undef), (17, 93, undef), (18, 94, .bool false), (19, 95, .bool false), (20, 96, .bool false)] ac ?_
       obtain ⟨dk, b9, ca, bg⟩ := sto_run (c' := #[I6 c.v.node, I6 c.v.boot, I6 c.v.seq, I6 c.v.time, I6 c.v.kind, U4 0, I6 0, I6 0, .slice none 0 0, U4 c.v.dip, U4 c.v.vip, .bool c.v.up]) Tryz.prog aL 1 45 g8 0 (.agg #[I6 c.v.node, I6 c.v.boot, I6 c.v.seq, I6 c.v.time, I6 c.v.kind, U4 0, I6 0, I6 0, .slice none 0 0, U4 c.v.dip, U4 c.v.vip, .bool c.v.up]) rfl (by kernel_rfl)
       have bh := ac.trans ca (by first | (simp; done) | (simp [*]; done) | (have q_ := ac.size; simp; omega))
       refine WDu 21 b9 bh (WDq 22 3 (.bool false) bh (WDd (QXn (ag _ _ (WC.ret (QXk ?_))))))
       refine QXr ?_
       refine (hret' _ _ (.tuple #[.agg #[I6 c.v.node, I6 c.v.boot, I6 c.v.seq, I6 c.v.time, I6 c.v.kind, U4 0, I6 0, I6 0, .slice none 0 0, U4 c.v.dip, U4 c.v.vip, .bool c.v.up], .bool false]) (fun a ha => ?_) ?_).1
       ·
        exact res_run ha ((ResR.cell rfl (run_ld (bg.get 1 rfl) rfl) (ResR.tmp rfl ResR.nil))) rfl
       clear hN hret hret' ag av ap am al ak aj ai ah hK2
       have hm_ : saidM c = (⟨⟨c.v.node, c.v.boot, c.v.seq, c.v.time, c.v.kind, 0, 0, 0, [], c.v.dip, c.v.vip, c.v.up⟩, none, 0⟩ : Cmd) := by unfold saidM; rw [if_neg (by simpa using ad), if_pos (by simpa using ae)]
       have hb_ : saidB c.v = false := by unfold saidB; rw [if_neg (by simpa using ad), if_pos (by simpa using ae)] <;> (first | rfl | (simp [ax, aW, aM, ay, aW]; done) | (simp_all; done) | (rw [Bool.eq_iff_iff]; simp_all <;> omega))
       rw [hm_, hb_]
       exact ⟨rfl, bg.fr⟩
    ·
     refine WDx 6 [(6, 82, undef), (7, 83, undef), (8, 84, undef), (9, 85, .bool false), (10, 86, .bool false), (11, 87, P0 g3 11)] ab (WD.sem 12 (Instr.loadAt 4 (P0 g3 11)) 88 (.bool c.v.up) (by kernel_rfl) (by kernel_rfl) (run_ld (af.get 0 rfl) rfl) ab (WDx 2 [(13, 89, .bool !c.v.up), (14, 90, .bool !c.v.up)] ab (WDa 90 (!c.v.up) rfl (fun az => ?_) (fun az => ?_))))
     ·
      have aX : c.v.up = false := by first | (simpa only [Bool.not_eq_true', Bool.not_eq_false'] using az) | simpa using az
      refine WDq 15 91 (P0 g3 10) ab (WDm 16 40 (P0 g3 10) (U4 c.v.vip) 92 (fun _ hS_ => run_ld (Fr.has hS_ (af.get 0 rfl) (by simpa using af.ne 0 1 rfl rfl (by decide))) rfl) ab (WDx 4 [(17, 93, .bool (c.v.vip == 0)), (18, 94, .bool (c.v.vip == 0)), (19, 95, .bool (c.v.vip == 0)), (20, 96, .bool (c.v.vip == 0))] ab ?_))
      obtain ⟨dl, cb, cc, bi⟩ := sto_run (c' := #[I6 c.v.node, I6 c.v.boot, I6 c.v.seq, I6 c.v.time, I6 c.v.kind, U4 0, I6 0, I6 0, .slice none 0 0, U4 c.v.dip, U4 c.v.vip, .bool c.v.up]) Tryz.prog af 1 45 g8 0 (.agg #[I6 c.v.node, I6 c.v.boot, I6 c.v.seq, I6 c.v.time, I6 c.v.kind, U4 0, I6 0, I6 0, .slice none 0 0, U4 c.v.dip, U4 c.v.vip, .bool c.v.up]) rfl (by kernel_rfl)
      have bj := ab.trans cc (by first | (simp; done) | (simp [*]; done) | (have q_ := ab.size; simp; omega))
      refine WDu 21 cb bj (WDq 22 3 (.bool (c.v.vip == 0)) bj (WDd (QXn (ag _ _ (WC.ret (QXk ?_))))))
      refine QXr ?_
      refine (hret' _ _ (.tuple #[.agg #[I6 c.v.node, I6 c.v.boot, I6 c.v.seq, I6 c.v.time, I6 c.v.kind, U4 0, I6 0, I6 0, .slice none 0 0, U4 c.v.dip, U4 c.v.vip, .bool c.v.up], .bool (c.v.vip == 0)]) (fun a ha => ?_) ?_).1
      ·
       exact res_run ha ((ResR.cell rfl (run_ld (bi.get 1 rfl) rfl) (ResR.tmp rfl ResR.nil))) rfl
      clear hN hret hret' ag av ap am al ak aj ai ah hK2
      have hm_ : saidM c = (⟨⟨c.v.node, c.v.boot, c.v.seq, c.v.time, c.v.kind, 0, 0, 0, [], c.v.dip, c.v.vip, c.v.up⟩, none, 0⟩ : Cmd) := by unfold saidM; rw [if_neg (by simpa using ad), if_pos (by simpa using ae)]
      have hb_ : saidB c.v = (c.v.vip == 0) := by unfold saidB; rw [if_neg (by simpa using ad), if_pos (by simpa using ae)] <;> (first | rfl | (simp [ax, aX, az, aX]; done) | (simp_all; done) | (rw [Bool.eq_iff_iff]; simp_all <;> omega))
      rw [hm_, hb_]
      exact ⟨rfl, bi.fr⟩
     ·
      have aX : c.v.up = true := by first | (simpa only [Bool.not_eq_true', Bool.not_eq_false'] using az) | simpa using az
      refine WDx 6 [(15, 91, undef), (16, 92, undef), (17, 93, undef), (18, 94, .bool false), (19, 95, .bool false), (20, 96, .bool false)] ab ?_
      obtain ⟨dm, cd, ce, bk⟩ := sto_run (c' := #[I6 c.v.node, I6 c.v.boot, I6 c.v.seq, I6 c.v.time, I6 c.v.kind, U4 0, I6 0, I6 0, .slice none 0 0, U4 c.v.dip, U4 c.v.vip, .bool c.v.up]) Tryz.prog af 1 45 g8 0 (.agg #[I6 c.v.node, I6 c.v.boot, I6 c.v.seq, I6 c.v.time, I6 c.v.kind, U4 0, I6 0, I6 0, .slice none 0 0, U4 c.v.dip, U4 c.v.vip, .bool c.v.up]) rfl (by kernel_rfl)
      have bl := ab.trans ce (by first | (simp; done) | (simp [*]; done) | (have q_ := ab.size; simp; omega))
      refine WDu 21 cd bl (WDq 22 3 (.bool false) bl (WDd (QXn (ag _ _ (WC.ret (QXk ?_))))))
      refine QXr ?_
      refine (hret' _ _ (.tuple #[.agg #[I6 c.v.node, I6 c.v.boot, I6 c.v.seq, I6 c.v.time, I6 c.v.kind, U4 0, I6 0, I6 0, .slice none 0 0, U4 c.v.dip, U4 c.v.vip, .bool c.v.up], .bool false]) (fun a ha => ?_) ?_).1
      ·
       exact res_run ha ((ResR.cell rfl (run_ld (bk.get 1 rfl) rfl) (ResR.tmp rfl ResR.nil))) rfl
      clear hN hret hret' ag av ap am al ak aj ai ah hK2
      have hm_ : saidM c = (⟨⟨c.v.node, c.v.boot, c.v.seq, c.v.time, c.v.kind, 0, 0, 0, [], c.v.dip, c.v.vip, c.v.up⟩, none, 0⟩ : Cmd) := by unfold saidM; rw [if_neg (by simpa using ad), if_pos (by simpa using ae)]
      have hb_ : saidB c.v = false := by unfold saidB; rw [if_neg (by simpa using ad), if_pos (by simpa using ae)] <;> (first | rfl | (simp [ax, aX, az, aX]; done) | (simp_all; done) | (rw [Bool.eq_iff_iff]; simp_all <;> omega))
      rw [hm_, hb_]
      exact ⟨rfl, bk.fr⟩
   ·
    refine WDx 18 [(3, 79, undef), (4, 80, undef), (5, 81, undef), (6, 82, undef), (7, 83, undef), (8, 84, undef), (9, 85, undef), (10, 86, undef), (11, 87, undef), (12, 88, undef), (13, 89, undef), (14, 90, undef), (15, 91, undef), (16, 92, undef), (17, 93, undef), (18, 94, undef), (19, 95, undef), (20, 96, .bool false)] ab (WD.sem 0 (Instr.loadAt 45 (P0 au 0)) 76 (.agg #[I6 c.v.node, I6 c.v.boot, I6 c.v.seq, I6 c.v.time, I6 c.v.kind, U4 0, I6 0, I6 0, .slice none 0 0, U4 c.v.dip, U4 c.v.vip, .bool c.v.up]) (by kernel_rfl) (by kernel_rfl) (run_ld (af.get 2 rfl) rfl) ab ?_)
    obtain ⟨dn, cf, cg, bm⟩ := sto_run (c' := #[I6 c.v.node, I6 c.v.boot, I6 c.v.seq, I6 c.v.time, I6 c.v.kind, U4 0, I6 0, I6 0, .slice none 0 0, U4 c.v.dip, U4 c.v.vip, .bool c.v.up]) Tryz.prog af 1 45 g8 0 (.agg #[I6 c.v.node, I6 c.v.boot, I6 c.v.seq, I6 c.v.time, I6 c.v.kind, U4 0, I6 0, I6 0, .slice none 0 0, U4 c.v.dip, U4 c.v.vip, .bool c.v.up]) rfl (by kernel_rfl)
    have bn := ab.trans cg (by first | (simp; done) | (simp [*]; done) | (have q_ := ab.size; simp; omega))
    refine WDu 21 cf bn (WDq 22 3 (.bool false) bn (WDd (QXn (ag _ _ (WC.ret (QXk ?_))))))
    refine QXr ?_
    refine (hret' _ _ (.tuple #[.agg #[I6 c.v.node, I6 c.v.boot, I6 c.v.seq, I6 c.v.time, I6 c.v.kind, U4 0, I6 0, I6 0, .slice none 0 0, U4 c.v.dip, U4 c.v.vip, .bool c.v.up], .bool false]) (fun a ha => ?_) ?_).1
    ·
     exact res_run ha ((ResR.cell rfl (run_ld (bm.get 1 rfl) rfl) (ResR.tmp rfl ResR.nil))) rfl
    clear hN hret hret' ag av ap am al ak aj ai ah hK2
    have hm_ : saidM c = (⟨⟨c.v.node, c.v.boot, c.v.seq, c.v.time, c.v.kind, 0, 0, 0, [], c.v.dip, c.v.vip, c.v.up⟩, none, 0⟩ : Cmd) := by unfold saidM; rw [if_neg (by simpa using ad), if_pos (by simpa using ae)]
    have hb_ : saidB c.v = false := by unfold saidB; rw [if_neg (by simpa using ad), if_pos (by simpa using ae)] <;> (first | rfl | (simp [ax]; done) | (simp_all; done) | (rw [Bool.eq_iff_iff]; simp_all <;> omega))
    rw [hm_, hb_]
    exact ⟨rfl, bm.fr⟩
  ·
   have cH : ¬ (c.v.kind = 2) := by simpa using ae
   refine WCf rfl (WCs (fun dp aN => WCg (WLz 2 [(97, .bool (c.v.kind == 3))] (WLd rfl (QXn (aN _ _ (WCa 97 (c.v.kind == 3) rfl (fun ar => ?_) (fun ar => ?_))))))))
   ·
    have cJ : c.v.kind = 3 := by simpa using ar
    refine WCt rfl (WCs (fun dq bo => WC.drawC aE [au] (by kernel_rfl) (fun dr cO aH aA => WDx 2 [(0, 99, P0 g3 9), (2, 101, P0 g3 11)] aA (WDm 1 40 (P0 g3 9) (U4 c.v.dip) 100 (fun _ hS_ => run_ld (Fr.has hS_ (aH.get 0 rfl) (by simpa using aH.ne 0 2 rfl rfl (by decide))) rfl) aA (WDq 4 103 (P0 au 9) aA ?_)))))
    refine WDm 3 4 (P0 g3 11) (.bool c.v.up) 102 (fun _ hS_ => run_ld (Fr.has hS_ (aH.get 0 rfl) (by simpa using aH.ne 0 2 rfl rfl (by decide))) rfl) aA ?_
    obtain ⟨ds, ch, ci, cj⟩ := sto_run (c' := #[I6 c.v.node, I6 c.v.boot, I6 c.v.seq, I6 c.v.time, I6 c.v.kind, U4 0, I6 0, I6 0, .slice none 0 0, U4 c.v.dip, U4 0, .bool false]) Tryz.prog aH 2 40 au 9 (U4 c.v.dip) rfl (by kernel_rfl)
    have aO := aA.trans ci (by first | (simp; done) | (simp [*]; done) | (have q_ := aA.size; simp; omega))
    refine WDu 5 ch aO (WDq 6 104 (P0 au 11) aO ?_)
    obtain ⟨dt, ck, cl, bp⟩ := sto_run (c' := #[I6 c.v.node, I6 c.v.boot, I6 c.v.seq, I6 c.v.time, I6 c.v.kind, U4 0, I6 0, I6 0, .slice none 0 0, U4 c.v.dip, U4 0, .bool c.v.up]) Tryz.prog cj 2 4 au 11 (.bool c.v.up) rfl (by kernel_rfl)
    have cm := aO.trans cl (by first | (simp; done) | (simp [*]; done) | (have q_ := aO.size; simp; omega))
    refine WDu 7 ck cm (WDd (QXn (bo _ _ (WCs (fun du bq => WCg (WLo 45 (P0 au 0) (.agg #[I6 c.v.node, I6 c.v.boot, I6 c.v.seq, I6 c.v.time, I6 c.v.kind, U4 0, I6 0, I6 0, .slice none 0 0, U4 c.v.dip, U4 0, .bool c.v.up]) 105 (run_ld (bp.get 2 rfl) rfl) ?_))))))
    refine WLq 1 [(106, .bool (isHome c.v.dip))] (WLv (c' := #[I6 c.v.node, I6 c.v.boot, I6 c.v.seq, I6 c.v.time, I6 c.v.kind, U4 0, I6 0, I6 0, .slice none 0 0, U4 c.v.dip, U4 0, .bool c.v.up]) bp 1 45 g8 0 (.agg #[I6 c.v.node, I6 c.v.boot, I6 c.v.seq, I6 c.v.time, I6 c.v.kind, U4 0, I6 0, I6 0, .slice none 0 0, U4 c.v.dip, U4 0, .bool c.v.up]) (fun dv cP br => WLq 1 [(3, .bool (isHome c.v.dip))] (WLd rfl (QXn (bq _ _ (WC.ret (QXk (QXr ?_))))))))
    refine (hret' _ _ (.tuple #[.agg #[I6 c.v.node, I6 c.v.boot, I6 c.v.seq, I6 c.v.time, I6 c.v.kind, U4 0, I6 0, I6 0, .slice none 0 0, U4 c.v.dip, U4 0, .bool c.v.up], .bool (isHome c.v.dip)]) (fun a ha => ?_) ?_).1
    ·
     exact res_run ha ((ResR.cell rfl (run_ld (br.get 1 rfl) rfl) (ResR.tmp rfl ResR.nil))) rfl
    clear hN hret hret' bq bo aN ap am al ak aj ai ah hK2
    have hm_ : saidM c = (⟨⟨c.v.node, c.v.boot, c.v.seq, c.v.time, c.v.kind, 0, 0, 0, [], c.v.dip, 0, c.v.up⟩, none, 0⟩ : Cmd) := by unfold saidM; rw [if_neg (by simpa using ad), if_neg (by simpa using ae), if_pos (by simpa using ar)]
    have hb_ : saidB c.v = (isHome c.v.dip) := by unfold saidB; rw [if_neg (by simpa using ad), if_neg (by simpa using ae), if_pos (by simpa using ar)] <;> (first | rfl | (simp []; done) | (simp_all; done) | (rw [Bool.eq_iff_iff]; simp_all <;> omega))
    rw [hm_, hb_]
    exact ⟨rfl, br.fr⟩
   ·
    have cJ : ¬ (c.v.kind = 3) := by simpa using ar
    refine WCf rfl (WCs (fun dw aY => WCg (WLz 2 [(107, .bool (c.v.kind == 4))] (WLd rfl (QXn (aY _ _ (WCa 107 (c.v.kind == 4) rfl (fun aB => ?_) (fun aB => ?_))))))))
    ·
     have cK : c.v.kind = 4 := by simpa using aB
     refine WCt rfl (WCs (fun dx bs => WCg (WLq 1 [(109, P0 g3 9)] (WLo 40 (P0 g3 9) (U4 c.v.dip) 110 (run_ld (aE.get 0 rfl) rfl) (WLq 1 [(111, P0 au 9)] (WLv (c' := #[I6 c.v.node, I6 c.v.boot, I6 c.v.seq, I6 c.v.time, I6 c.v.kind, U4 0, I6 0, I6 0, .slice none 0 0, U4 c.v.dip, U4 0, .bool false]) aE 2 40 au 9 (U4 c.v.dip) (fun dy cQ bt => ?_)))))))
     refine WLd rfl (QXn (bs _ _ (WCs (fun dz bu => WCg (WLo 45 (P0 au 0) (.agg #[I6 c.v.node, I6 c.v.boot, I6 c.v.seq, I6 c.v.time, I6 c.v.kind, U4 0, I6 0, I6 0, .slice none 0 0, U4 c.v.dip, U4 0, .bool false]) 112 (run_ld (bt.get 2 rfl) rfl) (WLq 1 [(113, .bool (isHome c.v.dip))] (WLv (c' := #[I6 c.v.node, I6 c.v.boot, I6 c.v.seq, I6 c.v.time, I6 c.v.kind, U4 0, I6 0, I6 0, .slice none 0 0, U4 c.v.dip, U4 0, .bool false]) bt 1 45 g8 0 (.agg #[I6 c.v.node, I6 c.v.boot, I6 c.v.seq, I6 c.v.time, I6 c.v.kind, U4 0, I6 0, I6 0, .slice none 0 0, U4 c.v.dip, U4 0, .bool false]) (fun dA cR bv => ?_))))))))
     refine WLq 1 [(3, .bool (isHome c.v.dip))] (WLd rfl (QXn (bu _ _ (WC.ret (QXk (QXr ?_))))))
     refine (hret' _ _ (.tuple #[.agg #[I6 c.v.node, I6 c.v.boot, I6 c.v.seq, I6 c.v.time, I6 c.v.kind, U4 0, I6 0, I6 0, .slice none 0 0, U4 c.v.dip, U4 0, .bool false], .bool (isHome c.v.dip)]) (fun a ha => ?_) ?_).1
     ·
      exact res_run ha ((ResR.cell rfl (run_ld (bv.get 1 rfl) rfl) (ResR.tmp rfl ResR.nil))) rfl
     clear hN hret hret' bu bs aY aN ap am al ak aj ai ah hK2
     have hm_ : saidM c = (⟨⟨c.v.node, c.v.boot, c.v.seq, c.v.time, c.v.kind, 0, 0, 0, [], c.v.dip, 0, false⟩, none, 0⟩ : Cmd) := by unfold saidM; rw [if_neg (by simpa using ad), if_neg (by simpa using ae), if_neg (by simpa using ar), if_pos (by simpa using aB)]
     have hb_ : saidB c.v = (isHome c.v.dip) := by unfold saidB; rw [if_neg (by simpa using ad), if_neg (by simpa using ae), if_neg (by simpa using ar), if_pos (by simpa using aB)] <;> (first | rfl | (simp []; done) | (simp_all; done) | (rw [Bool.eq_iff_iff]; simp_all <;> omega))
     rw [hm_, hb_]
     exact ⟨rfl, bv.fr⟩
    ·
     have cK : ¬ (c.v.kind = 4) := by simpa using aB
     refine WCf rfl (WC.skip (QXb (QXn (ak _ _ (WCs (fun dB bw => WCg (WLo 45 (P0 au 0) (.agg #[I6 c.v.node, I6 c.v.boot, I6 c.v.seq, I6 c.v.time, I6 c.v.kind, U4 0, I6 0, I6 0, .slice none 0 0, U4 0, U4 0, .bool false]) 114 (run_ld (aE.get 2 rfl) rfl) ?_)))))))
     refine WLv (c' := #[I6 c.v.node, I6 c.v.boot, I6 c.v.seq, I6 c.v.time, I6 c.v.kind, U4 0, I6 0, I6 0, .slice none 0 0, U4 0, U4 0, .bool false]) aE 1 45 g8 0 (.agg #[I6 c.v.node, I6 c.v.boot, I6 c.v.seq, I6 c.v.time, I6 c.v.kind, U4 0, I6 0, I6 0, .slice none 0 0, U4 0, U4 0, .bool false]) (fun dC cS bx => WLq 1 [(3, .bool false)] (WLd rfl (QXn (bw _ _ (WC.ret ?_)))))
     refine (hret' _ _ (.tuple #[.agg #[I6 c.v.node, I6 c.v.boot, I6 c.v.seq, I6 c.v.time, I6 c.v.kind, U4 0, I6 0, I6 0, .slice none 0 0, U4 0, U4 0, .bool false], .bool false]) (fun a ha => ?_) ?_).1
     ·
      exact res_run ha ((ResR.cell rfl (run_ld (bx.get 1 rfl) rfl) (ResR.tmp rfl ResR.nil))) rfl
     clear hN hret hret' bw aY aN ap am al ak aj ai ah hK2
     have hm_ : saidM c = (⟨⟨c.v.node, c.v.boot, c.v.seq, c.v.time, c.v.kind, 0, 0, 0, [], 0, 0, false⟩, none, 0⟩ : Cmd) := by unfold saidM; rw [if_neg (by simpa using ad), if_neg (by simpa using ae), if_neg (by simpa using ar), if_neg (by simpa using aB)]
     have hb_ : saidB c.v = false := by unfold saidB; rw [if_neg (by simpa using ad), if_neg (by simpa using ae), if_neg (by simpa using ar), if_neg (by simpa using aB)]
     rw [hm_, hb_]
     exact ⟨rfl, bx.fr⟩

theorem saidM_at {w : World} {m : Cmd} (h : cmdAt w m) : cmdAt w (saidM m) := by
  unfold saidM
  have z : isU32 0 := ⟨by decide, by decide⟩
  have z2 : isI64 0 := ⟨by decide, by decide⟩
  have hw := h.wf
  split
  · exact ⟨h.rd, ⟨hw.node, hw.boot, hw.seq, hw.time, hw.kind, hw.svip, hw.sproto, hw.sport, z, z, hw.ends⟩, h.lim, h.cap⟩
  · split
    · exact ⟨Rd.nil _ _ _ _, ⟨hw.node, hw.boot, hw.seq, hw.time, hw.kind, z, z2, z2, hw.dip, hw.vip, fun _ h_ => (nomatch h_)⟩, Nat.zero_le _, Nat.zero_le _⟩
    · split
      · exact ⟨Rd.nil _ _ _ _, ⟨hw.node, hw.boot, hw.seq, hw.time, hw.kind, z, z2, z2, hw.dip, z, fun _ h_ => (nomatch h_)⟩, Nat.zero_le _, Nat.zero_le _⟩
      · split
        · exact ⟨Rd.nil _ _ _ _, ⟨hw.node, hw.boot, hw.seq, hw.time, hw.kind, z, z2, z2, hw.dip, z, fun _ h_ => (nomatch h_)⟩, Nat.zero_le _, Nat.zero_le _⟩
        · exact ⟨Rd.nil _ _ _ _, ⟨hw.node, hw.boot, hw.seq, hw.time, hw.kind, z, z2, z2, z, z, fun _ h_ => (nomatch h_)⟩, Nat.zero_le _, Nat.zero_le _⟩
theorem cmdAt.fr0 {w w' : World} {m : Cmd} (h : cmdAt w m) (hf : Fr w w' []) : cmdAt w' m := ⟨Rd.fr h.rd hf, h.wf, h.lim, h.cap⟩
set_option maxHeartbeats 1000000 in
theorem Check_ct (c : Cmd) (w : World) (h : cmdAt w c) : Calls Tryz.prog 57 #[.agg #[I6 c.v.node, I6 c.v.boot, I6 c.v.seq, I6 c.v.time, I6 c.v.kind, U4 c.v.svip, I6 c.v.sproto, I6 c.v.sport, .slice c.a c.v.ends.length c.c, U4 c.v.dip, U4 c.v.vip, .bool c.v.up]] w fun e w' => e = .returned (errV 118 (if goodC c.v then 0 else 9)) ∧ Fr w w' [] := by
 refine enterD (n := 45) Tryz.func57 rfl rfl (Nat.le_of_ble_eq_true rfl) ?_
 intro Q0 hN hret hret'
 have hC := Cx.start w
 refine WCs (fun K1 hK2 => WCg (WLb hC (.cells #[I6 c.v.node, I6 c.v.boot, I6 c.v.seq, I6 c.v.time, I6 c.v.kind, U4 c.v.svip, I6 c.v.sproto, I6 c.v.sport, .slice c.a c.v.ends.length c.c, U4 c.v.dip, U4 c.v.vip, .bool c.v.up] 45) 1 (fun g3 w4 hb7 hF5 hC6 => WLq 1 [(2, .nilIface)] (WLd rfl (QXn (hK2 _ _ (WCs (fun K8 hK9 => WCs (fun aY aa => ?_)))))))))
 refine WCg (WLq 1 [(7, P0 g3 1)] (WLo 3 (P0 g3 1) (I6 c.v.boot) 8 (run_ld (hC6.get 0 rfl) rfl) (WLq 1 [(9, P0 g3 2)] (WLo 3 (P0 g3 2) (I6 c.v.seq) 10 (run_ld (hC6.get 0 rfl) rfl) (WLq 1 [(11, P0 g3 3)] (WLo 3 (P0 g3 3) (I6 c.v.time) 12 (run_ld (hC6.get 0 rfl) rfl) ?_))))))
 refine WLq 2 [(14, I6 0), (13, .agg #[I6 c.v.boot, I6 c.v.seq, I6 c.v.time])] (WLd rfl (QXn (aa _ _ (WC.block (WC.loop (fun m_ E_ w_ => ∃ (k : Nat), m_ = 3 - k ∧ E_ = [(0, .agg #[I6 c.v.node, I6 c.v.boot, I6 c.v.seq, I6 c.v.time, I6 c.v.kind, U4 c.v.svip, I6 c.v.sproto, I6 c.v.sport, .slice c.a c.v.ends.length c.c, U4 c.v.dip, U4 c.v.vip, .bool c.v.up]), (1, P0 g3 0), (7, P0 g3 1), (8, I6 c.v.boot), (9, P0 g3 2), (10, I6 c.v.seq), (11, P0 g3 3), (12, I6 c.v.time), (13, .agg ([c.v.boot, c.v.seq, c.v.time].flatMap (Go.Tw.encI .i64)).toArray), (14, I6 (k : Int))] ∧ Cx w [] w_ [(g3, .cells #[I6 c.v.node, I6 c.v.boot, I6 c.v.seq, I6 c.v.time, I6 c.v.kind, U4 c.v.svip, I6 c.v.sproto, I6 c.v.sport, .slice c.a c.v.ends.length c.c, U4 c.v.dip, U4 c.v.vip, .bool c.v.up] 45)] [] ∧ (k ≤ 3 ∧ (1 ≤ k → timB c.v.boot = true) ∧ (2 ≤ k → timB c.v.seq = true) ∧ (3 ≤ k → timB c.v.time = true))) ⟨_, _, ⟨0, rfl, rfl, hC6, by omega, by omega, by omega, by omega⟩, sub_of ⟨rfl, rfl, rfl, rfl, rfl, rfl, rfl, rfl, rfl, rfl, trivial⟩⟩ (fun m15 E_ aP aZ aF aG => ?_))))))
 obtain ⟨k, rfl, rfl, ae, hk, hk1, hk2, hk3⟩ := aG
 have hl3_ : ([c.v.boot, c.v.seq, c.v.time]).length = 3 := rfl
 refine WCs (fun a0 ab => WCg (WLq 1 [(15, .bool (decide ((k : Int) < 3)))] (WLd rfl (QXn (ab _ _ (WCs (fun a1 ac => WCa 15 (decide ((k : Int) < 3)) rfl (fun an => ?_) (fun an => ?_))))))))
 ·
  have aQ : (k : Int) < 3 := by have q_ := of_decide_eq_true an; omega
  refine WCt rfl (WC.skip (QXn (ac _ _ (WCs (fun a2 ao => WC.block (WCs (fun a3 ap => ?_)))))))
  refine WCg ?_
  obtain ⟨ag, av⟩ := get_some (xs := [c.v.boot, c.v.seq, c.v.time]) (i := k) (by omega)
  refine WL.indexA (enc := (Go.Tw.encI .i64)) [c.v.boot, c.v.seq, c.v.time] 117 3 3 k .i64 (k : Int) ag (I6 ag) 16 (by kernel_rfl) (by kernel_rfl) (Go.Tw.encI_len _) (by kernel_rfl) (by omega) (by omega) av rfl ?_
  have hke_ := times_el av
  refine WLq 1 [(4, I6 ag)] (WLd rfl (QXn (ap _ _ (WCs (fun a4 am => WCg (WLz 3 [(19, .bool (decide (ag < 0)))] (WLa 19 (decide (ag < 0)) rfl (fun aq => ?_) (fun aq => ?_))))))))
  ·
   have aR : ag < 0 := by have q_ := of_decide_eq_true aq; omega
   refine WLz 3 [(22, .bool true)] (WLd rfl (QXn (am _ _ (WCt rfl (WCs (fun a5 aw => WCg (WLz 2 [(2, .iface 118 (I6 9))] (WLd rfl (QXn (aw _ _ (WC.ret ?_)))))))))))
   refine QXk (QXr (QXr (QXk (QXr ?_))))
   refine (hret _ _ _ rfl ?_).1
   clear hN hret hret' aw am ap ao ac ab aa hK9 hK2
   have hg_ : goodC c.v = false := goodC_tim (by rcases hke_ with ⟨rfl, e_⟩ | ⟨rfl, e_⟩ | ⟨rfl, e_⟩ <;> rw [← e_]; exact .inl (timB_no (by omega)); exact .inr (.inl (timB_no (by omega))); exact .inr (.inr (timB_no (by omega))))
   rw [hg_]
   exact ⟨rfl, ae.fr⟩
  ·
   have aR : (0 : Int) ≤ ag := by have q_ := of_decide_eq_false aq; omega
   refine WLz 3 [(22, .bool (decide (ag > 1099511627776)))] (WLd rfl (QXn (am _ _ (WCa 22 (decide (ag > 1099511627776)) rfl (fun ar => ?_) (fun ar => ?_)))))
   ·
    have aS : (1099511627776 : Int) < ag := by have q_ := of_decide_eq_true ar; omega
    refine WCt rfl (WCs (fun a6 ax => WCg (WLz 2 [(2, .iface 118 (I6 9))] (WLd rfl (QXn (ax _ _ (WC.ret (QXk ?_))))))))
    refine QXr (QXr (QXk (QXr ?_)))
    refine (hret _ _ _ rfl ?_).1
    clear hN hret hret' ax am ap ao ac ab aa hK9 hK2
    have hg_ : goodC c.v = false := goodC_tim (by rcases hke_ with ⟨rfl, e_⟩ | ⟨rfl, e_⟩ | ⟨rfl, e_⟩ <;> rw [← e_]; exact .inl (timB_no (by omega)); exact .inr (.inl (timB_no (by omega))); exact .inr (.inr (timB_no (by omega))))
    rw [hg_]
    exact ⟨rfl, ae.fr⟩
   ·
    have aS : ag ≤ 1099511627776 := by have q_ := of_decide_eq_false ar; omega
    refine WCf rfl (WC.skip (QXb (QXn (ao _ _ (WCg (WLq 1 [(24, I6 (IntKind.i64.wrap ((k : Int) + 1)))] (WLt (show (I6 (IntKind.i64.wrap ((k : Int) + 1)) : Value) = I6 ((k : Int) + 1) from by rw [wrap_in_i64 ((k : Int) + 1) (by omega) (by omega)]) (WLq 1 [(14, I6 ((k : Int) + 1))] ?_))))))))
    refine WLd rfl (QXn ?_)
    have aH := ae.pick [0] [] rfl rfl
    refine fun a_ ha_ => aF _ _ _ ?_ ⟨k + 1, rfl, rfl, aH, by omega, by rcases hke_ with ⟨rfl, e_⟩ | ⟨rfl, e_⟩ | ⟨rfl, e_⟩ <;> intro h_ <;> first | omega | (rw [← e_]; exact timB_yes (by omega) (by omega)) | (exact hk1 (by omega)), by rcases hke_ with ⟨rfl, e_⟩ | ⟨rfl, e_⟩ | ⟨rfl, e_⟩ <;> intro h_ <;> first | omega | (rw [← e_]; exact timB_yes (by omega) (by omega)) | (exact hk2 (by omega)), by rcases hke_ with ⟨rfl, e_⟩ | ⟨rfl, e_⟩ | ⟨rfl, e_⟩ <;> intro h_ <;> first | omega | (rw [← e_]; exact timB_yes (by omega) (by omega)) | (exact hk3 (by omega))⟩ a_ (ha_.weaken (sub_of ⟨rfl, rfl, rfl, rfl, rfl, rfl, rfl, rfl, rfl, rfl, trivial⟩))
    omega
 ·
  have aQ : (3 : Int) ≤ (k : Int) := by have q_ := of_decide_eq_false an; omega
  refine WCf rfl (WC.exit (QXe (QXe (QX.block_hit (QXn (hK9 _ _ ?_))))))
  refine WCs (fun a7 ah => WCg (WLo 45 (P0 g3 0) (.agg #[I6 c.v.node, I6 c.v.boot, I6 c.v.seq, I6 c.v.time, I6 c.v.kind, U4 c.v.svip, I6 c.v.sproto, I6 c.v.sport, .slice c.a c.v.ends.length c.c, U4 c.v.dip, U4 c.v.vip, .bool c.v.up]) 26 (run_ld (ae.get 0 rfl) rfl) (WLk (said_ct c aP (cmdAt.fr0 h ae.fr)) ?_)))
  rintro _ a8 ⟨rfl, aI⟩
  refine ⟨_, rfl, ?_⟩
  have aJ := ae.call aI
  refine WLz 3 [(29, .bool (saidB c.v)), (28, .agg #[I6 (((saidM c).v).node), I6 (((saidM c).v).boot), I6 (((saidM c).v).seq), I6 (((saidM c).v).time), I6 (((saidM c).v).kind), U4 (((saidM c).v).svip), I6 (((saidM c).v).sproto), I6 (((saidM c).v).sport), .slice ((saidM c).a) ((saidM c).v.ends.length) ((saidM c).c), U4 (((saidM c).v).dip), U4 (((saidM c).v).vip), .bool (((saidM c).v).up)])] (WLb aJ (.cells #[I6 0, I6 0, I6 0, I6 0, I6 0, U4 0, I6 0, I6 0, .slice none 0 0, U4 0, U4 0, .bool false] 45) 5 (fun aO a9 aT aU aK => WLv (c' := #[I6 (((saidM c).v).node), I6 (((saidM c).v).boot), I6 (((saidM c).v).seq), I6 (((saidM c).v).time), I6 (((saidM c).v).kind), U4 (((saidM c).v).svip), I6 (((saidM c).v).sproto), I6 (((saidM c).v).sport), .slice ((saidM c).a) ((saidM c).v.ends.length) ((saidM c).c), U4 (((saidM c).v).dip), U4 (((saidM c).v).vip), .bool (((saidM c).v).up)]) aK 1 45 aO 0 (.agg #[I6 (((saidM c).v).node), I6 (((saidM c).v).boot), I6 (((saidM c).v).seq), I6 (((saidM c).v).time), I6 (((saidM c).v).kind), U4 (((saidM c).v).svip), I6 (((saidM c).v).sproto), I6 (((saidM c).v).sport), .slice ((saidM c).a) ((saidM c).v.ends.length) ((saidM c).c), U4 (((saidM c).v).dip), U4 (((saidM c).v).vip), .bool (((saidM c).v).up)]) (fun aV aW au => WLq 1 [(6, .bool (saidB c.v))] (WLd rfl (QXn (ah _ _ (WCs (fun ba ai => WCs (fun bb ad => ?_)))))))))
  refine WCg (WLz 3 [(32, .bool (!(saidB c.v)))] (WLa 32 (!(saidB c.v)) rfl (fun aj => ?_) (fun aj => ?_)))
  ·
   have ay : (saidB c.v) = false := by first | (simpa only [Bool.not_eq_true', Bool.not_eq_false'] using aj) | simpa using aj
   refine WLz 11 [(43, .bool true)] (WLd rfl (QXn (ad _ _ (WCt rfl (WCs (fun bc az => WCg (WLz 2 [(2, .iface 118 (I6 9))] (WLd rfl (QXn (az _ _ (WC.ret ?_)))))))))))
   refine QXr ?_
   refine (hret _ _ _ rfl ?_).1
   clear hN hret hret' az ad ai ah ac ab aa hK9 hK2
   have hg_ : goodC c.v = false := by rw [chk_eq c (hk1 (by omega)) (hk2 (by omega)) (hk3 (by omega)), ay]; try simp
   rw [hg_]
   exact ⟨rfl, au.fr⟩
  ·
   have ay : (saidB c.v) = true := by first | (simpa only [Bool.not_eq_true', Bool.not_eq_false'] using aj) | simpa using aj
   refine WLq 1 [(33, P0 g3 0)] (WLo 3 (P0 g3 0) (I6 c.v.node) 34 (run_ld (au.get 0 rfl) rfl) (WLk (manager_ct c.v.node aV h.wf.node) ?_))
   rintro _ aX ⟨rfl, aL⟩
   refine ⟨_, rfl, ?_⟩
   have af := au.call aL
   refine WLz 3 [(38, .bool (!(mgrB c.v.node)))] (WLa 38 (!(mgrB c.v.node)) rfl (fun ak => ?_) (fun ak => ?_))
   ·
    have aE : (mgrB c.v.node) = false := by first | (simpa only [Bool.not_eq_true', Bool.not_eq_false'] using ak) | simpa using ak
    refine WLz 5 [(43, .bool true)] (WLd rfl (QXn (ad _ _ (WCt rfl (WCs (fun bd aA => WCg (WLz 2 [(2, .iface 118 (I6 9))] (WLd rfl (QXn (aA _ _ (WC.ret ?_)))))))))))
    refine QXr ?_
    refine (hret _ _ _ rfl ?_).1
    clear hN hret hret' aA ad ai ah ac ab aa hK9 hK2
    have hg_ : goodC c.v = false := by rw [chk_eq c (hk1 (by omega)) (hk2 (by omega)) (hk3 (by omega)), ay, aE]; try simp
    rw [hg_]
    exact ⟨rfl, af.fr⟩
   ·
    have aE : (mgrB c.v.node) = true := by first | (simpa only [Bool.not_eq_true', Bool.not_eq_false'] using ak) | simpa using ak
    refine WLo 45 (P0 g3 0) (.agg #[I6 c.v.node, I6 c.v.boot, I6 c.v.seq, I6 c.v.time, I6 c.v.kind, U4 c.v.svip, I6 c.v.sproto, I6 c.v.sport, .slice c.a c.v.ends.length c.c, U4 c.v.dip, U4 c.v.vip, .bool c.v.up]) 39 (run_ld (af.get 0 rfl) rfl) (WLo 45 (P0 aO 0) (.agg #[I6 (((saidM c).v).node), I6 (((saidM c).v).boot), I6 (((saidM c).v).seq), I6 (((saidM c).v).time), I6 (((saidM c).v).kind), U4 (((saidM c).v).svip), I6 (((saidM c).v).sproto), I6 (((saidM c).v).sport), .slice ((saidM c).a) ((saidM c).v.ends.length) ((saidM c).c), U4 (((saidM c).v).dip), U4 (((saidM c).v).vip), .bool (((saidM c).v).up)]) 40 (run_ld (af.get 1 rfl) rfl) (WLk (like_ct c (⟨⟨((saidM c).v).node, ((saidM c).v).boot, ((saidM c).v).seq, ((saidM c).v).time, ((saidM c).v).kind, ((saidM c).v).svip, ((saidM c).v).sproto, ((saidM c).v).sport, (saidM c).v.ends, ((saidM c).v).dip, ((saidM c).v).vip, ((saidM c).v).up⟩, (saidM c).a, (saidM c).c⟩ : Cmd) aX (cmdAt.fr0 h af.fr) (saidM_at (cmdAt.fr0 h af.fr))) ?_))
    rintro _ be ⟨rfl, aM⟩
    refine ⟨_, rfl, ?_⟩
    have aB := af.call aM
    refine WLz 2 [(43, .bool (!(decide (c.v = (⟨⟨((saidM c).v).node, ((saidM c).v).boot, ((saidM c).v).seq, ((saidM c).v).time, ((saidM c).v).kind, ((saidM c).v).svip, ((saidM c).v).sproto, ((saidM c).v).sport, (saidM c).v.ends, ((saidM c).v).dip, ((saidM c).v).vip, ((saidM c).v).up⟩, (saidM c).a, (saidM c).c⟩ : Cmd).v))))] (WLd rfl (QXn (ad _ _ (WCa 43 (!(decide (c.v = (⟨⟨((saidM c).v).node, ((saidM c).v).boot, ((saidM c).v).seq, ((saidM c).v).time, ((saidM c).v).kind, ((saidM c).v).svip, ((saidM c).v).sproto, ((saidM c).v).sport, (saidM c).v.ends, ((saidM c).v).dip, ((saidM c).v).vip, ((saidM c).v).up⟩, (saidM c).a, (saidM c).c⟩ : Cmd).v))) rfl (fun al => ?_) (fun al => ?_)))))
    ·
     have aN : (decide (c.v = (⟨⟨((saidM c).v).node, ((saidM c).v).boot, ((saidM c).v).seq, ((saidM c).v).time, ((saidM c).v).kind, ((saidM c).v).svip, ((saidM c).v).sproto, ((saidM c).v).sport, (saidM c).v.ends, ((saidM c).v).dip, ((saidM c).v).vip, ((saidM c).v).up⟩, (saidM c).a, (saidM c).c⟩ : Cmd).v)) = false := by first | (simpa only [Bool.not_eq_true', Bool.not_eq_false'] using al) | simpa using al
     refine WCt rfl (WCs (fun bf aC => WCg (WLz 2 [(2, .iface 118 (I6 9))] (WLd rfl (QXn (aC _ _ (WC.ret (QXr ?_))))))))
     refine (hret _ _ _ rfl ?_).1
     clear hN hret hret' aC ad ai ah ac ab aa hK9 hK2
     have hg_ : goodC c.v = false := by rw [chk_eq c (hk1 (by omega)) (hk2 (by omega)) (hk3 (by omega)), ay, aE, aN]; try simp
     rw [hg_]
     exact ⟨rfl, aB.fr⟩
    ·
     have aN : (decide (c.v = (⟨⟨((saidM c).v).node, ((saidM c).v).boot, ((saidM c).v).seq, ((saidM c).v).time, ((saidM c).v).kind, ((saidM c).v).svip, ((saidM c).v).sproto, ((saidM c).v).sport, (saidM c).v.ends, ((saidM c).v).dip, ((saidM c).v).vip, ((saidM c).v).up⟩, (saidM c).a, (saidM c).c⟩ : Cmd).v)) = true := by first | (simpa only [Bool.not_eq_true', Bool.not_eq_false'] using al) | simpa using al
     refine WCf rfl (WC.skip (QXn (ai _ _ (WCs (fun bg aD => WCg (WLq 1 [(2, .nilIface)] (WLd rfl (QXn (aD _ _ (WC.ret ?_))))))))))
     refine (hret _ _ _ rfl ?_).1
     clear hN hret hret' aD ad ai ah ac ab aa hK9 hK2
     have hg_ : goodC c.v = true := by rw [chk_eq c (hk1 (by omega)) (hk2 (by omega)) (hk3 (by omega)), ay, aE, aN]; rfl
     rw [hg_]
     exact ⟨rfl, aB.fr⟩

end Go.Proofs.YtfligklljkcbfaaGreatDoor
