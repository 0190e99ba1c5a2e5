/- Contracts of functions of the program, each proved by a walk through its code; conditions stand in the statements. -/
import Derived.Test.YtfligklljkcbfaaDoorStA16
namespace Go.Proofs.YtfligklljkcbfaaDoor
set_option linter.unusedSimpArgs false
set_option linter.unusedVariables false
set_option linter.unusedSectionVars false
open Go Go.RowKit Go.Tw
set_option linter.unusedVariables false
set_option maxRecDepth 20000
def anyDip (e : EndV) (xs : List EndV) : Bool := xs.any fun d => d.dip == e.dip
theorem any_snocD {e : EndV} {xs : List EndV} {i : Nat} {d : EndV} (h : xs[i]? = some d) : anyDip e (xs.take (i + 1)) = (anyDip e (xs.take i) || (d.dip == e.dip)) := by
  obtain ⟨hi, rfl⟩ := List.getElem?_eq_some_iff.1 h
  unfold anyDip; rw [List.take_succ_eq_append_getElem hi, List.any_append]; simp
theorem any_subD {e : EndV} {xs : List EndV} {i : Nat} (h : anyDip e (xs.take i) = true) : anyDip e xs = true := by
  unfold anyDip at h ⊢
  rw [List.any_eq_true] at h ⊢
  obtain ⟨d, hd, he⟩ := h
  exact ⟨d, List.mem_of_mem_take hd, he⟩
theorem ends_step {ends : List EndV} {i : Nat} {e : EndV} (he : ends[i]? = some e) (hall : (ends.take i).all goodE1 = true) (hnd : ((ends.take i).map (·.dip)).Nodup) (h1 : goodE1 e = true) (h2 : anyDip e (ends.take i) = false) : (ends.take (i + 1)).all goodE1 = true ∧ ((ends.take (i + 1)).map (·.dip)).Nodup := by
  obtain ⟨hi, rfl⟩ := List.getElem?_eq_some_iff.1 he
  rw [List.take_succ_eq_append_getElem hi]
  refine ⟨by rw [List.all_append, hall]; simp [h1], ?_⟩
  rw [List.map_append, List.nodup_append]
  refine ⟨hnd, by simp, fun a ha b hb => ?_⟩
  simp only [List.map_cons, List.map_nil, List.mem_singleton] at hb
  subst hb
  obtain ⟨d, hd, rfl⟩ := List.mem_map.1 ha
  intro hx
  have : anyDip ends[i] (ends.take i) = true := by unfold anyDip; rw [List.any_eq_true]; exact ⟨d, hd, by simp [hx]⟩
  rw [h2] at this; cases this
theorem ends_bad1 {ends : List EndV} {i : Nat} {e : EndV} (he : ends[i]? = some e) (h1 : goodE1 e = false) : goodE ends = false := by
  unfold goodE
  have : ends.all goodE1 = false := by
    rw [Bool.eq_false_iff]; intro h; rw [List.all_eq_true] at h
    have := h e (List.mem_of_getElem? he); rw [h1] at this; cases this
  rw [this]; simp
theorem ends_bad2 {ends : List EndV} {i : Nat} {e : EndV} (he : ends[i]? = some e) (h2 : anyDip e (ends.take i) = true) : goodE ends = false := by
  unfold goodE
  have : ¬ (ends.map (·.dip)).Nodup := by
    intro hn
    unfold anyDip at h2
    rw [List.any_eq_true] at h2
    obtain ⟨d, hd, hx⟩ := h2
    obtain ⟨hi, rfl⟩ := List.getElem?_eq_some_iff.1 he
    obtain ⟨j, hj⟩ := List.getElem?_of_mem hd
    rw [List.getElem?_take] at hj
    split at hj
    · rename_i hlt
      have hdj := (List.getElem?_eq_some_iff.1 hj).2
      have hjl := (List.getElem?_eq_some_iff.1 hj).1
      have := (List.getElem_inj (i := j) (j := i) (h₀ := by rw [List.length_map]; omega) (h₁ := by rw [List.length_map]; omega) hn).1 (by
        simp only [List.getElem_map]; rw [hdj]; simpa using hx)
      omega
    · cases hj
  rw [decide_eq_false this]; simp
theorem ends_long {ends : List EndV} (h : 64 < ends.length) : goodE ends = false := by unfold goodE; rw [decide_eq_false (by omega)]; rfl
theorem ends_good {ends : List EndV} (h : ends.length ≤ 64) (hall : ends.all goodE1 = true) (hnd : (ends.map (·.dip)).Nodup) : goodE ends = true := by
  unfold goodE; rw [decide_eq_true h, hall, decide_eq_true hnd]; rfl
theorem goodE1_yes {e : EndV} (h : isHome e.dip = true) (h1 : 0 ≤ e.port) (h2 : e.port ≤ 65535) (h3 : 1 ≤ e.weight) (h4 : e.weight ≤ 16) : goodE1 e = true := by
  unfold goodE1; rw [h, decide_eq_true ⟨h1, h2, h3, h4⟩]; rfl
theorem goodE1_no {e : EndV} (h : e.port < 0 ∨ 65535 < e.port ∨ e.weight < 1 ∨ 16 < e.weight) : goodE1 e = false := by
  unfold goodE1; rw [decide_eq_false (by omega)]; simp
theorem goodE1_home {e : EndV} (h : isHome e.dip = false) : goodE1 e = false := by unfold goodE1; rw [h]; rfl
theorem like_last {a b : CmdV} (h1 : a.node = b.node) (h2 : a.boot = b.boot) (h3 : a.seq = b.seq) (h4 : a.time = b.time) (h5 : a.kind = b.kind) (h6 : a.dip = b.dip) (h7 : a.vip = b.vip) (h8 : a.up = b.up) (h9 : a.svip = b.svip) (h10 : a.sproto = b.sproto) (h11 : a.sport = b.sport) : decide (a.ends = b.ends) = decide (a = b) := by
  cases a; cases b
  simp only at h1 h2 h3 h4 h5 h6 h7 h8 h9 h10 h11
  subst h1 h2 h3 h4 h5 h6 h7 h8 h9 h10 h11
  simp
def saidM (m : Cmd) : Cmd :=
  if m.v.kind = 1 then ⟨⟨m.v.node, m.v.boot, m.v.seq, m.v.time, m.v.kind, m.v.svip, m.v.sproto, m.v.sport, m.v.ends, 0, 0, false⟩, m.a, m.c⟩
  else if m.v.kind = 2 then ⟨⟨m.v.node, m.v.boot, m.v.seq, m.v.time, m.v.kind, 0, 0, 0, [], m.v.dip, m.v.vip, m.v.up⟩, none, 0⟩
  else if m.v.kind = 3 then ⟨⟨m.v.node, m.v.boot, m.v.seq, m.v.time, m.v.kind, 0, 0, 0, [], m.v.dip, 0, m.v.up⟩, none, 0⟩
  else if m.v.kind = 4 then ⟨⟨m.v.node, m.v.boot, m.v.seq, m.v.time, m.v.kind, 0, 0, 0, [], m.v.dip, 0, false⟩, none, 0⟩
  else ⟨⟨m.v.node, m.v.boot, m.v.seq, m.v.time, m.v.kind, 0, 0, 0, [], 0, 0, false⟩, none, 0⟩
def saidB (v : CmdV) : Bool :=
  if v.kind = 1 then isVip v.svip && (decide (v.sproto = 6 ∨ v.sproto = 17) && (decide (1 ≤ v.sport ∧ v.sport ≤ 1023) && goodE v.ends))
  else if v.kind = 2 then isHome v.dip && (v.up && isVip v.vip || !v.up && decide (v.vip = 0))
  else if v.kind = 3 then isHome v.dip
  else if v.kind = 4 then isHome v.dip
  else false
theorem chk_eq (m : Cmd) (h1 : timB m.v.boot = true) (h2 : timB m.v.seq = true) (h3 : timB m.v.time = true) : goodC m.v = (saidB m.v && (mgrB m.v.node && decide (m.v = (saidM m).v))) := by
  obtain ⟨⟨node, boot, seq, time, kind, svip, sproto, sport, ends, dip, vip, up⟩, a, c⟩ := m
  simp only at h1 h2 h3
  unfold goodC saidB saidM goodK noneS
  simp only [h1, h2, h3, Bool.true_and]
  by_cases k1 : kind = 1
  · subst k1; simp only [if_true, CmdV.mk.injEq, true_and]
    cases mgrB node <;> cases isVip svip <;> cases decide (sproto = 6 ∨ sproto = 17) <;> cases decide (1 ≤ sport ∧ sport ≤ 1023) <;> cases goodE ends <;> simp
  · rw [if_neg k1, if_neg k1, if_neg k1]
    by_cases k2 : kind = 2
    · subst k2; simp only [if_true, CmdV.mk.injEq, true_and, and_true]
      generalize (up && isVip vip || !up && decide (vip = 0)) = B1
      cases mgrB node <;> cases isHome dip <;> cases B1 <;> simp
    · rw [if_neg k2, if_neg k2, if_neg k2]
      by_cases k3 : kind = 3
      · subst k3; simp only [if_true, CmdV.mk.injEq, true_and, and_true]
        cases mgrB node <;> cases isHome dip <;> simp [and_assoc]
        all_goals (by_cases q : vip = 0 <;> simp [q])
      · rw [if_neg k3, if_neg k3, if_neg k3]
        by_cases k4 : kind = 4
        · subst k4; simp only [if_true, CmdV.mk.injEq, true_and, and_true]
          cases mgrB node <;> cases isHome dip <;> cases up <;> simp [and_assoc]
          all_goals (by_cases q : vip = 0 <;> simp [q])
        · rw [if_neg k4, if_neg k4, if_neg k4]; simp
theorem times_el {a b c : Int} {k : Nat} {e : Int} (h : [a, b, c][k]? = some e) : (k = 0 ∧ e = a) ∨ (k = 1 ∧ e = b) ∨ (k = 2 ∧ e = c) := by
  match k, h with
  | 0, h => exact .inl ⟨rfl, by simpa using h.symm⟩
  | 1, h => exact .inr (.inl ⟨rfl, by simpa using h.symm⟩)
  | 2, h => exact .inr (.inr ⟨rfl, by simpa using h.symm⟩)
  | _ + 3, h => simp at h
theorem timB_yes {x : Int} (h : 0 ≤ x) (h1 : x ≤ 1099511627776) : timB x = true := decide_eq_true ⟨h, h1⟩
theorem timB_no {x : Int} (h : x < 0 ∨ 1099511627776 < x) : timB x = false := decide_eq_false (by omega)
theorem goodC_tim {v : CmdV} (h : timB v.boot = false ∨ timB v.seq = false ∨ timB v.time = false) : goodC v = false := by
  unfold goodC; rcases h with h | h | h <;> rw [h] <;> simp
/-! ### logs in form -/
abbrev Idm := List ((Int × Int × Int) × Int)
theorem endV_ext {a b : EndV} : a = b ↔ a.dip = b.dip ∧ a.port = b.port ∧ a.weight = b.weight := by
  cases a; cases b; simp
theorem endV_beq (a b : EndV) : (a.dip == b.dip && (a.port == b.port && (a.weight == b.weight && true))) = decide (a = b) := by
  rw [Bool.eq_iff_iff, decide_eq_true_eq, endV_ext]; simp
theorem eq_snocE {xs ys : List EndV} {i : Nat} {a b : EndV} (h : xs.take i = ys.take i) (ha : xs[i]? = some a) (hb : ys[i]? = some b) (he : (!(a.dip == b.dip && (a.port == b.port && (a.weight == b.weight && true)))) = false) : xs.take (i + 1) = ys.take (i + 1) := by
  rw [endV_beq] at he
  have e : a = b := by simpa using he
  subst e
  obtain ⟨hi, h1⟩ := List.getElem?_eq_some_iff.1 ha
  obtain ⟨hj, h2⟩ := List.getElem?_eq_some_iff.1 hb
  rw [List.take_succ_eq_append_getElem hi, List.take_succ_eq_append_getElem hj, h, h1, h2]
theorem eq_missE {xs ys : List EndV} {i : Nat} {a b : EndV} (ha : xs[i]? = some a) (hb : ys[i]? = some b) (he : (!(a.dip == b.dip && (a.port == b.port && (a.weight == b.weight && true)))) = true) : decide (xs = ys) = false := by
  rw [endV_beq] at he
  refine decide_eq_false fun e => ?_
  subst e
  rw [ha] at hb; cases hb; simp at he
theorem EqualE_ct (A B : Option Addr) (c d : Nat) (xs ys : List EndV) (w : World) (hA : Rd w 3 cellsE A xs) (hB : Rd w 3 cellsE B ys) (hlx : xs.length ≤ 1099511627776) : Calls Tryd.prog 31 #[.slice A xs.length c, .slice B ys.length d] w fun e w' => e = .returned (.bool (decide (xs = ys))) ∧ Fr w w' [] := by
 refine enterD (n := 26) Tryd.func31 rfl rfl (Nat.le_of_ble_eq_true rfl) ?_
 intro Q0 hN hret hret'
 have hC := Cx.start w
 refine WCs (fun K1 hK2 => ?_)
 refine WCg (WLr 1 [(4, .bool false)] (fun _ => by kernel_rfl) (WLd rfl (QXn (hK2 _ _ ?_))))
 refine WCs (fun K3 hK4 => ?_)
 refine WCs (fun K5 hK6 => ?_)
 refine WCg (WLr 5 [(10, .bool ((xs.length : Int) != (ys.length : Int))), (9, .int .i64 (ys.length : Int)), (8, .slice B ys.length d), (7, .int .i64 (xs.length : Int)), (6, .slice A xs.length c)] (fun _ => by kernel_rfl) (WLd rfl (QXn (hK6 _ _ ?_))))
 refine WCa 10 ((xs.length : Int) != (ys.length : Int)) rfl (fun t7b => ?_) (fun t7b => ?_)
 ·
  have t7 : (xs.length : Int) ≠ (ys.length : Int) := by simpa using t7b
  refine WCt rfl ?_
  refine WCs (fun K8 hK9 => ?_)
  refine WCg (WLr 1 [(4, .bool false)] (fun _ => by kernel_rfl) (WLd rfl (QXn (hK9 _ _ ?_))))
  refine WC.ret ?_
  refine QXr ?_
  refine (hret _ _ _ rfl ?_).1
  exact ⟨congrArg (fun b_ => Ending.returned (Value.bool b_)) (decide_eq_false (fun e_ => by subst e_; omega)).symm, hC.fr⟩
 ·
  have t7 : (xs.length : Int) = (ys.length : Int) := by simpa using t7b
  refine WCf rfl (WC.skip (QXn (hK4 _ _ ?_)))
  refine WCs (fun K10 hK11 => ?_)
  refine WCs (fun K12 hK13 => ?_)
  refine WCg (WLr 3 [(13, .int .i64 0), (12, .int .i64 (xs.length : Int)), (11, .slice A xs.length c)] (fun _ => by kernel_rfl) (WLd rfl (QXn (hK13 _ _ ?_))))
  refine WC.block ?_
  refine WC.loop (fun m_ E_ w_ => ∃ (i : Nat), m_ = xs.length - i ∧ E_ = [(0, .slice A xs.length c), (1, .slice B ys.length d), (11, .slice A xs.length c), (12, .int .i64 (xs.length : Int)), (13, .int .i64 (i : Int))] ∧ Cx w [] w_ [] [] ∧ (i ≤ xs.length ∧ xs.take i = ys.take i)) ⟨_, _, ⟨0, rfl, rfl, hC, Nat.zero_le _, rfl⟩, sub_of ⟨rfl, rfl, rfl, rfl, rfl, trivial⟩⟩ (fun m17 E_ w18 K14 hK15 hI16 => ?_)
  obtain ⟨i, rfl, rfl, hC19, hi, hpre⟩ := hI16
  refine WCs (fun K20 hK21 => ?_)
  refine WCg (WLr 1 [(14, .bool (decide ((i : Int) < (xs.length : Int))))] (fun _ => by kernel_rfl) (WLd rfl (QXn (hK21 _ _ ?_))))
  refine WCs (fun K22 hK23 => ?_)
  refine WCa 14 (decide ((i : Int) < (xs.length : Int))) rfl (fun t24b => ?_) (fun t24b => ?_)
  ·
   have t24 : (i : Int) < (xs.length : Int) := by have q_ := of_decide_eq_true t24b; omega
   refine WCt rfl ?_
   refine WC.skip ?_
   refine QXn (hK23 _ _ ?_)
   refine WCs (fun K25 hK26 => ?_)
   refine WC.block ?_
   refine WCs (fun K27 hK28 => ?_)
   refine WCg (WLr 2 [(5, .int .i64 (i : Int)), (15, .int .i64 (i : Int))] (fun _ => by kernel_rfl) (WLd rfl (QXn (hK28 _ _ ?_))))
   refine WCs (fun K29 hK30 => ?_)
   refine WC.drawC hC19 [] (by kernel_rfl) (fun w31 hF32 hC33 hS34 => ?_)
   refine WDp (NPt (NPb (NPt (NPt (NPb (NPt hN)))))) 0 16 (.slice A xs.length c) (by kernel_rfl) (fun _ => by kernel_rfl) hS34 ?_
   refine WDp (NPt (NPb (NPt (NPt (NPb (NPt hN)))))) 1 17 (.int .i64 (i : Int)) (by kernel_rfl) (fun _ => by kernel_rfl) hS34 ?_
   obtain ⟨e35, he36⟩ := get_some (xs := xs) (i := i) (by omega)
   obtain ⟨b37, o39, hA38, hc40⟩ := hA.at_ _ _ he36
   refine WDi (NPt (NPb (NPt (NPt (NPb (NPt hN)))))) 2 A xs.length c 18 .i64 (i : Int) b37 o39 i 3 (by kernel_rfl) (by kernel_rfl) hA38 (by omega) (by omega) (o39 + i * 3) (by first | (simp; done) | omega) hS34 ?_
   refine WDp (NPt (NPb (NPt (NPt (NPb (NPt hN)))))) 4 20 (.slice B ys.length d) (by kernel_rfl) (fun _ => by kernel_rfl) hS34 ?_
   refine WDp (NPt (NPb (NPt (NPt (NPb (NPt hN)))))) 5 21 (.int .i64 (i : Int)) (by kernel_rfl) (fun _ => by kernel_rfl) hS34 ?_
   obtain ⟨e41, he42⟩ := get_some (xs := ys) (i := i) (by omega)
   obtain ⟨b43, o45, hA44, hc46⟩ := hB.at_ _ _ he42
   refine WDi (NPt (NPb (NPt (NPt (NPb (NPt hN)))))) 6 B ys.length d 22 .i64 (i : Int) b43 o45 i 3 (by kernel_rfl) (by kernel_rfl) hA44 (by omega) (by omega) (o45 + i * 3) (by first | (simp; done) | omega) hS34 ?_
   refine WDl (NPt (NPb (NPt (NPt (NPb (NPt hN)))))) 3 64 (.pointer (some ⟨b37, o39 + i * 3, none⟩)) (.agg #[.int .u32 e35.dip, .int .i64 e35.port, .int .i64 e35.weight]) 19 (by kernel_rfl) (by kernel_rfl) (fun _ hS_ => run_rdN (l := [.int .u32 e35.dip, .int .i64 e35.port, .int .i64 e35.weight]) rfl rfl (fun j u hu => by have hq_ := Fr.cell hS_ (hC33.fr.cell (hc40 j u hu) (by simp)) (by simp); simpa [Nat.add_assoc] using hq_)) hS34 ?_
   refine WDl (NPt (NPb (NPt (NPt (NPb (NPt hN)))))) 7 64 (.pointer (some ⟨b43, o45 + i * 3, none⟩)) (.agg #[.int .u32 e41.dip, .int .i64 e41.port, .int .i64 e41.weight]) 23 (by kernel_rfl) (by kernel_rfl) (fun _ hS_ => run_rdN (l := [.int .u32 e41.dip, .int .i64 e41.port, .int .i64 e41.weight]) rfl rfl (fun j u hu => by have hq_ := Fr.cell hS_ (hC33.fr.cell (hc46 j u hu) (by simp)) (by simp); simpa [Nat.add_assoc] using hq_)) hS34 ?_
   have hr47 : ∀ w_, Sem.run Tryd.prog (do eqGuard .neq 64 (Operand.tmp 19) (Operand.tmp 23) (.agg #[.int .u32 e35.dip, .int .i64 e35.port, .int .i64 e35.weight]) (.agg #[.int .u32 e41.dip, .int .i64 e41.port, .int .i64 e41.weight]); binOp .neq 64 (.agg #[.int .u32 e35.dip, .int .i64 e35.port, .int .i64 e35.weight]) (.agg #[.int .u32 e41.dip, .int .i64 e41.port, .int .i64 e41.weight])) w_ = .ok (.bool (!(e35.dip == e41.dip && (e35.port == e41.port && (e35.weight == e41.weight && true))))) w_ := fun w_ => (run_neq_S (by kernel_rfl))
   refine WD.semP (NPt (NPb (NPt (NPt (NPb (NPt hN)))))) 8 (do eqGuard .neq 64 (Operand.tmp 19) (Operand.tmp 23) (.agg #[.int .u32 e35.dip, .int .i64 e35.port, .int .i64 e35.weight]) (.agg #[.int .u32 e41.dip, .int .i64 e41.port, .int .i64 e41.weight]); binOp .neq 64 (.agg #[.int .u32 e35.dip, .int .i64 e35.port, .int .i64 e35.weight]) (.agg #[.int .u32 e41.dip, .int .i64 e41.port, .int .i64 e41.weight])) 24 (.bool (!(e35.dip == e41.dip && (e35.port == e41.port && (e35.weight == e41.weight && true))))) (by kernel_rfl) (by kernel_rfl) (fun _ _ => hr47 _) hS34 ?_
   refine WD.done (by kernel_rfl) ?_
   refine QXn (hK30 _ _ ?_)
   refine WCa 24 (!(e35.dip == e41.dip && (e35.port == e41.port && (e35.weight == e41.weight && true)))) rfl (fun t48b => ?_) (fun t48b => ?_)
   ·
    have t48 : (e35.dip == e41.dip && (e35.port == e41.port && (e35.weight == e41.weight && true))) = false := by first | (simpa only [Bool.not_eq_true', Bool.not_eq_false'] using t48b) | simpa using t48b
    refine WCt rfl ?_
    refine WCs (fun K49 hK50 => ?_)
    refine WCg (WLr 1 [(4, .bool false)] (fun _ => by kernel_rfl) (WLd rfl (QXn (hK50 _ _ ?_))))
    refine WC.ret ?_
    refine QXk ?_
    refine QXr ?_
    refine QXr ?_
    refine QXk ?_
    refine QXr ?_
    refine (hret _ _ _ rfl ?_).1
    clear hN hret hret' hK50 hK30 hK28 hK26 hK23 hK21 hK13 hK11 hK6 hK4 hK2
    exact ⟨congrArg (fun b_ => Ending.returned (Value.bool b_)) (eq_missE he36 he42 (by assumption)).symm, hC33.fr⟩
   ·
    have t48 : (e35.dip == e41.dip && (e35.port == e41.port && (e35.weight == e41.weight && true))) = true := by first | (simpa only [Bool.not_eq_true', Bool.not_eq_false'] using t48b) | simpa using t48b
    refine WCf rfl (WC.skip ?_)
    refine QXb ?_
    refine QXn (hK26 _ _ ?_)
    refine WCg (WLr 1 [(25, .int .i64 (IntKind.i64.wrap ((i : Int) + 1)))] (fun _ => by kernel_rfl) ?_)
    refine WLt (show (.int .i64 (IntKind.i64.wrap ((i : Int) + 1)) : Value) = .int .i64 ((i : Int) + 1) from by rw [wrap_in_i64 ((i : Int) + 1) (by omega) (by omega)]) ?_
    refine WLr 1 [(13, .int .i64 ((i : Int) + 1))] (fun _ => by kernel_rfl) ?_
    refine WLd rfl ?_
    refine QXn ?_
    have hC51 := hC33.pick [] [] rfl rfl
    refine fun a_ ha_ => hK15 _ _ _ ?_ ⟨i + 1, rfl, rfl, hC51, by omega, eq_snocE hpre he36 he42 t48b⟩ a_ (ha_.weaken (sub_of ⟨rfl, rfl, rfl, rfl, rfl, trivial⟩))
    omega
  ·
   have t24 : (xs.length : Int) ≤ (i : Int) := by have q_ := of_decide_eq_false t24b; omega
   refine WCf rfl ?_
   refine WC.exit ?_
   refine QXe ?_
   refine QXe ?_
   refine QX.block_hit ?_
   refine QXn (hK11 _ _ ?_)
   refine WCs (fun K52 hK53 => ?_)
   refine WCg (WLr 1 [(4, .bool true)] (fun _ => by kernel_rfl) (WLd rfl (QXn (hK53 _ _ ?_))))
   refine WC.ret ?_
   refine (hret _ _ _ rfl ?_).1
   clear hN hret hret' hK53 hK23 hK21 hK13 hK11 hK6 hK4 hK2
   have hie_ : i = xs.length := by omega
   rw [List.take_of_length_le (by omega), List.take_of_length_le (by omega)] at hpre
   exact ⟨congrArg (fun b_ => Ending.returned (Value.bool b_)) (decide_eq_true hpre).symm, hC19.fr⟩

theorem EqualE_n (A B : Option Addr) (n c n2 d : Nat) (xs ys : List EndV) (w : World) (hA : Rd w 3 cellsE A xs) (hB : Rd w 3 cellsE B ys) (h1 : xs.length = n) (h2 : ys.length = n2) (hlx : n ≤ 1099511627776) : Calls Tryd.prog 31 #[.slice A n c, .slice B n2 d] w fun e w' => e = .returned (.bool (decide (xs = ys))) ∧ Fr w w' [] := by subst h1 h2; exact EqualE_ct A B c d xs ys w hA hB hlx
theorem dipIs_ct (g : Nat) (e0 d : EndV) (w : World) (hg : w.heap[g]? = some (.cells #[.int .u32 e0.dip, .int .i64 e0.port, .int .i64 e0.weight] 64 (0, 0))) : Calls Tryd.prog 90 #[.agg #[.int .u32 d.dip, .int .i64 d.port, .int .i64 d.weight], .pointer (some ⟨g, 0, none⟩)] w fun e w' => e = .returned (.bool (d.dip == e0.dip)) ∧ Fr w w' [] := by
 refine enterD (n := 9) Tryd.func90 rfl rfl (Nat.le_of_ble_eq_true rfl) ?_
 intro Q0 hN hret hret'
 have hC := Cx.startMs w [(g, .cells #[.int .u32 e0.dip, .int .i64 e0.port, .int .i64 e0.weight] 64)] (by simp) (by simp [hg])
 refine WCs (fun K1 hK2 => ?_)
 refine WCg ?_
 refine WL.newM hC (fun b => .pointer (some ⟨b, 0, none⟩)) (.cells #[.int .u32 d.dip, .int .i64 d.port, .int .i64 d.weight] 64) 2 (fun _ => by kernel_rfl) (fun g3 w4 hb7 hF5 hC6 => ?_)
 have hf8 := (Fr.refl w []).trans hF5 (by simp)
 refine WLr 1 [(3, .bool false)] (fun _ => by kernel_rfl) (WLd rfl (QXn (hK2 _ _ ?_)))
 refine WCs (fun K9 hK10 => ?_)
 refine WCg (WLr 1 [(4, .pointer (some ⟨g3, 0, none⟩))] (fun _ => by kernel_rfl) ?_)
 refine WL.load 41 (.pointer (some ⟨g3, 0, none⟩)) (.int .u32 d.dip) 5 (by kernel_rfl) (run_ld (hC6.get 1 rfl) rfl) ?_
 refine WLr 1 [(6, .pointer (some ⟨g, 0, none⟩))] (fun _ => by kernel_rfl) ?_
 refine WL.load 41 (.pointer (some ⟨g, 0, none⟩)) (.int .u32 e0.dip) 7 (by kernel_rfl) (run_ld (hC6.get 0 rfl) rfl) ?_
 refine WLr 2 [(3, .bool (d.dip == e0.dip)), (8, .bool (d.dip == e0.dip))] (fun _ => by kernel_rfl) (WLd rfl (QXn (hK10 _ _ ?_)))
 refine WC.ret ?_
 refine (hret _ _ _ rfl ?_).1
 exact ⟨rfl, hf8⟩

theorem IndexE_ct (g : Nat) (e0 : EndV) (A : Option Addr) (c : Nat) (xs : List EndV) (w : World) (hg : w.heap[g]? = some (.cells #[.int .u32 e0.dip, .int .i64 e0.port, .int .i64 e0.weight] 64 (0, 0))) (hr : Rd w 3 cellsE A xs) (hl : xs.length ≤ 1099511627776) : Calls Tryd.prog 102 #[.slice A xs.length c, .func (.func 90) #[] #[.pointer (some ⟨g, 0, none⟩)]] w fun e w' => ∃ r : Int, e = .returned (.int .i64 r) ∧ Fr w w' [] ∧ decide (0 ≤ r) = anyDip e0 xs ∧ -1 ≤ r := by
 refine enterD (n := 19) Tryd.func102 rfl rfl (Nat.le_of_ble_eq_true rfl) ?_
 intro Q0 hN hret hret'
 have hC := Cx.start w
 refine WCs (fun K1 hK2 => ?_)
 refine WCg (WLr 1 [(4, .int .i64 0)] (fun _ => by kernel_rfl) (WLd rfl (QXn (hK2 _ _ ?_))))
 refine WCs (fun K3 hK4 => ?_)
 refine WCs (fun K5 hK6 => ?_)
 refine WCg (WLr 3 [(8, .int .i64 0), (7, .int .i64 (xs.length : Int)), (6, .slice A xs.length c)] (fun _ => by kernel_rfl) (WLd rfl (QXn (hK6 _ _ ?_))))
 refine WC.block ?_
 refine WC.loop (fun m_ E_ w_ => ∃ (i : Nat), m_ = xs.length - i ∧ E_ = [(0, .slice A xs.length c), (1, .func (.func 90) #[] #[.pointer (some ⟨g, 0, none⟩)]), (6, .slice A xs.length c), (7, .int .i64 (xs.length : Int)), (8, .int .i64 (i : Int))] ∧ Cx w [] w_ [] [] ∧ (i ≤ xs.length ∧ anyDip e0 (xs.take i) = false)) ⟨_, _, ⟨0, rfl, rfl, hC, Nat.zero_le _, rfl⟩, sub_of ⟨rfl, rfl, rfl, rfl, rfl, trivial⟩⟩ (fun m10 E_ w11 K7 hK8 hI9 => ?_)
 obtain ⟨i, rfl, rfl, hC12, hi, hall⟩ := hI9
 refine WCs (fun K13 hK14 => ?_)
 refine WCg (WLr 1 [(9, .bool (decide ((i : Int) < (xs.length : Int))))] (fun _ => by kernel_rfl) (WLd rfl (QXn (hK14 _ _ ?_))))
 refine WCs (fun K15 hK16 => ?_)
 refine WCa 9 (decide ((i : Int) < (xs.length : Int))) rfl (fun t17b => ?_) (fun t17b => ?_)
 ·
  have t17 : (i : Int) < (xs.length : Int) := by have q_ := of_decide_eq_true t17b; omega
  refine WCt rfl ?_
  refine WC.skip ?_
  refine QXn (hK16 _ _ ?_)
  refine WCs (fun K18 hK19 => ?_)
  refine WC.block ?_
  refine WCs (fun K20 hK21 => ?_)
  refine WCg (WLr 2 [(5, .int .i64 (i : Int)), (10, .int .i64 (i : Int))] (fun _ => by kernel_rfl) (WLd rfl (QXn (hK21 _ _ ?_))))
  refine WCs (fun K22 hK23 => ?_)
  refine WCg (WLr 3 [(13, .int .i64 (i : Int)), (12, .slice A xs.length c), (11, .func (.func 90) #[] #[.pointer (some ⟨g, 0, none⟩)])] (fun _ => by kernel_rfl) ?_)
  obtain ⟨e24, he25⟩ := get_some (xs := xs) (i := i) (by omega)
  obtain ⟨b26, o28, hA27, hc29⟩ := hr.at_ _ _ he25
  refine WLi A xs.length c 14 .i64 (i : Int) b26 o28 i 3 (by kernel_rfl) hA27 (by omega) (by omega) (o28 + i * 3) (by first | (simp; done) | omega) ?_
  refine WL.load 64 (.pointer (some ⟨b26, o28 + i * 3, none⟩)) (.agg #[.int .u32 e24.dip, .int .i64 e24.port, .int .i64 e24.weight]) 15 (by kernel_rfl) (run_rdN (l := [.int .u32 e24.dip, .int .i64 e24.port, .int .i64 e24.weight]) rfl rfl (fun j u hu => by have hq_ := hC12.fr.cell (hc29 j u hu) (by simp); simpa [Nat.add_assoc] using hq_)) ?_
  refine WLc rfl rfl rfl rfl rfl (by kernel_rfl) (dipIs_ct g e0 e24 w11 (hC12.fr.has hg (by simp))) ?_
  rintro _ w31 ⟨rfl, hF30⟩
  refine ⟨_, rfl, ?_⟩
  have hC32 := hC12.call hF30
  refine WLd rfl (QXn (hK23 _ _ ?_))
  refine WCa 16 (e24.dip == e0.dip) rfl (fun t33b => ?_) (fun t33b => ?_)
  ·
   refine WCt rfl ?_
   refine WCs (fun K34 hK35 => ?_)
   refine WCg (WLr 2 [(4, .int .i64 (i : Int)), (17, .int .i64 (i : Int))] (fun _ => by kernel_rfl) (WLd rfl (QXn (hK35 _ _ ?_))))
   refine WC.ret ?_
   refine QXk ?_
   refine QXr ?_
   refine QXr ?_
   refine QXk ?_
   refine QXr ?_
   refine (hret _ _ _ rfl ?_).1
   clear hN hret hret' hK35 hK23 hK21 hK19 hK16 hK14 hK6 hK4 hK2
   have hh_ := any_snocD (e := e0) he25
   rw [t33b, Bool.or_true] at hh_
   exact ⟨_, rfl, hC32.fr, by rw [any_subD hh_]; exact decide_eq_true (by omega), by omega⟩
  ·
   refine WCf rfl (WC.skip ?_)
   refine QXb ?_
   refine QXn (hK19 _ _ ?_)
   refine WCg (WLr 1 [(18, .int .i64 (IntKind.i64.wrap ((i : Int) + 1)))] (fun _ => by kernel_rfl) ?_)
   refine WLt (show (.int .i64 (IntKind.i64.wrap ((i : Int) + 1)) : Value) = .int .i64 ((i : Int) + 1) from by rw [wrap_in_i64 ((i : Int) + 1) (by omega) (by omega)]) ?_
   refine WLr 1 [(8, .int .i64 ((i : Int) + 1))] (fun _ => by kernel_rfl) ?_
   refine WLd rfl ?_
   refine QXn ?_
   have hC36 := hC32.pick [] [] rfl rfl
   refine fun a_ ha_ => hK8 _ _ _ ?_ ⟨i + 1, rfl, rfl, hC36, by omega, by rw [any_snocD he25, hall]; simpa using t33b⟩ a_ (ha_.weaken (sub_of ⟨rfl, rfl, rfl, rfl, rfl, trivial⟩))
   omega
 ·
  have t17 : (xs.length : Int) ≤ (i : Int) := by have q_ := of_decide_eq_false t17b; omega
  refine WCf rfl ?_
  refine WC.exit ?_
  refine QXe ?_
  refine QXe ?_
  refine QX.block_hit ?_
  refine QXn (hK4 _ _ ?_)
  refine WCs (fun K37 hK38 => ?_)
  refine WCg (WLr 1 [(4, .int .i64 (-1))] (fun _ => by kernel_rfl) (WLd rfl (QXn (hK38 _ _ ?_))))
  refine WC.ret ?_
  refine (hret _ _ _ rfl ?_).1
  clear hN hret hret' hK38 hK16 hK14 hK6 hK4 hK2
  rw [List.take_of_length_le (by omega)] at hall
  exact ⟨-1, rfl, hC12.fr, by rw [hall]; rfl, by omega⟩

theorem ContE_ct (g : Nat) (e0 : EndV) (A : Option Addr) (c : Nat) (xs : List EndV) (w : World) (hg : w.heap[g]? = some (.cells #[.int .u32 e0.dip, .int .i64 e0.port, .int .i64 e0.weight] 64 (0, 0))) (hr : Rd w 3 cellsE A xs) (hl : xs.length ≤ 1099511627776) : Calls Tryd.prog 89 #[.slice A xs.length c, .func (.func 90) #[] #[.pointer (some ⟨g, 0, none⟩)]] w fun e w' => e = .returned (.bool (anyDip e0 xs)) ∧ Fr w w' [] := by
 refine enterD (n := 9) Tryd.func89 rfl rfl (Nat.le_of_ble_eq_true rfl) ?_
 intro Q0 hN hret hret'
 have hC := Cx.start w
 refine WCs (fun K1 hK2 => ?_)
 refine WCg (WLr 1 [(4, .bool false)] (fun _ => by kernel_rfl) (WLd rfl (QXn (hK2 _ _ ?_))))
 refine WCs (fun K3 hK4 => ?_)
 refine WCg (WLr 2 [(6, .func (.func 90) #[] #[.pointer (some ⟨g, 0, none⟩)]), (5, .slice A xs.length c)] (fun _ => by kernel_rfl) ?_)
 refine WLc rfl rfl rfl rfl rfl (by kernel_rfl) (IndexE_ct g e0 A c xs w (hC.fr.has hg (by simp)) (Rd.fr hr hC.fr) hl) ?_
 rintro _ w6 ⟨r_, rfl, hF5, hr1_, hr2_⟩
 refine ⟨_, rfl, ?_⟩
 have hC7 := hC.call hF5
 refine WLr 2 [(4, .bool (decide (r_ ≥ 0))), (8, .bool (decide (r_ ≥ 0)))] (fun _ => by kernel_rfl) (WLd rfl (QXn (hK4 _ _ ?_)))
 refine WC.ret ?_
 refine (hret _ _ _ rfl ?_).1
 exact ⟨congrArg (fun b_ => Ending.returned (Value.bool b_)) (by rw [← hr1_]), hC7.fr⟩

theorem ContE_n (g : Nat) (e0 : EndV) (A : Option Addr) (n c : Nat) (xs : List EndV) (w : World) (hg : w.heap[g]? = some (.cells #[.int .u32 e0.dip, .int .i64 e0.port, .int .i64 e0.weight] 64 (0, 0))) (hr : Rd w 3 cellsE A xs) (hn : xs.length = n) (hl : n ≤ 1099511627776) : Calls Tryd.prog 89 #[.slice A n c, .func (.func 90) #[] #[.pointer (some ⟨g, 0, none⟩)]] w fun e w' => e = .returned (.bool (anyDip e0 xs)) ∧ Fr w w' [] := by subst hn; exact ContE_ct g e0 A c xs w hg hr hl
theorem ringCheck_ct (A : Option Addr) (c : Nat) (ends : List EndV) (w : World) (hr : Rd w 3 cellsE A ends) (hwf : ∀ e ∈ ends, wfE e) (hl : ends.length ≤ 1099511627776) (hlc : ends.length ≤ c) : Calls Tryd.prog 74 #[.slice A ends.length c] w fun e w' => e = .returned (errV 73 (if goodE ends then 0 else 9)) ∧ Fr w w' [] := by
 refine enterD (n := 59) Tryd.func74 rfl rfl (Nat.le_of_ble_eq_true rfl) ?_
 intro Q0 hN hret hret'
 have hC := Cx.start w
 refine WCs (fun K1 hK2 => ?_)
 refine WCg (WLr 1 [(2, .nilIface)] (fun _ => by kernel_rfl) (WLd rfl (QXn (hK2 _ _ ?_))))
 refine WCs (fun K3 hK4 => ?_)
 refine WCs (fun K5 hK6 => ?_)
 refine WCg (WLr 3 [(11, .bool (decide ((ends.length : Int) > 64))), (10, .int .i64 (ends.length : Int)), (9, .slice A ends.length c)] (fun _ => by kernel_rfl) (WLd rfl (QXn (hK6 _ _ ?_))))
 refine WCa 11 (decide ((ends.length : Int) > 64)) rfl (fun t7b => ?_) (fun t7b => ?_)
 ·
  have t7 : (64 : Int) < (ends.length : Int) := by have q_ := of_decide_eq_true t7b; omega
  refine WCt rfl ?_
  refine WCs (fun K8 hK9 => ?_)
  refine WCg (WLr 2 [(2, .iface 73 (.int .i64 9)), (12, .iface 73 (.int .i64 9))] (fun _ => by kernel_rfl) (WLd rfl (QXn (hK9 _ _ ?_))))
  refine WC.ret ?_
  refine QXr ?_
  refine (hret _ _ _ rfl ?_).1
  clear hN hret hret' hK9 hK6 hK4 hK2
  rw [ends_long (by omega)]
  exact ⟨rfl, hC.fr⟩
 ·
  have t7 : (ends.length : Int) ≤ 64 := by have q_ := of_decide_eq_false t7b; omega
  refine WCf rfl (WC.skip (QXn (hK4 _ _ ?_)))
  refine WCs (fun K10 hK11 => ?_)
  refine WCs (fun K12 hK13 => ?_)
  refine WCg (WLr 3 [(15, .int .i64 0), (14, .int .i64 (ends.length : Int)), (13, .slice A ends.length c)] (fun _ => by kernel_rfl) (WLd rfl (QXn (hK13 _ _ ?_))))
  refine WC.block ?_
  refine WC.loop (fun m_ E_ w_ => ∃ (i : Nat), m_ = ends.length - i ∧ E_ = [(0, .slice A ends.length c), (13, .slice A ends.length c), (14, .int .i64 (ends.length : Int)), (15, .int .i64 (i : Int))] ∧ Cx w [] w_ [] [] ∧ (i ≤ ends.length ∧ (ends.take i).all goodE1 = true ∧ ((ends.take i).map (·.dip)).Nodup)) ⟨_, _, ⟨0, rfl, rfl, hC, Nat.zero_le _, rfl, List.nodup_nil⟩, sub_of ⟨rfl, rfl, rfl, rfl, trivial⟩⟩ (fun m17 E_ w18 K14 hK15 hI16 => ?_)
  obtain ⟨i, rfl, rfl, hC19, hi, hall, hnd⟩ := hI16
  refine WCs (fun K20 hK21 => ?_)
  refine WCg (WLr 1 [(16, .bool (decide ((i : Int) < (ends.length : Int))))] (fun _ => by kernel_rfl) (WLd rfl (QXn (hK21 _ _ ?_))))
  refine WCs (fun K22 hK23 => ?_)
  refine WCa 16 (decide ((i : Int) < (ends.length : Int))) rfl (fun t24b => ?_) (fun t24b => ?_)
  ·
   have t24 : (i : Int) < (ends.length : Int) := by have q_ := of_decide_eq_true t24b; omega
   refine WCt rfl ?_
   refine WC.skip ?_
   refine QXn (hK23 _ _ ?_)
   refine WCs (fun K25 hK26 => ?_)
   refine WC.block ?_
   refine WCs (fun K27 hK28 => ?_)
   refine WCg (WLr 1 [(17, .int .i64 (i : Int))] (fun _ => by kernel_rfl) ?_)
   obtain ⟨e29, he30⟩ := get_some (xs := ends) (i := i) (by omega)
   obtain ⟨b31, o33, hA32, hc34⟩ := hr.at_ _ _ he30
   have hwe_ := hwf _ (List.mem_of_getElem? he30)
   obtain ⟨hwd0_, hwd1_⟩ := hwe_.dip
   refine WLi A ends.length c 18 .i64 (i : Int) b31 o33 i 3 (by kernel_rfl) hA32 (by omega) (by omega) (o33 + i * 3) (by first | (simp; done) | omega) ?_
   refine WL.load 64 (.pointer (some ⟨b31, o33 + i * 3, none⟩)) (.agg #[.int .u32 e29.dip, .int .i64 e29.port, .int .i64 e29.weight]) 19 (by kernel_rfl) (run_rdN (l := [.int .u32 e29.dip, .int .i64 e29.port, .int .i64 e29.weight]) rfl rfl (fun j u hu => by have hq_ := hC19.fr.cell (hc34 j u hu) (by simp); simpa [Nat.add_assoc] using hq_)) ?_
   refine WL.newM hC19 (fun b => .pointer (some ⟨b, 0, none⟩)) (.cells #[.int .u32 0, .int .i64 0, .int .i64 0] 64) 4 (fun _ => by kernel_rfl) (fun g35 w36 hb39 hF37 hC38 => ?_)
   refine WLr 1 [(3, .int .i64 (i : Int))] (fun _ => by kernel_rfl) ?_
   refine WLs (c' := #[.int .u32 e29.dip, .int .i64 e29.port, .int .i64 e29.weight]) hC38 0 64 g35 0 (.agg #[.int .u32 e29.dip, .int .i64 e29.port, .int .i64 e29.weight]) (by kernel_rfl) rfl (by kernel_rfl) (fun w40 hF42 hC43 => ?_)
   refine WLd rfl (QXn (hK28 _ _ ?_))
   refine WCs (fun K44 hK45 => ?_)
   refine WCg (WLr 1 [(21, .pointer (some ⟨g35, 0, none⟩))] (fun _ => by kernel_rfl) ?_)
   refine WL.load 41 (.pointer (some ⟨g35, 0, none⟩)) (.int .u32 e29.dip) 22 (by kernel_rfl) (run_ld (hC43.get 0 rfl) rfl) ?_
   refine WLc rfl rfl rfl rfl rfl (by kernel_rfl) (Home_ct e29.dip w40 (by omega) (by omega)) ?_
   rintro _ w47 ⟨rfl, hF46⟩
   refine ⟨_, rfl, ?_⟩
   have hC48 := hC43.call hF46
   refine WLr 7 [(7, .bool (isHome e29.dip)), (6, .int .i64 (homeV e29.dip)), (5, .int .i64 (homeN e29.dip)), (26, .bool (isHome e29.dip)), (25, .int .i64 (homeV e29.dip)), (24, .int .i64 (homeN e29.dip)), (20, .tuple #[.int .i64 (homeN e29.dip), .int .i64 (homeV e29.dip), .bool (isHome e29.dip)])] (fun _ => by kernel_rfl) (WLd rfl (QXn (hK45 _ _ ?_)))
   refine WCs (fun K49 hK50 => ?_)
   refine WCg (WLr 2 [(28, .int .i64 (i : Int)), (27, .slice A ends.length c)] (fun _ => by kernel_rfl) ?_)
   have hb51 : i ≤ c := by omega
   refine WL.slc 50 64 3 A A ends.length c 0 i i c none (some (.int .i64 (i : Int))) 29 (by kernel_rfl) (by kernel_rfl) bnd.no (bnd.yes (by omega)) (by omega) hb51 (slcAt_pre _ _ _) (by first | rfl | omega) (by first | rfl | omega) ?_
   have hrd52 := Rd.slc hr 0 i c hb51 (slcAt_pre _ _ _)
   refine WLr 1 [(30, .func (.func 90) #[] #[.pointer (some ⟨g35, 0, none⟩)])] (fun _ => by kernel_rfl) ?_
   refine WLc rfl rfl rfl rfl rfl (by kernel_rfl) (ContE_n g35 e29 A i c ((ends.take i).drop 0) w47 (hC48.get 0 rfl) (Rd.fr hrd52 hC48.fr) (by simp only [List.length_drop, List.length_take]; omega) (by omega)) ?_
   rintro _ w54 ⟨rfl, hF53⟩
   refine ⟨_, rfl, ?_⟩
   have hC55 := hC48.call hF53
   refine WLr 1 [(8, .bool (anyDip e29 ((ends.take i).drop 0)))] (fun _ => by kernel_rfl) (WLd rfl (QXn (hK50 _ _ ?_)))
   refine WCs (fun K56 hK57 => ?_)
   refine WCg (WLr 3 [(34, .bool (!(isHome e29.dip))), (33, .bool (!(isHome e29.dip))), (32, .bool (isHome e29.dip))] (fun _ => by kernel_rfl) ?_)
   refine WLa 34 (!(isHome e29.dip)) rfl (fun t58b => ?_) (fun t58b => ?_)
   ·
    have t58 : (isHome e29.dip) = false := by first | (simpa only [Bool.not_eq_true', Bool.not_eq_false'] using t58b) | simpa using t58b
    refine WLr 22 [(56, .bool true), (55, undef), (54, undef), (53, undef), (52, .bool true), (51, .bool true), (50, undef), (49, undef), (48, undef), (47, .bool true), (46, .bool true), (45, undef), (44, undef), (43, undef), (42, .bool true), (41, .bool true), (40, undef), (39, undef), (38, undef), (37, .bool true), (36, .bool true), (35, undef)] (fun _ => by kernel_rfl) (WLd rfl (QXn (hK57 _ _ ?_)))
    refine WCt rfl ?_
    refine WCs (fun K59 hK60 => ?_)
    refine WCg (WLr 2 [(2, .iface 73 (.int .i64 9)), (57, .iface 73 (.int .i64 9))] (fun _ => by kernel_rfl) (WLd rfl (QXn (hK60 _ _ ?_))))
    refine WC.ret ?_
    refine QXk ?_
    refine QXr ?_
    refine QXr ?_
    refine QXk ?_
    refine QXr ?_
    refine (hret _ _ _ rfl ?_).1
    clear hN hret hret' hK60 hK57 hK50 hK45 hK28 hK26 hK23 hK21 hK13 hK11 hK6 hK4 hK2
    rw [ends_bad1 he30 (goodE1_home t58)]
    exact ⟨rfl, hC55.fr⟩
   ·
    have t58 : (isHome e29.dip) = true := by first | (simpa only [Bool.not_eq_true', Bool.not_eq_false'] using t58b) | simpa using t58b
    refine WLr 3 [(37, .bool (anyDip e29 ((ends.take i).drop 0))), (36, .bool (anyDip e29 ((ends.take i).drop 0))), (35, .bool (anyDip e29 ((ends.take i).drop 0)))] (fun _ => by kernel_rfl) ?_
    refine WLa 37 (anyDip e29 ((ends.take i).drop 0)) rfl (fun t61b => ?_) (fun t61b => ?_)
    ·
     refine WLr 19 [(56, .bool true), (55, undef), (54, undef), (53, undef), (52, .bool true), (51, .bool true), (50, undef), (49, undef), (48, undef), (47, .bool true), (46, .bool true), (45, undef), (44, undef), (43, undef), (42, .bool true), (41, .bool true), (40, undef), (39, undef), (38, undef)] (fun _ => by kernel_rfl) (WLd rfl (QXn (hK57 _ _ ?_)))
     refine WCt rfl ?_
     refine WCs (fun K62 hK63 => ?_)
     refine WCg (WLr 2 [(2, .iface 73 (.int .i64 9)), (57, .iface 73 (.int .i64 9))] (fun _ => by kernel_rfl) (WLd rfl (QXn (hK63 _ _ ?_))))
     refine WC.ret ?_
     refine QXk ?_
     refine QXr ?_
     refine QXr ?_
     refine QXk ?_
     refine QXr ?_
     refine (hret _ _ _ rfl ?_).1
     clear hN hret hret' hK63 hK57 hK50 hK45 hK28 hK26 hK23 hK21 hK13 hK11 hK6 hK4 hK2
     rw [ends_bad2 he30 (by simpa using t61b)]
     exact ⟨rfl, hC55.fr⟩
    ·
     refine WLr 1 [(38, .pointer (some ⟨g35, 1, none⟩))] (fun _ => by kernel_rfl) ?_
     refine WL.load 3 (.pointer (some ⟨g35, 1, none⟩)) (.int .i64 e29.port) 39 (by kernel_rfl) (run_ld (hC55.get 0 rfl) rfl) ?_
     refine WLr 3 [(42, .bool (decide (e29.port < 0))), (41, .bool (decide (e29.port < 0))), (40, .bool (decide (e29.port < 0)))] (fun _ => by kernel_rfl) ?_
     refine WLa 42 (decide (e29.port < 0)) rfl (fun t64b => ?_) (fun t64b => ?_)
     ·
      have t64 : e29.port < 0 := by have q_ := of_decide_eq_true t64b; omega
      refine WLr 14 [(56, .bool true), (55, undef), (54, undef), (53, undef), (52, .bool true), (51, .bool true), (50, undef), (49, undef), (48, undef), (47, .bool true), (46, .bool true), (45, undef), (44, undef), (43, undef)] (fun _ => by kernel_rfl) (WLd rfl (QXn (hK57 _ _ ?_)))
      refine WCt rfl ?_
      refine WCs (fun K65 hK66 => ?_)
      refine WCg (WLr 2 [(2, .iface 73 (.int .i64 9)), (57, .iface 73 (.int .i64 9))] (fun _ => by kernel_rfl) (WLd rfl (QXn (hK66 _ _ ?_))))
      refine WC.ret ?_
      refine QXk ?_
      refine QXr ?_
      refine QXr ?_
      refine QXk ?_
      refine QXr ?_
      refine (hret _ _ _ rfl ?_).1
      clear hN hret hret' hK66 hK57 hK50 hK45 hK28 hK26 hK23 hK21 hK13 hK11 hK6 hK4 hK2
      rw [ends_bad1 he30 (goodE1_no (by omega))]
      exact ⟨rfl, hC55.fr⟩
     ·
      have t64 : (0 : Int) ≤ e29.port := by have q_ := of_decide_eq_false t64b; omega
      refine WLr 1 [(43, .pointer (some ⟨g35, 1, none⟩))] (fun _ => by kernel_rfl) ?_
      refine WL.load 3 (.pointer (some ⟨g35, 1, none⟩)) (.int .i64 e29.port) 44 (by kernel_rfl) (run_ld (hC55.get 0 rfl) rfl) ?_
      refine WLr 3 [(47, .bool (decide (e29.port > 65535))), (46, .bool (decide (e29.port > 65535))), (45, .bool (decide (e29.port > 65535)))] (fun _ => by kernel_rfl) ?_
      refine WLa 47 (decide (e29.port > 65535)) rfl (fun t67b => ?_) (fun t67b => ?_)
      ·
       have t67 : (65535 : Int) < e29.port := by have q_ := of_decide_eq_true t67b; omega
       refine WLr 9 [(56, .bool true), (55, undef), (54, undef), (53, undef), (52, .bool true), (51, .bool true), (50, undef), (49, undef), (48, undef)] (fun _ => by kernel_rfl) (WLd rfl (QXn (hK57 _ _ ?_)))
       refine WCt rfl ?_
       refine WCs (fun K68 hK69 => ?_)
       refine WCg (WLr 2 [(2, .iface 73 (.int .i64 9)), (57, .iface 73 (.int .i64 9))] (fun _ => by kernel_rfl) (WLd rfl (QXn (hK69 _ _ ?_))))
       refine WC.ret ?_
       refine QXk ?_
       refine QXr ?_
       refine QXr ?_
       refine QXk ?_
       refine QXr ?_
       refine (hret _ _ _ rfl ?_).1
       clear hN hret hret' hK69 hK57 hK50 hK45 hK28 hK26 hK23 hK21 hK13 hK11 hK6 hK4 hK2
       rw [ends_bad1 he30 (goodE1_no (by omega))]
       exact ⟨rfl, hC55.fr⟩
      ·
       have t67 : e29.port ≤ 65535 := by have q_ := of_decide_eq_false t67b; omega
       refine WLr 1 [(48, .pointer (some ⟨g35, 2, none⟩))] (fun _ => by kernel_rfl) ?_
       refine WL.load 3 (.pointer (some ⟨g35, 2, none⟩)) (.int .i64 e29.weight) 49 (by kernel_rfl) (run_ld (hC55.get 0 rfl) rfl) ?_
       refine WLr 3 [(52, .bool (decide (e29.weight < 1))), (51, .bool (decide (e29.weight < 1))), (50, .bool (decide (e29.weight < 1)))] (fun _ => by kernel_rfl) ?_
       refine WLa 52 (decide (e29.weight < 1)) rfl (fun t70b => ?_) (fun t70b => ?_)
       ·
        have t70 : e29.weight < 1 := by have q_ := of_decide_eq_true t70b; omega
        refine WLr 4 [(56, .bool true), (55, undef), (54, undef), (53, undef)] (fun _ => by kernel_rfl) (WLd rfl (QXn (hK57 _ _ ?_)))
        refine WCt rfl ?_
        refine WCs (fun K71 hK72 => ?_)
        refine WCg (WLr 2 [(2, .iface 73 (.int .i64 9)), (57, .iface 73 (.int .i64 9))] (fun _ => by kernel_rfl) (WLd rfl (QXn (hK72 _ _ ?_))))
        refine WC.ret ?_
        refine QXk ?_
        refine QXr ?_
        refine QXr ?_
        refine QXk ?_
        refine QXr ?_
        refine (hret _ _ _ rfl ?_).1
        clear hN hret hret' hK72 hK57 hK50 hK45 hK28 hK26 hK23 hK21 hK13 hK11 hK6 hK4 hK2
        rw [ends_bad1 he30 (goodE1_no (by omega))]
        exact ⟨rfl, hC55.fr⟩
       ·
        have t70 : (1 : Int) ≤ e29.weight := by have q_ := of_decide_eq_false t70b; omega
        refine WLr 1 [(53, .pointer (some ⟨g35, 2, none⟩))] (fun _ => by kernel_rfl) ?_
        refine WL.load 3 (.pointer (some ⟨g35, 2, none⟩)) (.int .i64 e29.weight) 54 (by kernel_rfl) (run_ld (hC55.get 0 rfl) rfl) ?_
        refine WLr 2 [(56, .bool (decide (e29.weight > 16))), (55, .bool (decide (e29.weight > 16)))] (fun _ => by kernel_rfl) (WLd rfl (QXn (hK57 _ _ ?_)))
        refine WCa 56 (decide (e29.weight > 16)) rfl (fun t73b => ?_) (fun t73b => ?_)
        ·
         have t73 : (16 : Int) < e29.weight := by have q_ := of_decide_eq_true t73b; omega
         refine WCt rfl ?_
         refine WCs (fun K74 hK75 => ?_)
         refine WCg (WLr 2 [(2, .iface 73 (.int .i64 9)), (57, .iface 73 (.int .i64 9))] (fun _ => by kernel_rfl) (WLd rfl (QXn (hK75 _ _ ?_))))
         refine WC.ret ?_
         refine QXk ?_
         refine QXr ?_
         refine QXr ?_
         refine QXk ?_
         refine QXr ?_
         refine (hret _ _ _ rfl ?_).1
         clear hN hret hret' hK75 hK57 hK50 hK45 hK28 hK26 hK23 hK21 hK13 hK11 hK6 hK4 hK2
         rw [ends_bad1 he30 (goodE1_no (by omega))]
         exact ⟨rfl, hC55.fr⟩
        ·
         have t73 : e29.weight ≤ 16 := by have q_ := of_decide_eq_false t73b; omega
         refine WCf rfl (WC.skip ?_)
         refine QXb ?_
         refine QXn (hK26 _ _ ?_)
         refine WCg (WLr 1 [(58, .int .i64 (IntKind.i64.wrap ((i : Int) + 1)))] (fun _ => by kernel_rfl) ?_)
         refine WLt (show (.int .i64 (IntKind.i64.wrap ((i : Int) + 1)) : Value) = .int .i64 ((i : Int) + 1) from by rw [wrap_in_i64 ((i : Int) + 1) (by omega) (by omega)]) ?_
         refine WLr 1 [(15, .int .i64 ((i : Int) + 1))] (fun _ => by kernel_rfl) ?_
         refine WLd rfl ?_
         refine QXn ?_
         have hC76 := hC55.pick [] [] rfl rfl
         refine fun a_ ha_ => hK15 _ _ _ ?_ ⟨i + 1, rfl, rfl, hC76, by omega, (ends_step he30 hall hnd (goodE1_yes t58 (by omega) (by omega) (by omega) (by omega)) (by simpa using t61b)).1, (ends_step he30 hall hnd (goodE1_yes t58 (by omega) (by omega) (by omega) (by omega)) (by simpa using t61b)).2⟩ a_ (ha_.weaken (sub_of ⟨rfl, rfl, rfl, rfl, trivial⟩))
         omega
  ·
   have t24 : (ends.length : Int) ≤ (i : Int) := by have q_ := of_decide_eq_false t24b; omega
   refine WCf rfl ?_
   refine WC.exit ?_
   refine QXe ?_
   refine QXe ?_
   refine QX.block_hit ?_
   refine QXn (hK11 _ _ ?_)
   refine WCs (fun K77 hK78 => ?_)
   refine WCg (WLr 1 [(2, .nilIface)] (fun _ => by kernel_rfl) (WLd rfl (QXn (hK78 _ _ ?_))))
   refine WC.ret ?_
   refine (hret _ _ _ rfl ?_).1
   clear hN hret hret' hK78 hK23 hK21 hK13 hK11 hK6 hK4 hK2
   have hie_ : i = ends.length := by omega
   rw [List.take_of_length_le (by omega)] at hall hnd
   rw [ends_good (by omega) hall hnd]
   exact ⟨rfl, hC19.fr⟩

set_option maxHeartbeats 1000000 in
theorem like_ct (a b : Cmd) (w : World) (ha : cmdAt w a) (hb : cmdAt w b) : Calls Tryd.prog 59 #[.agg #[.int .i64 a.v.node, .int .i64 a.v.boot, .int .i64 a.v.seq, .int .i64 a.v.time, .int .i64 a.v.kind, .int .u32 a.v.svip, .int .i64 a.v.sproto, .int .i64 a.v.sport, .slice a.a a.v.ends.length a.c, .int .u32 a.v.dip, .int .u32 a.v.vip, .bool a.v.up], .agg #[.int .i64 b.v.node, .int .i64 b.v.boot, .int .i64 b.v.seq, .int .i64 b.v.time, .int .i64 b.v.kind, .int .u32 b.v.svip, .int .i64 b.v.sproto, .int .i64 b.v.sport, .slice b.a b.v.ends.length b.c, .int .u32 b.v.dip, .int .u32 b.v.vip, .bool b.v.up]] w fun e w' => e = .returned (.bool (decide (a.v = b.v))) ∧ Fr w w' [] := by
 refine enterD (n := 93) Tryd.func59 rfl rfl (Nat.le_of_ble_eq_true rfl) ?_
 intro Q0 hN hret hret'
 have hC := Cx.start w
 refine WCs (fun K1 hK2 => ?_)
 refine WCg ?_
 refine WL.newM hC (fun b => .pointer (some ⟨b, 0, none⟩)) (.cells #[.int .i64 a.v.node, .int .i64 a.v.boot, .int .i64 a.v.seq, .int .i64 a.v.time, .int .i64 a.v.kind, .int .u32 a.v.svip, .int .i64 a.v.sproto, .int .i64 a.v.sport, .slice a.a a.v.ends.length a.c, .int .u32 a.v.dip, .int .u32 a.v.vip, .bool a.v.up] 56) 2 (fun _ => by kernel_rfl) (fun g3 w4 hb7 hF5 hC6 => ?_)
 refine WL.newM hC6 (fun b => .pointer (some ⟨b, 0, none⟩)) (.cells #[.int .i64 b.v.node, .int .i64 b.v.boot, .int .i64 b.v.seq, .int .i64 b.v.time, .int .i64 b.v.kind, .int .u32 b.v.svip, .int .i64 b.v.sproto, .int .i64 b.v.sport, .slice b.a b.v.ends.length b.c, .int .u32 b.v.dip, .int .u32 b.v.vip, .bool b.v.up] 56) 3 (fun _ => by kernel_rfl) (fun g8 w9 hb12 hF10 hC11 => ?_)
 refine WLr 1 [(4, .bool false)] (fun _ => by kernel_rfl) (WLd rfl (QXn (hK2 _ _ ?_)))
 refine WCs (fun K13 hK14 => ?_)
 refine WC.drawC hC11 [] (by kernel_rfl) (fun w15 hF16 hC17 hS18 => ?_)
 refine WDp (NPt hN) 0 7 (.pointer (some ⟨g3, 5, none⟩)) (by kernel_rfl) (fun _ => by kernel_rfl) hS18 ?_
 refine WDp (NPt hN) 2 9 (.pointer (some ⟨g8, 5, none⟩)) (by kernel_rfl) (fun _ => by kernel_rfl) hS18 ?_
 refine WDl (NPt hN) 1 52 (.pointer (some ⟨g3, 5, none⟩)) (.agg #[.int .u32 a.v.svip, .int .i64 a.v.sproto, .int .i64 a.v.sport, .slice a.a a.v.ends.length a.c]) 8 (by kernel_rfl) (by kernel_rfl) (fun _ hS_ => run_ld (Fr.has hS_ (hC17.get 0 rfl) (by simp)) rfl) hS18 ?_
 refine WDl (NPt hN) 3 52 (.pointer (some ⟨g8, 5, none⟩)) (.agg #[.int .u32 b.v.svip, .int .i64 b.v.sproto, .int .i64 b.v.sport, .slice b.a b.v.ends.length b.c]) 10 (by kernel_rfl) (by kernel_rfl) (fun _ hS_ => run_ld (Fr.has hS_ (hC17.get 1 rfl) (by simp)) rfl) hS18 ?_
 refine WD.all2 4 5 (by kernel_rfl) ?_ ?_
 ·
  refine WO.new 4 (fun b => .pointer (some ⟨b, 0, none⟩)) (.cells #[.int .u32 0, .int .i64 0, .int .i64 0, .slice none 0 0] 52) (by kernel_rfl) rfl rfl rfl rfl rfl (fun _ => by kernel_rfl) (fun g19 w20 hb23 hl24 hF21 ho25 => ?_)
  have hC22 := hC17.callB hF21 hb23 ho25
  have hS26 := hS18.trans hF21 (by simp)
  refine ⟨hS26, ?_⟩
  refine WD.new 5 (fun b => .pointer (some ⟨b, 0, none⟩)) (.cells #[.int .u32 0, .int .i64 0, .int .i64 0, .slice none 0 0] 52) (by kernel_rfl) rfl rfl rfl rfl rfl (fun _ => by kernel_rfl) (fun g27 w28 hb31 hl32 hF29 ho33 => ?_)
  have hC30 := hC22.callB hF29 hb31 ho33
  have hS34 := hS26.trans hF29 (by simp)
  refine ⟨hS34, ?_⟩
  obtain ⟨w35, hr36, hF37, hC38⟩ := sto_run (c' := #[.int .u32 a.v.svip, .int .i64 a.v.sproto, .int .i64 a.v.sport, .slice a.a a.v.ends.length a.c]) Tryd.prog hC30 2 52 g19 0 (.agg #[.int .u32 a.v.svip, .int .i64 a.v.sproto, .int .i64 a.v.sport, .slice a.a a.v.ends.length a.c]) rfl (by kernel_rfl)
  have hS39 := hS34.trans hF37 (by first | (simp; done) | (simp [*]; done) | (have q_ := hS34.size; simp; omega))
  refine WD.semU 6 (Instr.storeAt 52 (.pointer (some ⟨g19, 0, none⟩)) (.agg #[.int .u32 a.v.svip, .int .i64 a.v.sproto, .int .i64 a.v.sport, .slice a.a a.v.ends.length a.c])) (by kernel_rfl) (by kernel_rfl) hr36 hS39 ?_
  obtain ⟨w40, hr41, hF42, hC43⟩ := sto_run (c' := #[.int .u32 b.v.svip, .int .i64 b.v.sproto, .int .i64 b.v.sport, .slice b.a b.v.ends.length b.c]) Tryd.prog hC38 3 52 g27 0 (.agg #[.int .u32 b.v.svip, .int .i64 b.v.sproto, .int .i64 b.v.sport, .slice b.a b.v.ends.length b.c]) rfl (by kernel_rfl)
  have hS44 := hS39.trans hF42 (by first | (simp; done) | (simp [*]; done) | (have q_ := hS39.size; simp; omega))
  refine WD.semU 7 (Instr.storeAt 52 (.pointer (some ⟨g27, 0, none⟩)) (.agg #[.int .u32 b.v.svip, .int .i64 b.v.sproto, .int .i64 b.v.sport, .slice b.a b.v.ends.length b.c])) (by kernel_rfl) (by kernel_rfl) hr41 hS44 ?_
  refine WD.done (by kernel_rfl) ?_
  refine QXn (hK14 _ _ ?_)
  refine WCs (fun K45 hK46 => ?_)
  refine WCg (WLr 1 [(11, .pointer (some ⟨g3, 0, none⟩))] (fun _ => by kernel_rfl) ?_)
  refine WL.load 3 (.pointer (some ⟨g3, 0, none⟩)) (.int .i64 a.v.node) 12 (by kernel_rfl) (run_ld (hC43.get 0 rfl) rfl) ?_
  refine WLr 1 [(13, .pointer (some ⟨g8, 0, none⟩))] (fun _ => by kernel_rfl) ?_
  refine WL.load 3 (.pointer (some ⟨g8, 0, none⟩)) (.int .i64 b.v.node) 14 (by kernel_rfl) (run_ld (hC43.get 1 rfl) rfl) ?_
  refine WLr 2 [(16, .bool (a.v.node == b.v.node)), (15, .bool (a.v.node == b.v.node))] (fun _ => by kernel_rfl) ?_
  refine WLa 16 (a.v.node == b.v.node) rfl (fun t47b => ?_) (fun t47b => ?_)
  ·
   have t47 : a.v.node = b.v.node := by simpa using t47b
   refine WLr 1 [(17, .pointer (some ⟨g3, 1, none⟩))] (fun _ => by kernel_rfl) ?_
   refine WL.load 3 (.pointer (some ⟨g3, 1, none⟩)) (.int .i64 a.v.boot) 18 (by kernel_rfl) (run_ld (hC43.get 0 rfl) rfl) ?_
   refine WLr 1 [(19, .pointer (some ⟨g8, 1, none⟩))] (fun _ => by kernel_rfl) ?_
   refine WL.load 3 (.pointer (some ⟨g8, 1, none⟩)) (.int .i64 b.v.boot) 20 (by kernel_rfl) (run_ld (hC43.get 1 rfl) rfl) ?_
   refine WLr 3 [(23, .bool (a.v.boot == b.v.boot)), (22, .bool (a.v.boot == b.v.boot)), (21, .bool (a.v.boot == b.v.boot))] (fun _ => by kernel_rfl) ?_
   refine WLa 23 (a.v.boot == b.v.boot) rfl (fun t48b => ?_) (fun t48b => ?_)
   ·
    have t48 : a.v.boot = b.v.boot := by simpa using t48b
    refine WLr 1 [(24, .pointer (some ⟨g3, 2, none⟩))] (fun _ => by kernel_rfl) ?_
    refine WL.load 3 (.pointer (some ⟨g3, 2, none⟩)) (.int .i64 a.v.seq) 25 (by kernel_rfl) (run_ld (hC43.get 0 rfl) rfl) ?_
    refine WLr 1 [(26, .pointer (some ⟨g8, 2, none⟩))] (fun _ => by kernel_rfl) ?_
    refine WL.load 3 (.pointer (some ⟨g8, 2, none⟩)) (.int .i64 b.v.seq) 27 (by kernel_rfl) (run_ld (hC43.get 1 rfl) rfl) ?_
    refine WLr 3 [(30, .bool (a.v.seq == b.v.seq)), (29, .bool (a.v.seq == b.v.seq)), (28, .bool (a.v.seq == b.v.seq))] (fun _ => by kernel_rfl) ?_
    refine WLa 30 (a.v.seq == b.v.seq) rfl (fun t49b => ?_) (fun t49b => ?_)
    ·
     have t49 : a.v.seq = b.v.seq := by simpa using t49b
     refine WLr 1 [(31, .pointer (some ⟨g3, 3, none⟩))] (fun _ => by kernel_rfl) ?_
     refine WL.load 3 (.pointer (some ⟨g3, 3, none⟩)) (.int .i64 a.v.time) 32 (by kernel_rfl) (run_ld (hC43.get 0 rfl) rfl) ?_
     refine WLr 1 [(33, .pointer (some ⟨g8, 3, none⟩))] (fun _ => by kernel_rfl) ?_
     refine WL.load 3 (.pointer (some ⟨g8, 3, none⟩)) (.int .i64 b.v.time) 34 (by kernel_rfl) (run_ld (hC43.get 1 rfl) rfl) ?_
     refine WLr 3 [(37, .bool (a.v.time == b.v.time)), (36, .bool (a.v.time == b.v.time)), (35, .bool (a.v.time == b.v.time))] (fun _ => by kernel_rfl) ?_
     refine WLa 37 (a.v.time == b.v.time) rfl (fun t50b => ?_) (fun t50b => ?_)
     ·
      have t50 : a.v.time = b.v.time := by simpa using t50b
      refine WLr 1 [(38, .pointer (some ⟨g3, 4, none⟩))] (fun _ => by kernel_rfl) ?_
      refine WL.load 3 (.pointer (some ⟨g3, 4, none⟩)) (.int .i64 a.v.kind) 39 (by kernel_rfl) (run_ld (hC43.get 0 rfl) rfl) ?_
      refine WLr 1 [(40, .pointer (some ⟨g8, 4, none⟩))] (fun _ => by kernel_rfl) ?_
      refine WL.load 3 (.pointer (some ⟨g8, 4, none⟩)) (.int .i64 b.v.kind) 41 (by kernel_rfl) (run_ld (hC43.get 1 rfl) rfl) ?_
      refine WLr 3 [(44, .bool (a.v.kind == b.v.kind)), (43, .bool (a.v.kind == b.v.kind)), (42, .bool (a.v.kind == b.v.kind))] (fun _ => by kernel_rfl) ?_
      refine WLa 44 (a.v.kind == b.v.kind) rfl (fun t51b => ?_) (fun t51b => ?_)
      ·
       have t51 : a.v.kind = b.v.kind := by simpa using t51b
       refine WLr 1 [(45, .pointer (some ⟨g3, 9, none⟩))] (fun _ => by kernel_rfl) ?_
       refine WL.load 41 (.pointer (some ⟨g3, 9, none⟩)) (.int .u32 a.v.dip) 46 (by kernel_rfl) (run_ld (hC43.get 0 rfl) rfl) ?_
       refine WLr 1 [(47, .pointer (some ⟨g8, 9, none⟩))] (fun _ => by kernel_rfl) ?_
       refine WL.load 41 (.pointer (some ⟨g8, 9, none⟩)) (.int .u32 b.v.dip) 48 (by kernel_rfl) (run_ld (hC43.get 1 rfl) rfl) ?_
       refine WLr 3 [(51, .bool (a.v.dip == b.v.dip)), (50, .bool (a.v.dip == b.v.dip)), (49, .bool (a.v.dip == b.v.dip))] (fun _ => by kernel_rfl) ?_
       refine WLa 51 (a.v.dip == b.v.dip) rfl (fun t52b => ?_) (fun t52b => ?_)
       ·
        have t52 : a.v.dip = b.v.dip := by simpa using t52b
        refine WLr 1 [(52, .pointer (some ⟨g3, 10, none⟩))] (fun _ => by kernel_rfl) ?_
        refine WL.load 41 (.pointer (some ⟨g3, 10, none⟩)) (.int .u32 a.v.vip) 53 (by kernel_rfl) (run_ld (hC43.get 0 rfl) rfl) ?_
        refine WLr 1 [(54, .pointer (some ⟨g8, 10, none⟩))] (fun _ => by kernel_rfl) ?_
        refine WL.load 41 (.pointer (some ⟨g8, 10, none⟩)) (.int .u32 b.v.vip) 55 (by kernel_rfl) (run_ld (hC43.get 1 rfl) rfl) ?_
        refine WLr 3 [(58, .bool (a.v.vip == b.v.vip)), (57, .bool (a.v.vip == b.v.vip)), (56, .bool (a.v.vip == b.v.vip))] (fun _ => by kernel_rfl) ?_
        refine WLa 58 (a.v.vip == b.v.vip) rfl (fun t53b => ?_) (fun t53b => ?_)
        ·
         have t53 : a.v.vip = b.v.vip := by simpa using t53b
         refine WLr 1 [(59, .pointer (some ⟨g3, 11, none⟩))] (fun _ => by kernel_rfl) ?_
         refine WL.load 4 (.pointer (some ⟨g3, 11, none⟩)) (.bool a.v.up) 60 (by kernel_rfl) (run_ld (hC43.get 0 rfl) rfl) ?_
         refine WLr 1 [(61, .pointer (some ⟨g8, 11, none⟩))] (fun _ => by kernel_rfl) ?_
         refine WL.load 4 (.pointer (some ⟨g8, 11, none⟩)) (.bool b.v.up) 62 (by kernel_rfl) (run_ld (hC43.get 1 rfl) rfl) ?_
         refine WLr 3 [(65, .bool (a.v.up == b.v.up)), (64, .bool (a.v.up == b.v.up)), (63, .bool (a.v.up == b.v.up))] (fun _ => by kernel_rfl) ?_
         refine WLa 65 (a.v.up == b.v.up) rfl (fun t54b => ?_) (fun t54b => ?_)
         ·
          refine WLr 1 [(66, .pointer (some ⟨g19, 0, none⟩))] (fun _ => by kernel_rfl) ?_
          refine WL.load 41 (.pointer (some ⟨g19, 0, none⟩)) (.int .u32 a.v.svip) 67 (by kernel_rfl) (run_ld (hC43.get 2 rfl) rfl) ?_
          refine WLr 1 [(68, .pointer (some ⟨g27, 0, none⟩))] (fun _ => by kernel_rfl) ?_
          refine WL.load 41 (.pointer (some ⟨g27, 0, none⟩)) (.int .u32 b.v.svip) 69 (by kernel_rfl) (run_ld (hC43.get 3 rfl) rfl) ?_
          refine WLr 3 [(72, .bool (a.v.svip == b.v.svip)), (71, .bool (a.v.svip == b.v.svip)), (70, .bool (a.v.svip == b.v.svip))] (fun _ => by kernel_rfl) ?_
          refine WLa 72 (a.v.svip == b.v.svip) rfl (fun t55b => ?_) (fun t55b => ?_)
          ·
           have t55 : a.v.svip = b.v.svip := by simpa using t55b
           refine WLr 1 [(73, .pointer (some ⟨g19, 1, none⟩))] (fun _ => by kernel_rfl) ?_
           refine WL.load 3 (.pointer (some ⟨g19, 1, none⟩)) (.int .i64 a.v.sproto) 74 (by kernel_rfl) (run_ld (hC43.get 2 rfl) rfl) ?_
           refine WLr 1 [(75, .pointer (some ⟨g27, 1, none⟩))] (fun _ => by kernel_rfl) ?_
           refine WL.load 3 (.pointer (some ⟨g27, 1, none⟩)) (.int .i64 b.v.sproto) 76 (by kernel_rfl) (run_ld (hC43.get 3 rfl) rfl) ?_
           refine WLr 3 [(79, .bool (a.v.sproto == b.v.sproto)), (78, .bool (a.v.sproto == b.v.sproto)), (77, .bool (a.v.sproto == b.v.sproto))] (fun _ => by kernel_rfl) ?_
           refine WLa 79 (a.v.sproto == b.v.sproto) rfl (fun t56b => ?_) (fun t56b => ?_)
           ·
            have t56 : a.v.sproto = b.v.sproto := by simpa using t56b
            refine WLr 1 [(80, .pointer (some ⟨g19, 2, none⟩))] (fun _ => by kernel_rfl) ?_
            refine WL.load 3 (.pointer (some ⟨g19, 2, none⟩)) (.int .i64 a.v.sport) 81 (by kernel_rfl) (run_ld (hC43.get 2 rfl) rfl) ?_
            refine WLr 1 [(82, .pointer (some ⟨g27, 2, none⟩))] (fun _ => by kernel_rfl) ?_
            refine WL.load 3 (.pointer (some ⟨g27, 2, none⟩)) (.int .i64 b.v.sport) 83 (by kernel_rfl) (run_ld (hC43.get 3 rfl) rfl) ?_
            refine WLr 3 [(86, .bool (a.v.sport == b.v.sport)), (85, .bool (a.v.sport == b.v.sport)), (84, .bool (a.v.sport == b.v.sport))] (fun _ => by kernel_rfl) ?_
            refine WLa 86 (a.v.sport == b.v.sport) rfl (fun t57b => ?_) (fun t57b => ?_)
            ·
             have t57 : a.v.sport = b.v.sport := by simpa using t57b
             refine WLr 1 [(87, .pointer (some ⟨g19, 3, none⟩))] (fun _ => by kernel_rfl) ?_
             refine WL.load 50 (.pointer (some ⟨g19, 3, none⟩)) (.slice a.a a.v.ends.length a.c) 88 (by kernel_rfl) (run_ld (hC43.get 2 rfl) rfl) ?_
             refine WLr 1 [(89, .pointer (some ⟨g27, 3, none⟩))] (fun _ => by kernel_rfl) ?_
             refine WL.load 50 (.pointer (some ⟨g27, 3, none⟩)) (.slice b.a b.v.ends.length b.c) 90 (by kernel_rfl) (run_ld (hC43.get 3 rfl) rfl) ?_
             refine WLc rfl rfl rfl rfl rfl (by kernel_rfl) (EqualE_n a.a b.a a.v.ends.length a.c b.v.ends.length b.c a.v.ends b.v.ends w40 (Rd.fr ha.rd hC43.fr) (Rd.fr hb.rd hC43.fr) rfl rfl ha.lim) ?_
             rintro _ w59 ⟨rfl, hF58⟩
             refine ⟨_, rfl, ?_⟩
             have hC60 := hC43.call hF58
             refine WLr 2 [(4, .bool (decide (a.v.ends = b.v.ends))), (92, .bool (decide (a.v.ends = b.v.ends)))] (fun _ => by kernel_rfl) (WLd rfl (QXn (hK46 _ _ ?_)))
             refine WC.ret ?_
             refine (hret _ _ _ rfl ?_).1
             exact ⟨congrArg (fun b_ => Ending.returned (Value.bool b_)) (like_last (by simpa using t47b) (by simpa using t48b) (by simpa using t49b) (by simpa using t50b) (by simpa using t51b) (by simpa using t52b) (by simpa using t53b) (by simpa using t54b) (by simpa using t55b) (by simpa using t56b) (by simpa using t57b)), hC60.fr⟩
            ·
             have t57 : ¬ (a.v.sport = b.v.sport) := by simpa using t57b
             refine WLr 7 [(4, .bool false), (92, .bool false), (91, undef), (90, undef), (89, undef), (88, undef), (87, undef)] (fun _ => by kernel_rfl) (WLd rfl (QXn (hK46 _ _ ?_)))
             refine WC.ret ?_
             refine (hret _ _ _ rfl ?_).1
             exact ⟨congrArg (fun b_ => Ending.returned (Value.bool b_)) (decide_eq_false (fun e_ => absurd (congrArg CmdV.sport e_) (by simpa using t57b))).symm, hC43.fr⟩
           ·
            have t56 : ¬ (a.v.sproto = b.v.sproto) := by simpa using t56b
            refine WLr 14 [(4, .bool false), (92, .bool false), (91, undef), (90, undef), (89, undef), (88, undef), (87, undef), (86, .bool false), (85, .bool false), (84, undef), (83, undef), (82, undef), (81, undef), (80, undef)] (fun _ => by kernel_rfl) (WLd rfl (QXn (hK46 _ _ ?_)))
            refine WC.ret ?_
            refine (hret _ _ _ rfl ?_).1
            exact ⟨congrArg (fun b_ => Ending.returned (Value.bool b_)) (decide_eq_false (fun e_ => absurd (congrArg CmdV.sproto e_) (by simpa using t56b))).symm, hC43.fr⟩
          ·
           have t55 : ¬ (a.v.svip = b.v.svip) := by simpa using t55b
           refine WLr 21 [(4, .bool false), (92, .bool false), (91, undef), (90, undef), (89, undef), (88, undef), (87, undef), (86, .bool false), (85, .bool false), (84, undef), (83, undef), (82, undef), (81, undef), (80, undef), (79, .bool false), (78, .bool false), (77, undef), (76, undef), (75, undef), (74, undef), (73, undef)] (fun _ => by kernel_rfl) (WLd rfl (QXn (hK46 _ _ ?_)))
           refine WC.ret ?_
           refine (hret _ _ _ rfl ?_).1
           exact ⟨congrArg (fun b_ => Ending.returned (Value.bool b_)) (decide_eq_false (fun e_ => absurd (congrArg CmdV.svip e_) (by simpa using t55b))).symm, hC43.fr⟩
         ·
          refine WLr 28 [(4, .bool false), (92, .bool false), (91, undef), (90, undef), (89, undef), (88, undef), (87, undef), (86, .bool false), (85, .bool false), (84, undef), (83, undef), (82, undef), (81, undef), (80, undef), (79, .bool false), (78, .bool false), (77, undef), (76, undef), (75, undef), (74, undef), (73, undef), (72, .bool false), (71, .bool false), (70, undef), (69, undef), (68, undef), (67, undef), (66, undef)] (fun _ => by kernel_rfl) (WLd rfl (QXn (hK46 _ _ ?_)))
          refine WC.ret ?_
          refine (hret _ _ _ rfl ?_).1
          exact ⟨congrArg (fun b_ => Ending.returned (Value.bool b_)) (decide_eq_false (fun e_ => absurd (congrArg CmdV.up e_) (by simpa using t54b))).symm, hC43.fr⟩
        ·
         have t53 : ¬ (a.v.vip = b.v.vip) := by simpa using t53b
         refine WLr 35 [(4, .bool false), (92, .bool false), (91, undef), (90, undef), (89, undef), (88, undef), (87, undef), (86, .bool false), (85, .bool false), (84, undef), (83, undef), (82, undef), (81, undef), (80, undef), (79, .bool false), (78, .bool false), (77, undef), (76, undef), (75, undef), (74, undef), (73, undef), (72, .bool false), (71, .bool false), (70, undef), (69, undef), (68, undef), (67, undef), (66, undef), (65, .bool false), (64, .bool false), (63, undef), (62, undef), (61, undef), (60, undef), (59, undef)] (fun _ => by kernel_rfl) (WLd rfl (QXn (hK46 _ _ ?_)))
         refine WC.ret ?_
         refine (hret _ _ _ rfl ?_).1
         exact ⟨congrArg (fun b_ => Ending.returned (Value.bool b_)) (decide_eq_false (fun e_ => absurd (congrArg CmdV.vip e_) (by simpa using t53b))).symm, hC43.fr⟩
       ·
        have t52 : ¬ (a.v.dip = b.v.dip) := by simpa using t52b
        refine WLr 42 [(4, .bool false), (92, .bool false), (91, undef), (90, undef), (89, undef), (88, undef), (87, undef), (86, .bool false), (85, .bool false), (84, undef), (83, undef), (82, undef), (81, undef), (80, undef), (79, .bool false), (78, .bool false), (77, undef), (76, undef), (75, undef), (74, undef), (73, undef), (72, .bool false), (71, .bool false), (70, undef), (69, undef), (68, undef), (67, undef), (66, undef), (65, .bool false), (64, .bool false), (63, undef), (62, undef), (61, undef), (60, undef), (59, undef), (58, .bool false), (57, .bool false), (56, undef), (55, undef), (54, undef), (53, undef), (52, undef)] (fun _ => by kernel_rfl) (WLd rfl (QXn (hK46 _ _ ?_)))
        refine WC.ret ?_
        refine (hret _ _ _ rfl ?_).1
        exact ⟨congrArg (fun b_ => Ending.returned (Value.bool b_)) (decide_eq_false (fun e_ => absurd (congrArg CmdV.dip e_) (by simpa using t52b))).symm, hC43.fr⟩
      ·
       have t51 : ¬ (a.v.kind = b.v.kind) := by simpa using t51b
       refine WLr 49 [(4, .bool false), (92, .bool false), (91, undef), (90, undef), (89, undef), (88, undef), (87, undef), (86, .bool false), (85, .bool false), (84, undef), (83, undef), (82, undef), (81, undef), (80, undef), (79, .bool false), (78, .bool false), (77, undef), (76, undef), (75, undef), (74, undef), (73, undef), (72, .bool false), (71, .bool false), (70, undef), (69, undef), (68, undef), (67, undef), (66, undef), (65, .bool false), (64, .bool false), (63, undef), (62, undef), (61, undef), (60, undef), (59, undef), (58, .bool false), (57, .bool false), (56, undef), (55, undef), (54, undef), (53, undef), (52, undef), (51, .bool false), (50, .bool false), (49, undef), (48, undef), (47, undef), (46, undef), (45, undef)] (fun _ => by kernel_rfl) (WLd rfl (QXn (hK46 _ _ ?_)))
       refine WC.ret ?_
       refine (hret _ _ _ rfl ?_).1
       exact ⟨congrArg (fun b_ => Ending.returned (Value.bool b_)) (decide_eq_false (fun e_ => absurd (congrArg CmdV.kind e_) (by simpa using t51b))).symm, hC43.fr⟩
     ·
      have t50 : ¬ (a.v.time = b.v.time) := by simpa using t50b
      refine WLr 56 [(4, .bool false), (92, .bool false), (91, undef), (90, undef), (89, undef), (88, undef), (87, undef), (86, .bool false), (85, .bool false), (84, undef), (83, undef), (82, undef), (81, undef), (80, undef), (79, .bool false), (78, .bool false), (77, undef), (76, undef), (75, undef), (74, undef), (73, undef), (72, .bool false), (71, .bool false), (70, undef), (69, undef), (68, undef), (67, undef), (66, undef), (65, .bool false), (64, .bool false), (63, undef), (62, undef), (61, undef), (60, undef), (59, undef), (58, .bool false), (57, .bool false), (56, undef), (55, undef), (54, undef), (53, undef), (52, undef), (51, .bool false), (50, .bool false), (49, undef), (48, undef), (47, undef), (46, undef), (45, undef), (44, .bool false), (43, .bool false), (42, undef), (41, undef), (40, undef), (39, undef), (38, undef)] (fun _ => by kernel_rfl) (WLd rfl (QXn (hK46 _ _ ?_)))
      refine WC.ret ?_
      refine (hret _ _ _ rfl ?_).1
      exact ⟨congrArg (fun b_ => Ending.returned (Value.bool b_)) (decide_eq_false (fun e_ => absurd (congrArg CmdV.time e_) (by simpa using t50b))).symm, hC43.fr⟩
    ·
     have t49 : ¬ (a.v.seq = b.v.seq) := by simpa using t49b
     refine WLr 63 [(4, .bool false), (92, .bool false), (91, undef), (90, undef), (89, undef), (88, undef), (87, undef), (86, .bool false), (85, .bool false), (84, undef), (83, undef), (82, undef), (81, undef), (80, undef), (79, .bool false), (78, .bool false), (77, undef), (76, undef), (75, undef), (74, undef), (73, undef), (72, .bool false), (71, .bool false), (70, undef), (69, undef), (68, undef), (67, undef), (66, undef), (65, .bool false), (64, .bool false), (63, undef), (62, undef), (61, undef), (60, undef), (59, undef), (58, .bool false), (57, .bool false), (56, undef), (55, undef), (54, undef), (53, undef), (52, undef), (51, .bool false), (50, .bool false), (49, undef), (48, undef), (47, undef), (46, undef), (45, undef), (44, .bool false), (43, .bool false), (42, undef), (41, undef), (40, undef), (39, undef), (38, undef), (37, .bool false), (36, .bool false), (35, undef), (34, undef), (33, undef), (32, undef), (31, undef)] (fun _ => by kernel_rfl) (WLd rfl (QXn (hK46 _ _ ?_)))
     refine WC.ret ?_
     refine (hret _ _ _ rfl ?_).1
     exact ⟨congrArg (fun b_ => Ending.returned (Value.bool b_)) (decide_eq_false (fun e_ => absurd (congrArg CmdV.seq e_) (by simpa using t49b))).symm, hC43.fr⟩
   ·
    have t48 : ¬ (a.v.boot = b.v.boot) := by simpa using t48b
    refine WLr 70 [(4, .bool false), (92, .bool false), (91, undef), (90, undef), (89, undef), (88, undef), (87, undef), (86, .bool false), (85, .bool false), (84, undef), (83, undef), (82, undef), (81, undef), (80, undef), (79, .bool false), (78, .bool false), (77, undef), (76, undef), (75, undef), (74, undef), (73, undef), (72, .bool false), (71, .bool false), (70, undef), (69, undef), (68, undef), (67, undef), (66, undef), (65, .bool false), (64, .bool false), (63, undef), (62, undef), (61, undef), (60, undef), (59, undef), (58, .bool false), (57, .bool false), (56, undef), (55, undef), (54, undef), (53, undef), (52, undef), (51, .bool false), (50, .bool false), (49, undef), (48, undef), (47, undef), (46, undef), (45, undef), (44, .bool false), (43, .bool false), (42, undef), (41, undef), (40, undef), (39, undef), (38, undef), (37, .bool false), (36, .bool false), (35, undef), (34, undef), (33, undef), (32, undef), (31, undef), (30, .bool false), (29, .bool false), (28, undef), (27, undef), (26, undef), (25, undef), (24, undef)] (fun _ => by kernel_rfl) (WLd rfl (QXn (hK46 _ _ ?_)))
    refine WC.ret ?_
    refine (hret _ _ _ rfl ?_).1
    exact ⟨congrArg (fun b_ => Ending.returned (Value.bool b_)) (decide_eq_false (fun e_ => absurd (congrArg CmdV.boot e_) (by simpa using t48b))).symm, hC43.fr⟩
  ·
   have t47 : ¬ (a.v.node = b.v.node) := by simpa using t47b
   refine WLr 77 [(4, .bool false), (92, .bool false), (91, undef), (90, undef), (89, undef), (88, undef), (87, undef), (86, .bool false), (85, .bool false), (84, undef), (83, undef), (82, undef), (81, undef), (80, undef), (79, .bool false), (78, .bool false), (77, undef), (76, undef), (75, undef), (74, undef), (73, undef), (72, .bool false), (71, .bool false), (70, undef), (69, undef), (68, undef), (67, undef), (66, undef), (65, .bool false), (64, .bool false), (63, undef), (62, undef), (61, undef), (60, undef), (59, undef), (58, .bool false), (57, .bool false), (56, undef), (55, undef), (54, undef), (53, undef), (52, undef), (51, .bool false), (50, .bool false), (49, undef), (48, undef), (47, undef), (46, undef), (45, undef), (44, .bool false), (43, .bool false), (42, undef), (41, undef), (40, undef), (39, undef), (38, undef), (37, .bool false), (36, .bool false), (35, undef), (34, undef), (33, undef), (32, undef), (31, undef), (30, .bool false), (29, .bool false), (28, undef), (27, undef), (26, undef), (25, undef), (24, undef), (23, .bool false), (22, .bool false), (21, undef), (20, undef), (19, undef), (18, undef), (17, undef)] (fun _ => by kernel_rfl) (WLd rfl (QXn (hK46 _ _ ?_)))
   refine WC.ret ?_
   refine (hret _ _ _ rfl ?_).1
   exact ⟨congrArg (fun b_ => Ending.returned (Value.bool b_)) (decide_eq_false (fun e_ => absurd (congrArg CmdV.node e_) (by simpa using t47b))).symm, hC43.fr⟩
 ·
  refine WO.new 5 (fun b => .pointer (some ⟨b, 0, none⟩)) (.cells #[.int .u32 0, .int .i64 0, .int .i64 0, .slice none 0 0] 52) (by kernel_rfl) rfl rfl rfl rfl rfl (fun _ => by kernel_rfl) (fun g61 w62 hb65 hl66 hF63 ho67 => ?_)
  have hC64 := hC17.callB hF63 hb65 ho67
  have hS68 := hS18.trans hF63 (by simp)
  refine ⟨hS68, ?_⟩
  refine WD.new 4 (fun b => .pointer (some ⟨b, 0, none⟩)) (.cells #[.int .u32 0, .int .i64 0, .int .i64 0, .slice none 0 0] 52) (by kernel_rfl) rfl rfl rfl rfl rfl (fun _ => by kernel_rfl) (fun g69 w70 hb73 hl74 hF71 ho75 => ?_)
  have hC72 := hC64.callB hF71 hb73 ho75
  have hS76 := hS68.trans hF71 (by simp)
  refine ⟨hS76, ?_⟩
  obtain ⟨w77, hr78, hF79, hC80⟩ := sto_run (c' := #[.int .u32 a.v.svip, .int .i64 a.v.sproto, .int .i64 a.v.sport, .slice a.a a.v.ends.length a.c]) Tryd.prog hC72 3 52 g69 0 (.agg #[.int .u32 a.v.svip, .int .i64 a.v.sproto, .int .i64 a.v.sport, .slice a.a a.v.ends.length a.c]) rfl (by kernel_rfl)
  have hS81 := hS76.trans hF79 (by first | (simp; done) | (simp [*]; done) | (have q_ := hS76.size; simp; omega))
  refine WD.semU 6 (Instr.storeAt 52 (.pointer (some ⟨g69, 0, none⟩)) (.agg #[.int .u32 a.v.svip, .int .i64 a.v.sproto, .int .i64 a.v.sport, .slice a.a a.v.ends.length a.c])) (by kernel_rfl) (by kernel_rfl) hr78 hS81 ?_
  obtain ⟨w82, hr83, hF84, hC85⟩ := sto_run (c' := #[.int .u32 b.v.svip, .int .i64 b.v.sproto, .int .i64 b.v.sport, .slice b.a b.v.ends.length b.c]) Tryd.prog hC80 2 52 g61 0 (.agg #[.int .u32 b.v.svip, .int .i64 b.v.sproto, .int .i64 b.v.sport, .slice b.a b.v.ends.length b.c]) rfl (by kernel_rfl)
  have hS86 := hS81.trans hF84 (by first | (simp; done) | (simp [*]; done) | (have q_ := hS81.size; simp; omega))
  refine WD.semU 7 (Instr.storeAt 52 (.pointer (some ⟨g61, 0, none⟩)) (.agg #[.int .u32 b.v.svip, .int .i64 b.v.sproto, .int .i64 b.v.sport, .slice b.a b.v.ends.length b.c])) (by kernel_rfl) (by kernel_rfl) hr83 hS86 ?_
  refine WD.done (by kernel_rfl) ?_
  refine QXn (hK14 _ _ ?_)
  refine WCs (fun K87 hK88 => ?_)
  refine WCg (WLr 1 [(11, .pointer (some ⟨g3, 0, none⟩))] (fun _ => by kernel_rfl) ?_)
  refine WL.load 3 (.pointer (some ⟨g3, 0, none⟩)) (.int .i64 a.v.node) 12 (by kernel_rfl) (run_ld (hC85.get 0 rfl) rfl) ?_
  refine WLr 1 [(13, .pointer (some ⟨g8, 0, none⟩))] (fun _ => by kernel_rfl) ?_
  refine WL.load 3 (.pointer (some ⟨g8, 0, none⟩)) (.int .i64 b.v.node) 14 (by kernel_rfl) (run_ld (hC85.get 1 rfl) rfl) ?_
  refine WLr 2 [(16, .bool (a.v.node == b.v.node)), (15, .bool (a.v.node == b.v.node))] (fun _ => by kernel_rfl) ?_
  refine WLa 16 (a.v.node == b.v.node) rfl (fun t89b => ?_) (fun t89b => ?_)
  ·
   have t89 : a.v.node = b.v.node := by simpa using t89b
   refine WLr 1 [(17, .pointer (some ⟨g3, 1, none⟩))] (fun _ => by kernel_rfl) ?_
   refine WL.load 3 (.pointer (some ⟨g3, 1, none⟩)) (.int .i64 a.v.boot) 18 (by kernel_rfl) (run_ld (hC85.get 0 rfl) rfl) ?_
   refine WLr 1 [(19, .pointer (some ⟨g8, 1, none⟩))] (fun _ => by kernel_rfl) ?_
   refine WL.load 3 (.pointer (some ⟨g8, 1, none⟩)) (.int .i64 b.v.boot) 20 (by kernel_rfl) (run_ld (hC85.get 1 rfl) rfl) ?_
   refine WLr 3 [(23, .bool (a.v.boot == b.v.boot)), (22, .bool (a.v.boot == b.v.boot)), (21, .bool (a.v.boot == b.v.boot))] (fun _ => by kernel_rfl) ?_
   refine WLa 23 (a.v.boot == b.v.boot) rfl (fun t90b => ?_) (fun t90b => ?_)
   ·
    have t90 : a.v.boot = b.v.boot := by simpa using t90b
    refine WLr 1 [(24, .pointer (some ⟨g3, 2, none⟩))] (fun _ => by kernel_rfl) ?_
    refine WL.load 3 (.pointer (some ⟨g3, 2, none⟩)) (.int .i64 a.v.seq) 25 (by kernel_rfl) (run_ld (hC85.get 0 rfl) rfl) ?_
    refine WLr 1 [(26, .pointer (some ⟨g8, 2, none⟩))] (fun _ => by kernel_rfl) ?_
    refine WL.load 3 (.pointer (some ⟨g8, 2, none⟩)) (.int .i64 b.v.seq) 27 (by kernel_rfl) (run_ld (hC85.get 1 rfl) rfl) ?_
    refine WLr 3 [(30, .bool (a.v.seq == b.v.seq)), (29, .bool (a.v.seq == b.v.seq)), (28, .bool (a.v.seq == b.v.seq))] (fun _ => by kernel_rfl) ?_
    refine WLa 30 (a.v.seq == b.v.seq) rfl (fun t91b => ?_) (fun t91b => ?_)
    ·
     have t91 : a.v.seq = b.v.seq := by simpa using t91b
     refine WLr 1 [(31, .pointer (some ⟨g3, 3, none⟩))] (fun _ => by kernel_rfl) ?_
     refine WL.load 3 (.pointer (some ⟨g3, 3, none⟩)) (.int .i64 a.v.time) 32 (by kernel_rfl) (run_ld (hC85.get 0 rfl) rfl) ?_
     refine WLr 1 [(33, .pointer (some ⟨g8, 3, none⟩))] (fun _ => by kernel_rfl) ?_
     refine WL.load 3 (.pointer (some ⟨g8, 3, none⟩)) (.int .i64 b.v.time) 34 (by kernel_rfl) (run_ld (hC85.get 1 rfl) rfl) ?_
     refine WLr 3 [(37, .bool (a.v.time == b.v.time)), (36, .bool (a.v.time == b.v.time)), (35, .bool (a.v.time == b.v.time))] (fun _ => by kernel_rfl) ?_
     refine WLa 37 (a.v.time == b.v.time) rfl (fun t92b => ?_) (fun t92b => ?_)
     ·
      have t92 : a.v.time = b.v.time := by simpa using t92b
      refine WLr 1 [(38, .pointer (some ⟨g3, 4, none⟩))] (fun _ => by kernel_rfl) ?_
      refine WL.load 3 (.pointer (some ⟨g3, 4, none⟩)) (.int .i64 a.v.kind) 39 (by kernel_rfl) (run_ld (hC85.get 0 rfl) rfl) ?_
      refine WLr 1 [(40, .pointer (some ⟨g8, 4, none⟩))] (fun _ => by kernel_rfl) ?_
      refine WL.load 3 (.pointer (some ⟨g8, 4, none⟩)) (.int .i64 b.v.kind) 41 (by kernel_rfl) (run_ld (hC85.get 1 rfl) rfl) ?_
      refine WLr 3 [(44, .bool (a.v.kind == b.v.kind)), (43, .bool (a.v.kind == b.v.kind)), (42, .bool (a.v.kind == b.v.kind))] (fun _ => by kernel_rfl) ?_
      refine WLa 44 (a.v.kind == b.v.kind) rfl (fun t93b => ?_) (fun t93b => ?_)
      ·
       have t93 : a.v.kind = b.v.kind := by simpa using t93b
       refine WLr 1 [(45, .pointer (some ⟨g3, 9, none⟩))] (fun _ => by kernel_rfl) ?_
       refine WL.load 41 (.pointer (some ⟨g3, 9, none⟩)) (.int .u32 a.v.dip) 46 (by kernel_rfl) (run_ld (hC85.get 0 rfl) rfl) ?_
       refine WLr 1 [(47, .pointer (some ⟨g8, 9, none⟩))] (fun _ => by kernel_rfl) ?_
       refine WL.load 41 (.pointer (some ⟨g8, 9, none⟩)) (.int .u32 b.v.dip) 48 (by kernel_rfl) (run_ld (hC85.get 1 rfl) rfl) ?_
       refine WLr 3 [(51, .bool (a.v.dip == b.v.dip)), (50, .bool (a.v.dip == b.v.dip)), (49, .bool (a.v.dip == b.v.dip))] (fun _ => by kernel_rfl) ?_
       refine WLa 51 (a.v.dip == b.v.dip) rfl (fun t94b => ?_) (fun t94b => ?_)
       ·
        have t94 : a.v.dip = b.v.dip := by simpa using t94b
        refine WLr 1 [(52, .pointer (some ⟨g3, 10, none⟩))] (fun _ => by kernel_rfl) ?_
        refine WL.load 41 (.pointer (some ⟨g3, 10, none⟩)) (.int .u32 a.v.vip) 53 (by kernel_rfl) (run_ld (hC85.get 0 rfl) rfl) ?_
        refine WLr 1 [(54, .pointer (some ⟨g8, 10, none⟩))] (fun _ => by kernel_rfl) ?_
        refine WL.load 41 (.pointer (some ⟨g8, 10, none⟩)) (.int .u32 b.v.vip) 55 (by kernel_rfl) (run_ld (hC85.get 1 rfl) rfl) ?_
        refine WLr 3 [(58, .bool (a.v.vip == b.v.vip)), (57, .bool (a.v.vip == b.v.vip)), (56, .bool (a.v.vip == b.v.vip))] (fun _ => by kernel_rfl) ?_
        refine WLa 58 (a.v.vip == b.v.vip) rfl (fun t95b => ?_) (fun t95b => ?_)
        ·
         have t95 : a.v.vip = b.v.vip := by simpa using t95b
         refine WLr 1 [(59, .pointer (some ⟨g3, 11, none⟩))] (fun _ => by kernel_rfl) ?_
         refine WL.load 4 (.pointer (some ⟨g3, 11, none⟩)) (.bool a.v.up) 60 (by kernel_rfl) (run_ld (hC85.get 0 rfl) rfl) ?_
         refine WLr 1 [(61, .pointer (some ⟨g8, 11, none⟩))] (fun _ => by kernel_rfl) ?_
         refine WL.load 4 (.pointer (some ⟨g8, 11, none⟩)) (.bool b.v.up) 62 (by kernel_rfl) (run_ld (hC85.get 1 rfl) rfl) ?_
         refine WLr 3 [(65, .bool (a.v.up == b.v.up)), (64, .bool (a.v.up == b.v.up)), (63, .bool (a.v.up == b.v.up))] (fun _ => by kernel_rfl) ?_
         refine WLa 65 (a.v.up == b.v.up) rfl (fun t96b => ?_) (fun t96b => ?_)
         ·
          refine WLr 1 [(66, .pointer (some ⟨g69, 0, none⟩))] (fun _ => by kernel_rfl) ?_
          refine WL.load 41 (.pointer (some ⟨g69, 0, none⟩)) (.int .u32 a.v.svip) 67 (by kernel_rfl) (run_ld (hC85.get 3 rfl) rfl) ?_
          refine WLr 1 [(68, .pointer (some ⟨g61, 0, none⟩))] (fun _ => by kernel_rfl) ?_
          refine WL.load 41 (.pointer (some ⟨g61, 0, none⟩)) (.int .u32 b.v.svip) 69 (by kernel_rfl) (run_ld (hC85.get 2 rfl) rfl) ?_
          refine WLr 3 [(72, .bool (a.v.svip == b.v.svip)), (71, .bool (a.v.svip == b.v.svip)), (70, .bool (a.v.svip == b.v.svip))] (fun _ => by kernel_rfl) ?_
          refine WLa 72 (a.v.svip == b.v.svip) rfl (fun t97b => ?_) (fun t97b => ?_)
          ·
           have t97 : a.v.svip = b.v.svip := by simpa using t97b
           refine WLr 1 [(73, .pointer (some ⟨g69, 1, none⟩))] (fun _ => by kernel_rfl) ?_
           refine WL.load 3 (.pointer (some ⟨g69, 1, none⟩)) (.int .i64 a.v.sproto) 74 (by kernel_rfl) (run_ld (hC85.get 3 rfl) rfl) ?_
           refine WLr 1 [(75, .pointer (some ⟨g61, 1, none⟩))] (fun _ => by kernel_rfl) ?_
           refine WL.load 3 (.pointer (some ⟨g61, 1, none⟩)) (.int .i64 b.v.sproto) 76 (by kernel_rfl) (run_ld (hC85.get 2 rfl) rfl) ?_
           refine WLr 3 [(79, .bool (a.v.sproto == b.v.sproto)), (78, .bool (a.v.sproto == b.v.sproto)), (77, .bool (a.v.sproto == b.v.sproto))] (fun _ => by kernel_rfl) ?_
           refine WLa 79 (a.v.sproto == b.v.sproto) rfl (fun t98b => ?_) (fun t98b => ?_)
           ·
            have t98 : a.v.sproto = b.v.sproto := by simpa using t98b
            refine WLr 1 [(80, .pointer (some ⟨g69, 2, none⟩))] (fun _ => by kernel_rfl) ?_
            refine WL.load 3 (.pointer (some ⟨g69, 2, none⟩)) (.int .i64 a.v.sport) 81 (by kernel_rfl) (run_ld (hC85.get 3 rfl) rfl) ?_
            refine WLr 1 [(82, .pointer (some ⟨g61, 2, none⟩))] (fun _ => by kernel_rfl) ?_
            refine WL.load 3 (.pointer (some ⟨g61, 2, none⟩)) (.int .i64 b.v.sport) 83 (by kernel_rfl) (run_ld (hC85.get 2 rfl) rfl) ?_
            refine WLr 3 [(86, .bool (a.v.sport == b.v.sport)), (85, .bool (a.v.sport == b.v.sport)), (84, .bool (a.v.sport == b.v.sport))] (fun _ => by kernel_rfl) ?_
            refine WLa 86 (a.v.sport == b.v.sport) rfl (fun t99b => ?_) (fun t99b => ?_)
            ·
             have t99 : a.v.sport = b.v.sport := by simpa using t99b
             refine WLr 1 [(87, .pointer (some ⟨g69, 3, none⟩))] (fun _ => by kernel_rfl) ?_
             refine WL.load 50 (.pointer (some ⟨g69, 3, none⟩)) (.slice a.a a.v.ends.length a.c) 88 (by kernel_rfl) (run_ld (hC85.get 3 rfl) rfl) ?_
             refine WLr 1 [(89, .pointer (some ⟨g61, 3, none⟩))] (fun _ => by kernel_rfl) ?_
             refine WL.load 50 (.pointer (some ⟨g61, 3, none⟩)) (.slice b.a b.v.ends.length b.c) 90 (by kernel_rfl) (run_ld (hC85.get 2 rfl) rfl) ?_
             refine WLc rfl rfl rfl rfl rfl (by kernel_rfl) (EqualE_n a.a b.a a.v.ends.length a.c b.v.ends.length b.c a.v.ends b.v.ends w82 (Rd.fr ha.rd hC85.fr) (Rd.fr hb.rd hC85.fr) rfl rfl ha.lim) ?_
             rintro _ w101 ⟨rfl, hF100⟩
             refine ⟨_, rfl, ?_⟩
             have hC102 := hC85.call hF100
             refine WLr 2 [(4, .bool (decide (a.v.ends = b.v.ends))), (92, .bool (decide (a.v.ends = b.v.ends)))] (fun _ => by kernel_rfl) (WLd rfl (QXn (hK88 _ _ ?_)))
             refine WC.ret ?_
             refine (hret _ _ _ rfl ?_).1
             exact ⟨congrArg (fun b_ => Ending.returned (Value.bool b_)) (like_last (by simpa using t89b) (by simpa using t90b) (by simpa using t91b) (by simpa using t92b) (by simpa using t93b) (by simpa using t94b) (by simpa using t95b) (by simpa using t96b) (by simpa using t97b) (by simpa using t98b) (by simpa using t99b)), hC102.fr⟩
            ·
             have t99 : ¬ (a.v.sport = b.v.sport) := by simpa using t99b
             refine WLr 7 [(4, .bool false), (92, .bool false), (91, undef), (90, undef), (89, undef), (88, undef), (87, undef)] (fun _ => by kernel_rfl) (WLd rfl (QXn (hK88 _ _ ?_)))
             refine WC.ret ?_
             refine (hret _ _ _ rfl ?_).1
             exact ⟨congrArg (fun b_ => Ending.returned (Value.bool b_)) (decide_eq_false (fun e_ => absurd (congrArg CmdV.sport e_) (by simpa using t99b))).symm, hC85.fr⟩
           ·
            have t98 : ¬ (a.v.sproto = b.v.sproto) := by simpa using t98b
            refine WLr 14 [(4, .bool false), (92, .bool false), (91, undef), (90, undef), (89, undef), (88, undef), (87, undef), (86, .bool false), (85, .bool false), (84, undef), (83, undef), (82, undef), (81, undef), (80, undef)] (fun _ => by kernel_rfl) (WLd rfl (QXn (hK88 _ _ ?_)))
            refine WC.ret ?_
            refine (hret _ _ _ rfl ?_).1
            exact ⟨congrArg (fun b_ => Ending.returned (Value.bool b_)) (decide_eq_false (fun e_ => absurd (congrArg CmdV.sproto e_) (by simpa using t98b))).symm, hC85.fr⟩
          ·
           have t97 : ¬ (a.v.svip = b.v.svip) := by simpa using t97b
           refine WLr 21 [(4, .bool false), (92, .bool false), (91, undef), (90, undef), (89, undef), (88, undef), (87, undef), (86, .bool false), (85, .bool false), (84, undef), (83, undef), (82, undef), (81, undef), (80, undef), (79, .bool false), (78, .bool false), (77, undef), (76, undef), (75, undef), (74, undef), (73, undef)] (fun _ => by kernel_rfl) (WLd rfl (QXn (hK88 _ _ ?_)))
           refine WC.ret ?_
           refine (hret _ _ _ rfl ?_).1
           exact ⟨congrArg (fun b_ => Ending.returned (Value.bool b_)) (decide_eq_false (fun e_ => absurd (congrArg CmdV.svip e_) (by simpa using t97b))).symm, hC85.fr⟩
         ·
          refine WLr 28 [(4, .bool false), (92, .bool false), (91, undef), (90, undef), (89, undef), (88, undef), (87, undef), (86, .bool false), (85, .bool false), (84, undef), (83, undef), (82, undef), (81, undef), (80, undef), (79, .bool false), (78, .bool false), (77, undef), (76, undef), (75, undef), (74, undef), (73, undef), (72, .bool false), (71, .bool false), (70, undef), (69, undef), (68, undef), (67, undef), (66, undef)] (fun _ => by kernel_rfl) (WLd rfl (QXn (hK88 _ _ ?_)))
          refine WC.ret ?_
          refine (hret _ _ _ rfl ?_).1
          exact ⟨congrArg (fun b_ => Ending.returned (Value.bool b_)) (decide_eq_false (fun e_ => absurd (congrArg CmdV.up e_) (by simpa using t96b))).symm, hC85.fr⟩
        ·
         have t95 : ¬ (a.v.vip = b.v.vip) := by simpa using t95b
         refine WLr 35 [(4, .bool false), (92, .bool false), (91, undef), (90, undef), (89, undef), (88, undef), (87, undef), (86, .bool false), (85, .bool false), (84, undef), (83, undef), (82, undef), (81, undef), (80, undef), (79, .bool false), (78, .bool false), (77, undef), (76, undef), (75, undef), (74, undef), (73, undef), (72, .bool false), (71, .bool false), (70, undef), (69, undef), (68, undef), (67, undef), (66, undef), (65, .bool false), (64, .bool false), (63, undef), (62, undef), (61, undef), (60, undef), (59, undef)] (fun _ => by kernel_rfl) (WLd rfl (QXn (hK88 _ _ ?_)))
         refine WC.ret ?_
         refine (hret _ _ _ rfl ?_).1
         exact ⟨congrArg (fun b_ => Ending.returned (Value.bool b_)) (decide_eq_false (fun e_ => absurd (congrArg CmdV.vip e_) (by simpa using t95b))).symm, hC85.fr⟩
       ·
        have t94 : ¬ (a.v.dip = b.v.dip) := by simpa using t94b
        refine WLr 42 [(4, .bool false), (92, .bool false), (91, undef), (90, undef), (89, undef), (88, undef), (87, undef), (86, .bool false), (85, .bool false), (84, undef), (83, undef), (82, undef), (81, undef), (80, undef), (79, .bool false), (78, .bool false), (77, undef), (76, undef), (75, undef), (74, undef), (73, undef), (72, .bool false), (71, .bool false), (70, undef), (69, undef), (68, undef), (67, undef), (66, undef), (65, .bool false), (64, .bool false), (63, undef), (62, undef), (61, undef), (60, undef), (59, undef), (58, .bool false), (57, .bool false), (56, undef), (55, undef), (54, undef), (53, undef), (52, undef)] (fun _ => by kernel_rfl) (WLd rfl (QXn (hK88 _ _ ?_)))
        refine WC.ret ?_
        refine (hret _ _ _ rfl ?_).1
        exact ⟨congrArg (fun b_ => Ending.returned (Value.bool b_)) (decide_eq_false (fun e_ => absurd (congrArg CmdV.dip e_) (by simpa using t94b))).symm, hC85.fr⟩
      ·
       have t93 : ¬ (a.v.kind = b.v.kind) := by simpa using t93b
       refine WLr 49 [(4, .bool false), (92, .bool false), (91, undef), (90, undef), (89, undef), (88, undef), (87, undef), (86, .bool false), (85, .bool false), (84, undef), (83, undef), (82, undef), (81, undef), (80, undef), (79, .bool false), (78, .bool false), (77, undef), (76, undef), (75, undef), (74, undef), (73, undef), (72, .bool false), (71, .bool false), (70, undef), (69, undef), (68, undef), (67, undef), (66, undef), (65, .bool false), (64, .bool false), (63, undef), (62, undef), (61, undef), (60, undef), (59, undef), (58, .bool false), (57, .bool false), (56, undef), (55, undef), (54, undef), (53, undef), (52, undef), (51, .bool false), (50, .bool false), (49, undef), (48, undef), (47, undef), (46, undef), (45, undef)] (fun _ => by kernel_rfl) (WLd rfl (QXn (hK88 _ _ ?_)))
       refine WC.ret ?_
       refine (hret _ _ _ rfl ?_).1
       exact ⟨congrArg (fun b_ => Ending.returned (Value.bool b_)) (decide_eq_false (fun e_ => absurd (congrArg CmdV.kind e_) (by simpa using t93b))).symm, hC85.fr⟩
     ·
      have t92 : ¬ (a.v.time = b.v.time) := by simpa using t92b
      refine WLr 56 [(4, .bool false), (92, .bool false), (91, undef), (90, undef), (89, undef), (88, undef), (87, undef), (86, .bool false), (85, .bool false), (84, undef), (83, undef), (82, undef), (81, undef), (80, undef), (79, .bool false), (78, .bool false), (77, undef), (76, undef), (75, undef), (74, undef), (73, undef), (72, .bool false), (71, .bool false), (70, undef), (69, undef), (68, undef), (67, undef), (66, undef), (65, .bool false), (64, .bool false), (63, undef), (62, undef), (61, undef), (60, undef), (59, undef), (58, .bool false), (57, .bool false), (56, undef), (55, undef), (54, undef), (53, undef), (52, undef), (51, .bool false), (50, .bool false), (49, undef), (48, undef), (47, undef), (46, undef), (45, undef), (44, .bool false), (43, .bool false), (42, undef), (41, undef), (40, undef), (39, undef), (38, undef)] (fun _ => by kernel_rfl) (WLd rfl (QXn (hK88 _ _ ?_)))
      refine WC.ret ?_
      refine (hret _ _ _ rfl ?_).1
      exact ⟨congrArg (fun b_ => Ending.returned (Value.bool b_)) (decide_eq_false (fun e_ => absurd (congrArg CmdV.time e_) (by simpa using t92b))).symm, hC85.fr⟩
    ·
     have t91 : ¬ (a.v.seq = b.v.seq) := by simpa using t91b
     refine WLr 63 [(4, .bool false), (92, .bool false), (91, undef), (90, undef), (89, undef), (88, undef), (87, undef), (86, .bool false), (85, .bool false), (84, undef), (83, undef), (82, undef), (81, undef), (80, undef), (79, .bool false), (78, .bool false), (77, undef), (76, undef), (75, undef), (74, undef), (73, undef), (72, .bool false), (71, .bool false), (70, undef), (69, undef), (68, undef), (67, undef), (66, undef), (65, .bool false), (64, .bool false), (63, undef), (62, undef), (61, undef), (60, undef), (59, undef), (58, .bool false), (57, .bool false), (56, undef), (55, undef), (54, undef), (53, undef), (52, undef), (51, .bool false), (50, .bool false), (49, undef), (48, undef), (47, undef), (46, undef), (45, undef), (44, .bool false), (43, .bool false), (42, undef), (41, undef), (40, undef), (39, undef), (38, undef), (37, .bool false), (36, .bool false), (35, undef), (34, undef), (33, undef), (32, undef), (31, undef)] (fun _ => by kernel_rfl) (WLd rfl (QXn (hK88 _ _ ?_)))
     refine WC.ret ?_
     refine (hret _ _ _ rfl ?_).1
     exact ⟨congrArg (fun b_ => Ending.returned (Value.bool b_)) (decide_eq_false (fun e_ => absurd (congrArg CmdV.seq e_) (by simpa using t91b))).symm, hC85.fr⟩
   ·
    have t90 : ¬ (a.v.boot = b.v.boot) := by simpa using t90b
    refine WLr 70 [(4, .bool false), (92, .bool false), (91, undef), (90, undef), (89, undef), (88, undef), (87, undef), (86, .bool false), (85, .bool false), (84, undef), (83, undef), (82, undef), (81, undef), (80, undef), (79, .bool false), (78, .bool false), (77, undef), (76, undef), (75, undef), (74, undef), (73, undef), (72, .bool false), (71, .bool false), (70, undef), (69, undef), (68, undef), (67, undef), (66, undef), (65, .bool false), (64, .bool false), (63, undef), (62, undef), (61, undef), (60, undef), (59, undef), (58, .bool false), (57, .bool false), (56, undef), (55, undef), (54, undef), (53, undef), (52, undef), (51, .bool false), (50, .bool false), (49, undef), (48, undef), (47, undef), (46, undef), (45, undef), (44, .bool false), (43, .bool false), (42, undef), (41, undef), (40, undef), (39, undef), (38, undef), (37, .bool false), (36, .bool false), (35, undef), (34, undef), (33, undef), (32, undef), (31, undef), (30, .bool false), (29, .bool false), (28, undef), (27, undef), (26, undef), (25, undef), (24, undef)] (fun _ => by kernel_rfl) (WLd rfl (QXn (hK88 _ _ ?_)))
    refine WC.ret ?_
    refine (hret _ _ _ rfl ?_).1
    exact ⟨congrArg (fun b_ => Ending.returned (Value.bool b_)) (decide_eq_false (fun e_ => absurd (congrArg CmdV.boot e_) (by simpa using t90b))).symm, hC85.fr⟩
  ·
   have t89 : ¬ (a.v.node = b.v.node) := by simpa using t89b
   refine WLr 77 [(4, .bool false), (92, .bool false), (91, undef), (90, undef), (89, undef), (88, undef), (87, undef), (86, .bool false), (85, .bool false), (84, undef), (83, undef), (82, undef), (81, undef), (80, undef), (79, .bool false), (78, .bool false), (77, undef), (76, undef), (75, undef), (74, undef), (73, undef), (72, .bool false), (71, .bool false), (70, undef), (69, undef), (68, undef), (67, undef), (66, undef), (65, .bool false), (64, .bool false), (63, undef), (62, undef), (61, undef), (60, undef), (59, undef), (58, .bool false), (57, .bool false), (56, undef), (55, undef), (54, undef), (53, undef), (52, undef), (51, .bool false), (50, .bool false), (49, undef), (48, undef), (47, undef), (46, undef), (45, undef), (44, .bool false), (43, .bool false), (42, undef), (41, undef), (40, undef), (39, undef), (38, undef), (37, .bool false), (36, .bool false), (35, undef), (34, undef), (33, undef), (32, undef), (31, undef), (30, .bool false), (29, .bool false), (28, undef), (27, undef), (26, undef), (25, undef), (24, undef), (23, .bool false), (22, .bool false), (21, undef), (20, undef), (19, undef), (18, undef), (17, undef)] (fun _ => by kernel_rfl) (WLd rfl (QXn (hK88 _ _ ?_)))
   refine WC.ret ?_
   refine (hret _ _ _ rfl ?_).1
   exact ⟨congrArg (fun b_ => Ending.returned (Value.bool b_)) (decide_eq_false (fun e_ => absurd (congrArg CmdV.node e_) (by simpa using t89b))).symm, hC85.fr⟩

theorem ringCheck_n (A : Option Addr) (n c : Nat) (ends : List EndV) (w : World) (hr : Rd w 3 cellsE A ends) (hn : ends.length = n) (hwf : ∀ e ∈ ends, wfE e) (hl : n ≤ 1099511627776) (hlc : n ≤ c) : Calls Tryd.prog 74 #[.slice A n c] w fun e w' => e = .returned (errV 73 (if goodE ends then 0 else 9)) ∧ Fr w w' [] := by subst hn; exact ringCheck_ct A c ends w hr hwf hl hlc
set_option maxHeartbeats 2000000 in
theorem said_ct (c : Cmd) (w : World) (h : cmdAt w c) : Calls Tryd.prog 57 #[.agg #[.int .i64 c.v.node, .int .i64 c.v.boot, .int .i64 c.v.seq, .int .i64 c.v.time, .int .i64 c.v.kind, .int .u32 c.v.svip, .int .i64 c.v.sproto, .int .i64 c.v.sport, .slice c.a c.v.ends.length c.c, .int .u32 c.v.dip, .int .u32 c.v.vip, .bool c.v.up]] w fun e w' => e = .returned (.tuple #[.agg #[.int .i64 (((saidM c).v).node), .int .i64 (((saidM c).v).boot), .int .i64 (((saidM c).v).seq), .int .i64 (((saidM c).v).time), .int .i64 (((saidM c).v).kind), .int .u32 (((saidM c).v).svip), .int .i64 (((saidM c).v).sproto), .int .i64 (((saidM c).v).sport), .slice ((saidM c).a) ((saidM c).v.ends.length) ((saidM c).c), .int .u32 (((saidM c).v).dip), .int .u32 (((saidM c).v).vip), .bool (((saidM c).v).up)], .bool (saidB c.v)]) ∧ Fr w w' [] := by
 refine enterD (n := 115) Tryd.func57 rfl rfl (Nat.le_of_ble_eq_true rfl) ?_
 intro Q0 hN hret hret'
 have hC := Cx.start w
 refine WCs (fun K1 hK2 => ?_)
 refine WCg ?_
 refine WL.newM hC (fun b => .pointer (some ⟨b, 0, none⟩)) (.cells #[.int .i64 c.v.node, .int .i64 c.v.boot, .int .i64 c.v.seq, .int .i64 c.v.time, .int .i64 c.v.kind, .int .u32 c.v.svip, .int .i64 c.v.sproto, .int .i64 c.v.sport, .slice c.a c.v.ends.length c.c, .int .u32 c.v.dip, .int .u32 c.v.vip, .bool c.v.up] 56) 1 (fun _ => by kernel_rfl) (fun g3 w4 hb7 hF5 hC6 => ?_)
 refine WL.newM hC6 (fun b => .pointer (some ⟨b, 0, none⟩)) (.cells #[.int .i64 0, .int .i64 0, .int .i64 0, .int .i64 0, .int .i64 0, .int .u32 0, .int .i64 0, .int .i64 0, .slice none 0 0, .int .u32 0, .int .u32 0, .bool false] 56) 2 (fun _ => by kernel_rfl) (fun g8 w9 hb12 hF10 hC11 => ?_)
 refine WLr 1 [(3, .bool false)] (fun _ => by kernel_rfl) (WLd rfl (QXn (hK2 _ _ ?_)))
 refine WCs (fun K13 hK14 => ?_)
 refine WCg (WLr 1 [(9, .pointer (some ⟨g3, 0, none⟩))] (fun _ => by kernel_rfl) ?_)
 refine WL.load 3 (.pointer (some ⟨g3, 0, none⟩)) (.int .i64 c.v.node) 10 (by kernel_rfl) (run_ld (hC11.get 0 rfl) rfl) ?_
 refine WLr 1 [(11, .pointer (some ⟨g3, 1, none⟩))] (fun _ => by kernel_rfl) ?_
 refine WL.load 3 (.pointer (some ⟨g3, 1, none⟩)) (.int .i64 c.v.boot) 12 (by kernel_rfl) (run_ld (hC11.get 0 rfl) rfl) ?_
 refine WLr 1 [(13, .pointer (some ⟨g3, 2, none⟩))] (fun _ => by kernel_rfl) ?_
 refine WL.load 3 (.pointer (some ⟨g3, 2, none⟩)) (.int .i64 c.v.seq) 14 (by kernel_rfl) (run_ld (hC11.get 0 rfl) rfl) ?_
 refine WLr 1 [(15, .pointer (some ⟨g3, 3, none⟩))] (fun _ => by kernel_rfl) ?_
 refine WL.load 3 (.pointer (some ⟨g3, 3, none⟩)) (.int .i64 c.v.time) 16 (by kernel_rfl) (run_ld (hC11.get 0 rfl) rfl) ?_
 refine WLr 1 [(17, .pointer (some ⟨g3, 4, none⟩))] (fun _ => by kernel_rfl) ?_
 refine WL.load 3 (.pointer (some ⟨g3, 4, none⟩)) (.int .i64 c.v.kind) 18 (by kernel_rfl) (run_ld (hC11.get 0 rfl) rfl) ?_
 refine WLr 1 [(19, .agg #[.int .i64 c.v.node, .int .i64 c.v.boot, .int .i64 c.v.seq, .int .i64 c.v.time, .int .i64 c.v.kind, .int .u32 0, .int .i64 0, .int .i64 0, .slice none 0 0, .int .u32 0, .int .u32 0, .bool false])] (fun _ => by kernel_rfl) ?_
 refine WL.newM hC11 (fun b => .pointer (some ⟨b, 0, none⟩)) (.cells #[.int .i64 0, .int .i64 0, .int .i64 0, .int .i64 0, .int .i64 0, .int .u32 0, .int .i64 0, .int .i64 0, .slice none 0 0, .int .u32 0, .int .u32 0, .bool false] 56) 4 (fun _ => by kernel_rfl) (fun g15 w16 hb19 hF17 hC18 => ?_)
 refine WLs (c' := #[.int .i64 c.v.node, .int .i64 c.v.boot, .int .i64 c.v.seq, .int .i64 c.v.time, .int .i64 c.v.kind, .int .u32 0, .int .i64 0, .int .i64 0, .slice none 0 0, .int .u32 0, .int .u32 0, .bool false]) hC18 2 56 g15 0 (.agg #[.int .i64 c.v.node, .int .i64 c.v.boot, .int .i64 c.v.seq, .int .i64 c.v.time, .int .i64 c.v.kind, .int .u32 0, .int .i64 0, .int .i64 0, .slice none 0 0, .int .u32 0, .int .u32 0, .bool false]) (by kernel_rfl) rfl (by kernel_rfl) (fun w20 hF22 hC23 => ?_)
 refine WLd rfl (QXn (hK14 _ _ ?_))
 refine WCs (fun K24 hK25 => ?_)
 refine WCg (WLr 1 [(21, .pointer (some ⟨g3, 9, none⟩))] (fun _ => by kernel_rfl) ?_)
 refine WL.load 41 (.pointer (some ⟨g3, 9, none⟩)) (.int .u32 c.v.dip) 22 (by kernel_rfl) (run_ld (hC23.get 0 rfl) rfl) ?_
 refine WLc rfl rfl rfl rfl rfl (by kernel_rfl) (Home_ct c.v.dip w20 h.wf.dip.1 h.wf.dip.2) ?_
 rintro _ w27 ⟨rfl, hF26⟩
 refine ⟨_, rfl, ?_⟩
 have hC28 := hC23.call hF26
 refine WLr 7 [(7, .bool (isHome c.v.dip)), (6, .int .i64 (homeV c.v.dip)), (5, .int .i64 (homeN c.v.dip)), (26, .bool (isHome c.v.dip)), (25, .int .i64 (homeV c.v.dip)), (24, .int .i64 (homeN c.v.dip)), (20, .tuple #[.int .i64 (homeN c.v.dip), .int .i64 (homeV c.v.dip), .bool (isHome c.v.dip)])] (fun _ => by kernel_rfl) (WLd rfl (QXn (hK25 _ _ ?_)))
 refine WCs (fun K29 hK30 => ?_)
 refine WCg (WLr 1 [(27, .pointer (some ⟨g3, 5, none⟩))] (fun _ => by kernel_rfl) ?_)
 refine WL.load 52 (.pointer (some ⟨g3, 5, none⟩)) (.agg #[.int .u32 c.v.svip, .int .i64 c.v.sproto, .int .i64 c.v.sport, .slice c.a c.v.ends.length c.c]) 28 (by kernel_rfl) (run_ld (hC28.get 0 rfl) rfl) ?_
 refine WL.newM hC28 (fun b => .pointer (some ⟨b, 0, none⟩)) (.cells #[.int .u32 0, .int .i64 0, .int .i64 0, .slice none 0 0] 52) 8 (fun _ => by kernel_rfl) (fun g31 w32 hb35 hF33 hC34 => ?_)
 refine WLs (c' := #[.int .u32 c.v.svip, .int .i64 c.v.sproto, .int .i64 c.v.sport, .slice c.a c.v.ends.length c.c]) hC34 3 52 g31 0 (.agg #[.int .u32 c.v.svip, .int .i64 c.v.sproto, .int .i64 c.v.sport, .slice c.a c.v.ends.length c.c]) (by kernel_rfl) rfl (by kernel_rfl) (fun w36 hF38 hC39 => ?_)
 refine WLd rfl (QXn (hK30 _ _ ?_))
 refine WCs (fun K40 hK41 => ?_)
 refine WCs (fun K42 hK43 => ?_)
 refine WCg (WLr 1 [(29, .pointer (some ⟨g3, 4, none⟩))] (fun _ => by kernel_rfl) ?_)
 refine WL.load 3 (.pointer (some ⟨g3, 4, none⟩)) (.int .i64 c.v.kind) 30 (by kernel_rfl) (run_ld (hC39.get 0 rfl) rfl) ?_
 refine WLd rfl (QXn (hK43 _ _ ?_))
 refine WC.block ?_
 refine WCs (fun K44 hK45 => ?_)
 refine WCg (WLr 2 [(31, .bool (c.v.kind == 1)), (32, .bool (c.v.kind == 1))] (fun _ => by kernel_rfl) (WLd rfl (QXn (hK45 _ _ ?_))))
 refine WCa 31 (c.v.kind == 1) rfl (fun t46b => ?_) (fun t46b => ?_)
 ·
  have t46 : c.v.kind = 1 := by simpa using t46b
  refine WCt rfl ?_
  refine WCs (fun K47 hK48 => ?_)
  refine WCg ?_
  refine WL.load 52 (.pointer (some ⟨g31, 0, none⟩)) (.agg #[.int .u32 c.v.svip, .int .i64 c.v.sproto, .int .i64 c.v.sport, .slice c.a c.v.ends.length c.c]) 33 (by kernel_rfl) (run_ld (hC39.get 3 rfl) rfl) ?_
  refine WLr 1 [(34, .pointer (some ⟨g15, 5, none⟩))] (fun _ => by kernel_rfl) ?_
  refine WLs (c' := #[.int .i64 c.v.node, .int .i64 c.v.boot, .int .i64 c.v.seq, .int .i64 c.v.time, .int .i64 c.v.kind, .int .u32 c.v.svip, .int .i64 c.v.sproto, .int .i64 c.v.sport, .slice c.a c.v.ends.length c.c, .int .u32 0, .int .u32 0, .bool false]) hC39 2 52 g15 5 (.agg #[.int .u32 c.v.svip, .int .i64 c.v.sproto, .int .i64 c.v.sport, .slice c.a c.v.ends.length c.c]) (by kernel_rfl) rfl (by kernel_rfl) (fun w49 hF51 hC52 => ?_)
  refine WLd rfl (QXn (hK48 _ _ ?_))
  refine WCs (fun K53 hK54 => ?_)
  refine WC.drawC hC52 [g8] (by kernel_rfl) (fun w55 hF56 hC57 hS58 => ?_)
  refine WDp (NPt (NPb (NPt hN))) 1 36 (.pointer (some ⟨g31, 0, none⟩)) (by kernel_rfl) (fun _ => by kernel_rfl) hS58 ?_
  refine WDl (NPt (NPb (NPt hN))) 0 56 (.pointer (some ⟨g15, 0, none⟩)) (.agg #[.int .i64 c.v.node, .int .i64 c.v.boot, .int .i64 c.v.seq, .int .i64 c.v.time, .int .i64 c.v.kind, .int .u32 c.v.svip, .int .i64 c.v.sproto, .int .i64 c.v.sport, .slice c.a c.v.ends.length c.c, .int .u32 0, .int .u32 0, .bool false]) 35 (by kernel_rfl) (by kernel_rfl) (fun _ hS_ => run_ld (Fr.has hS_ (hC57.get 2 rfl) (by simpa using hC57.ne 2 1 rfl rfl (by decide))) rfl) hS58 ?_
  refine WD.sem 2 (Instr.loadAt 41 (.pointer (some ⟨g31, 0, none⟩))) 37 (.int .u32 c.v.svip) (by kernel_rfl) (by kernel_rfl) (run_ld (hC57.get 3 rfl) rfl) hS58 ?_
  refine WD.call 3 (by kernel_rfl) rfl rfl rfl rfl rfl (by kernel_rfl) (IsVip_ct c.v.svip w55 h.wf.svip.1 h.wf.svip.2) ?_
  rintro _ w60 ⟨rfl, hF59⟩
  have hS62 := hS58.trans hF59 (by simp)
  refine ⟨_, rfl, hS62, ?_⟩
  have hC61 := hC57.call hF59
  refine WDp (NPt (NPb (NPt hN))) 4 39 (.bool (isVip c.v.svip)) (by kernel_rfl) (fun _ => by kernel_rfl) hS62 ?_
  refine WDa 39 (isVip c.v.svip) rfl (fun t63b => ?_) (fun t63b => ?_)
  ·
   refine WDp (NPt (NPb (NPt hN))) 5 40 (.pointer (some ⟨g31, 1, none⟩)) (by kernel_rfl) (fun _ => by kernel_rfl) hS62 ?_
   refine WD.sem 6 (Instr.loadAt 3 (.pointer (some ⟨g31, 1, none⟩))) 41 (.int .i64 c.v.sproto) (by kernel_rfl) (by kernel_rfl) (run_ld (hC61.get 3 rfl) rfl) hS62 ?_
   refine WDp (NPt (NPb (NPt hN))) 7 42 (.bool (c.v.sproto == 6)) (by kernel_rfl) (fun _ => by kernel_rfl) hS62 ?_
   refine WDp (NPt (NPb (NPt hN))) 8 43 (.bool (c.v.sproto == 6)) (by kernel_rfl) (fun _ => by kernel_rfl) hS62 ?_
   refine WDa 43 (c.v.sproto == 6) rfl (fun t64b => ?_) (fun t64b => ?_)
   ·
    have t64 : c.v.sproto = 6 := by simpa using t64b
    refine WDp (NPt (NPb (NPt hN))) 9 44 (undef) (by kernel_rfl) (fun _ => by kernel_rfl) hS62 ?_
    refine WDp (NPt (NPb (NPt hN))) 10 45 (undef) (by kernel_rfl) (fun _ => by kernel_rfl) hS62 ?_
    refine WDp (NPt (NPb (NPt hN))) 11 46 (undef) (by kernel_rfl) (fun _ => by kernel_rfl) hS62 ?_
    refine WDp (NPt (NPb (NPt hN))) 12 47 (.bool true) (by kernel_rfl) (fun _ => by kernel_rfl) hS62 ?_
    refine WDp (NPt (NPb (NPt hN))) 13 48 (.bool true) (by kernel_rfl) (fun _ => by kernel_rfl) hS62 ?_
    refine WDp (NPt (NPb (NPt hN))) 14 49 (.bool true) (by kernel_rfl) (fun _ => by kernel_rfl) hS62 ?_
    refine WDp (NPt (NPb (NPt hN))) 15 50 (.pointer (some ⟨g31, 2, none⟩)) (by kernel_rfl) (fun _ => by kernel_rfl) hS62 ?_
    refine WD.sem 16 (Instr.loadAt 3 (.pointer (some ⟨g31, 2, none⟩))) 51 (.int .i64 c.v.sport) (by kernel_rfl) (by kernel_rfl) (run_ld (hC61.get 3 rfl) rfl) hS62 ?_
    refine WDp (NPt (NPb (NPt hN))) 17 52 (.bool (decide (c.v.sport ≥ 1))) (by kernel_rfl) (fun _ => by kernel_rfl) hS62 ?_
    refine WDp (NPt (NPb (NPt hN))) 18 53 (.bool (decide (c.v.sport ≥ 1))) (by kernel_rfl) (fun _ => by kernel_rfl) hS62 ?_
    refine WDp (NPt (NPb (NPt hN))) 19 54 (.bool (decide (c.v.sport ≥ 1))) (by kernel_rfl) (fun _ => by kernel_rfl) hS62 ?_
    refine WDa 54 (decide (c.v.sport ≥ 1)) rfl (fun t65b => ?_) (fun t65b => ?_)
    ·
     have t65 : (1 : Int) ≤ c.v.sport := by have q_ := of_decide_eq_true t65b; omega
     refine WDp (NPt (NPb (NPt hN))) 20 55 (.pointer (some ⟨g31, 2, none⟩)) (by kernel_rfl) (fun _ => by kernel_rfl) hS62 ?_
     refine WD.sem 21 (Instr.loadAt 3 (.pointer (some ⟨g31, 2, none⟩))) 56 (.int .i64 c.v.sport) (by kernel_rfl) (by kernel_rfl) (run_ld (hC61.get 3 rfl) rfl) hS62 ?_
     refine WDp (NPt (NPb (NPt hN))) 22 57 (.bool (decide (c.v.sport ≤ 1023))) (by kernel_rfl) (fun _ => by kernel_rfl) hS62 ?_
     refine WDp (NPt (NPb (NPt hN))) 23 58 (.bool (decide (c.v.sport ≤ 1023))) (by kernel_rfl) (fun _ => by kernel_rfl) hS62 ?_
     refine WDp (NPt (NPb (NPt hN))) 24 59 (.bool (decide (c.v.sport ≤ 1023))) (by kernel_rfl) (fun _ => by kernel_rfl) hS62 ?_
     refine WDa 59 (decide (c.v.sport ≤ 1023)) rfl (fun t66b => ?_) (fun t66b => ?_)
     ·
      have t66 : c.v.sport ≤ 1023 := by have q_ := of_decide_eq_true t66b; omega
      refine WDp (NPt (NPb (NPt hN))) 25 60 (.pointer (some ⟨g31, 3, none⟩)) (by kernel_rfl) (fun _ => by kernel_rfl) hS62 ?_
      refine WD.sem 26 (Instr.loadAt 50 (.pointer (some ⟨g31, 3, none⟩))) 61 (.slice c.a c.v.ends.length c.c) (by kernel_rfl) (by kernel_rfl) (run_ld (hC61.get 3 rfl) rfl) hS62 ?_
      refine WD.call 27 (by kernel_rfl) rfl rfl rfl rfl rfl (by kernel_rfl) (ringCheck_n c.a c.v.ends.length c.c c.v.ends w60 (Rd.fr h.rd hC61.fr) rfl h.wf.ends h.lim h.cap) ?_
      rintro _ w68 ⟨rfl, hF67⟩
      have hS70 := hS62.trans hF67 (by simp)
      refine ⟨_, rfl, hS70, ?_⟩
      have hC69 := hC61.call hF67
      have hr71 : ∀ w_, Sem.run Tryd.prog (do eqGuard .eql 38 (Operand.tmp 62) (Operand.const (.nilIface)) (errV 73 (if goodE c.v.ends then 0 else 9)) (.nilIface); binOp .eql 38 (errV 73 (if goodE c.v.ends then 0 else 9)) (.nilIface)) w_ = .ok (.bool (goodE c.v.ends)) w_ := fun w_ => (err_eql _ (if goodE c.v.ends then 0 else 9) (goodE c.v.ends) (by cases goodE c.v.ends <;> rfl) _)
      refine WD.semP (NPt (NPb (NPt hN))) 28 (do eqGuard .eql 38 (Operand.tmp 62) (Operand.const (.nilIface)) (errV 73 (if goodE c.v.ends then 0 else 9)) (.nilIface); binOp .eql 38 (errV 73 (if goodE c.v.ends then 0 else 9)) (.nilIface)) 63 (.bool (goodE c.v.ends)) (by kernel_rfl) (by kernel_rfl) (fun _ _ => hr71 _) hS70 ?_
      refine WDp (NPt (NPb (NPt hN))) 29 64 (.bool (goodE c.v.ends)) (by kernel_rfl) (fun _ => by kernel_rfl) hS70 ?_
      obtain ⟨w72, hr73, hF74, hC75⟩ := sto_run (c' := #[.int .i64 c.v.node, .int .i64 c.v.boot, .int .i64 c.v.seq, .int .i64 c.v.time, .int .i64 c.v.kind, .int .u32 c.v.svip, .int .i64 c.v.sproto, .int .i64 c.v.sport, .slice c.a c.v.ends.length c.c, .int .u32 0, .int .u32 0, .bool false]) Tryd.prog hC69 1 56 g8 0 (.agg #[.int .i64 c.v.node, .int .i64 c.v.boot, .int .i64 c.v.seq, .int .i64 c.v.time, .int .i64 c.v.kind, .int .u32 c.v.svip, .int .i64 c.v.sproto, .int .i64 c.v.sport, .slice c.a c.v.ends.length c.c, .int .u32 0, .int .u32 0, .bool false]) rfl (by kernel_rfl)
      have hS76 := hS70.trans hF74 (by first | (simp; done) | (simp [*]; done) | (have q_ := hS70.size; simp; omega))
      refine WD.semU 30 (Instr.storeAt 56 (.pointer (some ⟨g8, 0, none⟩)) (.agg #[.int .i64 c.v.node, .int .i64 c.v.boot, .int .i64 c.v.seq, .int .i64 c.v.time, .int .i64 c.v.kind, .int .u32 c.v.svip, .int .i64 c.v.sproto, .int .i64 c.v.sport, .slice c.a c.v.ends.length c.c, .int .u32 0, .int .u32 0, .bool false])) (by kernel_rfl) (by kernel_rfl) hr73 hS76 ?_
      refine WDp (NPt (NPb (NPt hN))) 31 3 (.bool (goodE c.v.ends)) (by kernel_rfl) (fun _ => by kernel_rfl) hS76 ?_
      refine WD.done (by kernel_rfl) ?_
      refine QXn (hK54 _ _ ?_)
      refine WC.ret ?_
      refine QXk ?_
      refine QXr ?_
      refine (hret' _ _ (.tuple #[.agg #[.int .i64 c.v.node, .int .i64 c.v.boot, .int .i64 c.v.seq, .int .i64 c.v.time, .int .i64 c.v.kind, .int .u32 c.v.svip, .int .i64 c.v.sproto, .int .i64 c.v.sport, .slice c.a c.v.ends.length c.c, .int .u32 0, .int .u32 0, .bool false], .bool (goodE c.v.ends)]) (fun a ha => ?_) ?_).1
      ·
       exact res_run ha ((ResR.cell rfl (run_ld (hC75.get 1 rfl) rfl) (ResR.tmp rfl ResR.nil))) rfl
      clear hN hret hret' hK54 hK48 hK45 hK43 hK41 hK30 hK25 hK14 hK2
      have hm_ : saidM c = (⟨⟨c.v.node, c.v.boot, c.v.seq, c.v.time, c.v.kind, c.v.svip, c.v.sproto, c.v.sport, c.v.ends, 0, 0, false⟩, c.a, c.c⟩ : Cmd) := by unfold saidM; rw [if_pos (by simpa using t46b)]
      have hb_ : saidB c.v = (goodE c.v.ends) := by unfold saidB; rw [if_pos (by simpa using t46b)] <;> (first | rfl | (simp [t63b, t64b, t64, t65b, t65, t66b, t66]; done) | (simp_all; done) | (rw [Bool.eq_iff_iff]; simp_all <;> omega))
      rw [hm_, hb_]
      exact ⟨rfl, hC75.fr⟩
     ·
      have t66 : (1023 : Int) < c.v.sport := by have q_ := of_decide_eq_false t66b; omega
      refine WDp (NPt (NPb (NPt hN))) 25 60 (undef) (by kernel_rfl) (fun _ => by kernel_rfl) hS62 ?_
      refine WDp (NPt (NPb (NPt hN))) 26 61 (undef) (by kernel_rfl) (fun _ => by kernel_rfl) hS62 ?_
      refine WDp (NPt (NPb (NPt hN))) 27 62 (undef) (by kernel_rfl) (fun _ => by kernel_rfl) hS62 ?_
      refine WDp (NPt (NPb (NPt hN))) 28 63 (undef) (by kernel_rfl) (fun _ => by kernel_rfl) hS62 ?_
      refine WDp (NPt (NPb (NPt hN))) 29 64 (.bool false) (by kernel_rfl) (fun _ => by kernel_rfl) hS62 ?_
      obtain ⟨w77, hr78, hF79, hC80⟩ := sto_run (c' := #[.int .i64 c.v.node, .int .i64 c.v.boot, .int .i64 c.v.seq, .int .i64 c.v.time, .int .i64 c.v.kind, .int .u32 c.v.svip, .int .i64 c.v.sproto, .int .i64 c.v.sport, .slice c.a c.v.ends.length c.c, .int .u32 0, .int .u32 0, .bool false]) Tryd.prog hC61 1 56 g8 0 (.agg #[.int .i64 c.v.node, .int .i64 c.v.boot, .int .i64 c.v.seq, .int .i64 c.v.time, .int .i64 c.v.kind, .int .u32 c.v.svip, .int .i64 c.v.sproto, .int .i64 c.v.sport, .slice c.a c.v.ends.length c.c, .int .u32 0, .int .u32 0, .bool false]) rfl (by kernel_rfl)
      have hS81 := hS62.trans hF79 (by first | (simp; done) | (simp [*]; done) | (have q_ := hS62.size; simp; omega))
      refine WD.semU 30 (Instr.storeAt 56 (.pointer (some ⟨g8, 0, none⟩)) (.agg #[.int .i64 c.v.node, .int .i64 c.v.boot, .int .i64 c.v.seq, .int .i64 c.v.time, .int .i64 c.v.kind, .int .u32 c.v.svip, .int .i64 c.v.sproto, .int .i64 c.v.sport, .slice c.a c.v.ends.length c.c, .int .u32 0, .int .u32 0, .bool false])) (by kernel_rfl) (by kernel_rfl) hr78 hS81 ?_
      refine WDp (NPt (NPb (NPt hN))) 31 3 (.bool false) (by kernel_rfl) (fun _ => by kernel_rfl) hS81 ?_
      refine WD.done (by kernel_rfl) ?_
      refine QXn (hK54 _ _ ?_)
      refine WC.ret ?_
      refine QXk ?_
      refine QXr ?_
      refine (hret' _ _ (.tuple #[.agg #[.int .i64 c.v.node, .int .i64 c.v.boot, .int .i64 c.v.seq, .int .i64 c.v.time, .int .i64 c.v.kind, .int .u32 c.v.svip, .int .i64 c.v.sproto, .int .i64 c.v.sport, .slice c.a c.v.ends.length c.c, .int .u32 0, .int .u32 0, .bool false], .bool false]) (fun a ha => ?_) ?_).1
      ·
       exact res_run ha ((ResR.cell rfl (run_ld (hC80.get 1 rfl) rfl) (ResR.tmp rfl ResR.nil))) rfl
      clear hN hret hret' hK54 hK48 hK45 hK43 hK41 hK30 hK25 hK14 hK2
      have hm_ : saidM c = (⟨⟨c.v.node, c.v.boot, c.v.seq, c.v.time, c.v.kind, c.v.svip, c.v.sproto, c.v.sport, c.v.ends, 0, 0, false⟩, c.a, c.c⟩ : Cmd) := by unfold saidM; rw [if_pos (by simpa using t46b)]
      have hb_ : saidB c.v = false := by unfold saidB; rw [if_pos (by simpa using t46b)] <;> (first | rfl | (simp [t63b, t64b, t64, t65b, t65, t66b, t66]; done) | (simp_all; done) | (rw [Bool.eq_iff_iff]; simp_all <;> omega))
      rw [hm_, hb_]
      exact ⟨rfl, hC80.fr⟩
    ·
     have t65 : c.v.sport < 1 := by have q_ := of_decide_eq_false t65b; omega
     refine WDp (NPt (NPb (NPt hN))) 20 55 (undef) (by kernel_rfl) (fun _ => by kernel_rfl) hS62 ?_
     refine WDp (NPt (NPb (NPt hN))) 21 56 (undef) (by kernel_rfl) (fun _ => by kernel_rfl) hS62 ?_
     refine WDp (NPt (NPb (NPt hN))) 22 57 (undef) (by kernel_rfl) (fun _ => by kernel_rfl) hS62 ?_
     refine WDp (NPt (NPb (NPt hN))) 23 58 (.bool false) (by kernel_rfl) (fun _ => by kernel_rfl) hS62 ?_
     refine WDp (NPt (NPb (NPt hN))) 24 59 (.bool false) (by kernel_rfl) (fun _ => by kernel_rfl) hS62 ?_
     refine WDp (NPt (NPb (NPt hN))) 25 60 (undef) (by kernel_rfl) (fun _ => by kernel_rfl) hS62 ?_
     refine WDp (NPt (NPb (NPt hN))) 26 61 (undef) (by kernel_rfl) (fun _ => by kernel_rfl) hS62 ?_
     refine WDp (NPt (NPb (NPt hN))) 27 62 (undef) (by kernel_rfl) (fun _ => by kernel_rfl) hS62 ?_
     refine WDp (NPt (NPb (NPt hN))) 28 63 (undef) (by kernel_rfl) (fun _ => by kernel_rfl) hS62 ?_
     refine WDp (NPt (NPb (NPt hN))) 29 64 (.bool false) (by kernel_rfl) (fun _ => by kernel_rfl) hS62 ?_
     obtain ⟨w82, hr83, hF84, hC85⟩ := sto_run (c' := #[.int .i64 c.v.node, .int .i64 c.v.boot, .int .i64 c.v.seq, .int .i64 c.v.time, .int .i64 c.v.kind, .int .u32 c.v.svip, .int .i64 c.v.sproto, .int .i64 c.v.sport, .slice c.a c.v.ends.length c.c, .int .u32 0, .int .u32 0, .bool false]) Tryd.prog hC61 1 56 g8 0 (.agg #[.int .i64 c.v.node, .int .i64 c.v.boot, .int .i64 c.v.seq, .int .i64 c.v.time, .int .i64 c.v.kind, .int .u32 c.v.svip, .int .i64 c.v.sproto, .int .i64 c.v.sport, .slice c.a c.v.ends.length c.c, .int .u32 0, .int .u32 0, .bool false]) rfl (by kernel_rfl)
     have hS86 := hS62.trans hF84 (by first | (simp; done) | (simp [*]; done) | (have q_ := hS62.size; simp; omega))
     refine WD.semU 30 (Instr.storeAt 56 (.pointer (some ⟨g8, 0, none⟩)) (.agg #[.int .i64 c.v.node, .int .i64 c.v.boot, .int .i64 c.v.seq, .int .i64 c.v.time, .int .i64 c.v.kind, .int .u32 c.v.svip, .int .i64 c.v.sproto, .int .i64 c.v.sport, .slice c.a c.v.ends.length c.c, .int .u32 0, .int .u32 0, .bool false])) (by kernel_rfl) (by kernel_rfl) hr83 hS86 ?_
     refine WDp (NPt (NPb (NPt hN))) 31 3 (.bool false) (by kernel_rfl) (fun _ => by kernel_rfl) hS86 ?_
     refine WD.done (by kernel_rfl) ?_
     refine QXn (hK54 _ _ ?_)
     refine WC.ret ?_
     refine QXk ?_
     refine QXr ?_
     refine (hret' _ _ (.tuple #[.agg #[.int .i64 c.v.node, .int .i64 c.v.boot, .int .i64 c.v.seq, .int .i64 c.v.time, .int .i64 c.v.kind, .int .u32 c.v.svip, .int .i64 c.v.sproto, .int .i64 c.v.sport, .slice c.a c.v.ends.length c.c, .int .u32 0, .int .u32 0, .bool false], .bool false]) (fun a ha => ?_) ?_).1
     ·
      exact res_run ha ((ResR.cell rfl (run_ld (hC85.get 1 rfl) rfl) (ResR.tmp rfl ResR.nil))) rfl
     clear hN hret hret' hK54 hK48 hK45 hK43 hK41 hK30 hK25 hK14 hK2
     have hm_ : saidM c = (⟨⟨c.v.node, c.v.boot, c.v.seq, c.v.time, c.v.kind, c.v.svip, c.v.sproto, c.v.sport, c.v.ends, 0, 0, false⟩, c.a, c.c⟩ : Cmd) := by unfold saidM; rw [if_pos (by simpa using t46b)]
     have hb_ : saidB c.v = false := by unfold saidB; rw [if_pos (by simpa using t46b)] <;> (first | rfl | (simp [t63b, t64b, t64, t65b, t65]; done) | (simp_all; done) | (rw [Bool.eq_iff_iff]; simp_all <;> omega))
     rw [hm_, hb_]
     exact ⟨rfl, hC85.fr⟩
   ·
    have t64 : ¬ (c.v.sproto = 6) := by simpa using t64b
    refine WDp (NPt (NPb (NPt hN))) 9 44 (.pointer (some ⟨g31, 1, none⟩)) (by kernel_rfl) (fun _ => by kernel_rfl) hS62 ?_
    refine WD.sem 10 (Instr.loadAt 3 (.pointer (some ⟨g31, 1, none⟩))) 45 (.int .i64 c.v.sproto) (by kernel_rfl) (by kernel_rfl) (run_ld (hC61.get 3 rfl) rfl) hS62 ?_
    refine WDp (NPt (NPb (NPt hN))) 11 46 (.bool (c.v.sproto == 17)) (by kernel_rfl) (fun _ => by kernel_rfl) hS62 ?_
    refine WDp (NPt (NPb (NPt hN))) 12 47 (.bool (c.v.sproto == 17)) (by kernel_rfl) (fun _ => by kernel_rfl) hS62 ?_
    refine WDp (NPt (NPb (NPt hN))) 13 48 (.bool (c.v.sproto == 17)) (by kernel_rfl) (fun _ => by kernel_rfl) hS62 ?_
    refine WDp (NPt (NPb (NPt hN))) 14 49 (.bool (c.v.sproto == 17)) (by kernel_rfl) (fun _ => by kernel_rfl) hS62 ?_
    refine WDa 49 (c.v.sproto == 17) rfl (fun t87b => ?_) (fun t87b => ?_)
    ·
     have t87 : c.v.sproto = 17 := by simpa using t87b
     refine WDp (NPt (NPb (NPt hN))) 15 50 (.pointer (some ⟨g31, 2, none⟩)) (by kernel_rfl) (fun _ => by kernel_rfl) hS62 ?_
     refine WD.sem 16 (Instr.loadAt 3 (.pointer (some ⟨g31, 2, none⟩))) 51 (.int .i64 c.v.sport) (by kernel_rfl) (by kernel_rfl) (run_ld (hC61.get 3 rfl) rfl) hS62 ?_
     refine WDp (NPt (NPb (NPt hN))) 17 52 (.bool (decide (c.v.sport ≥ 1))) (by kernel_rfl) (fun _ => by kernel_rfl) hS62 ?_
     refine WDp (NPt (NPb (NPt hN))) 18 53 (.bool (decide (c.v.sport ≥ 1))) (by kernel_rfl) (fun _ => by kernel_rfl) hS62 ?_
     refine WDp (NPt (NPb (NPt hN))) 19 54 (.bool (decide (c.v.sport ≥ 1))) (by kernel_rfl) (fun _ => by kernel_rfl) hS62 ?_
     refine WDa 54 (decide (c.v.sport ≥ 1)) rfl (fun t88b => ?_) (fun t88b => ?_)
     ·
      have t88 : (1 : Int) ≤ c.v.sport := by have q_ := of_decide_eq_true t88b; omega
      refine WDp (NPt (NPb (NPt hN))) 20 55 (.pointer (some ⟨g31, 2, none⟩)) (by kernel_rfl) (fun _ => by kernel_rfl) hS62 ?_
      refine WD.sem 21 (Instr.loadAt 3 (.pointer (some ⟨g31, 2, none⟩))) 56 (.int .i64 c.v.sport) (by kernel_rfl) (by kernel_rfl) (run_ld (hC61.get 3 rfl) rfl) hS62 ?_
      refine WDp (NPt (NPb (NPt hN))) 22 57 (.bool (decide (c.v.sport ≤ 1023))) (by kernel_rfl) (fun _ => by kernel_rfl) hS62 ?_
      refine WDp (NPt (NPb (NPt hN))) 23 58 (.bool (decide (c.v.sport ≤ 1023))) (by kernel_rfl) (fun _ => by kernel_rfl) hS62 ?_
      refine WDp (NPt (NPb (NPt hN))) 24 59 (.bool (decide (c.v.sport ≤ 1023))) (by kernel_rfl) (fun _ => by kernel_rfl) hS62 ?_
      refine WDa 59 (decide (c.v.sport ≤ 1023)) rfl (fun t89b => ?_) (fun t89b => ?_)
      ·
       have t89 : c.v.sport ≤ 1023 := by have q_ := of_decide_eq_true t89b; omega
       refine WDp (NPt (NPb (NPt hN))) 25 60 (.pointer (some ⟨g31, 3, none⟩)) (by kernel_rfl) (fun _ => by kernel_rfl) hS62 ?_
       refine WD.sem 26 (Instr.loadAt 50 (.pointer (some ⟨g31, 3, none⟩))) 61 (.slice c.a c.v.ends.length c.c) (by kernel_rfl) (by kernel_rfl) (run_ld (hC61.get 3 rfl) rfl) hS62 ?_
       refine WD.call 27 (by kernel_rfl) rfl rfl rfl rfl rfl (by kernel_rfl) (ringCheck_n c.a c.v.ends.length c.c c.v.ends w60 (Rd.fr h.rd hC61.fr) rfl h.wf.ends h.lim h.cap) ?_
       rintro _ w91 ⟨rfl, hF90⟩
       have hS93 := hS62.trans hF90 (by simp)
       refine ⟨_, rfl, hS93, ?_⟩
       have hC92 := hC61.call hF90
       have hr94 : ∀ w_, Sem.run Tryd.prog (do eqGuard .eql 38 (Operand.tmp 62) (Operand.const (.nilIface)) (errV 73 (if goodE c.v.ends then 0 else 9)) (.nilIface); binOp .eql 38 (errV 73 (if goodE c.v.ends then 0 else 9)) (.nilIface)) w_ = .ok (.bool (goodE c.v.ends)) w_ := fun w_ => (err_eql _ (if goodE c.v.ends then 0 else 9) (goodE c.v.ends) (by cases goodE c.v.ends <;> rfl) _)
       refine WD.semP (NPt (NPb (NPt hN))) 28 (do eqGuard .eql 38 (Operand.tmp 62) (Operand.const (.nilIface)) (errV 73 (if goodE c.v.ends then 0 else 9)) (.nilIface); binOp .eql 38 (errV 73 (if goodE c.v.ends then 0 else 9)) (.nilIface)) 63 (.bool (goodE c.v.ends)) (by kernel_rfl) (by kernel_rfl) (fun _ _ => hr94 _) hS93 ?_
       refine WDp (NPt (NPb (NPt hN))) 29 64 (.bool (goodE c.v.ends)) (by kernel_rfl) (fun _ => by kernel_rfl) hS93 ?_
       obtain ⟨w95, hr96, hF97, hC98⟩ := sto_run (c' := #[.int .i64 c.v.node, .int .i64 c.v.boot, .int .i64 c.v.seq, .int .i64 c.v.time, .int .i64 c.v.kind, .int .u32 c.v.svip, .int .i64 c.v.sproto, .int .i64 c.v.sport, .slice c.a c.v.ends.length c.c, .int .u32 0, .int .u32 0, .bool false]) Tryd.prog hC92 1 56 g8 0 (.agg #[.int .i64 c.v.node, .int .i64 c.v.boot, .int .i64 c.v.seq, .int .i64 c.v.time, .int .i64 c.v.kind, .int .u32 c.v.svip, .int .i64 c.v.sproto, .int .i64 c.v.sport, .slice c.a c.v.ends.length c.c, .int .u32 0, .int .u32 0, .bool false]) rfl (by kernel_rfl)
       have hS99 := hS93.trans hF97 (by first | (simp; done) | (simp [*]; done) | (have q_ := hS93.size; simp; omega))
       refine WD.semU 30 (Instr.storeAt 56 (.pointer (some ⟨g8, 0, none⟩)) (.agg #[.int .i64 c.v.node, .int .i64 c.v.boot, .int .i64 c.v.seq, .int .i64 c.v.time, .int .i64 c.v.kind, .int .u32 c.v.svip, .int .i64 c.v.sproto, .int .i64 c.v.sport, .slice c.a c.v.ends.length c.c, .int .u32 0, .int .u32 0, .bool false])) (by kernel_rfl) (by kernel_rfl) hr96 hS99 ?_
       refine WDp (NPt (NPb (NPt hN))) 31 3 (.bool (goodE c.v.ends)) (by kernel_rfl) (fun _ => by kernel_rfl) hS99 ?_
       refine WD.done (by kernel_rfl) ?_
       refine QXn (hK54 _ _ ?_)
       refine WC.ret ?_
       refine QXk ?_
       refine QXr ?_
       refine (hret' _ _ (.tuple #[.agg #[.int .i64 c.v.node, .int .i64 c.v.boot, .int .i64 c.v.seq, .int .i64 c.v.time, .int .i64 c.v.kind, .int .u32 c.v.svip, .int .i64 c.v.sproto, .int .i64 c.v.sport, .slice c.a c.v.ends.length c.c, .int .u32 0, .int .u32 0, .bool false], .bool (goodE c.v.ends)]) (fun a ha => ?_) ?_).1
       ·
        exact res_run ha ((ResR.cell rfl (run_ld (hC98.get 1 rfl) rfl) (ResR.tmp rfl ResR.nil))) rfl
       clear hN hret hret' hK54 hK48 hK45 hK43 hK41 hK30 hK25 hK14 hK2
       have hm_ : saidM c = (⟨⟨c.v.node, c.v.boot, c.v.seq, c.v.time, c.v.kind, c.v.svip, c.v.sproto, c.v.sport, c.v.ends, 0, 0, false⟩, c.a, c.c⟩ : Cmd) := by unfold saidM; rw [if_pos (by simpa using t46b)]
       have hb_ : saidB c.v = (goodE c.v.ends) := by unfold saidB; rw [if_pos (by simpa using t46b)] <;> (first | rfl | (simp [t63b, t64b, t64, t87b, t87, t88b, t88, t89b, t89]; done) | (simp_all; done) | (rw [Bool.eq_iff_iff]; simp_all <;> omega))
       rw [hm_, hb_]
       exact ⟨rfl, hC98.fr⟩
      ·
       have t89 : (1023 : Int) < c.v.sport := by have q_ := of_decide_eq_false t89b; omega
       refine WDp (NPt (NPb (NPt hN))) 25 60 (undef) (by kernel_rfl) (fun _ => by kernel_rfl) hS62 ?_
       refine WDp (NPt (NPb (NPt hN))) 26 61 (undef) (by kernel_rfl) (fun _ => by kernel_rfl) hS62 ?_
       refine WDp (NPt (NPb (NPt hN))) 27 62 (undef) (by kernel_rfl) (fun _ => by kernel_rfl) hS62 ?_
       refine WDp (NPt (NPb (NPt hN))) 28 63 (undef) (by kernel_rfl) (fun _ => by kernel_rfl) hS62 ?_
       refine WDp (NPt (NPb (NPt hN))) 29 64 (.bool false) (by kernel_rfl) (fun _ => by kernel_rfl) hS62 ?_
       obtain ⟨w100, hr101, hF102, hC103⟩ := sto_run (c' := #[.int .i64 c.v.node, .int .i64 c.v.boot, .int .i64 c.v.seq, .int .i64 c.v.time, .int .i64 c.v.kind, .int .u32 c.v.svip, .int .i64 c.v.sproto, .int .i64 c.v.sport, .slice c.a c.v.ends.length c.c, .int .u32 0, .int .u32 0, .bool false]) Tryd.prog hC61 1 56 g8 0 (.agg #[.int .i64 c.v.node, .int .i64 c.v.boot, .int .i64 c.v.seq, .int .i64 c.v.time, .int .i64 c.v.kind, .int .u32 c.v.svip, .int .i64 c.v.sproto, .int .i64 c.v.sport, .slice c.a c.v.ends.length c.c, .int .u32 0, .int .u32 0, .bool false]) rfl (by kernel_rfl)
       have hS104 := hS62.trans hF102 (by first | (simp; done) | (simp [*]; done) | (have q_ := hS62.size; simp; omega))
       refine WD.semU 30 (Instr.storeAt 56 (.pointer (some ⟨g8, 0, none⟩)) (.agg #[.int .i64 c.v.node, .int .i64 c.v.boot, .int .i64 c.v.seq, .int .i64 c.v.time, .int .i64 c.v.kind, .int .u32 c.v.svip, .int .i64 c.v.sproto, .int .i64 c.v.sport, .slice c.a c.v.ends.length c.c, .int .u32 0, .int .u32 0, .bool false])) (by kernel_rfl) (by kernel_rfl) hr101 hS104 ?_
       refine WDp (NPt (NPb (NPt hN))) 31 3 (.bool false) (by kernel_rfl) (fun _ => by kernel_rfl) hS104 ?_
       refine WD.done (by kernel_rfl) ?_
       refine QXn (hK54 _ _ ?_)
       refine WC.ret ?_
       refine QXk ?_
       refine QXr ?_
       refine (hret' _ _ (.tuple #[.agg #[.int .i64 c.v.node, .int .i64 c.v.boot, .int .i64 c.v.seq, .int .i64 c.v.time, .int .i64 c.v.kind, .int .u32 c.v.svip, .int .i64 c.v.sproto, .int .i64 c.v.sport, .slice c.a c.v.ends.length c.c, .int .u32 0, .int .u32 0, .bool false], .bool false]) (fun a ha => ?_) ?_).1
       ·
        exact res_run ha ((ResR.cell rfl (run_ld (hC103.get 1 rfl) rfl) (ResR.tmp rfl ResR.nil))) rfl
       clear hN hret hret' hK54 hK48 hK45 hK43 hK41 hK30 hK25 hK14 hK2
       have hm_ : saidM c = (⟨⟨c.v.node, c.v.boot, c.v.seq, c.v.time, c.v.kind, c.v.svip, c.v.sproto, c.v.sport, c.v.ends, 0, 0, false⟩, c.a, c.c⟩ : Cmd) := by unfold saidM; rw [if_pos (by simpa using t46b)]
       have hb_ : saidB c.v = false := by unfold saidB; rw [if_pos (by simpa using t46b)] <;> (first | rfl | (simp [t63b, t64b, t64, t87b, t87, t88b, t88, t89b, t89]; done) | (simp_all; done) | (rw [Bool.eq_iff_iff]; simp_all <;> omega))
       rw [hm_, hb_]
       exact ⟨rfl, hC103.fr⟩
     ·
      have t88 : c.v.sport < 1 := by have q_ := of_decide_eq_false t88b; omega
      refine WDp (NPt (NPb (NPt hN))) 20 55 (undef) (by kernel_rfl) (fun _ => by kernel_rfl) hS62 ?_
      refine WDp (NPt (NPb (NPt hN))) 21 56 (undef) (by kernel_rfl) (fun _ => by kernel_rfl) hS62 ?_
      refine WDp (NPt (NPb (NPt hN))) 22 57 (undef) (by kernel_rfl) (fun _ => by kernel_rfl) hS62 ?_
      refine WDp (NPt (NPb (NPt hN))) 23 58 (.bool false) (by kernel_rfl) (fun _ => by kernel_rfl) hS62 ?_
      refine WDp (NPt (NPb (NPt hN))) 24 59 (.bool false) (by kernel_rfl) (fun _ => by kernel_rfl) hS62 ?_
      refine WDp (NPt (NPb (NPt hN))) 25 60 (undef) (by kernel_rfl) (fun _ => by kernel_rfl) hS62 ?_
      refine WDp (NPt (NPb (NPt hN))) 26 61 (undef) (by kernel_rfl) (fun _ => by kernel_rfl) hS62 ?_
      refine WDp (NPt (NPb (NPt hN))) 27 62 (undef) (by kernel_rfl) (fun _ => by kernel_rfl) hS62 ?_
      refine WDp (NPt (NPb (NPt hN))) 28 63 (undef) (by kernel_rfl) (fun _ => by kernel_rfl) hS62 ?_
      refine WDp (NPt (NPb (NPt hN))) 29 64 (.bool false) (by kernel_rfl) (fun _ => by kernel_rfl) hS62 ?_
      obtain ⟨w105, hr106, hF107, hC108⟩ := sto_run (c' := #[.int .i64 c.v.node, .int .i64 c.v.boot, .int .i64 c.v.seq, .int .i64 c.v.time, .int .i64 c.v.kind, .int .u32 c.v.svip, .int .i64 c.v.sproto, .int .i64 c.v.sport, .slice c.a c.v.ends.length c.c, .int .u32 0, .int .u32 0, .bool false]) Tryd.prog hC61 1 56 g8 0 (.agg #[.int .i64 c.v.node, .int .i64 c.v.boot, .int .i64 c.v.seq, .int .i64 c.v.time, .int .i64 c.v.kind, .int .u32 c.v.svip, .int .i64 c.v.sproto, .int .i64 c.v.sport, .slice c.a c.v.ends.length c.c, .int .u32 0, .int .u32 0, .bool false]) rfl (by kernel_rfl)
      have hS109 := hS62.trans hF107 (by first | (simp; done) | (simp [*]; done) | (have q_ := hS62.size; simp; omega))
      refine WD.semU 30 (Instr.storeAt 56 (.pointer (some ⟨g8, 0, none⟩)) (.agg #[.int .i64 c.v.node, .int .i64 c.v.boot, .int .i64 c.v.seq, .int .i64 c.v.time, .int .i64 c.v.kind, .int .u32 c.v.svip, .int .i64 c.v.sproto, .int .i64 c.v.sport, .slice c.a c.v.ends.length c.c, .int .u32 0, .int .u32 0, .bool false])) (by kernel_rfl) (by kernel_rfl) hr106 hS109 ?_
      refine WDp (NPt (NPb (NPt hN))) 31 3 (.bool false) (by kernel_rfl) (fun _ => by kernel_rfl) hS109 ?_
      refine WD.done (by kernel_rfl) ?_
      refine QXn (hK54 _ _ ?_)
      refine WC.ret ?_
      refine QXk ?_
      refine QXr ?_
      refine (hret' _ _ (.tuple #[.agg #[.int .i64 c.v.node, .int .i64 c.v.boot, .int .i64 c.v.seq, .int .i64 c.v.time, .int .i64 c.v.kind, .int .u32 c.v.svip, .int .i64 c.v.sproto, .int .i64 c.v.sport, .slice c.a c.v.ends.length c.c, .int .u32 0, .int .u32 0, .bool false], .bool false]) (fun a ha => ?_) ?_).1
      ·
       exact res_run ha ((ResR.cell rfl (run_ld (hC108.get 1 rfl) rfl) (ResR.tmp rfl ResR.nil))) rfl
      clear hN hret hret' hK54 hK48 hK45 hK43 hK41 hK30 hK25 hK14 hK2
      have hm_ : saidM c = (⟨⟨c.v.node, c.v.boot, c.v.seq, c.v.time, c.v.kind, c.v.svip, c.v.sproto, c.v.sport, c.v.ends, 0, 0, false⟩, c.a, c.c⟩ : Cmd) := by unfold saidM; rw [if_pos (by simpa using t46b)]
      have hb_ : saidB c.v = false := by unfold saidB; rw [if_pos (by simpa using t46b)] <;> (first | rfl | (simp [t63b, t64b, t64, t87b, t87, t88b, t88]; done) | (simp_all; done) | (rw [Bool.eq_iff_iff]; simp_all <;> omega))
      rw [hm_, hb_]
      exact ⟨rfl, hC108.fr⟩
    ·
     have t87 : ¬ (c.v.sproto = 17) := by simpa using t87b
     refine WDp (NPt (NPb (NPt hN))) 15 50 (undef) (by kernel_rfl) (fun _ => by kernel_rfl) hS62 ?_
     refine WDp (NPt (NPb (NPt hN))) 16 51 (undef) (by kernel_rfl) (fun _ => by kernel_rfl) hS62 ?_
     refine WDp (NPt (NPb (NPt hN))) 17 52 (undef) (by kernel_rfl) (fun _ => by kernel_rfl) hS62 ?_
     refine WDp (NPt (NPb (NPt hN))) 18 53 (.bool false) (by kernel_rfl) (fun _ => by kernel_rfl) hS62 ?_
     refine WDp (NPt (NPb (NPt hN))) 19 54 (.bool false) (by kernel_rfl) (fun _ => by kernel_rfl) hS62 ?_
     refine WDp (NPt (NPb (NPt hN))) 20 55 (undef) (by kernel_rfl) (fun _ => by kernel_rfl) hS62 ?_
     refine WDp (NPt (NPb (NPt hN))) 21 56 (undef) (by kernel_rfl) (fun _ => by kernel_rfl) hS62 ?_
     refine WDp (NPt (NPb (NPt hN))) 22 57 (undef) (by kernel_rfl) (fun _ => by kernel_rfl) hS62 ?_
     refine WDp (NPt (NPb (NPt hN))) 23 58 (.bool false) (by kernel_rfl) (fun _ => by kernel_rfl) hS62 ?_
     refine WDp (NPt (NPb (NPt hN))) 24 59 (.bool false) (by kernel_rfl) (fun _ => by kernel_rfl) hS62 ?_
     refine WDp (NPt (NPb (NPt hN))) 25 60 (undef) (by kernel_rfl) (fun _ => by kernel_rfl) hS62 ?_
     refine WDp (NPt (NPb (NPt hN))) 26 61 (undef) (by kernel_rfl) (fun _ => by kernel_rfl) hS62 ?_
     refine WDp (NPt (NPb (NPt hN))) 27 62 (undef) (by kernel_rfl) (fun _ => by kernel_rfl) hS62 ?_
     refine WDp (NPt (NPb (NPt hN))) 28 63 (undef) (by kernel_rfl) (fun _ => by kernel_rfl) hS62 ?_
     refine WDp (NPt (NPb (NPt hN))) 29 64 (.bool false) (by kernel_rfl) (fun _ => by kernel_rfl) hS62 ?_
     obtain ⟨w110, hr111, hF112, hC113⟩ := sto_run (c' := #[.int .i64 c.v.node, .int .i64 c.v.boot, .int .i64 c.v.seq, .int .i64 c.v.time, .int .i64 c.v.kind, .int .u32 c.v.svip, .int .i64 c.v.sproto, .int .i64 c.v.sport, .slice c.a c.v.ends.length c.c, .int .u32 0, .int .u32 0, .bool false]) Tryd.prog hC61 1 56 g8 0 (.agg #[.int .i64 c.v.node, .int .i64 c.v.boot, .int .i64 c.v.seq, .int .i64 c.v.time, .int .i64 c.v.kind, .int .u32 c.v.svip, .int .i64 c.v.sproto, .int .i64 c.v.sport, .slice c.a c.v.ends.length c.c, .int .u32 0, .int .u32 0, .bool false]) rfl (by kernel_rfl)
     have hS114 := hS62.trans hF112 (by first | (simp; done) | (simp [*]; done) | (have q_ := hS62.size; simp; omega))
     refine WD.semU 30 (Instr.storeAt 56 (.pointer (some ⟨g8, 0, none⟩)) (.agg #[.int .i64 c.v.node, .int .i64 c.v.boot, .int .i64 c.v.seq, .int .i64 c.v.time, .int .i64 c.v.kind, .int .u32 c.v.svip, .int .i64 c.v.sproto, .int .i64 c.v.sport, .slice c.a c.v.ends.length c.c, .int .u32 0, .int .u32 0, .bool false])) (by kernel_rfl) (by kernel_rfl) hr111 hS114 ?_
     refine WDp (NPt (NPb (NPt hN))) 31 3 (.bool false) (by kernel_rfl) (fun _ => by kernel_rfl) hS114 ?_
     refine WD.done (by kernel_rfl) ?_
     refine QXn (hK54 _ _ ?_)
     refine WC.ret ?_
     refine QXk ?_
     refine QXr ?_
     refine (hret' _ _ (.tuple #[.agg #[.int .i64 c.v.node, .int .i64 c.v.boot, .int .i64 c.v.seq, .int .i64 c.v.time, .int .i64 c.v.kind, .int .u32 c.v.svip, .int .i64 c.v.sproto, .int .i64 c.v.sport, .slice c.a c.v.ends.length c.c, .int .u32 0, .int .u32 0, .bool false], .bool false]) (fun a ha => ?_) ?_).1
     ·
      exact res_run ha ((ResR.cell rfl (run_ld (hC113.get 1 rfl) rfl) (ResR.tmp rfl ResR.nil))) rfl
     clear hN hret hret' hK54 hK48 hK45 hK43 hK41 hK30 hK25 hK14 hK2
     have hm_ : saidM c = (⟨⟨c.v.node, c.v.boot, c.v.seq, c.v.time, c.v.kind, c.v.svip, c.v.sproto, c.v.sport, c.v.ends, 0, 0, false⟩, c.a, c.c⟩ : Cmd) := by unfold saidM; rw [if_pos (by simpa using t46b)]
     have hb_ : saidB c.v = false := by unfold saidB; rw [if_pos (by simpa using t46b)] <;> (first | rfl | (simp [t63b, t64b, t64, t87b, t87]; done) | (simp_all; done) | (rw [Bool.eq_iff_iff]; simp_all <;> omega))
     rw [hm_, hb_]
     exact ⟨rfl, hC113.fr⟩
  ·
   refine WDp (NPt (NPb (NPt hN))) 5 40 (undef) (by kernel_rfl) (fun _ => by kernel_rfl) hS62 ?_
   refine WDp (NPt (NPb (NPt hN))) 6 41 (undef) (by kernel_rfl) (fun _ => by kernel_rfl) hS62 ?_
   refine WDp (NPt (NPb (NPt hN))) 7 42 (undef) (by kernel_rfl) (fun _ => by kernel_rfl) hS62 ?_
   refine WDp (NPt (NPb (NPt hN))) 8 43 (undef) (by kernel_rfl) (fun _ => by kernel_rfl) hS62 ?_
   refine WDp (NPt (NPb (NPt hN))) 9 44 (undef) (by kernel_rfl) (fun _ => by kernel_rfl) hS62 ?_
   refine WDp (NPt (NPb (NPt hN))) 10 45 (undef) (by kernel_rfl) (fun _ => by kernel_rfl) hS62 ?_
   refine WDp (NPt (NPb (NPt hN))) 11 46 (undef) (by kernel_rfl) (fun _ => by kernel_rfl) hS62 ?_
   refine WDp (NPt (NPb (NPt hN))) 12 47 (undef) (by kernel_rfl) (fun _ => by kernel_rfl) hS62 ?_
   refine WDp (NPt (NPb (NPt hN))) 13 48 (.bool false) (by kernel_rfl) (fun _ => by kernel_rfl) hS62 ?_
   refine WDp (NPt (NPb (NPt hN))) 14 49 (.bool false) (by kernel_rfl) (fun _ => by kernel_rfl) hS62 ?_
   refine WDp (NPt (NPb (NPt hN))) 15 50 (undef) (by kernel_rfl) (fun _ => by kernel_rfl) hS62 ?_
   refine WDp (NPt (NPb (NPt hN))) 16 51 (undef) (by kernel_rfl) (fun _ => by kernel_rfl) hS62 ?_
   refine WDp (NPt (NPb (NPt hN))) 17 52 (undef) (by kernel_rfl) (fun _ => by kernel_rfl) hS62 ?_
   refine WDp (NPt (NPb (NPt hN))) 18 53 (.bool false) (by kernel_rfl) (fun _ => by kernel_rfl) hS62 ?_
   refine WDp (NPt (NPb (NPt hN))) 19 54 (.bool false) (by kernel_rfl) (fun _ => by kernel_rfl) hS62 ?_
   refine WDp (NPt (NPb (NPt hN))) 20 55 (undef) (by kernel_rfl) (fun _ => by kernel_rfl) hS62 ?_
   refine WDp (NPt (NPb (NPt hN))) 21 56 (undef) (by kernel_rfl) (fun _ => by kernel_rfl) hS62 ?_
   refine WDp (NPt (NPb (NPt hN))) 22 57 (undef) (by kernel_rfl) (fun _ => by kernel_rfl) hS62 ?_
   refine WDp (NPt (NPb (NPt hN))) 23 58 (.bool false) (by kernel_rfl) (fun _ => by kernel_rfl) hS62 ?_
   refine WDp (NPt (NPb (NPt hN))) 24 59 (.bool false) (by kernel_rfl) (fun _ => by kernel_rfl) hS62 ?_
   refine WDp (NPt (NPb (NPt hN))) 25 60 (undef) (by kernel_rfl) (fun _ => by kernel_rfl) hS62 ?_
   refine WDp (NPt (NPb (NPt hN))) 26 61 (undef) (by kernel_rfl) (fun _ => by kernel_rfl) hS62 ?_
   refine WDp (NPt (NPb (NPt hN))) 27 62 (undef) (by kernel_rfl) (fun _ => by kernel_rfl) hS62 ?_
   refine WDp (NPt (NPb (NPt hN))) 28 63 (undef) (by kernel_rfl) (fun _ => by kernel_rfl) hS62 ?_
   refine WDp (NPt (NPb (NPt hN))) 29 64 (.bool false) (by kernel_rfl) (fun _ => by kernel_rfl) hS62 ?_
   obtain ⟨w115, hr116, hF117, hC118⟩ := sto_run (c' := #[.int .i64 c.v.node, .int .i64 c.v.boot, .int .i64 c.v.seq, .int .i64 c.v.time, .int .i64 c.v.kind, .int .u32 c.v.svip, .int .i64 c.v.sproto, .int .i64 c.v.sport, .slice c.a c.v.ends.length c.c, .int .u32 0, .int .u32 0, .bool false]) Tryd.prog hC61 1 56 g8 0 (.agg #[.int .i64 c.v.node, .int .i64 c.v.boot, .int .i64 c.v.seq, .int .i64 c.v.time, .int .i64 c.v.kind, .int .u32 c.v.svip, .int .i64 c.v.sproto, .int .i64 c.v.sport, .slice c.a c.v.ends.length c.c, .int .u32 0, .int .u32 0, .bool false]) rfl (by kernel_rfl)
   have hS119 := hS62.trans hF117 (by first | (simp; done) | (simp [*]; done) | (have q_ := hS62.size; simp; omega))
   refine WD.semU 30 (Instr.storeAt 56 (.pointer (some ⟨g8, 0, none⟩)) (.agg #[.int .i64 c.v.node, .int .i64 c.v.boot, .int .i64 c.v.seq, .int .i64 c.v.time, .int .i64 c.v.kind, .int .u32 c.v.svip, .int .i64 c.v.sproto, .int .i64 c.v.sport, .slice c.a c.v.ends.length c.c, .int .u32 0, .int .u32 0, .bool false])) (by kernel_rfl) (by kernel_rfl) hr116 hS119 ?_
   refine WDp (NPt (NPb (NPt hN))) 31 3 (.bool false) (by kernel_rfl) (fun _ => by kernel_rfl) hS119 ?_
   refine WD.done (by kernel_rfl) ?_
   refine QXn (hK54 _ _ ?_)
   refine WC.ret ?_
   refine QXk ?_
   refine QXr ?_
   refine (hret' _ _ (.tuple #[.agg #[.int .i64 c.v.node, .int .i64 c.v.boot, .int .i64 c.v.seq, .int .i64 c.v.time, .int .i64 c.v.kind, .int .u32 c.v.svip, .int .i64 c.v.sproto, .int .i64 c.v.sport, .slice c.a c.v.ends.length c.c, .int .u32 0, .int .u32 0, .bool false], .bool false]) (fun a ha => ?_) ?_).1
   ·
    exact res_run ha ((ResR.cell rfl (run_ld (hC118.get 1 rfl) rfl) (ResR.tmp rfl ResR.nil))) rfl
   clear hN hret hret' hK54 hK48 hK45 hK43 hK41 hK30 hK25 hK14 hK2
   have hm_ : saidM c = (⟨⟨c.v.node, c.v.boot, c.v.seq, c.v.time, c.v.kind, c.v.svip, c.v.sproto, c.v.sport, c.v.ends, 0, 0, false⟩, c.a, c.c⟩ : Cmd) := by unfold saidM; rw [if_pos (by simpa using t46b)]
   have hb_ : saidB c.v = false := by unfold saidB; rw [if_pos (by simpa using t46b)] <;> (first | rfl | (simp [t63b]; done) | (simp_all; done) | (rw [Bool.eq_iff_iff]; simp_all <;> omega))
   rw [hm_, hb_]
   exact ⟨rfl, hC118.fr⟩
 ·
  have t46 : ¬ (c.v.kind = 1) := by simpa using t46b
  refine WCf rfl ?_
  refine WCs (fun K120 hK121 => ?_)
  refine WCg (WLr 2 [(65, .bool (c.v.kind == 2)), (66, .bool (c.v.kind == 2))] (fun _ => by kernel_rfl) (WLd rfl (QXn (hK121 _ _ ?_))))
  refine WCa 65 (c.v.kind == 2) rfl (fun t122b => ?_) (fun t122b => ?_)
  ·
   have t122 : c.v.kind = 2 := by simpa using t122b
   refine WCt rfl ?_
   refine WCs (fun K123 hK124 => ?_)
   refine WC.drawC hC39 [g15] (by kernel_rfl) (fun w125 hF126 hC127 hS128 => ?_)
   refine WDp (NPt (NPb (NPt hN))) 0 67 (.pointer (some ⟨g3, 9, none⟩)) (by kernel_rfl) (fun _ => by kernel_rfl) hS128 ?_
   refine WDp (NPt (NPb (NPt hN))) 2 69 (.pointer (some ⟨g3, 10, none⟩)) (by kernel_rfl) (fun _ => by kernel_rfl) hS128 ?_
   refine WDp (NPt (NPb (NPt hN))) 4 71 (.pointer (some ⟨g3, 11, none⟩)) (by kernel_rfl) (fun _ => by kernel_rfl) hS128 ?_
   refine WDl (NPt (NPb (NPt hN))) 1 41 (.pointer (some ⟨g3, 9, none⟩)) (.int .u32 c.v.dip) 68 (by kernel_rfl) (by kernel_rfl) (fun _ hS_ => run_ld (Fr.has hS_ (hC127.get 0 rfl) (by simpa using hC127.ne 0 2 rfl rfl (by decide))) rfl) hS128 ?_
   refine WDp (NPt (NPb (NPt hN))) 6 73 (.pointer (some ⟨g15, 9, none⟩)) (by kernel_rfl) (fun _ => by kernel_rfl) hS128 ?_
   refine WDl (NPt (NPb (NPt hN))) 3 41 (.pointer (some ⟨g3, 10, none⟩)) (.int .u32 c.v.vip) 70 (by kernel_rfl) (by kernel_rfl) (fun _ hS_ => run_ld (Fr.has hS_ (hC127.get 0 rfl) (by simpa using hC127.ne 0 2 rfl rfl (by decide))) rfl) hS128 ?_
   refine WDl (NPt (NPb (NPt hN))) 5 4 (.pointer (some ⟨g3, 11, none⟩)) (.bool c.v.up) 72 (by kernel_rfl) (by kernel_rfl) (fun _ hS_ => run_ld (Fr.has hS_ (hC127.get 0 rfl) (by simpa using hC127.ne 0 2 rfl rfl (by decide))) rfl) hS128 ?_
   obtain ⟨w129, hr130, hF131, hC132⟩ := sto_run (c' := #[.int .i64 c.v.node, .int .i64 c.v.boot, .int .i64 c.v.seq, .int .i64 c.v.time, .int .i64 c.v.kind, .int .u32 0, .int .i64 0, .int .i64 0, .slice none 0 0, .int .u32 c.v.dip, .int .u32 0, .bool false]) Tryd.prog hC127 2 41 g15 9 (.int .u32 c.v.dip) rfl (by kernel_rfl)
   have hS133 := hS128.trans hF131 (by first | (simp; done) | (simp [*]; done) | (have q_ := hS128.size; simp; omega))
   refine WD.semU 7 (Instr.storeAt 41 (.pointer (some ⟨g15, 9, none⟩)) (.int .u32 c.v.dip)) (by kernel_rfl) (by kernel_rfl) hr130 hS133 ?_
   refine WDp (NPt (NPb (NPt hN))) 8 74 (.pointer (some ⟨g15, 10, none⟩)) (by kernel_rfl) (fun _ => by kernel_rfl) hS133 ?_
   obtain ⟨w134, hr135, hF136, hC137⟩ := sto_run (c' := #[.int .i64 c.v.node, .int .i64 c.v.boot, .int .i64 c.v.seq, .int .i64 c.v.time, .int .i64 c.v.kind, .int .u32 0, .int .i64 0, .int .i64 0, .slice none 0 0, .int .u32 c.v.dip, .int .u32 c.v.vip, .bool false]) Tryd.prog hC132 2 41 g15 10 (.int .u32 c.v.vip) rfl (by kernel_rfl)
   have hS138 := hS133.trans hF136 (by first | (simp; done) | (simp [*]; done) | (have q_ := hS133.size; simp; omega))
   refine WD.semU 9 (Instr.storeAt 41 (.pointer (some ⟨g15, 10, none⟩)) (.int .u32 c.v.vip)) (by kernel_rfl) (by kernel_rfl) hr135 hS138 ?_
   refine WDp (NPt (NPb (NPt hN))) 10 75 (.pointer (some ⟨g15, 11, none⟩)) (by kernel_rfl) (fun _ => by kernel_rfl) hS138 ?_
   obtain ⟨w139, hr140, hF141, hC142⟩ := sto_run (c' := #[.int .i64 c.v.node, .int .i64 c.v.boot, .int .i64 c.v.seq, .int .i64 c.v.time, .int .i64 c.v.kind, .int .u32 0, .int .i64 0, .int .i64 0, .slice none 0 0, .int .u32 c.v.dip, .int .u32 c.v.vip, .bool c.v.up]) Tryd.prog hC137 2 4 g15 11 (.bool c.v.up) rfl (by kernel_rfl)
   have hS143 := hS138.trans hF141 (by first | (simp; done) | (simp [*]; done) | (have q_ := hS138.size; simp; omega))
   refine WD.semU 11 (Instr.storeAt 4 (.pointer (some ⟨g15, 11, none⟩)) (.bool c.v.up)) (by kernel_rfl) (by kernel_rfl) hr140 hS143 ?_
   refine WD.done (by kernel_rfl) ?_
   refine QXn (hK124 _ _ ?_)
   refine WCs (fun K144 hK145 => ?_)
   refine WC.drawC hC142 [g8] (by kernel_rfl) (fun w146 hF147 hC148 hS149 => ?_)
   refine WDp (NPt (NPb (NPt hN))) 1 77 (.bool (isHome c.v.dip)) (by kernel_rfl) (fun _ => by kernel_rfl) hS149 ?_
   refine WDp (NPt (NPb (NPt hN))) 2 78 (.bool (isHome c.v.dip)) (by kernel_rfl) (fun _ => by kernel_rfl) hS149 ?_
   refine WDa 78 (isHome c.v.dip) rfl (fun t150b => ?_) (fun t150b => ?_)
   ·
    refine WDp (NPt (NPb (NPt hN))) 3 79 (.pointer (some ⟨g3, 11, none⟩)) (by kernel_rfl) (fun _ => by kernel_rfl) hS149 ?_
    refine WDl (NPt (NPb (NPt hN))) 0 56 (.pointer (some ⟨g15, 0, none⟩)) (.agg #[.int .i64 c.v.node, .int .i64 c.v.boot, .int .i64 c.v.seq, .int .i64 c.v.time, .int .i64 c.v.kind, .int .u32 0, .int .i64 0, .int .i64 0, .slice none 0 0, .int .u32 c.v.dip, .int .u32 c.v.vip, .bool c.v.up]) 76 (by kernel_rfl) (by kernel_rfl) (fun _ hS_ => run_ld (Fr.has hS_ (hC148.get 2 rfl) (by simpa using hC148.ne 2 1 rfl rfl (by decide))) rfl) hS149 ?_
    refine WD.sem 4 (Instr.loadAt 4 (.pointer (some ⟨g3, 11, none⟩))) 80 (.bool c.v.up) (by kernel_rfl) (by kernel_rfl) (run_ld (hC148.get 0 rfl) rfl) hS149 ?_
    refine WDp (NPt (NPb (NPt hN))) 5 81 (.bool c.v.up) (by kernel_rfl) (fun _ => by kernel_rfl) hS149 ?_
    refine WDa 81 (c.v.up) rfl (fun t151b => ?_) (fun t151b => ?_)
    ·
     refine WDp (NPt (NPb (NPt hN))) 6 82 (.pointer (some ⟨g3, 10, none⟩)) (by kernel_rfl) (fun _ => by kernel_rfl) hS149 ?_
     refine WD.sem 7 (Instr.loadAt 41 (.pointer (some ⟨g3, 10, none⟩))) 83 (.int .u32 c.v.vip) (by kernel_rfl) (by kernel_rfl) (run_ld (hC148.get 0 rfl) rfl) hS149 ?_
     refine WD.call 8 (by kernel_rfl) rfl rfl rfl rfl rfl (by kernel_rfl) (IsVip_ct c.v.vip w146 h.wf.vip.1 h.wf.vip.2) ?_
     rintro _ w153 ⟨rfl, hF152⟩
     have hS155 := hS149.trans hF152 (by simp)
     refine ⟨_, rfl, hS155, ?_⟩
     have hC154 := hC148.call hF152
     refine WDp (NPt (NPb (NPt hN))) 9 85 (.bool (isVip c.v.vip)) (by kernel_rfl) (fun _ => by kernel_rfl) hS155 ?_
     refine WDp (NPt (NPb (NPt hN))) 10 86 (.bool (isVip c.v.vip)) (by kernel_rfl) (fun _ => by kernel_rfl) hS155 ?_
     refine WDa 86 (isVip c.v.vip) rfl (fun t156b => ?_) (fun t156b => ?_)
     ·
      refine WDp (NPt (NPb (NPt hN))) 11 87 (undef) (by kernel_rfl) (fun _ => by kernel_rfl) hS155 ?_
      refine WDp (NPt (NPb (NPt hN))) 12 88 (undef) (by kernel_rfl) (fun _ => by kernel_rfl) hS155 ?_
      refine WDp (NPt (NPb (NPt hN))) 13 89 (undef) (by kernel_rfl) (fun _ => by kernel_rfl) hS155 ?_
      refine WDp (NPt (NPb (NPt hN))) 14 90 (undef) (by kernel_rfl) (fun _ => by kernel_rfl) hS155 ?_
      refine WDp (NPt (NPb (NPt hN))) 15 91 (undef) (by kernel_rfl) (fun _ => by kernel_rfl) hS155 ?_
      refine WDp (NPt (NPb (NPt hN))) 16 92 (undef) (by kernel_rfl) (fun _ => by kernel_rfl) hS155 ?_
      refine WDp (NPt (NPb (NPt hN))) 17 93 (undef) (by kernel_rfl) (fun _ => by kernel_rfl) hS155 ?_
      refine WDp (NPt (NPb (NPt hN))) 18 94 (undef) (by kernel_rfl) (fun _ => by kernel_rfl) hS155 ?_
      refine WDp (NPt (NPb (NPt hN))) 19 95 (.bool true) (by kernel_rfl) (fun _ => by kernel_rfl) hS155 ?_
      refine WDp (NPt (NPb (NPt hN))) 20 96 (.bool true) (by kernel_rfl) (fun _ => by kernel_rfl) hS155 ?_
      obtain ⟨w157, hr158, hF159, hC160⟩ := sto_run (c' := #[.int .i64 c.v.node, .int .i64 c.v.boot, .int .i64 c.v.seq, .int .i64 c.v.time, .int .i64 c.v.kind, .int .u32 0, .int .i64 0, .int .i64 0, .slice none 0 0, .int .u32 c.v.dip, .int .u32 c.v.vip, .bool c.v.up]) Tryd.prog hC154 1 56 g8 0 (.agg #[.int .i64 c.v.node, .int .i64 c.v.boot, .int .i64 c.v.seq, .int .i64 c.v.time, .int .i64 c.v.kind, .int .u32 0, .int .i64 0, .int .i64 0, .slice none 0 0, .int .u32 c.v.dip, .int .u32 c.v.vip, .bool c.v.up]) rfl (by kernel_rfl)
      have hS161 := hS155.trans hF159 (by first | (simp; done) | (simp [*]; done) | (have q_ := hS155.size; simp; omega))
      refine WD.semU 21 (Instr.storeAt 56 (.pointer (some ⟨g8, 0, none⟩)) (.agg #[.int .i64 c.v.node, .int .i64 c.v.boot, .int .i64 c.v.seq, .int .i64 c.v.time, .int .i64 c.v.kind, .int .u32 0, .int .i64 0, .int .i64 0, .slice none 0 0, .int .u32 c.v.dip, .int .u32 c.v.vip, .bool c.v.up])) (by kernel_rfl) (by kernel_rfl) hr158 hS161 ?_
      refine WDp (NPt (NPb (NPt hN))) 22 3 (.bool true) (by kernel_rfl) (fun _ => by kernel_rfl) hS161 ?_
      refine WD.done (by kernel_rfl) ?_
      refine QXn (hK145 _ _ ?_)
      refine WC.ret ?_
      refine QXk ?_
      refine QXr ?_
      refine (hret' _ _ (.tuple #[.agg #[.int .i64 c.v.node, .int .i64 c.v.boot, .int .i64 c.v.seq, .int .i64 c.v.time, .int .i64 c.v.kind, .int .u32 0, .int .i64 0, .int .i64 0, .slice none 0 0, .int .u32 c.v.dip, .int .u32 c.v.vip, .bool c.v.up], .bool true]) (fun a ha => ?_) ?_).1
      ·
       exact res_run ha ((ResR.cell rfl (run_ld (hC160.get 1 rfl) rfl) (ResR.tmp rfl ResR.nil))) rfl
      clear hN hret hret' hK145 hK124 hK121 hK45 hK43 hK41 hK30 hK25 hK14 hK2
      have hm_ : saidM c = (⟨⟨c.v.node, c.v.boot, c.v.seq, c.v.time, c.v.kind, 0, 0, 0, [], c.v.dip, c.v.vip, c.v.up⟩, none, 0⟩ : Cmd) := by unfold saidM; rw [if_neg (by simpa using t46b), if_pos (by simpa using t122b)]
      have hb_ : saidB c.v = true := by unfold saidB; rw [if_neg (by simpa using t46b), if_pos (by simpa using t122b)] <;> (first | rfl | (simp [t150b, t151b, t156b]; done) | (simp_all; done) | (rw [Bool.eq_iff_iff]; simp_all <;> omega))
      rw [hm_, hb_]
      exact ⟨rfl, hC160.fr⟩
     ·
      refine WDp (NPt (NPb (NPt hN))) 11 87 (.pointer (some ⟨g3, 11, none⟩)) (by kernel_rfl) (fun _ => by kernel_rfl) hS155 ?_
      refine WD.sem 12 (Instr.loadAt 4 (.pointer (some ⟨g3, 11, none⟩))) 88 (.bool c.v.up) (by kernel_rfl) (by kernel_rfl) (run_ld (hC154.get 0 rfl) rfl) hS155 ?_
      refine WDp (NPt (NPb (NPt hN))) 13 89 (.bool !c.v.up) (by kernel_rfl) (fun _ => by kernel_rfl) hS155 ?_
      refine WDp (NPt (NPb (NPt hN))) 14 90 (.bool !c.v.up) (by kernel_rfl) (fun _ => by kernel_rfl) hS155 ?_
      refine WDa 90 (!c.v.up) rfl (fun t162b => ?_) (fun t162b => ?_)
      ·
       have t162 : c.v.up = false := by first | (simpa only [Bool.not_eq_true', Bool.not_eq_false'] using t162b) | simpa using t162b
       refine WDp (NPt (NPb (NPt hN))) 15 91 (.pointer (some ⟨g3, 10, none⟩)) (by kernel_rfl) (fun _ => by kernel_rfl) hS155 ?_
       refine WDl (NPt (NPb (NPt hN))) 16 41 (.pointer (some ⟨g3, 10, none⟩)) (.int .u32 c.v.vip) 92 (by kernel_rfl) (by kernel_rfl) (fun _ hS_ => run_ld (Fr.has hS_ (hC148.get 0 rfl) (by simpa using hC148.ne 0 1 rfl rfl (by decide))) rfl) hS155 ?_
       refine WDp (NPt (NPb (NPt hN))) 17 93 (.bool (c.v.vip == 0)) (by kernel_rfl) (fun _ => by kernel_rfl) hS155 ?_
       refine WDp (NPt (NPb (NPt hN))) 18 94 (.bool (c.v.vip == 0)) (by kernel_rfl) (fun _ => by kernel_rfl) hS155 ?_
       refine WDp (NPt (NPb (NPt hN))) 19 95 (.bool (c.v.vip == 0)) (by kernel_rfl) (fun _ => by kernel_rfl) hS155 ?_
       refine WDp (NPt (NPb (NPt hN))) 20 96 (.bool (c.v.vip == 0)) (by kernel_rfl) (fun _ => by kernel_rfl) hS155 ?_
       obtain ⟨w163, hr164, hF165, hC166⟩ := sto_run (c' := #[.int .i64 c.v.node, .int .i64 c.v.boot, .int .i64 c.v.seq, .int .i64 c.v.time, .int .i64 c.v.kind, .int .u32 0, .int .i64 0, .int .i64 0, .slice none 0 0, .int .u32 c.v.dip, .int .u32 c.v.vip, .bool c.v.up]) Tryd.prog hC154 1 56 g8 0 (.agg #[.int .i64 c.v.node, .int .i64 c.v.boot, .int .i64 c.v.seq, .int .i64 c.v.time, .int .i64 c.v.kind, .int .u32 0, .int .i64 0, .int .i64 0, .slice none 0 0, .int .u32 c.v.dip, .int .u32 c.v.vip, .bool c.v.up]) rfl (by kernel_rfl)
       have hS167 := hS155.trans hF165 (by first | (simp; done) | (simp [*]; done) | (have q_ := hS155.size; simp; omega))
       refine WD.semU 21 (Instr.storeAt 56 (.pointer (some ⟨g8, 0, none⟩)) (.agg #[.int .i64 c.v.node, .int .i64 c.v.boot, .int .i64 c.v.seq, .int .i64 c.v.time, .int .i64 c.v.kind, .int .u32 0, .int .i64 0, .int .i64 0, .slice none 0 0, .int .u32 c.v.dip, .int .u32 c.v.vip, .bool c.v.up])) (by kernel_rfl) (by kernel_rfl) hr164 hS167 ?_
       refine WDp (NPt (NPb (NPt hN))) 22 3 (.bool (c.v.vip == 0)) (by kernel_rfl) (fun _ => by kernel_rfl) hS167 ?_
       refine WD.done (by kernel_rfl) ?_
       refine QXn (hK145 _ _ ?_)
       refine WC.ret ?_
       refine QXk ?_
       refine QXr ?_
       refine (hret' _ _ (.tuple #[.agg #[.int .i64 c.v.node, .int .i64 c.v.boot, .int .i64 c.v.seq, .int .i64 c.v.time, .int .i64 c.v.kind, .int .u32 0, .int .i64 0, .int .i64 0, .slice none 0 0, .int .u32 c.v.dip, .int .u32 c.v.vip, .bool c.v.up], .bool (c.v.vip == 0)]) (fun a ha => ?_) ?_).1
       ·
        exact res_run ha ((ResR.cell rfl (run_ld (hC166.get 1 rfl) rfl) (ResR.tmp rfl ResR.nil))) rfl
       clear hN hret hret' hK145 hK124 hK121 hK45 hK43 hK41 hK30 hK25 hK14 hK2
       have hm_ : saidM c = (⟨⟨c.v.node, c.v.boot, c.v.seq, c.v.time, c.v.kind, 0, 0, 0, [], c.v.dip, c.v.vip, c.v.up⟩, none, 0⟩ : Cmd) := by unfold saidM; rw [if_neg (by simpa using t46b), if_pos (by simpa using t122b)]
       have hb_ : saidB c.v = (c.v.vip == 0) := by unfold saidB; rw [if_neg (by simpa using t46b), if_pos (by simpa using t122b)] <;> (first | rfl | (simp [t150b, t162, t156b, t162b, t162]; done) | (simp_all; done) | (rw [Bool.eq_iff_iff]; simp_all <;> omega))
       rw [hm_, hb_]
       exact ⟨rfl, hC166.fr⟩
      ·
       have t162 : c.v.up = true := by first | (simpa only [Bool.not_eq_true', Bool.not_eq_false'] using t162b) | simpa using t162b
       refine WDp (NPt (NPb (NPt hN))) 15 91 (undef) (by kernel_rfl) (fun _ => by kernel_rfl) hS155 ?_
       refine WDp (NPt (NPb (NPt hN))) 16 92 (undef) (by kernel_rfl) (fun _ => by kernel_rfl) hS155 ?_
       refine WDp (NPt (NPb (NPt hN))) 17 93 (undef) (by kernel_rfl) (fun _ => by kernel_rfl) hS155 ?_
       refine WDp (NPt (NPb (NPt hN))) 18 94 (.bool false) (by kernel_rfl) (fun _ => by kernel_rfl) hS155 ?_
       refine WDp (NPt (NPb (NPt hN))) 19 95 (.bool false) (by kernel_rfl) (fun _ => by kernel_rfl) hS155 ?_
       refine WDp (NPt (NPb (NPt hN))) 20 96 (.bool false) (by kernel_rfl) (fun _ => by kernel_rfl) hS155 ?_
       obtain ⟨w168, hr169, hF170, hC171⟩ := sto_run (c' := #[.int .i64 c.v.node, .int .i64 c.v.boot, .int .i64 c.v.seq, .int .i64 c.v.time, .int .i64 c.v.kind, .int .u32 0, .int .i64 0, .int .i64 0, .slice none 0 0, .int .u32 c.v.dip, .int .u32 c.v.vip, .bool c.v.up]) Tryd.prog hC154 1 56 g8 0 (.agg #[.int .i64 c.v.node, .int .i64 c.v.boot, .int .i64 c.v.seq, .int .i64 c.v.time, .int .i64 c.v.kind, .int .u32 0, .int .i64 0, .int .i64 0, .slice none 0 0, .int .u32 c.v.dip, .int .u32 c.v.vip, .bool c.v.up]) rfl (by kernel_rfl)
       have hS172 := hS155.trans hF170 (by first | (simp; done) | (simp [*]; done) | (have q_ := hS155.size; simp; omega))
       refine WD.semU 21 (Instr.storeAt 56 (.pointer (some ⟨g8, 0, none⟩)) (.agg #[.int .i64 c.v.node, .int .i64 c.v.boot, .int .i64 c.v.seq, .int .i64 c.v.time, .int .i64 c.v.kind, .int .u32 0, .int .i64 0, .int .i64 0, .slice none 0 0, .int .u32 c.v.dip, .int .u32 c.v.vip, .bool c.v.up])) (by kernel_rfl) (by kernel_rfl) hr169 hS172 ?_
       refine WDp (NPt (NPb (NPt hN))) 22 3 (.bool false) (by kernel_rfl) (fun _ => by kernel_rfl) hS172 ?_
       refine WD.done (by kernel_rfl) ?_
       refine QXn (hK145 _ _ ?_)
       refine WC.ret ?_
       refine QXk ?_
       refine QXr ?_
       refine (hret' _ _ (.tuple #[.agg #[.int .i64 c.v.node, .int .i64 c.v.boot, .int .i64 c.v.seq, .int .i64 c.v.time, .int .i64 c.v.kind, .int .u32 0, .int .i64 0, .int .i64 0, .slice none 0 0, .int .u32 c.v.dip, .int .u32 c.v.vip, .bool c.v.up], .bool false]) (fun a ha => ?_) ?_).1
       ·
        exact res_run ha ((ResR.cell rfl (run_ld (hC171.get 1 rfl) rfl) (ResR.tmp rfl ResR.nil))) rfl
       clear hN hret hret' hK145 hK124 hK121 hK45 hK43 hK41 hK30 hK25 hK14 hK2
       have hm_ : saidM c = (⟨⟨c.v.node, c.v.boot, c.v.seq, c.v.time, c.v.kind, 0, 0, 0, [], c.v.dip, c.v.vip, c.v.up⟩, none, 0⟩ : Cmd) := by unfold saidM; rw [if_neg (by simpa using t46b), if_pos (by simpa using t122b)]
       have hb_ : saidB c.v = false := by unfold saidB; rw [if_neg (by simpa using t46b), if_pos (by simpa using t122b)] <;> (first | rfl | (simp [t150b, t162, t156b, t162b, t162]; done) | (simp_all; done) | (rw [Bool.eq_iff_iff]; simp_all <;> omega))
       rw [hm_, hb_]
       exact ⟨rfl, hC171.fr⟩
    ·
     refine WDp (NPt (NPb (NPt hN))) 6 82 (undef) (by kernel_rfl) (fun _ => by kernel_rfl) hS149 ?_
     refine WDp (NPt (NPb (NPt hN))) 7 83 (undef) (by kernel_rfl) (fun _ => by kernel_rfl) hS149 ?_
     refine WDp (NPt (NPb (NPt hN))) 8 84 (undef) (by kernel_rfl) (fun _ => by kernel_rfl) hS149 ?_
     refine WDp (NPt (NPb (NPt hN))) 9 85 (.bool false) (by kernel_rfl) (fun _ => by kernel_rfl) hS149 ?_
     refine WDp (NPt (NPb (NPt hN))) 10 86 (.bool false) (by kernel_rfl) (fun _ => by kernel_rfl) hS149 ?_
     refine WDp (NPt (NPb (NPt hN))) 11 87 (.pointer (some ⟨g3, 11, none⟩)) (by kernel_rfl) (fun _ => by kernel_rfl) hS149 ?_
     refine WD.sem 12 (Instr.loadAt 4 (.pointer (some ⟨g3, 11, none⟩))) 88 (.bool c.v.up) (by kernel_rfl) (by kernel_rfl) (run_ld (hC148.get 0 rfl) rfl) hS149 ?_
     refine WDp (NPt (NPb (NPt hN))) 13 89 (.bool !c.v.up) (by kernel_rfl) (fun _ => by kernel_rfl) hS149 ?_
     refine WDp (NPt (NPb (NPt hN))) 14 90 (.bool !c.v.up) (by kernel_rfl) (fun _ => by kernel_rfl) hS149 ?_
     refine WDa 90 (!c.v.up) rfl (fun t173b => ?_) (fun t173b => ?_)
     ·
      have t173 : c.v.up = false := by first | (simpa only [Bool.not_eq_true', Bool.not_eq_false'] using t173b) | simpa using t173b
      refine WDp (NPt (NPb (NPt hN))) 15 91 (.pointer (some ⟨g3, 10, none⟩)) (by kernel_rfl) (fun _ => by kernel_rfl) hS149 ?_
      refine WDl (NPt (NPb (NPt hN))) 16 41 (.pointer (some ⟨g3, 10, none⟩)) (.int .u32 c.v.vip) 92 (by kernel_rfl) (by kernel_rfl) (fun _ hS_ => run_ld (Fr.has hS_ (hC148.get 0 rfl) (by simpa using hC148.ne 0 1 rfl rfl (by decide))) rfl) hS149 ?_
      refine WDp (NPt (NPb (NPt hN))) 17 93 (.bool (c.v.vip == 0)) (by kernel_rfl) (fun _ => by kernel_rfl) hS149 ?_
      refine WDp (NPt (NPb (NPt hN))) 18 94 (.bool (c.v.vip == 0)) (by kernel_rfl) (fun _ => by kernel_rfl) hS149 ?_
      refine WDp (NPt (NPb (NPt hN))) 19 95 (.bool (c.v.vip == 0)) (by kernel_rfl) (fun _ => by kernel_rfl) hS149 ?_
      refine WDp (NPt (NPb (NPt hN))) 20 96 (.bool (c.v.vip == 0)) (by kernel_rfl) (fun _ => by kernel_rfl) hS149 ?_
      obtain ⟨w174, hr175, hF176, hC177⟩ := sto_run (c' := #[.int .i64 c.v.node, .int .i64 c.v.boot, .int .i64 c.v.seq, .int .i64 c.v.time, .int .i64 c.v.kind, .int .u32 0, .int .i64 0, .int .i64 0, .slice none 0 0, .int .u32 c.v.dip, .int .u32 c.v.vip, .bool c.v.up]) Tryd.prog hC148 1 56 g8 0 (.agg #[.int .i64 c.v.node, .int .i64 c.v.boot, .int .i64 c.v.seq, .int .i64 c.v.time, .int .i64 c.v.kind, .int .u32 0, .int .i64 0, .int .i64 0, .slice none 0 0, .int .u32 c.v.dip, .int .u32 c.v.vip, .bool c.v.up]) rfl (by kernel_rfl)
      have hS178 := hS149.trans hF176 (by first | (simp; done) | (simp [*]; done) | (have q_ := hS149.size; simp; omega))
      refine WD.semU 21 (Instr.storeAt 56 (.pointer (some ⟨g8, 0, none⟩)) (.agg #[.int .i64 c.v.node, .int .i64 c.v.boot, .int .i64 c.v.seq, .int .i64 c.v.time, .int .i64 c.v.kind, .int .u32 0, .int .i64 0, .int .i64 0, .slice none 0 0, .int .u32 c.v.dip, .int .u32 c.v.vip, .bool c.v.up])) (by kernel_rfl) (by kernel_rfl) hr175 hS178 ?_
      refine WDp (NPt (NPb (NPt hN))) 22 3 (.bool (c.v.vip == 0)) (by kernel_rfl) (fun _ => by kernel_rfl) hS178 ?_
      refine WD.done (by kernel_rfl) ?_
      refine QXn (hK145 _ _ ?_)
      refine WC.ret ?_
      refine QXk ?_
      refine QXr ?_
      refine (hret' _ _ (.tuple #[.agg #[.int .i64 c.v.node, .int .i64 c.v.boot, .int .i64 c.v.seq, .int .i64 c.v.time, .int .i64 c.v.kind, .int .u32 0, .int .i64 0, .int .i64 0, .slice none 0 0, .int .u32 c.v.dip, .int .u32 c.v.vip, .bool c.v.up], .bool (c.v.vip == 0)]) (fun a ha => ?_) ?_).1
      ·
       exact res_run ha ((ResR.cell rfl (run_ld (hC177.get 1 rfl) rfl) (ResR.tmp rfl ResR.nil))) rfl
      clear hN hret hret' hK145 hK124 hK121 hK45 hK43 hK41 hK30 hK25 hK14 hK2
      have hm_ : saidM c = (⟨⟨c.v.node, c.v.boot, c.v.seq, c.v.time, c.v.kind, 0, 0, 0, [], c.v.dip, c.v.vip, c.v.up⟩, none, 0⟩ : Cmd) := by unfold saidM; rw [if_neg (by simpa using t46b), if_pos (by simpa using t122b)]
      have hb_ : saidB c.v = (c.v.vip == 0) := by unfold saidB; rw [if_neg (by simpa using t46b), if_pos (by simpa using t122b)] <;> (first | rfl | (simp [t150b, t173, t173b, t173]; done) | (simp_all; done) | (rw [Bool.eq_iff_iff]; simp_all <;> omega))
      rw [hm_, hb_]
      exact ⟨rfl, hC177.fr⟩
     ·
      have t173 : c.v.up = true := by first | (simpa only [Bool.not_eq_true', Bool.not_eq_false'] using t173b) | simpa using t173b
      refine WDp (NPt (NPb (NPt hN))) 15 91 (undef) (by kernel_rfl) (fun _ => by kernel_rfl) hS149 ?_
      refine WDp (NPt (NPb (NPt hN))) 16 92 (undef) (by kernel_rfl) (fun _ => by kernel_rfl) hS149 ?_
      refine WDp (NPt (NPb (NPt hN))) 17 93 (undef) (by kernel_rfl) (fun _ => by kernel_rfl) hS149 ?_
      refine WDp (NPt (NPb (NPt hN))) 18 94 (.bool false) (by kernel_rfl) (fun _ => by kernel_rfl) hS149 ?_
      refine WDp (NPt (NPb (NPt hN))) 19 95 (.bool false) (by kernel_rfl) (fun _ => by kernel_rfl) hS149 ?_
      refine WDp (NPt (NPb (NPt hN))) 20 96 (.bool false) (by kernel_rfl) (fun _ => by kernel_rfl) hS149 ?_
      obtain ⟨w179, hr180, hF181, hC182⟩ := sto_run (c' := #[.int .i64 c.v.node, .int .i64 c.v.boot, .int .i64 c.v.seq, .int .i64 c.v.time, .int .i64 c.v.kind, .int .u32 0, .int .i64 0, .int .i64 0, .slice none 0 0, .int .u32 c.v.dip, .int .u32 c.v.vip, .bool c.v.up]) Tryd.prog hC148 1 56 g8 0 (.agg #[.int .i64 c.v.node, .int .i64 c.v.boot, .int .i64 c.v.seq, .int .i64 c.v.time, .int .i64 c.v.kind, .int .u32 0, .int .i64 0, .int .i64 0, .slice none 0 0, .int .u32 c.v.dip, .int .u32 c.v.vip, .bool c.v.up]) rfl (by kernel_rfl)
      have hS183 := hS149.trans hF181 (by first | (simp; done) | (simp [*]; done) | (have q_ := hS149.size; simp; omega))
      refine WD.semU 21 (Instr.storeAt 56 (.pointer (some ⟨g8, 0, none⟩)) (.agg #[.int .i64 c.v.node, .int .i64 c.v.boot, .int .i64 c.v.seq, .int .i64 c.v.time, .int .i64 c.v.kind, .int .u32 0, .int .i64 0, .int .i64 0, .slice none 0 0, .int .u32 c.v.dip, .int .u32 c.v.vip, .bool c.v.up])) (by kernel_rfl) (by kernel_rfl) hr180 hS183 ?_
      refine WDp (NPt (NPb (NPt hN))) 22 3 (.bool false) (by kernel_rfl) (fun _ => by kernel_rfl) hS183 ?_
      refine WD.done (by kernel_rfl) ?_
      refine QXn (hK145 _ _ ?_)
      refine WC.ret ?_
      refine QXk ?_
      refine QXr ?_
      refine (hret' _ _ (.tuple #[.agg #[.int .i64 c.v.node, .int .i64 c.v.boot, .int .i64 c.v.seq, .int .i64 c.v.time, .int .i64 c.v.kind, .int .u32 0, .int .i64 0, .int .i64 0, .slice none 0 0, .int .u32 c.v.dip, .int .u32 c.v.vip, .bool c.v.up], .bool false]) (fun a ha => ?_) ?_).1
      ·
       exact res_run ha ((ResR.cell rfl (run_ld (hC182.get 1 rfl) rfl) (ResR.tmp rfl ResR.nil))) rfl
      clear hN hret hret' hK145 hK124 hK121 hK45 hK43 hK41 hK30 hK25 hK14 hK2
      have hm_ : saidM c = (⟨⟨c.v.node, c.v.boot, c.v.seq, c.v.time, c.v.kind, 0, 0, 0, [], c.v.dip, c.v.vip, c.v.up⟩, none, 0⟩ : Cmd) := by unfold saidM; rw [if_neg (by simpa using t46b), if_pos (by simpa using t122b)]
      have hb_ : saidB c.v = false := by unfold saidB; rw [if_neg (by simpa using t46b), if_pos (by simpa using t122b)] <;> (first | rfl | (simp [t150b, t173, t173b, t173]; done) | (simp_all; done) | (rw [Bool.eq_iff_iff]; simp_all <;> omega))
      rw [hm_, hb_]
      exact ⟨rfl, hC182.fr⟩
   ·
    refine WDp (NPt (NPb (NPt hN))) 3 79 (undef) (by kernel_rfl) (fun _ => by kernel_rfl) hS149 ?_
    refine WDp (NPt (NPb (NPt hN))) 4 80 (undef) (by kernel_rfl) (fun _ => by kernel_rfl) hS149 ?_
    refine WDp (NPt (NPb (NPt hN))) 5 81 (undef) (by kernel_rfl) (fun _ => by kernel_rfl) hS149 ?_
    refine WDp (NPt (NPb (NPt hN))) 6 82 (undef) (by kernel_rfl) (fun _ => by kernel_rfl) hS149 ?_
    refine WDp (NPt (NPb (NPt hN))) 7 83 (undef) (by kernel_rfl) (fun _ => by kernel_rfl) hS149 ?_
    refine WDp (NPt (NPb (NPt hN))) 8 84 (undef) (by kernel_rfl) (fun _ => by kernel_rfl) hS149 ?_
    refine WDp (NPt (NPb (NPt hN))) 9 85 (undef) (by kernel_rfl) (fun _ => by kernel_rfl) hS149 ?_
    refine WDp (NPt (NPb (NPt hN))) 10 86 (undef) (by kernel_rfl) (fun _ => by kernel_rfl) hS149 ?_
    refine WDp (NPt (NPb (NPt hN))) 11 87 (undef) (by kernel_rfl) (fun _ => by kernel_rfl) hS149 ?_
    refine WDp (NPt (NPb (NPt hN))) 12 88 (undef) (by kernel_rfl) (fun _ => by kernel_rfl) hS149 ?_
    refine WDp (NPt (NPb (NPt hN))) 13 89 (undef) (by kernel_rfl) (fun _ => by kernel_rfl) hS149 ?_
    refine WDp (NPt (NPb (NPt hN))) 14 90 (undef) (by kernel_rfl) (fun _ => by kernel_rfl) hS149 ?_
    refine WDp (NPt (NPb (NPt hN))) 15 91 (undef) (by kernel_rfl) (fun _ => by kernel_rfl) hS149 ?_
    refine WDp (NPt (NPb (NPt hN))) 16 92 (undef) (by kernel_rfl) (fun _ => by kernel_rfl) hS149 ?_
    refine WDp (NPt (NPb (NPt hN))) 17 93 (undef) (by kernel_rfl) (fun _ => by kernel_rfl) hS149 ?_
    refine WDp (NPt (NPb (NPt hN))) 18 94 (undef) (by kernel_rfl) (fun _ => by kernel_rfl) hS149 ?_
    refine WDp (NPt (NPb (NPt hN))) 19 95 (undef) (by kernel_rfl) (fun _ => by kernel_rfl) hS149 ?_
    refine WDp (NPt (NPb (NPt hN))) 20 96 (.bool false) (by kernel_rfl) (fun _ => by kernel_rfl) hS149 ?_
    refine WD.sem 0 (Instr.loadAt 56 (.pointer (some ⟨g15, 0, none⟩))) 76 (.agg #[.int .i64 c.v.node, .int .i64 c.v.boot, .int .i64 c.v.seq, .int .i64 c.v.time, .int .i64 c.v.kind, .int .u32 0, .int .i64 0, .int .i64 0, .slice none 0 0, .int .u32 c.v.dip, .int .u32 c.v.vip, .bool c.v.up]) (by kernel_rfl) (by kernel_rfl) (run_ld (hC148.get 2 rfl) rfl) hS149 ?_
    obtain ⟨w184, hr185, hF186, hC187⟩ := sto_run (c' := #[.int .i64 c.v.node, .int .i64 c.v.boot, .int .i64 c.v.seq, .int .i64 c.v.time, .int .i64 c.v.kind, .int .u32 0, .int .i64 0, .int .i64 0, .slice none 0 0, .int .u32 c.v.dip, .int .u32 c.v.vip, .bool c.v.up]) Tryd.prog hC148 1 56 g8 0 (.agg #[.int .i64 c.v.node, .int .i64 c.v.boot, .int .i64 c.v.seq, .int .i64 c.v.time, .int .i64 c.v.kind, .int .u32 0, .int .i64 0, .int .i64 0, .slice none 0 0, .int .u32 c.v.dip, .int .u32 c.v.vip, .bool c.v.up]) rfl (by kernel_rfl)
    have hS188 := hS149.trans hF186 (by first | (simp; done) | (simp [*]; done) | (have q_ := hS149.size; simp; omega))
    refine WD.semU 21 (Instr.storeAt 56 (.pointer (some ⟨g8, 0, none⟩)) (.agg #[.int .i64 c.v.node, .int .i64 c.v.boot, .int .i64 c.v.seq, .int .i64 c.v.time, .int .i64 c.v.kind, .int .u32 0, .int .i64 0, .int .i64 0, .slice none 0 0, .int .u32 c.v.dip, .int .u32 c.v.vip, .bool c.v.up])) (by kernel_rfl) (by kernel_rfl) hr185 hS188 ?_
    refine WDp (NPt (NPb (NPt hN))) 22 3 (.bool false) (by kernel_rfl) (fun _ => by kernel_rfl) hS188 ?_
    refine WD.done (by kernel_rfl) ?_
    refine QXn (hK145 _ _ ?_)
    refine WC.ret ?_
    refine QXk ?_
    refine QXr ?_
    refine (hret' _ _ (.tuple #[.agg #[.int .i64 c.v.node, .int .i64 c.v.boot, .int .i64 c.v.seq, .int .i64 c.v.time, .int .i64 c.v.kind, .int .u32 0, .int .i64 0, .int .i64 0, .slice none 0 0, .int .u32 c.v.dip, .int .u32 c.v.vip, .bool c.v.up], .bool false]) (fun a ha => ?_) ?_).1
    ·
     exact res_run ha ((ResR.cell rfl (run_ld (hC187.get 1 rfl) rfl) (ResR.tmp rfl ResR.nil))) rfl
    clear hN hret hret' hK145 hK124 hK121 hK45 hK43 hK41 hK30 hK25 hK14 hK2
    have hm_ : saidM c = (⟨⟨c.v.node, c.v.boot, c.v.seq, c.v.time, c.v.kind, 0, 0, 0, [], c.v.dip, c.v.vip, c.v.up⟩, none, 0⟩ : Cmd) := by unfold saidM; rw [if_neg (by simpa using t46b), if_pos (by simpa using t122b)]
    have hb_ : saidB c.v = false := by unfold saidB; rw [if_neg (by simpa using t46b), if_pos (by simpa using t122b)] <;> (first | rfl | (simp [t150b]; done) | (simp_all; done) | (rw [Bool.eq_iff_iff]; simp_all <;> omega))
    rw [hm_, hb_]
    exact ⟨rfl, hC187.fr⟩
  ·
   have t122 : ¬ (c.v.kind = 2) := by simpa using t122b
   refine WCf rfl ?_
   refine WCs (fun K189 hK190 => ?_)
   refine WCg (WLr 2 [(97, .bool (c.v.kind == 3)), (98, .bool (c.v.kind == 3))] (fun _ => by kernel_rfl) (WLd rfl (QXn (hK190 _ _ ?_))))
   refine WCa 97 (c.v.kind == 3) rfl (fun t191b => ?_) (fun t191b => ?_)
   ·
    have t191 : c.v.kind = 3 := by simpa using t191b
    refine WCt rfl ?_
    refine WCs (fun K192 hK193 => ?_)
    refine WC.drawC hC39 [g15] (by kernel_rfl) (fun w194 hF195 hC196 hS197 => ?_)
    refine WDp (NPt (NPb (NPt hN))) 0 99 (.pointer (some ⟨g3, 9, none⟩)) (by kernel_rfl) (fun _ => by kernel_rfl) hS197 ?_
    refine WDp (NPt (NPb (NPt hN))) 2 101 (.pointer (some ⟨g3, 11, none⟩)) (by kernel_rfl) (fun _ => by kernel_rfl) hS197 ?_
    refine WDl (NPt (NPb (NPt hN))) 1 41 (.pointer (some ⟨g3, 9, none⟩)) (.int .u32 c.v.dip) 100 (by kernel_rfl) (by kernel_rfl) (fun _ hS_ => run_ld (Fr.has hS_ (hC196.get 0 rfl) (by simpa using hC196.ne 0 2 rfl rfl (by decide))) rfl) hS197 ?_
    refine WDp (NPt (NPb (NPt hN))) 4 103 (.pointer (some ⟨g15, 9, none⟩)) (by kernel_rfl) (fun _ => by kernel_rfl) hS197 ?_
    refine WDl (NPt (NPb (NPt hN))) 3 4 (.pointer (some ⟨g3, 11, none⟩)) (.bool c.v.up) 102 (by kernel_rfl) (by kernel_rfl) (fun _ hS_ => run_ld (Fr.has hS_ (hC196.get 0 rfl) (by simpa using hC196.ne 0 2 rfl rfl (by decide))) rfl) hS197 ?_
    obtain ⟨w198, hr199, hF200, hC201⟩ := sto_run (c' := #[.int .i64 c.v.node, .int .i64 c.v.boot, .int .i64 c.v.seq, .int .i64 c.v.time, .int .i64 c.v.kind, .int .u32 0, .int .i64 0, .int .i64 0, .slice none 0 0, .int .u32 c.v.dip, .int .u32 0, .bool false]) Tryd.prog hC196 2 41 g15 9 (.int .u32 c.v.dip) rfl (by kernel_rfl)
    have hS202 := hS197.trans hF200 (by first | (simp; done) | (simp [*]; done) | (have q_ := hS197.size; simp; omega))
    refine WD.semU 5 (Instr.storeAt 41 (.pointer (some ⟨g15, 9, none⟩)) (.int .u32 c.v.dip)) (by kernel_rfl) (by kernel_rfl) hr199 hS202 ?_
    refine WDp (NPt (NPb (NPt hN))) 6 104 (.pointer (some ⟨g15, 11, none⟩)) (by kernel_rfl) (fun _ => by kernel_rfl) hS202 ?_
    obtain ⟨w203, hr204, hF205, hC206⟩ := sto_run (c' := #[.int .i64 c.v.node, .int .i64 c.v.boot, .int .i64 c.v.seq, .int .i64 c.v.time, .int .i64 c.v.kind, .int .u32 0, .int .i64 0, .int .i64 0, .slice none 0 0, .int .u32 c.v.dip, .int .u32 0, .bool c.v.up]) Tryd.prog hC201 2 4 g15 11 (.bool c.v.up) rfl (by kernel_rfl)
    have hS207 := hS202.trans hF205 (by first | (simp; done) | (simp [*]; done) | (have q_ := hS202.size; simp; omega))
    refine WD.semU 7 (Instr.storeAt 4 (.pointer (some ⟨g15, 11, none⟩)) (.bool c.v.up)) (by kernel_rfl) (by kernel_rfl) hr204 hS207 ?_
    refine WD.done (by kernel_rfl) ?_
    refine QXn (hK193 _ _ ?_)
    refine WCs (fun K208 hK209 => ?_)
    refine WCg ?_
    refine WL.load 56 (.pointer (some ⟨g15, 0, none⟩)) (.agg #[.int .i64 c.v.node, .int .i64 c.v.boot, .int .i64 c.v.seq, .int .i64 c.v.time, .int .i64 c.v.kind, .int .u32 0, .int .i64 0, .int .i64 0, .slice none 0 0, .int .u32 c.v.dip, .int .u32 0, .bool c.v.up]) 105 (by kernel_rfl) (run_ld (hC206.get 2 rfl) rfl) ?_
    refine WLr 1 [(106, .bool (isHome c.v.dip))] (fun _ => by kernel_rfl) ?_
    refine WLs (c' := #[.int .i64 c.v.node, .int .i64 c.v.boot, .int .i64 c.v.seq, .int .i64 c.v.time, .int .i64 c.v.kind, .int .u32 0, .int .i64 0, .int .i64 0, .slice none 0 0, .int .u32 c.v.dip, .int .u32 0, .bool c.v.up]) hC206 1 56 g8 0 (.agg #[.int .i64 c.v.node, .int .i64 c.v.boot, .int .i64 c.v.seq, .int .i64 c.v.time, .int .i64 c.v.kind, .int .u32 0, .int .i64 0, .int .i64 0, .slice none 0 0, .int .u32 c.v.dip, .int .u32 0, .bool c.v.up]) (by kernel_rfl) rfl (by kernel_rfl) (fun w210 hF212 hC213 => ?_)
    refine WLr 1 [(3, .bool (isHome c.v.dip))] (fun _ => by kernel_rfl) (WLd rfl (QXn (hK209 _ _ ?_)))
    refine WC.ret ?_
    refine QXk ?_
    refine QXr ?_
    refine (hret' _ _ (.tuple #[.agg #[.int .i64 c.v.node, .int .i64 c.v.boot, .int .i64 c.v.seq, .int .i64 c.v.time, .int .i64 c.v.kind, .int .u32 0, .int .i64 0, .int .i64 0, .slice none 0 0, .int .u32 c.v.dip, .int .u32 0, .bool c.v.up], .bool (isHome c.v.dip)]) (fun a ha => ?_) ?_).1
    ·
     exact res_run ha ((ResR.cell rfl (run_ld (hC213.get 1 rfl) rfl) (ResR.tmp rfl ResR.nil))) rfl
    clear hN hret hret' hK209 hK193 hK190 hK121 hK45 hK43 hK41 hK30 hK25 hK14 hK2
    have hm_ : saidM c = (⟨⟨c.v.node, c.v.boot, c.v.seq, c.v.time, c.v.kind, 0, 0, 0, [], c.v.dip, 0, c.v.up⟩, none, 0⟩ : Cmd) := by unfold saidM; rw [if_neg (by simpa using t46b), if_neg (by simpa using t122b), if_pos (by simpa using t191b)]
    have hb_ : saidB c.v = (isHome c.v.dip) := by unfold saidB; rw [if_neg (by simpa using t46b), if_neg (by simpa using t122b), if_pos (by simpa using t191b)] <;> (first | rfl | (simp []; done) | (simp_all; done) | (rw [Bool.eq_iff_iff]; simp_all <;> omega))
    rw [hm_, hb_]
    exact ⟨rfl, hC213.fr⟩
   ·
    have t191 : ¬ (c.v.kind = 3) := by simpa using t191b
    refine WCf rfl ?_
    refine WCs (fun K214 hK215 => ?_)
    refine WCg (WLr 2 [(107, .bool (c.v.kind == 4)), (108, .bool (c.v.kind == 4))] (fun _ => by kernel_rfl) (WLd rfl (QXn (hK215 _ _ ?_))))
    refine WCa 107 (c.v.kind == 4) rfl (fun t216b => ?_) (fun t216b => ?_)
    ·
     have t216 : c.v.kind = 4 := by simpa using t216b
     refine WCt rfl ?_
     refine WCs (fun K217 hK218 => ?_)
     refine WCg (WLr 1 [(109, .pointer (some ⟨g3, 9, none⟩))] (fun _ => by kernel_rfl) ?_)
     refine WL.load 41 (.pointer (some ⟨g3, 9, none⟩)) (.int .u32 c.v.dip) 110 (by kernel_rfl) (run_ld (hC39.get 0 rfl) rfl) ?_
     refine WLr 1 [(111, .pointer (some ⟨g15, 9, none⟩))] (fun _ => by kernel_rfl) ?_
     refine WLs (c' := #[.int .i64 c.v.node, .int .i64 c.v.boot, .int .i64 c.v.seq, .int .i64 c.v.time, .int .i64 c.v.kind, .int .u32 0, .int .i64 0, .int .i64 0, .slice none 0 0, .int .u32 c.v.dip, .int .u32 0, .bool false]) hC39 2 41 g15 9 (.int .u32 c.v.dip) (by kernel_rfl) rfl (by kernel_rfl) (fun w219 hF221 hC222 => ?_)
     refine WLd rfl (QXn (hK218 _ _ ?_))
     refine WCs (fun K223 hK224 => ?_)
     refine WCg ?_
     refine WL.load 56 (.pointer (some ⟨g15, 0, none⟩)) (.agg #[.int .i64 c.v.node, .int .i64 c.v.boot, .int .i64 c.v.seq, .int .i64 c.v.time, .int .i64 c.v.kind, .int .u32 0, .int .i64 0, .int .i64 0, .slice none 0 0, .int .u32 c.v.dip, .int .u32 0, .bool false]) 112 (by kernel_rfl) (run_ld (hC222.get 2 rfl) rfl) ?_
     refine WLr 1 [(113, .bool (isHome c.v.dip))] (fun _ => by kernel_rfl) ?_
     refine WLs (c' := #[.int .i64 c.v.node, .int .i64 c.v.boot, .int .i64 c.v.seq, .int .i64 c.v.time, .int .i64 c.v.kind, .int .u32 0, .int .i64 0, .int .i64 0, .slice none 0 0, .int .u32 c.v.dip, .int .u32 0, .bool false]) hC222 1 56 g8 0 (.agg #[.int .i64 c.v.node, .int .i64 c.v.boot, .int .i64 c.v.seq, .int .i64 c.v.time, .int .i64 c.v.kind, .int .u32 0, .int .i64 0, .int .i64 0, .slice none 0 0, .int .u32 c.v.dip, .int .u32 0, .bool false]) (by kernel_rfl) rfl (by kernel_rfl) (fun w225 hF227 hC228 => ?_)
     refine WLr 1 [(3, .bool (isHome c.v.dip))] (fun _ => by kernel_rfl) (WLd rfl (QXn (hK224 _ _ ?_)))
     refine WC.ret ?_
     refine QXk ?_
     refine QXr ?_
     refine (hret' _ _ (.tuple #[.agg #[.int .i64 c.v.node, .int .i64 c.v.boot, .int .i64 c.v.seq, .int .i64 c.v.time, .int .i64 c.v.kind, .int .u32 0, .int .i64 0, .int .i64 0, .slice none 0 0, .int .u32 c.v.dip, .int .u32 0, .bool false], .bool (isHome c.v.dip)]) (fun a ha => ?_) ?_).1
     ·
      exact res_run ha ((ResR.cell rfl (run_ld (hC228.get 1 rfl) rfl) (ResR.tmp rfl ResR.nil))) rfl
     clear hN hret hret' hK224 hK218 hK215 hK190 hK121 hK45 hK43 hK41 hK30 hK25 hK14 hK2
     have hm_ : saidM c = (⟨⟨c.v.node, c.v.boot, c.v.seq, c.v.time, c.v.kind, 0, 0, 0, [], c.v.dip, 0, false⟩, none, 0⟩ : Cmd) := by unfold saidM; rw [if_neg (by simpa using t46b), if_neg (by simpa using t122b), if_neg (by simpa using t191b), if_pos (by simpa using t216b)]
     have hb_ : saidB c.v = (isHome c.v.dip) := by unfold saidB; rw [if_neg (by simpa using t46b), if_neg (by simpa using t122b), if_neg (by simpa using t191b), if_pos (by simpa using t216b)] <;> (first | rfl | (simp []; done) | (simp_all; done) | (rw [Bool.eq_iff_iff]; simp_all <;> omega))
     rw [hm_, hb_]
     exact ⟨rfl, hC228.fr⟩
    ·
     have t216 : ¬ (c.v.kind = 4) := by simpa using t216b
     refine WCf rfl (WC.skip ?_)
     refine QXb ?_
     refine QXn (hK41 _ _ ?_)
     refine WCs (fun K229 hK230 => ?_)
     refine WCg ?_
     refine WL.load 56 (.pointer (some ⟨g15, 0, none⟩)) (.agg #[.int .i64 c.v.node, .int .i64 c.v.boot, .int .i64 c.v.seq, .int .i64 c.v.time, .int .i64 c.v.kind, .int .u32 0, .int .i64 0, .int .i64 0, .slice none 0 0, .int .u32 0, .int .u32 0, .bool false]) 114 (by kernel_rfl) (run_ld (hC39.get 2 rfl) rfl) ?_
     refine WLs (c' := #[.int .i64 c.v.node, .int .i64 c.v.boot, .int .i64 c.v.seq, .int .i64 c.v.time, .int .i64 c.v.kind, .int .u32 0, .int .i64 0, .int .i64 0, .slice none 0 0, .int .u32 0, .int .u32 0, .bool false]) hC39 1 56 g8 0 (.agg #[.int .i64 c.v.node, .int .i64 c.v.boot, .int .i64 c.v.seq, .int .i64 c.v.time, .int .i64 c.v.kind, .int .u32 0, .int .i64 0, .int .i64 0, .slice none 0 0, .int .u32 0, .int .u32 0, .bool false]) (by kernel_rfl) rfl (by kernel_rfl) (fun w231 hF233 hC234 => ?_)
     refine WLr 1 [(3, .bool false)] (fun _ => by kernel_rfl) (WLd rfl (QXn (hK230 _ _ ?_)))
     refine WC.ret ?_
     refine (hret' _ _ (.tuple #[.agg #[.int .i64 c.v.node, .int .i64 c.v.boot, .int .i64 c.v.seq, .int .i64 c.v.time, .int .i64 c.v.kind, .int .u32 0, .int .i64 0, .int .i64 0, .slice none 0 0, .int .u32 0, .int .u32 0, .bool false], .bool false]) (fun a ha => ?_) ?_).1
     ·
      exact res_run ha ((ResR.cell rfl (run_ld (hC234.get 1 rfl) rfl) (ResR.tmp rfl ResR.nil))) rfl
     clear hN hret hret' hK230 hK215 hK190 hK121 hK45 hK43 hK41 hK30 hK25 hK14 hK2
     have hm_ : saidM c = (⟨⟨c.v.node, c.v.boot, c.v.seq, c.v.time, c.v.kind, 0, 0, 0, [], 0, 0, false⟩, none, 0⟩ : Cmd) := by unfold saidM; rw [if_neg (by simpa using t46b), if_neg (by simpa using t122b), if_neg (by simpa using t191b), if_neg (by simpa using t216b)]
     have hb_ : saidB c.v = false := by unfold saidB; rw [if_neg (by simpa using t46b), if_neg (by simpa using t122b), if_neg (by simpa using t191b), if_neg (by simpa using t216b)]
     rw [hm_, hb_]
     exact ⟨rfl, hC234.fr⟩

theorem saidM_at {w : World} {m : Cmd} (h : cmdAt w m) : cmdAt w (saidM m) := by
  unfold saidM
  have z : isU32 0 := ⟨by decide, by decide⟩
  have z2 : isI64 0 := ⟨by decide, by decide⟩
  have hw := h.wf
  split
  · exact ⟨h.rd, ⟨hw.node, hw.boot, hw.seq, hw.time, hw.kind, hw.svip, hw.sproto, hw.sport, z, z, hw.ends⟩, h.lim, h.cap⟩
  · split
    · exact ⟨Rd.nil _ _ _ _, ⟨hw.node, hw.boot, hw.seq, hw.time, hw.kind, z, z2, z2, hw.dip, hw.vip, fun _ h_ => (nomatch h_)⟩, Nat.zero_le _, Nat.zero_le _⟩
    · split
      · exact ⟨Rd.nil _ _ _ _, ⟨hw.node, hw.boot, hw.seq, hw.time, hw.kind, z, z2, z2, hw.dip, z, fun _ h_ => (nomatch h_)⟩, Nat.zero_le _, Nat.zero_le _⟩
      · split
        · exact ⟨Rd.nil _ _ _ _, ⟨hw.node, hw.boot, hw.seq, hw.time, hw.kind, z, z2, z2, hw.dip, z, fun _ h_ => (nomatch h_)⟩, Nat.zero_le _, Nat.zero_le _⟩
        · exact ⟨Rd.nil _ _ _ _, ⟨hw.node, hw.boot, hw.seq, hw.time, hw.kind, z, z2, z2, z, z, fun _ h_ => (nomatch h_)⟩, Nat.zero_le _, Nat.zero_le _⟩
theorem cmdAt.fr0 {w w' : World} {m : Cmd} (h : cmdAt w m) (hf : Fr w w' []) : cmdAt w' m := ⟨Rd.fr h.rd hf, h.wf, h.lim, h.cap⟩
set_option maxHeartbeats 1000000 in
theorem Check_ct (c : Cmd) (w : World) (h : cmdAt w c) : Calls Tryd.prog 44 #[.agg #[.int .i64 c.v.node, .int .i64 c.v.boot, .int .i64 c.v.seq, .int .i64 c.v.time, .int .i64 c.v.kind, .int .u32 c.v.svip, .int .i64 c.v.sproto, .int .i64 c.v.sport, .slice c.a c.v.ends.length c.c, .int .u32 c.v.dip, .int .u32 c.v.vip, .bool c.v.up]] w fun e w' => e = .returned (errV 73 (if goodC c.v then 0 else 9)) ∧ Fr w w' [] := by
 refine enterD (n := 45) Tryd.func44 rfl rfl (Nat.le_of_ble_eq_true rfl) ?_
 intro Q0 hN hret hret'
 have hC := Cx.start w
 refine WCs (fun K1 hK2 => ?_)
 refine WCg ?_
 refine WL.newM hC (fun b => .pointer (some ⟨b, 0, none⟩)) (.cells #[.int .i64 c.v.node, .int .i64 c.v.boot, .int .i64 c.v.seq, .int .i64 c.v.time, .int .i64 c.v.kind, .int .u32 c.v.svip, .int .i64 c.v.sproto, .int .i64 c.v.sport, .slice c.a c.v.ends.length c.c, .int .u32 c.v.dip, .int .u32 c.v.vip, .bool c.v.up] 56) 1 (fun _ => by kernel_rfl) (fun g3 w4 hb7 hF5 hC6 => ?_)
 refine WLr 1 [(2, .nilIface)] (fun _ => by kernel_rfl) (WLd rfl (QXn (hK2 _ _ ?_)))
 refine WCs (fun K8 hK9 => ?_)
 refine WCs (fun K10 hK11 => ?_)
 refine WCg (WLr 1 [(7, .pointer (some ⟨g3, 1, none⟩))] (fun _ => by kernel_rfl) ?_)
 refine WL.load 3 (.pointer (some ⟨g3, 1, none⟩)) (.int .i64 c.v.boot) 8 (by kernel_rfl) (run_ld (hC6.get 0 rfl) rfl) ?_
 refine WLr 1 [(9, .pointer (some ⟨g3, 2, none⟩))] (fun _ => by kernel_rfl) ?_
 refine WL.load 3 (.pointer (some ⟨g3, 2, none⟩)) (.int .i64 c.v.seq) 10 (by kernel_rfl) (run_ld (hC6.get 0 rfl) rfl) ?_
 refine WLr 1 [(11, .pointer (some ⟨g3, 3, none⟩))] (fun _ => by kernel_rfl) ?_
 refine WL.load 3 (.pointer (some ⟨g3, 3, none⟩)) (.int .i64 c.v.time) 12 (by kernel_rfl) (run_ld (hC6.get 0 rfl) rfl) ?_
 refine WLr 2 [(14, .int .i64 0), (13, .agg #[.int .i64 c.v.boot, .int .i64 c.v.seq, .int .i64 c.v.time])] (fun _ => by kernel_rfl) (WLd rfl (QXn (hK11 _ _ ?_)))
 refine WC.block ?_
 refine WC.loop (fun m_ E_ w_ => ∃ (k : Nat), m_ = 3 - k ∧ E_ = [(0, .agg #[.int .i64 c.v.node, .int .i64 c.v.boot, .int .i64 c.v.seq, .int .i64 c.v.time, .int .i64 c.v.kind, .int .u32 c.v.svip, .int .i64 c.v.sproto, .int .i64 c.v.sport, .slice c.a c.v.ends.length c.c, .int .u32 c.v.dip, .int .u32 c.v.vip, .bool c.v.up]), (1, .pointer (some ⟨g3, 0, none⟩)), (7, .pointer (some ⟨g3, 1, none⟩)), (8, .int .i64 c.v.boot), (9, .pointer (some ⟨g3, 2, none⟩)), (10, .int .i64 c.v.seq), (11, .pointer (some ⟨g3, 3, none⟩)), (12, .int .i64 c.v.time), (13, .agg ([c.v.boot, c.v.seq, c.v.time].flatMap (Go.Tw.encI .i64)).toArray), (14, .int .i64 (k : Int))] ∧ Cx w [] w_ [(g3, .cells #[.int .i64 c.v.node, .int .i64 c.v.boot, .int .i64 c.v.seq, .int .i64 c.v.time, .int .i64 c.v.kind, .int .u32 c.v.svip, .int .i64 c.v.sproto, .int .i64 c.v.sport, .slice c.a c.v.ends.length c.c, .int .u32 c.v.dip, .int .u32 c.v.vip, .bool c.v.up] 56)] [] ∧ (k ≤ 3 ∧ (1 ≤ k → timB c.v.boot = true) ∧ (2 ≤ k → timB c.v.seq = true) ∧ (3 ≤ k → timB c.v.time = true))) ⟨_, _, ⟨0, rfl, rfl, hC6, by omega, by omega, by omega, by omega⟩, sub_of ⟨rfl, rfl, rfl, rfl, rfl, rfl, rfl, rfl, rfl, rfl, trivial⟩⟩ (fun m15 E_ w16 K12 hK13 hI14 => ?_)
 obtain ⟨k, rfl, rfl, hC17, hk, hk1, hk2, hk3⟩ := hI14
 have hl3_ : ([c.v.boot, c.v.seq, c.v.time]).length = 3 := rfl
 refine WCs (fun K18 hK19 => ?_)
 refine WCg (WLr 1 [(15, .bool (decide ((k : Int) < 3)))] (fun _ => by kernel_rfl) (WLd rfl (QXn (hK19 _ _ ?_))))
 refine WCs (fun K20 hK21 => ?_)
 refine WCa 15 (decide ((k : Int) < 3)) rfl (fun t22b => ?_) (fun t22b => ?_)
 ·
  have t22 : (k : Int) < 3 := by have q_ := of_decide_eq_true t22b; omega
  refine WCt rfl ?_
  refine WC.skip ?_
  refine QXn (hK21 _ _ ?_)
  refine WCs (fun K23 hK24 => ?_)
  refine WC.block ?_
  refine WCs (fun K25 hK26 => ?_)
  refine WCg ?_
  obtain ⟨e27, he28⟩ := get_some (xs := [c.v.boot, c.v.seq, c.v.time]) (i := k) (by omega)
  refine WL.indexA (enc := (Go.Tw.encI .i64)) [c.v.boot, c.v.seq, c.v.time] 99 3 3 k .i64 (k : Int) e27 (.int .i64 e27) 16 (by kernel_rfl) (by kernel_rfl) (Go.Tw.encI_len _) (by kernel_rfl) (by omega) (by omega) he28 rfl ?_
  have hke_ := times_el he28
  refine WLr 1 [(4, .int .i64 e27)] (fun _ => by kernel_rfl) (WLd rfl (QXn (hK26 _ _ ?_)))
  refine WCs (fun K29 hK30 => ?_)
  refine WCg (WLr 3 [(19, .bool (decide (e27 < 0))), (18, .bool (decide (e27 < 0))), (17, .int .i64 e27)] (fun _ => by kernel_rfl) ?_)
  refine WLa 19 (decide (e27 < 0)) rfl (fun t31b => ?_) (fun t31b => ?_)
  ·
   have t31 : e27 < 0 := by have q_ := of_decide_eq_true t31b; omega
   refine WLr 3 [(22, .bool true), (21, undef), (20, undef)] (fun _ => by kernel_rfl) (WLd rfl (QXn (hK30 _ _ ?_)))
   refine WCt rfl ?_
   refine WCs (fun K32 hK33 => ?_)
   refine WCg (WLr 2 [(2, .iface 73 (.int .i64 9)), (23, .iface 73 (.int .i64 9))] (fun _ => by kernel_rfl) (WLd rfl (QXn (hK33 _ _ ?_))))
   refine WC.ret ?_
   refine QXk ?_
   refine QXr ?_
   refine QXr ?_
   refine QXk ?_
   refine QXr ?_
   refine (hret _ _ _ rfl ?_).1
   clear hN hret hret' hK33 hK30 hK26 hK24 hK21 hK19 hK11 hK9 hK2
   have hg_ : goodC c.v = false := goodC_tim (by rcases hke_ with ⟨rfl, e_⟩ | ⟨rfl, e_⟩ | ⟨rfl, e_⟩ <;> rw [← e_]; exact .inl (timB_no (by omega)); exact .inr (.inl (timB_no (by omega))); exact .inr (.inr (timB_no (by omega))))
   rw [hg_]
   exact ⟨rfl, hC17.fr⟩
  ·
   have t31 : (0 : Int) ≤ e27 := by have q_ := of_decide_eq_false t31b; omega
   refine WLr 3 [(22, .bool (decide (e27 > 1099511627776))), (21, .bool (decide (e27 > 1099511627776))), (20, .int .i64 e27)] (fun _ => by kernel_rfl) (WLd rfl (QXn (hK30 _ _ ?_)))
   refine WCa 22 (decide (e27 > 1099511627776)) rfl (fun t34b => ?_) (fun t34b => ?_)
   ·
    have t34 : (1099511627776 : Int) < e27 := by have q_ := of_decide_eq_true t34b; omega
    refine WCt rfl ?_
    refine WCs (fun K35 hK36 => ?_)
    refine WCg (WLr 2 [(2, .iface 73 (.int .i64 9)), (23, .iface 73 (.int .i64 9))] (fun _ => by kernel_rfl) (WLd rfl (QXn (hK36 _ _ ?_))))
    refine WC.ret ?_
    refine QXk ?_
    refine QXr ?_
    refine QXr ?_
    refine QXk ?_
    refine QXr ?_
    refine (hret _ _ _ rfl ?_).1
    clear hN hret hret' hK36 hK30 hK26 hK24 hK21 hK19 hK11 hK9 hK2
    have hg_ : goodC c.v = false := goodC_tim (by rcases hke_ with ⟨rfl, e_⟩ | ⟨rfl, e_⟩ | ⟨rfl, e_⟩ <;> rw [← e_]; exact .inl (timB_no (by omega)); exact .inr (.inl (timB_no (by omega))); exact .inr (.inr (timB_no (by omega))))
    rw [hg_]
    exact ⟨rfl, hC17.fr⟩
   ·
    have t34 : e27 ≤ 1099511627776 := by have q_ := of_decide_eq_false t34b; omega
    refine WCf rfl (WC.skip ?_)
    refine QXb ?_
    refine QXn (hK24 _ _ ?_)
    refine WCg (WLr 1 [(24, .int .i64 (IntKind.i64.wrap ((k : Int) + 1)))] (fun _ => by kernel_rfl) ?_)
    refine WLt (show (.int .i64 (IntKind.i64.wrap ((k : Int) + 1)) : Value) = .int .i64 ((k : Int) + 1) from by rw [wrap_in_i64 ((k : Int) + 1) (by omega) (by omega)]) ?_
    refine WLr 1 [(14, .int .i64 ((k : Int) + 1))] (fun _ => by kernel_rfl) ?_
    refine WLd rfl ?_
    refine QXn ?_
    have hC37 := hC17.pick [0] [] rfl rfl
    refine fun a_ ha_ => hK13 _ _ _ ?_ ⟨k + 1, rfl, rfl, hC37, by omega, by rcases hke_ with ⟨rfl, e_⟩ | ⟨rfl, e_⟩ | ⟨rfl, e_⟩ <;> intro h_ <;> first | omega | (rw [← e_]; exact timB_yes (by omega) (by omega)) | (exact hk1 (by omega)), by rcases hke_ with ⟨rfl, e_⟩ | ⟨rfl, e_⟩ | ⟨rfl, e_⟩ <;> intro h_ <;> first | omega | (rw [← e_]; exact timB_yes (by omega) (by omega)) | (exact hk2 (by omega)), by rcases hke_ with ⟨rfl, e_⟩ | ⟨rfl, e_⟩ | ⟨rfl, e_⟩ <;> intro h_ <;> first | omega | (rw [← e_]; exact timB_yes (by omega) (by omega)) | (exact hk3 (by omega))⟩ a_ (ha_.weaken (sub_of ⟨rfl, rfl, rfl, rfl, rfl, rfl, rfl, rfl, rfl, rfl, trivial⟩))
    omega
 ·
  have t22 : (3 : Int) ≤ (k : Int) := by have q_ := of_decide_eq_false t22b; omega
  refine WCf rfl ?_
  refine WC.exit ?_
  refine QXe ?_
  refine QXe ?_
  refine QX.block_hit ?_
  refine QXn (hK9 _ _ ?_)
  refine WCs (fun K38 hK39 => ?_)
  refine WCg ?_
  refine WL.load 56 (.pointer (some ⟨g3, 0, none⟩)) (.agg #[.int .i64 c.v.node, .int .i64 c.v.boot, .int .i64 c.v.seq, .int .i64 c.v.time, .int .i64 c.v.kind, .int .u32 c.v.svip, .int .i64 c.v.sproto, .int .i64 c.v.sport, .slice c.a c.v.ends.length c.c, .int .u32 c.v.dip, .int .u32 c.v.vip, .bool c.v.up]) 26 (by kernel_rfl) (run_ld (hC17.get 0 rfl) rfl) ?_
  refine WLc rfl rfl rfl rfl rfl (by kernel_rfl) (said_ct c w16 (cmdAt.fr0 h hC17.fr)) ?_
  rintro _ w41 ⟨rfl, hF40⟩
  refine ⟨_, rfl, ?_⟩
  have hC42 := hC17.call hF40
  refine WLr 3 [(29, .bool (saidB c.v)), (28, .agg #[.int .i64 (((saidM c).v).node), .int .i64 (((saidM c).v).boot), .int .i64 (((saidM c).v).seq), .int .i64 (((saidM c).v).time), .int .i64 (((saidM c).v).kind), .int .u32 (((saidM c).v).svip), .int .i64 (((saidM c).v).sproto), .int .i64 (((saidM c).v).sport), .slice ((saidM c).a) ((saidM c).v.ends.length) ((saidM c).c), .int .u32 (((saidM c).v).dip), .int .u32 (((saidM c).v).vip), .bool (((saidM c).v).up)]), (25, .tuple #[.agg #[.int .i64 (((saidM c).v).node), .int .i64 (((saidM c).v).boot), .int .i64 (((saidM c).v).seq), .int .i64 (((saidM c).v).time), .int .i64 (((saidM c).v).kind), .int .u32 (((saidM c).v).svip), .int .i64 (((saidM c).v).sproto), .int .i64 (((saidM c).v).sport), .slice ((saidM c).a) ((saidM c).v.ends.length) ((saidM c).c), .int .u32 (((saidM c).v).dip), .int .u32 (((saidM c).v).vip), .bool (((saidM c).v).up)], .bool (saidB c.v)])] (fun _ => by kernel_rfl) ?_
  refine WL.newM hC42 (fun b => .pointer (some ⟨b, 0, none⟩)) (.cells #[.int .i64 0, .int .i64 0, .int .i64 0, .int .i64 0, .int .i64 0, .int .u32 0, .int .i64 0, .int .i64 0, .slice none 0 0, .int .u32 0, .int .u32 0, .bool false] 56) 5 (fun _ => by kernel_rfl) (fun g43 w44 hb47 hF45 hC46 => ?_)
  refine WLs (c' := #[.int .i64 (((saidM c).v).node), .int .i64 (((saidM c).v).boot), .int .i64 (((saidM c).v).seq), .int .i64 (((saidM c).v).time), .int .i64 (((saidM c).v).kind), .int .u32 (((saidM c).v).svip), .int .i64 (((saidM c).v).sproto), .int .i64 (((saidM c).v).sport), .slice ((saidM c).a) ((saidM c).v.ends.length) ((saidM c).c), .int .u32 (((saidM c).v).dip), .int .u32 (((saidM c).v).vip), .bool (((saidM c).v).up)]) hC46 1 56 g43 0 (.agg #[.int .i64 (((saidM c).v).node), .int .i64 (((saidM c).v).boot), .int .i64 (((saidM c).v).seq), .int .i64 (((saidM c).v).time), .int .i64 (((saidM c).v).kind), .int .u32 (((saidM c).v).svip), .int .i64 (((saidM c).v).sproto), .int .i64 (((saidM c).v).sport), .slice ((saidM c).a) ((saidM c).v.ends.length) ((saidM c).c), .int .u32 (((saidM c).v).dip), .int .u32 (((saidM c).v).vip), .bool (((saidM c).v).up)]) (by kernel_rfl) rfl (by kernel_rfl) (fun w48 hF50 hC51 => ?_)
  refine WLr 1 [(6, .bool (saidB c.v))] (fun _ => by kernel_rfl) (WLd rfl (QXn (hK39 _ _ ?_)))
  refine WCs (fun K52 hK53 => ?_)
  refine WCs (fun K54 hK55 => ?_)
  refine WCg (WLr 3 [(32, .bool (!(saidB c.v))), (31, .bool (!(saidB c.v))), (30, .bool (saidB c.v))] (fun _ => by kernel_rfl) ?_)
  refine WLa 32 (!(saidB c.v)) rfl (fun t56b => ?_) (fun t56b => ?_)
  ·
   have t56 : (saidB c.v) = false := by first | (simpa only [Bool.not_eq_true', Bool.not_eq_false'] using t56b) | simpa using t56b
   refine WLr 11 [(43, .bool true), (42, undef), (41, undef), (40, undef), (39, undef), (38, .bool true), (37, .bool true), (36, undef), (35, undef), (34, undef), (33, undef)] (fun _ => by kernel_rfl) (WLd rfl (QXn (hK55 _ _ ?_)))
   refine WCt rfl ?_
   refine WCs (fun K57 hK58 => ?_)
   refine WCg (WLr 2 [(2, .iface 73 (.int .i64 9)), (44, .iface 73 (.int .i64 9))] (fun _ => by kernel_rfl) (WLd rfl (QXn (hK58 _ _ ?_))))
   refine WC.ret ?_
   refine QXr ?_
   refine (hret _ _ _ rfl ?_).1
   clear hN hret hret' hK58 hK55 hK53 hK39 hK21 hK19 hK11 hK9 hK2
   have hg_ : goodC c.v = false := by rw [chk_eq c (hk1 (by omega)) (hk2 (by omega)) (hk3 (by omega)), t56]; try simp
   rw [hg_]
   exact ⟨rfl, hC51.fr⟩
  ·
   have t56 : (saidB c.v) = true := by first | (simpa only [Bool.not_eq_true', Bool.not_eq_false'] using t56b) | simpa using t56b
   refine WLr 1 [(33, .pointer (some ⟨g3, 0, none⟩))] (fun _ => by kernel_rfl) ?_
   refine WL.load 3 (.pointer (some ⟨g3, 0, none⟩)) (.int .i64 c.v.node) 34 (by kernel_rfl) (run_ld (hC51.get 0 rfl) rfl) ?_
   refine WLc rfl rfl rfl rfl rfl (by kernel_rfl) (manager_ct c.v.node w48 h.wf.node) ?_
   rintro _ w60 ⟨rfl, hF59⟩
   refine ⟨_, rfl, ?_⟩
   have hC61 := hC51.call hF59
   refine WLr 3 [(38, .bool (!(mgrB c.v.node))), (37, .bool (!(mgrB c.v.node))), (36, .bool (!(mgrB c.v.node)))] (fun _ => by kernel_rfl) ?_
   refine WLa 38 (!(mgrB c.v.node)) rfl (fun t62b => ?_) (fun t62b => ?_)
   ·
    have t62 : (mgrB c.v.node) = false := by first | (simpa only [Bool.not_eq_true', Bool.not_eq_false'] using t62b) | simpa using t62b
    refine WLr 5 [(43, .bool true), (42, undef), (41, undef), (40, undef), (39, undef)] (fun _ => by kernel_rfl) (WLd rfl (QXn (hK55 _ _ ?_)))
    refine WCt rfl ?_
    refine WCs (fun K63 hK64 => ?_)
    refine WCg (WLr 2 [(2, .iface 73 (.int .i64 9)), (44, .iface 73 (.int .i64 9))] (fun _ => by kernel_rfl) (WLd rfl (QXn (hK64 _ _ ?_))))
    refine WC.ret ?_
    refine QXr ?_
    refine (hret _ _ _ rfl ?_).1
    clear hN hret hret' hK64 hK55 hK53 hK39 hK21 hK19 hK11 hK9 hK2
    have hg_ : goodC c.v = false := by rw [chk_eq c (hk1 (by omega)) (hk2 (by omega)) (hk3 (by omega)), t56, t62]; try simp
    rw [hg_]
    exact ⟨rfl, hC61.fr⟩
   ·
    have t62 : (mgrB c.v.node) = true := by first | (simpa only [Bool.not_eq_true', Bool.not_eq_false'] using t62b) | simpa using t62b
    refine WL.load 56 (.pointer (some ⟨g3, 0, none⟩)) (.agg #[.int .i64 c.v.node, .int .i64 c.v.boot, .int .i64 c.v.seq, .int .i64 c.v.time, .int .i64 c.v.kind, .int .u32 c.v.svip, .int .i64 c.v.sproto, .int .i64 c.v.sport, .slice c.a c.v.ends.length c.c, .int .u32 c.v.dip, .int .u32 c.v.vip, .bool c.v.up]) 39 (by kernel_rfl) (run_ld (hC61.get 0 rfl) rfl) ?_
    refine WL.load 56 (.pointer (some ⟨g43, 0, none⟩)) (.agg #[.int .i64 (((saidM c).v).node), .int .i64 (((saidM c).v).boot), .int .i64 (((saidM c).v).seq), .int .i64 (((saidM c).v).time), .int .i64 (((saidM c).v).kind), .int .u32 (((saidM c).v).svip), .int .i64 (((saidM c).v).sproto), .int .i64 (((saidM c).v).sport), .slice ((saidM c).a) ((saidM c).v.ends.length) ((saidM c).c), .int .u32 (((saidM c).v).dip), .int .u32 (((saidM c).v).vip), .bool (((saidM c).v).up)]) 40 (by kernel_rfl) (run_ld (hC61.get 1 rfl) rfl) ?_
    refine WLc rfl rfl rfl rfl rfl (by kernel_rfl) (like_ct c (⟨⟨((saidM c).v).node, ((saidM c).v).boot, ((saidM c).v).seq, ((saidM c).v).time, ((saidM c).v).kind, ((saidM c).v).svip, ((saidM c).v).sproto, ((saidM c).v).sport, (saidM c).v.ends, ((saidM c).v).dip, ((saidM c).v).vip, ((saidM c).v).up⟩, (saidM c).a, (saidM c).c⟩ : Cmd) w60 (cmdAt.fr0 h hC61.fr) (saidM_at (cmdAt.fr0 h hC61.fr))) ?_
    rintro _ w66 ⟨rfl, hF65⟩
    refine ⟨_, rfl, ?_⟩
    have hC67 := hC61.call hF65
    refine WLr 2 [(43, .bool (!(decide (c.v = (⟨⟨((saidM c).v).node, ((saidM c).v).boot, ((saidM c).v).seq, ((saidM c).v).time, ((saidM c).v).kind, ((saidM c).v).svip, ((saidM c).v).sproto, ((saidM c).v).sport, (saidM c).v.ends, ((saidM c).v).dip, ((saidM c).v).vip, ((saidM c).v).up⟩, (saidM c).a, (saidM c).c⟩ : Cmd).v)))), (42, .bool (!(decide (c.v = (⟨⟨((saidM c).v).node, ((saidM c).v).boot, ((saidM c).v).seq, ((saidM c).v).time, ((saidM c).v).kind, ((saidM c).v).svip, ((saidM c).v).sproto, ((saidM c).v).sport, (saidM c).v.ends, ((saidM c).v).dip, ((saidM c).v).vip, ((saidM c).v).up⟩, (saidM c).a, (saidM c).c⟩ : Cmd).v))))] (fun _ => by kernel_rfl) (WLd rfl (QXn (hK55 _ _ ?_)))
    refine WCa 43 (!(decide (c.v = (⟨⟨((saidM c).v).node, ((saidM c).v).boot, ((saidM c).v).seq, ((saidM c).v).time, ((saidM c).v).kind, ((saidM c).v).svip, ((saidM c).v).sproto, ((saidM c).v).sport, (saidM c).v.ends, ((saidM c).v).dip, ((saidM c).v).vip, ((saidM c).v).up⟩, (saidM c).a, (saidM c).c⟩ : Cmd).v))) rfl (fun t68b => ?_) (fun t68b => ?_)
    ·
     have t68 : (decide (c.v = (⟨⟨((saidM c).v).node, ((saidM c).v).boot, ((saidM c).v).seq, ((saidM c).v).time, ((saidM c).v).kind, ((saidM c).v).svip, ((saidM c).v).sproto, ((saidM c).v).sport, (saidM c).v.ends, ((saidM c).v).dip, ((saidM c).v).vip, ((saidM c).v).up⟩, (saidM c).a, (saidM c).c⟩ : Cmd).v)) = false := by first | (simpa only [Bool.not_eq_true', Bool.not_eq_false'] using t68b) | simpa using t68b
     refine WCt rfl ?_
     refine WCs (fun K69 hK70 => ?_)
     refine WCg (WLr 2 [(2, .iface 73 (.int .i64 9)), (44, .iface 73 (.int .i64 9))] (fun _ => by kernel_rfl) (WLd rfl (QXn (hK70 _ _ ?_))))
     refine WC.ret ?_
     refine QXr ?_
     refine (hret _ _ _ rfl ?_).1
     clear hN hret hret' hK70 hK55 hK53 hK39 hK21 hK19 hK11 hK9 hK2
     have hg_ : goodC c.v = false := by rw [chk_eq c (hk1 (by omega)) (hk2 (by omega)) (hk3 (by omega)), t56, t62, t68]; try simp
     rw [hg_]
     exact ⟨rfl, hC67.fr⟩
    ·
     have t68 : (decide (c.v = (⟨⟨((saidM c).v).node, ((saidM c).v).boot, ((saidM c).v).seq, ((saidM c).v).time, ((saidM c).v).kind, ((saidM c).v).svip, ((saidM c).v).sproto, ((saidM c).v).sport, (saidM c).v.ends, ((saidM c).v).dip, ((saidM c).v).vip, ((saidM c).v).up⟩, (saidM c).a, (saidM c).c⟩ : Cmd).v)) = true := by first | (simpa only [Bool.not_eq_true', Bool.not_eq_false'] using t68b) | simpa using t68b
     refine WCf rfl (WC.skip (QXn (hK53 _ _ ?_)))
     refine WCs (fun K71 hK72 => ?_)
     refine WCg (WLr 1 [(2, .nilIface)] (fun _ => by kernel_rfl) (WLd rfl (QXn (hK72 _ _ ?_))))
     refine WC.ret ?_
     refine (hret _ _ _ rfl ?_).1
     clear hN hret hret' hK72 hK55 hK53 hK39 hK21 hK19 hK11 hK9 hK2
     have hg_ : goodC c.v = true := by rw [chk_eq c (hk1 (by omega)) (hk2 (by omega)) (hk3 (by omega)), t56, t62, t68]; rfl
     rw [hg_]
     exact ⟨rfl, hC67.fr⟩

end Go.Proofs.YtfligklljkcbfaaDoor
