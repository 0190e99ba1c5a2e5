/- Contracts of functions of the program, each proved by a walk through its code; conditions stand in the statements. -/
import Derived.Test.YtimphmcoafapgaaFlG11
namespace Go.Proofs.Ytimphmcoafapgaa
set_option linter.unusedSimpArgs false
set_option linter.unusedVariables false
set_option linter.unusedSectionVars false
open Go Go.RowKit Go.Tw
set_option linter.unusedVariables false
set_option maxRecDepth 20000
theorem bvand_bits (x : BitVec 64) : (x &&& 1#64 = if x.getLsbD 0 then 1#64 else 0#64) ∧ (x &&& 2#64 = if x.getLsbD 1 then 2#64 else 0#64) ∧ (x &&& 4#64 = if x.getLsbD 2 then 4#64 else 0#64) ∧ (x &&& 5#64 = (if x.getLsbD 0 then 1#64 else 0#64) ||| (if x.getLsbD 2 then 4#64 else 0#64)) := by
  have key : ∀ (k : Nat), k < 3 → x &&& BitVec.twoPow 64 k = if x.getLsbD k then BitVec.twoPow 64 k else 0#64 := fun k hk => by
    rw [BitVec.and_twoPow]
  have h1 := key 0 (by omega)
  have h2 := key 1 (by omega)
  have h4 := key 2 (by omega)
  have e1 : BitVec.twoPow 64 0 = 1#64 := by decide
  have e2 : BitVec.twoPow 64 1 = 2#64 := by decide
  have e4 : BitVec.twoPow 64 2 = 4#64 := by decide
  rw [e1] at h1; rw [e2] at h2; rw [e4] at h4
  refine ⟨h1, h2, h4, ?_⟩
  have e5 : (5#64 : BitVec 64) = 1#64 ||| 4#64 := by decide
  rw [e5, BitVec.and_or_distrib_left, h1, h4]
theorem and_vals (n : Int) : (Go.bits .and .i64 n 2 = 0 ∨ Go.bits .and .i64 n 2 = 2) ∧ (Go.bits .and .i64 n 5 = 0 ↔ ¬ (Go.bits .and .i64 n 1 = 1 ∨ Go.bits .and .i64 n 4 = 4)) := by
  obtain ⟨h1, h2, h4, h5⟩ := bvand_bits (BitVec.ofInt 64 n)
  have g : ∀ k : Int, Go.bits .and .i64 n k = IntKind.i64.wrap ((BitVec.ofInt 64 n &&& BitVec.ofInt 64 k).toNat : Int) := fun k => rfl
  have o1 : BitVec.ofInt 64 1 = 1#64 := by decide
  have o2 : BitVec.ofInt 64 2 = 2#64 := by decide
  have o4 : BitVec.ofInt 64 4 = 4#64 := by decide
  have o5 : BitVec.ofInt 64 5 = 5#64 := by decide
  rw [g 2, g 5, g 1, g 4, o1, o2, o4, o5, h1, h2, h4, h5]
  cases (BitVec.ofInt 64 n).getLsbD 0 <;> cases (BitVec.ofInt 64 n).getLsbD 1 <;> cases (BitVec.ofInt 64 n).getLsbD 2 <;> exact ⟨by decide, by decide⟩
def flagsOf (f : Flow) (flags : Int) : Int := if f.proto = 6 then flags else 0
def idE (f : Flow) (flags now : Int) : Ent := ⟨f, 1, 1, decide (Go.bits .and .i64 (flagsOf f flags) 2 = 0), decide (¬ Go.bits .and .i64 (flagsOf f flags) 5 = 0), now⟩
def idT1 (f : Flow) (now : Int) : Tb := ⟨[(f, ⟨f, 1, 1, false, false, now⟩)], 0, 5, 1, 5⟩
def idT2 (f : Flow) (flags now : Int) : Tb := ⟨[(f, idE f flags now)], if Go.bits .and .i64 (flagsOf f flags) 2 = 0 then 1 else 0, 5, if Go.bits .and .i64 (flagsOf f flags) 2 = 0 then 0 else 1, 5⟩
theorem id_put {f : Flow} {now : Int} {T' : Tb} {o : Ent} {fd : Bool} {er : Int} (hf : goodF f = true) (ht : goodTime now = true) (h : PutRel ⟨[], 0, 5, 0, 5⟩ f 1 1 now T' o fd er) : T' = idT1 f now ∧ o = zeroE ∧ fd = false ∧ er = 0 := put_new_of h hf ht rfl (by decide) (by decide)
theorem id_touch {f : Flow} {flags now : Int} (ht : goodTime now = true) : touchT (idT1 f now) f flags now = (idT2 f flags now, true) := by
  have hl : lookL (idT1 f now).m f = some ⟨f, 1, 1, false, false, now⟩ := by simp [idT1, lookL]
  unfold touchT
  rw [hl]
  simp only [ht]
  by_cases h2 : Go.bits .and .i64 (flagsOf f flags) 2 = 0
  · have h2' := h2
    unfold flagsOf at h2'
    by_cases h5 : Go.bits .and .i64 (flagsOf f flags) 5 = 0
    · have h5' := h5
      unfold flagsOf at h5'
      simp [h2', h5', idT1, idT2, idE, h2, h5, putL]
    · have h5' := h5
      unfold flagsOf at h5'
      simp [h2', h5', idT1, idT2, idE, h2, h5, putL]
  · have h2' := h2
    unfold flagsOf at h2'
    by_cases h5 : Go.bits .and .i64 (flagsOf f flags) 5 = 0
    · have h5' := h5
      unfold flagsOf at h5'
      simp [h2', h5', idT1, idT2, idE, h2, h5, putL]
    · have h5' := h5
      unfold flagsOf at h5'
      simp [h2', h5', idT1, idT2, idE, h2, h5, putL]
theorem idT2_bd (f : Flow) (flags now : Int) : (-1000000000 ≤ (idT2 f flags now).th ∧ (idT2 f flags now).th ≤ 1000000000) ∧ (-1000000000 ≤ (idT2 f flags now).uh ∧ (idT2 f flags now).uh ≤ 1000000000) := by
  unfold idT2; dsimp only; split <;> omega
def limOf (e : Ent) : Int := if e.closing then 5 else if e.trusted then 60 else 10
theorem lim_le (e : Ent) : 5 ≤ limOf e ∧ limOf e ≤ 60 := by unfold limOf; split; omega; split <;> omega
theorem idleB_lim (e : Ent) (t : Int) : idleB e t = decide (t - e.last > limOf e) := rfl
theorem id_out1 {f : Flow} {flags now : Int} (h0 : 0 ≤ now) (h1 : now ≤ 549755813888) : outF2 (idT2 f flags now) (now + limOf (idE f flags now)) = ([], idT2 f flags now) := by
  have hl := lim_le (idE f flags now)
  have ht : goodTime (now + limOf (idE f flags now)) = true := by simp [goodTime]; omega
  have hi : idleB (idE f flags now) (now + limOf (idE f flags now)) = false := by
    rw [idleB_lim]; exact decide_eq_false (by show ¬ (now + limOf (idE f flags now) - now > _); omega)
  have ho : outF (idT2 f flags now).m (now + limOf (idE f flags now)) = [] := by simp [outF, idT2, entsOf, hi]
  unfold outF2; rw [if_pos ht, ho]; rfl
def idT3 (f : Flow) (flags now : Int) : Tb := (([f] : List Flow).foldl remF (idT2 f flags now, 0)).1
theorem id_out2 {f : Flow} {flags now : Int} (h0 : 0 ≤ now) (h1 : now ≤ 549755813888) : outF2 (idT2 f flags now) (now + limOf (idE f flags now) + 1) = ([f], idT3 f flags now) := by
  have hl := lim_le (idE f flags now)
  have ht : goodTime (now + limOf (idE f flags now) + 1) = true := by simp [goodTime]; omega
  have hi : idleB (idE f flags now) (now + limOf (idE f flags now) + 1) = true := by
    rw [idleB_lim]; exact decide_eq_true (by show now + limOf (idE f flags now) + 1 - now > _; omega)
  have ho : outF (idT2 f flags now).m (now + limOf (idE f flags now) + 1) = [f] := by
    simp only [outF, idT2, entsOf, List.map_cons, List.map_nil]
    rw [List.filter_cons_of_pos (by simpa using hi)]
    rfl
  unfold outF2; rw [if_pos ht, ho]; rfl
theorem idT3_m (f : Flow) (flags now : Int) : (idT3 f flags now).m = [] := by
  show (rem1 (idT2 f flags now) f).m = []
  unfold rem1
  have hl : lookL (idT2 f flags now).m f = some (idE f flags now) := by simp [idT2, lookL]
  rw [hl]
  dsimp only
  split <;> simp [idT2, delL]
theorem lim_code (f : Flow) (flags now : Int) : limOf (idE f flags now) = if f.proto = 6 ∧ (Go.bits .and .i64 flags 1 = 1 ∨ Go.bits .and .i64 flags 4 = 4) then 5 else if f.proto = 6 ∧ Go.bits .and .i64 flags 2 = 2 then 10 else 60 := by
  obtain ⟨v2, v5⟩ := and_vals flags
  have z2 : Go.bits .and .i64 0 2 = 0 := by decide
  have z5 : Go.bits .and .i64 0 5 = 0 := by decide
  unfold limOf idE flagsOf
  by_cases hp : f.proto = 6
  · simp only [hp, if_true, true_and]
    by_cases h : Go.bits .and .i64 flags 1 = 1 ∨ Go.bits .and .i64 flags 4 = 4
    · have : ¬ Go.bits .and .i64 flags 5 = 0 := fun e => v5.1 e h
      simp [this, h]
    · have h5 := v5.2 h
      rcases v2 with v2 | v2
      · simp [h5, h, v2]
      · simp [h5, h, v2]
  · simp [hp, z2, z5]
theorem takeF_same {xs ys : List Flow} {k : Nat} {x y : Flow} (h : xs.take k = ys.take k) (hx : xs[k]? = some x) (hy : ys[k]? = some y) (e : x = y) : xs.take (k + 1) = ys.take (k + 1) := by
  obtain ⟨hk, rfl⟩ := List.getElem?_eq_some_iff.1 hx
  obtain ⟨hk', rfl⟩ := List.getElem?_eq_some_iff.1 hy
  rw [List.take_succ_eq_append_getElem hk, List.take_succ_eq_append_getElem hk', h, e]
theorem sameF_end {xs ys : List Flow} {k : Nat} (h : xs.take k = ys.take k) (hk : xs.length ≤ k) (hl : xs.length = ys.length) : xs = ys := by
  rwa [List.take_of_length_le hk, List.take_of_length_le (by omega)] at h
theorem SameF_ct (A : Option Addr) (c : Nat) (xs : List Flow) (B : Option Addr) (c2 : Nat) (ys : List Flow) (w : World) (hr : Rd w 5 cellsF A xs) (hr2 : Rd w 5 cellsF B ys) (hm : xs.length < 2 ^ 41) : Calls Try.prog 16 #[.slice A xs.length c, .slice B ys.length c2] w fun e w' => e = .returned (.bool (decide (xs = ys))) ∧ Fr w w' [] := by
  refine enterD (n := 26) Try.func16 rfl rfl (Nat.le_of_ble_eq_true rfl) ?_
  intro Q0 hN hret hret'
  have hC := Cx.start w
  refine WC.seq (fun K1 hK2 => ?_)
  refine WC.region ?_
  refine WL.runs 1 [(4, .bool false)] (fun _ => by kernel_rfl) ?_
  refine WL.done rfl ?_
  refine QX.then_normal (hK2 _ _ ?_)
  refine WC.seq (fun K3 hK4 => ?_)
  refine WC.seq (fun K5 hK6 => ?_)
  refine WC.region ?_
  refine WL.runs 5 [(10, .bool ((xs.length : Int) != (ys.length : Int))), (9, .int .i64 (ys.length : Int)), (8, .slice B ys.length c2), (7, .int .i64 (xs.length : Int)), (6, .slice A xs.length c)] (fun _ => by kernel_rfl) ?_
  refine WL.done rfl ?_
  refine QX.then_normal (hK6 _ _ ?_)
  refine WC.test_at 10 ((xs.length : Int) != (ys.length : Int)) rfl (fun t7b => ?_) (fun t7b => ?_)
  · -- (xs.length : Int) ≠ (ys.length : Int): true
    have t7 : (xs.length : Int) ≠ (ys.length : Int) := by simpa using t7b
    refine WC.cond_true rfl ?_
    refine WC.seq (fun K8 hK9 => ?_)
    refine WC.region ?_
    refine WL.runs 1 [(4, .bool false)] (fun _ => by kernel_rfl) ?_
    refine WL.done rfl ?_
    refine QX.then_normal (hK9 _ _ ?_)
    refine WC.ret ?_
    refine QX.then_ret ?_
    refine (hret _ _ _ rfl ?_).1
    clear hN hret hret' hK9 hK6 hK4 hK2
    exact ⟨by rw [decide_eq_false (fun e_ => by have := congrArg List.length e_; omega)]; rfl, hC.fr⟩
  · -- (xs.length : Int) ≠ (ys.length : Int): false
    have t7 : (xs.length : Int) = (ys.length : Int) := by simpa using t7b
    refine WC.cond_false rfl ?_
    refine WC.skip ?_
    refine QX.then_normal (hK4 _ _ ?_)
    refine WC.seq (fun K10 hK11 => ?_)
    refine WC.seq (fun K12 hK13 => ?_)
    refine WC.region ?_
    refine WL.runs 1 [(5, .int .i64 0)] (fun _ => by kernel_rfl) ?_
    refine WL.done rfl ?_
    refine QX.then_normal (hK13 _ _ ?_)
    refine WC.block ?_
    refine WC.loop (fun m_ E_ w_ => ∃ (k : Nat), m_ = xs.length - k ∧ E_ = [(0, .slice A xs.length c), (1, .slice B ys.length c2), (5, .int .i64 (k : Int)), (6, .slice A xs.length c), (7, .int .i64 (xs.length : Int)), (8, .slice B ys.length c2), (9, .int .i64 (ys.length : Int)), (10, .bool false)] ∧ Cx w [] w_ [] [] ∧ (k ≤ xs.length ∧ xs.take k = ys.take k)) ⟨_, _, ⟨0, rfl, rfl, hC, Nat.zero_le _, rfl⟩, sub_of ⟨rfl, rfl, rfl, rfl, rfl, rfl, rfl, rfl, trivial⟩⟩ (fun m17 E_ w18 K14 hK15 hI16 => ?_)
    obtain ⟨k, rfl, rfl, hC19, hk, hsame⟩ := hI16
    refine WC.seq (fun K20 hK21 => ?_)
    refine WC.seq (fun K22 hK23 => ?_)
    refine WC.region ?_
    refine WL.runs 4 [(14, .bool (decide ((k : Int) < (xs.length : Int)))), (13, .int .i64 (xs.length : Int)), (12, .slice A xs.length c), (11, .int .i64 (k : Int))] (fun _ => by kernel_rfl) ?_
    refine WL.done rfl ?_
    refine QX.then_normal (hK23 _ _ ?_)
    refine WC.test_at 14 (decide ((k : Int) < (xs.length : Int))) rfl (fun t24b => ?_) (fun t24b => ?_)
    · -- (k : Int) < (xs.length : Int): true
      have t24 : (k : Int) < (xs.length : Int) := by have q_ := of_decide_eq_true t24b; omega
      refine WC.cond_true rfl ?_
      refine WC.skip ?_
      refine QX.then_normal (hK21 _ _ ?_)
      refine WC.seq (fun K25 hK26 => ?_)
      refine WC.block ?_
      refine WC.seq (fun K27 hK28 => ?_)
      refine WC.drawC hC19 [] (by kernel_rfl) (fun w29 hF30 hC31 hS32 => ?_)
      refine WD.pure (NoPanic.then (NoPanic.block (NoPanic.then (NoPanic.then (NoPanic.block (NoPanic.then hN)))))) 0 17 (.slice A xs.length c) (by kernel_rfl) (fun _ => by kernel_rfl) hS32 ?_
      refine WD.pure (NoPanic.then (NoPanic.block (NoPanic.then (NoPanic.then (NoPanic.block (NoPanic.then hN)))))) 1 18 (.int .i64 (k : Int)) (by kernel_rfl) (fun _ => by kernel_rfl) hS32 ?_
      obtain ⟨e33, he34⟩ := get_some (xs := xs) (i := k) (by omega)
      obtain ⟨b35, o37, hA36, hc38⟩ := hr.at_ _ _ he34
      refine WD.index (NoPanic.then (NoPanic.block (NoPanic.then (NoPanic.then (NoPanic.block (NoPanic.then hN)))))) 2 A xs.length c 19 .i64 (k : Int) b35 o37 k 5 (by kernel_rfl) (by kernel_rfl) hA36 (by omega) (by omega) (o37 + k * 5) (by first | (simp; done) | omega) hS32 ?_
      refine WD.pure (NoPanic.then (NoPanic.block (NoPanic.then (NoPanic.then (NoPanic.block (NoPanic.then hN)))))) 4 21 (.slice B ys.length c2) (by kernel_rfl) (fun _ => by kernel_rfl) hS32 ?_
      refine WD.pure (NoPanic.then (NoPanic.block (NoPanic.then (NoPanic.then (NoPanic.block (NoPanic.then hN)))))) 5 22 (.int .i64 (k : Int)) (by kernel_rfl) (fun _ => by kernel_rfl) hS32 ?_
      obtain ⟨e39, he40⟩ := get_some (xs := ys) (i := k) (by omega)
      obtain ⟨b41, o43, hA42, hc44⟩ := hr2.at_ _ _ he40
      refine WD.index (NoPanic.then (NoPanic.block (NoPanic.then (NoPanic.then (NoPanic.block (NoPanic.then hN)))))) 6 B ys.length c2 23 .i64 (k : Int) b41 o43 k 5 (by kernel_rfl) (by kernel_rfl) hA42 (by omega) (by omega) (o43 + k * 5) (by first | (simp; done) | omega) hS32 ?_
      refine WD.load (NoPanic.then (NoPanic.block (NoPanic.then (NoPanic.then (NoPanic.block (NoPanic.then hN)))))) 3 32 (.pointer (some ⟨b35, o37 + k * 5, none⟩)) (.agg #[.int .i64 e33.proto, .int .u32 e33.src, .int .i64 e33.sport, .int .u32 e33.dst, .int .i64 e33.dport]) 20 (by kernel_rfl) (by kernel_rfl) (fun _ hS_ => run_rdN (l := [.int .i64 e33.proto, .int .u32 e33.src, .int .i64 e33.sport, .int .u32 e33.dst, .int .i64 e33.dport]) rfl rfl (fun j u hu => by have hq_ := Fr.cell hS_ (hC31.fr.cell (hc38 j u hu) (by simp)) (by simp); simpa [Nat.add_assoc] using hq_)) hS32 ?_
      refine WD.load (NoPanic.then (NoPanic.block (NoPanic.then (NoPanic.then (NoPanic.block (NoPanic.then hN)))))) 7 32 (.pointer (some ⟨b41, o43 + k * 5, none⟩)) (.agg #[.int .i64 e39.proto, .int .u32 e39.src, .int .i64 e39.sport, .int .u32 e39.dst, .int .i64 e39.dport]) 24 (by kernel_rfl) (by kernel_rfl) (fun _ hS_ => run_rdN (l := [.int .i64 e39.proto, .int .u32 e39.src, .int .i64 e39.sport, .int .u32 e39.dst, .int .i64 e39.dport]) rfl rfl (fun j u hu => by have hq_ := Fr.cell hS_ (hC31.fr.cell (hc44 j u hu) (by simp)) (by simp); simpa [Nat.add_assoc] using hq_)) hS32 ?_
      have hr45 : ∀ w_, Sem.run Try.prog (do eqGuard .neq 32 (Operand.tmp 20) (Operand.tmp 24) (.agg #[.int .i64 e33.proto, .int .u32 e33.src, .int .i64 e33.sport, .int .u32 e33.dst, .int .i64 e33.dport]) (.agg #[.int .i64 e39.proto, .int .u32 e39.src, .int .i64 e39.sport, .int .u32 e39.dst, .int .i64 e39.dport]); binOp .neq 32 (.agg #[.int .i64 e33.proto, .int .u32 e33.src, .int .i64 e33.sport, .int .u32 e33.dst, .int .i64 e33.dport]) (.agg #[.int .i64 e39.proto, .int .u32 e39.src, .int .i64 e39.sport, .int .u32 e39.dst, .int .i64 e39.dport])) w_ = .ok (.bool (!(e33.proto == e39.proto && (e33.src == e39.src && (e33.sport == e39.sport && (e33.dst == e39.dst && (e33.dport == e39.dport && true))))))) w_ := fun w_ => (run_neq_S (by kernel_rfl))
      refine WD.semP (NoPanic.then (NoPanic.block (NoPanic.then (NoPanic.then (NoPanic.block (NoPanic.then hN)))))) 8 (do eqGuard .neq 32 (Operand.tmp 20) (Operand.tmp 24) (.agg #[.int .i64 e33.proto, .int .u32 e33.src, .int .i64 e33.sport, .int .u32 e33.dst, .int .i64 e33.dport]) (.agg #[.int .i64 e39.proto, .int .u32 e39.src, .int .i64 e39.sport, .int .u32 e39.dst, .int .i64 e39.dport]); binOp .neq 32 (.agg #[.int .i64 e33.proto, .int .u32 e33.src, .int .i64 e33.sport, .int .u32 e33.dst, .int .i64 e33.dport]) (.agg #[.int .i64 e39.proto, .int .u32 e39.src, .int .i64 e39.sport, .int .u32 e39.dst, .int .i64 e39.dport])) 25 (.bool (!(e33.proto == e39.proto && (e33.src == e39.src && (e33.sport == e39.sport && (e33.dst == e39.dst && (e33.dport == e39.dport && true))))))) (by kernel_rfl) (by kernel_rfl) (fun _ _ => hr45 _) hS32 ?_
      refine WD.done (by kernel_rfl) ?_
      refine QX.then_normal (hK28 _ _ ?_)
      refine WC.test_at 25 (!(e33.proto == e39.proto && (e33.src == e39.src && (e33.sport == e39.sport && (e33.dst == e39.dst && (e33.dport == e39.dport && true)))))) rfl (fun t46b => ?_) (fun t46b => ?_)
      · -- (!(e33.proto == e39.proto && (e33.src == e39.src && (e33.sport == e39.sport && (e33.dst == e39.dst && (e33.dport == e39.dport && true)))))) = true: true
        have t46 : (e33.proto == e39.proto && (e33.src == e39.src && (e33.sport == e39.sport && (e33.dst == e39.dst && (e33.dport == e39.dport && true))))) = false := by first | (simpa only [Bool.not_eq_true', Bool.not_eq_false'] using t46b) | simpa using t46b
        have hdiff_ := t46b
        refine WC.cond_true rfl ?_
        refine WC.seq (fun K47 hK48 => ?_)
        refine WC.region ?_
        refine WL.runs 1 [(4, .bool false)] (fun _ => by kernel_rfl) ?_
        refine WL.done rfl ?_
        refine QX.then_normal (hK48 _ _ ?_)
        refine WC.ret ?_
        refine QX.block_ret ?_
        refine QX.then_ret ?_
        refine QX.then_ret ?_
        refine QX.block_ret ?_
        refine QX.then_ret ?_
        refine (hret _ _ _ rfl ?_).1
        clear hN hret hret' hK48 hK28 hK26 hK23 hK21 hK13 hK11 hK6 hK4 hK2
        have hne_ : ¬ xs = ys := fun e_ => by
          rw [e_, he40] at he34
          simp only [Option.some.injEq] at he34
          rw [he34] at hdiff_
          simp at hdiff_
        exact ⟨by rw [decide_eq_false hne_]; rfl, hC31.fr⟩
      · -- (!(e33.proto == e39.proto && (e33.src == e39.src && (e33.sport == e39.sport && (e33.dst == e39.dst && (e33.dport == e39.dport && true)))))) = true: false
        have t46 : (e33.proto == e39.proto && (e33.src == e39.src && (e33.sport == e39.sport && (e33.dst == e39.dst && (e33.dport == e39.dport && true))))) = true := by first | (simpa only [Bool.not_eq_true', Bool.not_eq_false'] using t46b) | simpa using t46b
        have hdiff_ := t46b
        refine WC.cond_false rfl ?_
        refine WC.skip ?_
        refine QX.block_normal ?_
        refine QX.then_normal (hK26 _ _ ?_)
        refine WC.region ?_
        refine WL.runs 2 [(16, .int .i64 (IntKind.i64.wrap ((k : Int) + 1))), (15, .int .i64 (k : Int))] (fun _ => by kernel_rfl) ?_
        refine WL.recast (show (.int .i64 (IntKind.i64.wrap ((k : Int) + 1)) : Value) = .int .i64 ((k : Int) + 1) from by rw [wrap_in_i64 ((k : Int) + 1) (by omega) (by omega)]) ?_
        refine WL.runs 1 [(5, .int .i64 ((k : Int) + 1))] (fun _ => by kernel_rfl) ?_
        refine WL.done rfl ?_
        refine QX.then_normal ?_
        have hC49 := hC31.pick [] [] rfl rfl
        refine fun a_ ha_ => hK15 _ _ _ ?_ ⟨k + 1, rfl, rfl, hC49, by omega, takeF_same hsame he34 he40 (flow_eq.2 (by simpa using hdiff_))⟩ a_ (ha_.weaken (sub_of ⟨rfl, rfl, rfl, rfl, rfl, rfl, rfl, rfl, trivial⟩))
        omega
    · -- (k : Int) < (xs.length : Int): false
      have t24 : (xs.length : Int) ≤ (k : Int) := by have q_ := of_decide_eq_false t24b; omega
      have hdiff_ := t24b
      refine WC.cond_false rfl ?_
      refine WC.exit ?_
      refine QX.then_exit ?_
      refine QX.then_exit ?_
      refine QX.block_hit ?_
      refine QX.then_normal (hK11 _ _ ?_)
      refine WC.seq (fun K50 hK51 => ?_)
      refine WC.region ?_
      refine WL.runs 1 [(4, .bool true)] (fun _ => by kernel_rfl) ?_
      refine WL.done rfl ?_
      refine QX.then_normal (hK51 _ _ ?_)
      refine WC.ret ?_
      refine (hret _ _ _ rfl ?_).1
      clear hN hret hret' hK51 hK23 hK21 hK13 hK11 hK6 hK4 hK2
      exact ⟨by rw [decide_eq_true (sameF_end hsame (by omega) (by omega))]; rfl, hC19.fr⟩

set_option maxHeartbeats 2000000 in
theorem FlowIdles_ct (f : Flow) (flags now : Int) (w : World) (hnw : -9223372036854775808 ≤ now ∧ now ≤ 9223372036854775807) : Calls Try.prog 4 #[.agg #[.int .i64 f.proto, .int .u32 f.src, .int .i64 f.sport, .int .u32 f.dst, .int .i64 f.dport], .int .i64 flags, .int .i64 now] w fun e w' => e = .returned (.bool true) ∧ Fr w w' [] := by
  refine enterD (n := 88) Try.func4 rfl rfl (Nat.le_of_ble_eq_true rfl) ?_
  intro Q0 hN hret hret'
  have hC := Cx.start w
  refine WC.seq (fun K1 hK2 => ?_)
  refine WC.region ?_
  refine WL.newM hC (fun b => .pointer (some ⟨b, 0, none⟩)) (.cells #[.int .i64 f.proto, .int .u32 f.src, .int .i64 f.sport, .int .u32 f.dst, .int .i64 f.dport] 32) 3 (fun _ => by kernel_rfl) (fun g3 w4 hb7 hF5 hC6 => ?_)
  refine WL.runs 1 [(6, .bool false)] (fun _ => by kernel_rfl) ?_
  refine WL.done rfl ?_
  refine QX.then_normal (hK2 _ _ ?_)
  refine WC.seq (fun K8 hK9 => ?_)
  refine WC.seq (fun K10 hK11 => ?_)
  refine WC.region ?_
  refine WL.call rfl rfl rfl rfl rfl (by kernel_rfl) (alive_ct w4) ?_
  rintro _ w13 ⟨rfl, hF12⟩
  refine ⟨_, rfl, ?_⟩
  have hC14 := hC6.call hF12
  refine WL.runs 1 [(11, .bool false)] (fun _ => by kernel_rfl) ?_
  refine WL.done rfl ?_
  refine QX.then_normal (hK11 _ _ ?_)
  refine WC.cond_false rfl ?_
  refine WC.skip ?_
  refine QX.then_normal (hK9 _ _ ?_)
  refine WC.seq (fun K15 hK16 => ?_)
  refine WC.seq (fun K17 hK18 => ?_)
  refine WC.region ?_
  refine WL.load 32 (.pointer (some ⟨g3, 0, none⟩)) (.agg #[.int .i64 f.proto, .int .u32 f.src, .int .i64 f.sport, .int .u32 f.dst, .int .i64 f.dport]) 12 (by kernel_rfl) (run_ld (hC14.get 0 rfl) rfl) ?_
  refine WL.call rfl rfl rfl rfl rfl (by kernel_rfl) (Good1_ct f w13) ?_
  rintro _ w20 ⟨rfl, hF19⟩
  refine ⟨_, rfl, ?_⟩
  have hC21 := hC14.call hF19
  refine WL.runs 2 [(15, .bool (!(goodF f))), (14, .bool (!(goodF f)))] (fun _ => by kernel_rfl) ?_
  refine WL.test_at 15 (!(goodF f)) rfl (fun t22b => ?_) (fun t22b => ?_)
  · -- (!(goodF f)) = true: true
    have t22 : (goodF f) = false := by first | (simpa only [Bool.not_eq_true', Bool.not_eq_false'] using t22b) | simpa using t22b
    refine WL.runs 7 [(22, .bool true), (21, undef), (20, undef), (19, .bool true), (18, .bool true), (17, undef), (16, undef)] (fun _ => by kernel_rfl) ?_
    refine WL.done rfl ?_
    refine QX.then_normal (hK18 _ _ ?_)
    refine WC.cond_true rfl ?_
    refine WC.seq (fun K23 hK24 => ?_)
    refine WC.region ?_
    refine WL.runs 1 [(6, .bool true)] (fun _ => by kernel_rfl) ?_
    refine WL.done rfl ?_
    refine QX.then_normal (hK24 _ _ ?_)
    refine WC.ret ?_
    refine QX.then_ret ?_
    refine (hret _ _ _ rfl ?_).1
    clear hN hret hret' hK24 hK18 hK16 hK11 hK9 hK2
    exact ⟨rfl, hC21.fr⟩
  · -- (!(goodF f)) = true: false
    have t22 : (goodF f) = true := by first | (simpa only [Bool.not_eq_true', Bool.not_eq_false'] using t22b) | simpa using t22b
    refine WL.runs 4 [(19, .bool (decide (now < 0))), (18, .bool (decide (now < 0))), (17, .bool (decide (now < 0))), (16, .int .i64 now)] (fun _ => by kernel_rfl) ?_
    refine WL.test_at 19 (decide (now < 0)) rfl (fun t25b => ?_) (fun t25b => ?_)
    · -- now < 0: true
      have t25 : now < 0 := by have q_ := of_decide_eq_true t25b; omega
      refine WL.runs 3 [(22, .bool true), (21, undef), (20, undef)] (fun _ => by kernel_rfl) ?_
      refine WL.done rfl ?_
      refine QX.then_normal (hK18 _ _ ?_)
      refine WC.cond_true rfl ?_
      refine WC.seq (fun K26 hK27 => ?_)
      refine WC.region ?_
      refine WL.runs 1 [(6, .bool true)] (fun _ => by kernel_rfl) ?_
      refine WL.done rfl ?_
      refine QX.then_normal (hK27 _ _ ?_)
      refine WC.ret ?_
      refine QX.then_ret ?_
      refine (hret _ _ _ rfl ?_).1
      clear hN hret hret' hK27 hK18 hK16 hK11 hK9 hK2
      exact ⟨rfl, hC21.fr⟩
    · -- now < 0: false
      have t25 : (0 : Int) ≤ now := by have q_ := of_decide_eq_false t25b; omega
      refine WL.runs 3 [(22, .bool (decide (now > 549755813888))), (21, .bool (decide (now > 549755813888))), (20, .int .i64 now)] (fun _ => by kernel_rfl) ?_
      refine WL.done rfl ?_
      refine QX.then_normal (hK18 _ _ ?_)
      refine WC.test_at 22 (decide (now > 549755813888)) rfl (fun t28b => ?_) (fun t28b => ?_)
      · -- now > 549755813888: true
        have t28 : (549755813888 : Int) < now := by have q_ := of_decide_eq_true t28b; omega
        refine WC.cond_true rfl ?_
        refine WC.seq (fun K29 hK30 => ?_)
        refine WC.region ?_
        refine WL.runs 1 [(6, .bool true)] (fun _ => by kernel_rfl) ?_
        refine WL.done rfl ?_
        refine QX.then_normal (hK30 _ _ ?_)
        refine WC.ret ?_
        refine QX.then_ret ?_
        refine (hret _ _ _ rfl ?_).1
        clear hN hret hret' hK30 hK18 hK16 hK11 hK9 hK2
        exact ⟨rfl, hC21.fr⟩
      · -- now > 549755813888: false
        have t28 : now ≤ 549755813888 := by have q_ := of_decide_eq_false t28b; omega
        refine WC.cond_false rfl ?_
        refine WC.skip ?_
        refine QX.then_normal (hK16 _ _ ?_)
        refine WC.seq (fun K31 hK32 => ?_)
        refine WC.region ?_
        refine WL.call rfl rfl rfl rfl rfl (by kernel_rfl) (New_ct 5 5 w20 (by omega) (by omega)) ?_
        rintro _ w36 ⟨p33, b34, rfl, hF35, hT38, hge39, hge40⟩
        have hC37 := hC21.callN hF35 (G := [p33, b34]) (fun x_ hx_ => by simp at hx_; rcases hx_ with rfl | rfl; exact hge39; exact hge40) (tbAt_lt hT38)
        refine ⟨_, rfl, ?_⟩
        refine WL.runs 5 [(8, .nilIface), (7, .pointer (some ⟨p33, 0, none⟩)), (26, .nilIface), (25, .pointer (some ⟨p33, 0, none⟩)), (23, .tuple #[.pointer (some ⟨p33, 0, none⟩), .nilIface])] (fun _ => by kernel_rfl) ?_
        refine WL.done rfl ?_
        refine QX.then_normal (hK32 _ _ ?_)
        refine WC.seq (fun K41 hK42 => ?_)
        refine WC.seq (fun K43 hK44 => ?_)
        refine WC.region ?_
        refine WL.runs 6 [(32, .bool false), (31, .bool false), (30, .pointer (some ⟨p33, 0, none⟩)), (29, .bool false), (28, .bool false), (27, .nilIface)] (fun _ => by kernel_rfl) ?_
        refine WL.done rfl ?_
        refine QX.then_normal (hK44 _ _ ?_)
        refine WC.cond_false rfl ?_
        refine WC.skip ?_
        refine QX.then_normal (hK42 _ _ ?_)
        refine WC.seq (fun K45 hK46 => ?_)
        refine WC.region ?_
        refine WL.runs 1 [(33, .pointer (some ⟨p33, 0, none⟩))] (fun _ => by kernel_rfl) ?_
        refine WL.load 32 (.pointer (some ⟨g3, 0, none⟩)) (.agg #[.int .i64 f.proto, .int .u32 f.src, .int .i64 f.sport, .int .u32 f.dst, .int .i64 f.dport]) 34 (by kernel_rfl) (run_ld (hC37.get 0 rfl) rfl) ?_
        refine WL.runs 1 [(35, .int .i64 now)] (fun _ => by kernel_rfl) ?_
        have hgf_ : goodF f = true := t22
        have hnow0 : 0 ≤ now := by omega
        have hnow1 : now ≤ 549755813888 := by omega
        have htm_ : goodTime now = true := by simp [goodTime]; omega
        refine WL.call rfl rfl rfl rfl rfl (by kernel_rfl) (Put_ct p33 b34 (⟨[], 0, 5, 0, 5⟩ : Tb) f 1 1 now w36 hT38 (by first | (dsimp only [idT1]; omega) | omega) (by first | (dsimp only [idT1]; omega) | omega)) ?_
        rintro _ w53 ⟨T47, o48, fd49, er50, rfl, hF52, hT55, hrel51⟩
        obtain ⟨rfl, rfl, rfl, rfl⟩ := id_put hgf_ htm_ hrel51
        have hC54 := hC37.callF 0 rfl hF52 (fun _ hx_ => .inl hx_) (tbAt_lt hT55)
        refine ⟨_, rfl, ?_⟩
        refine WL.done rfl ?_
        refine QX.then_normal (hK46 _ _ ?_)
        refine WC.seq (fun K56 hK57 => ?_)
        refine WC.seq (fun K58 hK59 => ?_)
        refine WC.region ?_
        refine WL.runs 1 [(37, .pointer (some ⟨p33, 0, none⟩))] (fun _ => by kernel_rfl) ?_
        refine WL.load 32 (.pointer (some ⟨g3, 0, none⟩)) (.agg #[.int .i64 f.proto, .int .u32 f.src, .int .i64 f.sport, .int .u32 f.dst, .int .i64 f.dport]) 38 (by kernel_rfl) (run_ld (hC54.get 0 rfl) rfl) ?_
        refine WL.runs 2 [(40, .int .i64 now), (39, .int .i64 flags)] (fun _ => by kernel_rfl) ?_
        have htc60 := Touch_ct p33 b34 (idT1 f now) f flags now w53 hT55 (by first | (dsimp only [idT1]; omega) | omega) (by first | (dsimp only [idT1]; omega) | omega)
        rw [id_touch htm_] at htc60
        refine WL.call rfl rfl rfl rfl rfl (by kernel_rfl) (htc60) ?_
        rintro _ w62 ⟨rfl, hF61, hT64⟩
        have hC63 := hC54.callF 0 rfl hF61 (fun _ hx_ => .inl hx_) (tbAt_lt hT64)
        refine ⟨_, rfl, ?_⟩
        refine WL.runs 1 [(42, .bool false)] (fun _ => by kernel_rfl) ?_
        refine WL.done rfl ?_
        refine QX.then_normal (hK59 _ _ ?_)
        refine WC.cond_false rfl ?_
        refine WC.skip ?_
        refine QX.then_normal (hK57 _ _ ?_)
        refine WC.seq (fun K65 hK66 => ?_)
        refine WC.region ?_
        refine WL.runs 1 [(9, .int .i64 60)] (fun _ => by kernel_rfl) ?_
        refine WL.done rfl ?_
        refine QX.then_normal (hK66 _ _ ?_)
        refine WC.seq (fun K67 hK68 => ?_)
        refine WC.seq (fun K69 hK70 => ?_)
        refine WC.region ?_
        refine WL.runs 1 [(43, .pointer (some ⟨g3, 0, none⟩))] (fun _ => by kernel_rfl) ?_
        refine WL.load 3 (.pointer (some ⟨g3, 0, none⟩)) (.int .i64 f.proto) 44 (by kernel_rfl) (run_ld (hC63.get 0 rfl) rfl) ?_
        refine WL.runs 2 [(46, .bool (f.proto == 6)), (45, .bool (f.proto == 6))] (fun _ => by kernel_rfl) ?_
        refine WL.test_at 46 (f.proto == 6) rfl (fun t71b => ?_) (fun t71b => ?_)
        · -- f.proto = 6: true
          have t71 : f.proto = 6 := by simpa using t71b
          refine WL.runs 4 [(50, .bool ((Go.bits .and .i64 flags 2) == 2)), (49, .bool ((Go.bits .and .i64 flags 2) == 2)), (48, .int .i64 (Go.bits .and .i64 flags 2)), (47, .int .i64 flags)] (fun _ => by kernel_rfl) ?_
          refine WL.done rfl ?_
          refine QX.then_normal (hK70 _ _ ?_)
          refine WC.test_at 50 ((Go.bits .and .i64 flags 2) == 2) rfl (fun t72b => ?_) (fun t72b => ?_)
          · -- (Go.bits .and .i64 flags 2) = 2: true
            have t72 : (Go.bits .and .i64 flags 2) = 2 := by simpa using t72b
            refine WC.cond_true rfl ?_
            refine WC.region ?_
            refine WL.runs 1 [(9, .int .i64 10)] (fun _ => by kernel_rfl) ?_
            refine WL.done rfl ?_
            refine QX.then_normal (hK68 _ _ ?_)
            refine WC.seq (fun K73 hK74 => ?_)
            refine WC.seq (fun K75 hK76 => ?_)
            refine WC.region ?_
            refine WL.runs 1 [(51, .pointer (some ⟨g3, 0, none⟩))] (fun _ => by kernel_rfl) ?_
            refine WL.load 3 (.pointer (some ⟨g3, 0, none⟩)) (.int .i64 f.proto) 52 (by kernel_rfl) (run_ld (hC63.get 0 rfl) rfl) ?_
            refine WL.runs 2 [(54, .bool (f.proto == 6)), (53, .bool (f.proto == 6))] (fun _ => by kernel_rfl) ?_
            refine WL.know 54 (.bool (f.proto == 6)) (.bool true) rfl (congrArg Value.bool (by exact t71b)) ?_
            refine WL.runs 4 [(58, .bool ((Go.bits .and .i64 flags 1) == 1)), (57, .bool ((Go.bits .and .i64 flags 1) == 1)), (56, .int .i64 (Go.bits .and .i64 flags 1)), (55, .int .i64 flags)] (fun _ => by kernel_rfl) ?_
            refine WL.test_at 58 ((Go.bits .and .i64 flags 1) == 1) rfl (fun t77b => ?_) (fun t77b => ?_)
            · -- (Go.bits .and .i64 flags 1) = 1: true
              have t77 : (Go.bits .and .i64 flags 1) = 1 := by simpa using t77b
              refine WL.runs 5 [(63, .bool true), (62, .bool true), (61, undef), (60, undef), (59, undef)] (fun _ => by kernel_rfl) ?_
              refine WL.done rfl ?_
              refine QX.then_normal (hK76 _ _ ?_)
              refine WC.cond_true rfl ?_
              refine WC.region ?_
              refine WL.runs 1 [(9, .int .i64 5)] (fun _ => by kernel_rfl) ?_
              refine WL.done rfl ?_
              refine QX.then_normal (hK74 _ _ ?_)
              refine WC.seq (fun K78 hK79 => ?_)
              have hlim_ : limOf (idE f flags now) = 5 := by rw [lim_code]; simp [t22, t22b, t25, t25b, t28, t28b, t71, t71b, t72, t72b, t77, t77b]
              refine WC.drawC hC63 [p33, b34] (by kernel_rfl) (fun w80 hF81 hC82 hS83 => ?_)
              have hf84 := tbAt_fr hT64 hF81 (by simp)
              refine WD.pure (NoPanic.then hN) 0 64 (.pointer (some ⟨p33, 0, none⟩)) (by kernel_rfl) (fun _ => by kernel_rfl) hS83 ?_
              refine WD.pure (NoPanic.then hN) 1 65 (.int .i64 now) (by kernel_rfl) (fun _ => by kernel_rfl) hS83 ?_
              refine WD.pure (NoPanic.then hN) 2 66 (.int .i64 5) (by kernel_rfl) (fun _ => by kernel_rfl) hS83 ?_
              refine WD.pure (NoPanic.then hN) 3 67 (.int .i64 (IntKind.i64.wrap (now + 5))) (by kernel_rfl) (fun _ => by kernel_rfl) hS83 ?_
              refine WD.recast (show (.int .i64 (IntKind.i64.wrap (now + 5)) : Value) = .int .i64 (now + 5) from by rw [wrap_in_i64 (now + 5) (by omega) (by omega)]) ?_
              have hx85 := Expire1_ct p33 b34 (idT2 f flags now) (now + 5) w80 hf84 (idT2_bd f flags now).1 (idT2_bd f flags now).2 (by simp [idT2]) (by simp only [idT2, List.mem_singleton]; rintro _ rfl; simp only [idE]; omega)
              rw [show outF2 (idT2 f flags now) (now + 5) = (([] : List Flow), (idT2 f flags now)) from by have q_ := id_out1 (f := f) (flags := flags) hnow0 hnow1; rw [hlim_] at q_; exact q_] at hx85
              refine WD.call 4 (by kernel_rfl) rfl rfl rfl rfl rfl (by kernel_rfl) hx85 ?_
              rintro _ w87 ⟨v_, rfl, hF86, hT89, ho90⟩
              have hC88 := hC82.callFN 0 rfl hF86 (fun _ hx_ => .inl hx_) (tbAt_lt hT89) (own_ge ho90) (own_lt ho90) (fun x_ hx_ hg_ => Nat.not_lt.2 (own_ge ho90 x_ hg_) (hC82.ltF 0 rfl x_ hx_))
              obtain ⟨A91, c92, rfl, hle93⟩ := own_form ho90
              have ho94 := own_base (b' := 0) ho90 (fun _ _ => Nat.zero_le _)
              have hS96 := hS83.trans hF86 (by simp)
              refine ⟨_, rfl, hS96, ?_⟩
              refine WD.pure (NoPanic.then hN) 5 69 (.int .i64 (([] : List Flow).length : Int)) (by kernel_rfl) (fun _ => by kernel_rfl) hS96 ?_
              refine WD.pure (NoPanic.then hN) 6 70 (.bool ((([] : List Flow).length : Int) == 0)) (by kernel_rfl) (fun _ => by kernel_rfl) hS96 ?_
              refine WD.pure (NoPanic.then hN) 7 71 (.bool ((([] : List Flow).length : Int) == 0)) (by kernel_rfl) (fun _ => by kernel_rfl) hS96 ?_
              refine WD.know 71 (.bool ((([] : List Flow).length : Int) == 0)) (.bool true) rfl (congrArg Value.bool (by rfl)) ?_
              refine WD.pure (NoPanic.then hN) 8 72 (.pointer (some ⟨p33, 0, none⟩)) (by kernel_rfl) (fun _ => by kernel_rfl) hS96 ?_
              refine WD.pure (NoPanic.then hN) 9 73 (.int .i64 now) (by kernel_rfl) (fun _ => by kernel_rfl) hS96 ?_
              refine WD.pure (NoPanic.then hN) 10 74 (.int .i64 5) (by kernel_rfl) (fun _ => by kernel_rfl) hS96 ?_
              refine WD.pure (NoPanic.then hN) 11 75 (.int .i64 (IntKind.i64.wrap (now + 5))) (by kernel_rfl) (fun _ => by kernel_rfl) hS96 ?_
              refine WD.recast (show (.int .i64 (IntKind.i64.wrap (now + 5)) : Value) = .int .i64 (now + 5) from by rw [wrap_in_i64 (now + 5) (by omega) (by omega)]) ?_
              refine WD.pure (NoPanic.then hN) 12 76 (.int .i64 (IntKind.i64.wrap ((now + 5) + 1))) (by kernel_rfl) (fun _ => by kernel_rfl) hS96 ?_
              refine WD.recast (show (.int .i64 (IntKind.i64.wrap ((now + 5) + 1)) : Value) = .int .i64 ((now + 5) + 1) from by rw [wrap_in_i64 ((now + 5) + 1) (by omega) (by omega)]) ?_
              refine WD.load (NoPanic.then hN) 14 32 (.pointer (some ⟨g3, 0, none⟩)) (.agg #[.int .i64 f.proto, .int .u32 f.src, .int .i64 f.sport, .int .u32 f.dst, .int .i64 f.dport]) 78 (by kernel_rfl) (by kernel_rfl) (fun _ hS_ => run_ld (Fr.has hS_ (hC82.get 0 rfl) (hC82.notin 0 0 rfl rfl)) rfl) hS96 ?_
              refine WD.all2 13 15 (by kernel_rfl) ?_ ?_
              · -- operation 13 comes first
                have hx98 := Expire1_ct p33 b34 (idT2 f flags now) ((now + 5) + 1) w87 hT89 (idT2_bd f flags now).1 (idT2_bd f flags now).2 (by simp [idT2]) (by simp only [idT2, List.mem_singleton]; rintro _ rfl; simp only [idE]; omega)
                rw [show outF2 (idT2 f flags now) ((now + 5) + 1) = (([f] : List Flow), (idT3 f flags now)) from by have q_ := id_out2 (f := f) (flags := flags) hnow0 hnow1; rw [hlim_] at q_; exact q_] at hx98
                refine WO.call 13 (by kernel_rfl) rfl rfl rfl rfl rfl (by kernel_rfl) hx98 ?_
                rintro _ w100 ⟨v_, rfl, hF99, hT102, ho103⟩
                have hC101 := hC88.callFN 0 rfl hF99 (fun _ hx_ => .inl hx_) (tbAt_lt hT102) (own_ge ho103) (own_lt ho103) (fun x_ hx_ hg_ => Nat.not_lt.2 (own_ge ho103 x_ hg_) (hC88.ltF 0 rfl x_ hx_))
                obtain ⟨A104, c105, rfl, hle106⟩ := own_form ho103
                have ho107 := own_base (b' := 0) ho103 (fun _ _ => Nat.zero_le _)
                have hS109 := hS96.trans hF99 (by simp)
                refine ⟨_, rfl, hS109, ?_⟩
                have ho110 := own_fr ho94 hF99 (hC88.disj 1 0 rfl rfl (by decide))
                refine WD.new 15 (fun b => .slice (some ⟨b, 0, none⟩) 1 1) (.cells #[.int .i64 f.proto, .int .u32 f.src, .int .i64 f.sport, .int .u32 f.dst, .int .i64 f.dport] 32) (by kernel_rfl) rfl rfl rfl rfl rfl (fun _ => by kernel_rfl) (fun g112 w113 hb116 hl117 hF114 ho118 => ?_)
                have hC115 := hC101.callB hF114 hb116 ho118
                have hS119 := hS109.trans hF114 (by simp)
                refine ⟨hS119, ?_⟩
                have hf120 := tbAt_fr hT102 hF114 (by simp)
                have ho121 := own_fr ho110 hF114 (by simp)
                have ho122 := own_fr ho107 hF114 (by simp)
                refine WD.call 16 (by kernel_rfl) rfl rfl rfl rfl rfl (by kernel_rfl) (SameF_ct A104 c105 ([f] : List Flow) (some ⟨g112, 0, none⟩) 1 [f] w113 (own_rd ho122 cellsF_len (by decide)) (Rd.blk (xs := [f]) (hC115.get 1 rfl) cellsF_len rfl) (by simp)) ?_
                rintro _ w124 ⟨rfl, hF123⟩
                have hS126 := hS119.trans hF123 (by simp)
                refine ⟨_, rfl, hS126, ?_⟩
                have hC125 := hC115.call hF123
                have hf127 := tbAt_fr hf120 hF123 (by simp)
                have ho128 := own_fr ho121 hF123 (by simp)
                have ho129 := own_fr ho122 hF123 (by simp)
                refine WD.pure (NoPanic.then hN) 17 81 (.bool (decide (([f] : List Flow) = [f]))) (by kernel_rfl) (fun _ => by kernel_rfl) hS126 ?_
                refine WD.pure (NoPanic.then hN) 18 82 (.bool (decide (([f] : List Flow) = [f]))) (by kernel_rfl) (fun _ => by kernel_rfl) hS126 ?_
                refine WD.know 82 (.bool (decide (([f] : List Flow) = [f]))) (.bool true) rfl (congrArg Value.bool (by simp)) ?_
                refine WD.pure (NoPanic.then hN) 19 83 (.pointer (some ⟨p33, 0, none⟩)) (by kernel_rfl) (fun _ => by kernel_rfl) hS126 ?_
                refine WD.call 20 (by kernel_rfl) rfl rfl rfl rfl rfl (by kernel_rfl) (All1_ct p33 b34 (idT3 f flags now) w124 hf127 (by rw [idT3_m]; exact Nat.zero_le _)) ?_
                rintro _ w132 ⟨v_, rfl, hF131, ho130⟩
                have hC133 := hC125.callN hF131 (own_ge ho130) (own_lt ho130)
                obtain ⟨A134, c135, rfl, hle136⟩ := own_form ho130
                have ho138 := own_base (b' := 0) ho130 (fun _ _ => Nat.zero_le _)
                have hS139 := hS126.trans hF131 (by simp)
                refine ⟨_, rfl, hS139, ?_⟩
                have hf140 := tbAt_fr hf127 hF131 (by simp)
                have ho141 := own_fr ho128 hF131 (by simp)
                have ho142 := own_fr ho129 hF131 (by simp)
                refine WD.pure (NoPanic.then hN) 21 85 (.int .i64 ((entsOf (idT3 f flags now).m).length : Int)) (by kernel_rfl) (fun _ => by kernel_rfl) hS139 ?_
                refine WD.pure (NoPanic.then hN) 22 86 (.bool (((entsOf (idT3 f flags now).m).length : Int) == 0)) (by kernel_rfl) (fun _ => by kernel_rfl) hS139 ?_
                refine WD.pure (NoPanic.then hN) 23 87 (.bool (((entsOf (idT3 f flags now).m).length : Int) == 0)) (by kernel_rfl) (fun _ => by kernel_rfl) hS139 ?_
                refine WD.pure (NoPanic.then hN) 24 6 (.bool (((entsOf (idT3 f flags now).m).length : Int) == 0)) (by kernel_rfl) (fun _ => by kernel_rfl) hS139 ?_
                refine WD.done (by kernel_rfl) ?_
                refine QX.then_normal (hK79 _ _ ?_)
                refine WC.ret ?_
                refine (hret _ _ _ rfl ?_).1
                clear hN hret hret' hK79 hK76 hK74 hK70 hK68 hK66 hK59 hK57 hK46 hK44 hK42 hK32 hK18 hK16 hK11 hK9 hK2
                exact ⟨congrArg (fun b_ => Ending.returned (Value.bool b_)) (show ((((entsOf (idT3 f flags now).m).length : Int) == 0)) = true from by rw [idT3_m]; rfl), hC133.fr⟩
              · -- operation 15 comes first
                refine WO.new 15 (fun b => .slice (some ⟨b, 0, none⟩) 1 1) (.cells #[.int .i64 f.proto, .int .u32 f.src, .int .i64 f.sport, .int .u32 f.dst, .int .i64 f.dport] 32) (by kernel_rfl) rfl rfl rfl rfl rfl (fun _ => by kernel_rfl) (fun g144 w145 hb148 hl149 hF146 ho150 => ?_)
                have hC147 := hC88.callB hF146 hb148 ho150
                have hS151 := hS96.trans hF146 (by simp)
                refine ⟨hS151, ?_⟩
                have hf152 := tbAt_fr hT89 hF146 (by simp)
                have ho153 := own_fr ho94 hF146 (by simp)
                have hx154 := Expire1_ct p33 b34 (idT2 f flags now) ((now + 5) + 1) w145 hf152 (idT2_bd f flags now).1 (idT2_bd f flags now).2 (by simp [idT2]) (by simp only [idT2, List.mem_singleton]; rintro _ rfl; simp only [idE]; omega)
                rw [show outF2 (idT2 f flags now) ((now + 5) + 1) = (([f] : List Flow), (idT3 f flags now)) from by have q_ := id_out2 (f := f) (flags := flags) hnow0 hnow1; rw [hlim_] at q_; exact q_] at hx154
                refine WD.call 13 (by kernel_rfl) rfl rfl rfl rfl rfl (by kernel_rfl) hx154 ?_
                rintro _ w156 ⟨v_, rfl, hF155, hT158, ho159⟩
                have hC157 := hC147.callFN 0 rfl hF155 (fun _ hx_ => .inl hx_) (tbAt_lt hT158) (own_ge ho159) (own_lt ho159) (fun x_ hx_ hg_ => Nat.not_lt.2 (own_ge ho159 x_ hg_) (hC147.ltF 0 rfl x_ hx_))
                obtain ⟨A160, c161, rfl, hle162⟩ := own_form ho159
                have ho163 := own_base (b' := 0) ho159 (fun _ _ => Nat.zero_le _)
                have hS165 := hS151.trans hF155 (by simp)
                refine ⟨_, rfl, hS165, ?_⟩
                have ho166 := own_fr ho153 hF155 (hC147.disj 1 0 rfl rfl (by decide))
                refine WD.call 16 (by kernel_rfl) rfl rfl rfl rfl rfl (by kernel_rfl) (SameF_ct A160 c161 ([f] : List Flow) (some ⟨g144, 0, none⟩) 1 [f] w156 (own_rd ho163 cellsF_len (by decide)) (Rd.blk (xs := [f]) (hC157.get 1 rfl) cellsF_len rfl) (by simp)) ?_
                rintro _ w169 ⟨rfl, hF168⟩
                have hS171 := hS165.trans hF168 (by simp)
                refine ⟨_, rfl, hS171, ?_⟩
                have hC170 := hC157.call hF168
                have hf172 := tbAt_fr hT158 hF168 (by simp)
                have ho173 := own_fr ho166 hF168 (by simp)
                have ho174 := own_fr ho163 hF168 (by simp)
                refine WD.pure (NoPanic.then hN) 17 81 (.bool (decide (([f] : List Flow) = [f]))) (by kernel_rfl) (fun _ => by kernel_rfl) hS171 ?_
                refine WD.pure (NoPanic.then hN) 18 82 (.bool (decide (([f] : List Flow) = [f]))) (by kernel_rfl) (fun _ => by kernel_rfl) hS171 ?_
                refine WD.know 82 (.bool (decide (([f] : List Flow) = [f]))) (.bool true) rfl (congrArg Value.bool (by simp)) ?_
                refine WD.pure (NoPanic.then hN) 19 83 (.pointer (some ⟨p33, 0, none⟩)) (by kernel_rfl) (fun _ => by kernel_rfl) hS171 ?_
                refine WD.call 20 (by kernel_rfl) rfl rfl rfl rfl rfl (by kernel_rfl) (All1_ct p33 b34 (idT3 f flags now) w169 hf172 (by rw [idT3_m]; exact Nat.zero_le _)) ?_
                rintro _ w177 ⟨v_, rfl, hF176, ho175⟩
                have hC178 := hC170.callN hF176 (own_ge ho175) (own_lt ho175)
                obtain ⟨A179, c180, rfl, hle181⟩ := own_form ho175
                have ho183 := own_base (b' := 0) ho175 (fun _ _ => Nat.zero_le _)
                have hS184 := hS171.trans hF176 (by simp)
                refine ⟨_, rfl, hS184, ?_⟩
                have hf185 := tbAt_fr hf172 hF176 (by simp)
                have ho186 := own_fr ho173 hF176 (by simp)
                have ho187 := own_fr ho174 hF176 (by simp)
                refine WD.pure (NoPanic.then hN) 21 85 (.int .i64 ((entsOf (idT3 f flags now).m).length : Int)) (by kernel_rfl) (fun _ => by kernel_rfl) hS184 ?_
                refine WD.pure (NoPanic.then hN) 22 86 (.bool (((entsOf (idT3 f flags now).m).length : Int) == 0)) (by kernel_rfl) (fun _ => by kernel_rfl) hS184 ?_
                refine WD.pure (NoPanic.then hN) 23 87 (.bool (((entsOf (idT3 f flags now).m).length : Int) == 0)) (by kernel_rfl) (fun _ => by kernel_rfl) hS184 ?_
                refine WD.pure (NoPanic.then hN) 24 6 (.bool (((entsOf (idT3 f flags now).m).length : Int) == 0)) (by kernel_rfl) (fun _ => by kernel_rfl) hS184 ?_
                refine WD.done (by kernel_rfl) ?_
                refine QX.then_normal (hK79 _ _ ?_)
                refine WC.ret ?_
                refine (hret _ _ _ rfl ?_).1
                clear hN hret hret' hK79 hK76 hK74 hK70 hK68 hK66 hK59 hK57 hK46 hK44 hK42 hK32 hK18 hK16 hK11 hK9 hK2
                exact ⟨congrArg (fun b_ => Ending.returned (Value.bool b_)) (show ((((entsOf (idT3 f flags now).m).length : Int) == 0)) = true from by rw [idT3_m]; rfl), hC178.fr⟩
            · -- (Go.bits .and .i64 flags 1) = 1: false
              have t77 : ¬ ((Go.bits .and .i64 flags 1) = 1) := by simpa using t77b
              refine WL.runs 5 [(63, .bool ((Go.bits .and .i64 flags 4) == 4)), (62, .bool ((Go.bits .and .i64 flags 4) == 4)), (61, .bool ((Go.bits .and .i64 flags 4) == 4)), (60, .int .i64 (Go.bits .and .i64 flags 4)), (59, .int .i64 flags)] (fun _ => by kernel_rfl) ?_
              refine WL.done rfl ?_
              refine QX.then_normal (hK76 _ _ ?_)
              refine WC.test_at 63 ((Go.bits .and .i64 flags 4) == 4) rfl (fun t189b => ?_) (fun t189b => ?_)
              · -- (Go.bits .and .i64 flags 4) = 4: true
                have t189 : (Go.bits .and .i64 flags 4) = 4 := by simpa using t189b
                refine WC.cond_true rfl ?_
                refine WC.region ?_
                refine WL.runs 1 [(9, .int .i64 5)] (fun _ => by kernel_rfl) ?_
                refine WL.done rfl ?_
                refine QX.then_normal (hK74 _ _ ?_)
                refine WC.seq (fun K190 hK191 => ?_)
                have hlim_ : limOf (idE f flags now) = 5 := by rw [lim_code]; simp [t189, t189b, t22, t22b, t25, t25b, t28, t28b, t71, t71b, t72, t72b, t77, t77b]
                refine WC.drawC hC63 [p33, b34] (by kernel_rfl) (fun w192 hF193 hC194 hS195 => ?_)
                have hf196 := tbAt_fr hT64 hF193 (by simp)
                refine WD.pure (NoPanic.then hN) 0 64 (.pointer (some ⟨p33, 0, none⟩)) (by kernel_rfl) (fun _ => by kernel_rfl) hS195 ?_
                refine WD.pure (NoPanic.then hN) 1 65 (.int .i64 now) (by kernel_rfl) (fun _ => by kernel_rfl) hS195 ?_
                refine WD.pure (NoPanic.then hN) 2 66 (.int .i64 5) (by kernel_rfl) (fun _ => by kernel_rfl) hS195 ?_
                refine WD.pure (NoPanic.then hN) 3 67 (.int .i64 (IntKind.i64.wrap (now + 5))) (by kernel_rfl) (fun _ => by kernel_rfl) hS195 ?_
                refine WD.recast (show (.int .i64 (IntKind.i64.wrap (now + 5)) : Value) = .int .i64 (now + 5) from by rw [wrap_in_i64 (now + 5) (by omega) (by omega)]) ?_
                have hx197 := Expire1_ct p33 b34 (idT2 f flags now) (now + 5) w192 hf196 (idT2_bd f flags now).1 (idT2_bd f flags now).2 (by simp [idT2]) (by simp only [idT2, List.mem_singleton]; rintro _ rfl; simp only [idE]; omega)
                rw [show outF2 (idT2 f flags now) (now + 5) = (([] : List Flow), (idT2 f flags now)) from by have q_ := id_out1 (f := f) (flags := flags) hnow0 hnow1; rw [hlim_] at q_; exact q_] at hx197
                refine WD.call 4 (by kernel_rfl) rfl rfl rfl rfl rfl (by kernel_rfl) hx197 ?_
                rintro _ w199 ⟨v_, rfl, hF198, hT201, ho202⟩
                have hC200 := hC194.callFN 0 rfl hF198 (fun _ hx_ => .inl hx_) (tbAt_lt hT201) (own_ge ho202) (own_lt ho202) (fun x_ hx_ hg_ => Nat.not_lt.2 (own_ge ho202 x_ hg_) (hC194.ltF 0 rfl x_ hx_))
                obtain ⟨A203, c204, rfl, hle205⟩ := own_form ho202
                have ho206 := own_base (b' := 0) ho202 (fun _ _ => Nat.zero_le _)
                have hS208 := hS195.trans hF198 (by simp)
                refine ⟨_, rfl, hS208, ?_⟩
                refine WD.pure (NoPanic.then hN) 5 69 (.int .i64 (([] : List Flow).length : Int)) (by kernel_rfl) (fun _ => by kernel_rfl) hS208 ?_
                refine WD.pure (NoPanic.then hN) 6 70 (.bool ((([] : List Flow).length : Int) == 0)) (by kernel_rfl) (fun _ => by kernel_rfl) hS208 ?_
                refine WD.pure (NoPanic.then hN) 7 71 (.bool ((([] : List Flow).length : Int) == 0)) (by kernel_rfl) (fun _ => by kernel_rfl) hS208 ?_
                refine WD.know 71 (.bool ((([] : List Flow).length : Int) == 0)) (.bool true) rfl (congrArg Value.bool (by rfl)) ?_
                refine WD.pure (NoPanic.then hN) 8 72 (.pointer (some ⟨p33, 0, none⟩)) (by kernel_rfl) (fun _ => by kernel_rfl) hS208 ?_
                refine WD.pure (NoPanic.then hN) 9 73 (.int .i64 now) (by kernel_rfl) (fun _ => by kernel_rfl) hS208 ?_
                refine WD.pure (NoPanic.then hN) 10 74 (.int .i64 5) (by kernel_rfl) (fun _ => by kernel_rfl) hS208 ?_
                refine WD.pure (NoPanic.then hN) 11 75 (.int .i64 (IntKind.i64.wrap (now + 5))) (by kernel_rfl) (fun _ => by kernel_rfl) hS208 ?_
                refine WD.recast (show (.int .i64 (IntKind.i64.wrap (now + 5)) : Value) = .int .i64 (now + 5) from by rw [wrap_in_i64 (now + 5) (by omega) (by omega)]) ?_
                refine WD.pure (NoPanic.then hN) 12 76 (.int .i64 (IntKind.i64.wrap ((now + 5) + 1))) (by kernel_rfl) (fun _ => by kernel_rfl) hS208 ?_
                refine WD.recast (show (.int .i64 (IntKind.i64.wrap ((now + 5) + 1)) : Value) = .int .i64 ((now + 5) + 1) from by rw [wrap_in_i64 ((now + 5) + 1) (by omega) (by omega)]) ?_
                refine WD.load (NoPanic.then hN) 14 32 (.pointer (some ⟨g3, 0, none⟩)) (.agg #[.int .i64 f.proto, .int .u32 f.src, .int .i64 f.sport, .int .u32 f.dst, .int .i64 f.dport]) 78 (by kernel_rfl) (by kernel_rfl) (fun _ hS_ => run_ld (Fr.has hS_ (hC194.get 0 rfl) (hC194.notin 0 0 rfl rfl)) rfl) hS208 ?_
                refine WD.all2 13 15 (by kernel_rfl) ?_ ?_
                · -- operation 13 comes first
                  have hx210 := Expire1_ct p33 b34 (idT2 f flags now) ((now + 5) + 1) w199 hT201 (idT2_bd f flags now).1 (idT2_bd f flags now).2 (by simp [idT2]) (by simp only [idT2, List.mem_singleton]; rintro _ rfl; simp only [idE]; omega)
                  rw [show outF2 (idT2 f flags now) ((now + 5) + 1) = (([f] : List Flow), (idT3 f flags now)) from by have q_ := id_out2 (f := f) (flags := flags) hnow0 hnow1; rw [hlim_] at q_; exact q_] at hx210
                  refine WO.call 13 (by kernel_rfl) rfl rfl rfl rfl rfl (by kernel_rfl) hx210 ?_
                  rintro _ w212 ⟨v_, rfl, hF211, hT214, ho215⟩
                  have hC213 := hC200.callFN 0 rfl hF211 (fun _ hx_ => .inl hx_) (tbAt_lt hT214) (own_ge ho215) (own_lt ho215) (fun x_ hx_ hg_ => Nat.not_lt.2 (own_ge ho215 x_ hg_) (hC200.ltF 0 rfl x_ hx_))
                  obtain ⟨A216, c217, rfl, hle218⟩ := own_form ho215
                  have ho219 := own_base (b' := 0) ho215 (fun _ _ => Nat.zero_le _)
                  have hS221 := hS208.trans hF211 (by simp)
                  refine ⟨_, rfl, hS221, ?_⟩
                  have ho222 := own_fr ho206 hF211 (hC200.disj 1 0 rfl rfl (by decide))
                  refine WD.new 15 (fun b => .slice (some ⟨b, 0, none⟩) 1 1) (.cells #[.int .i64 f.proto, .int .u32 f.src, .int .i64 f.sport, .int .u32 f.dst, .int .i64 f.dport] 32) (by kernel_rfl) rfl rfl rfl rfl rfl (fun _ => by kernel_rfl) (fun g224 w225 hb228 hl229 hF226 ho230 => ?_)
                  have hC227 := hC213.callB hF226 hb228 ho230
                  have hS231 := hS221.trans hF226 (by simp)
                  refine ⟨hS231, ?_⟩
                  have hf232 := tbAt_fr hT214 hF226 (by simp)
                  have ho233 := own_fr ho222 hF226 (by simp)
                  have ho234 := own_fr ho219 hF226 (by simp)
                  refine WD.call 16 (by kernel_rfl) rfl rfl rfl rfl rfl (by kernel_rfl) (SameF_ct A216 c217 ([f] : List Flow) (some ⟨g224, 0, none⟩) 1 [f] w225 (own_rd ho234 cellsF_len (by decide)) (Rd.blk (xs := [f]) (hC227.get 1 rfl) cellsF_len rfl) (by simp)) ?_
                  rintro _ w236 ⟨rfl, hF235⟩
                  have hS238 := hS231.trans hF235 (by simp)
                  refine ⟨_, rfl, hS238, ?_⟩
                  have hC237 := hC227.call hF235
                  have hf239 := tbAt_fr hf232 hF235 (by simp)
                  have ho240 := own_fr ho233 hF235 (by simp)
                  have ho241 := own_fr ho234 hF235 (by simp)
                  refine WD.pure (NoPanic.then hN) 17 81 (.bool (decide (([f] : List Flow) = [f]))) (by kernel_rfl) (fun _ => by kernel_rfl) hS238 ?_
                  refine WD.pure (NoPanic.then hN) 18 82 (.bool (decide (([f] : List Flow) = [f]))) (by kernel_rfl) (fun _ => by kernel_rfl) hS238 ?_
                  refine WD.know 82 (.bool (decide (([f] : List Flow) = [f]))) (.bool true) rfl (congrArg Value.bool (by simp)) ?_
                  refine WD.pure (NoPanic.then hN) 19 83 (.pointer (some ⟨p33, 0, none⟩)) (by kernel_rfl) (fun _ => by kernel_rfl) hS238 ?_
                  refine WD.call 20 (by kernel_rfl) rfl rfl rfl rfl rfl (by kernel_rfl) (All1_ct p33 b34 (idT3 f flags now) w236 hf239 (by rw [idT3_m]; exact Nat.zero_le _)) ?_
                  rintro _ w244 ⟨v_, rfl, hF243, ho242⟩
                  have hC245 := hC237.callN hF243 (own_ge ho242) (own_lt ho242)
                  obtain ⟨A246, c247, rfl, hle248⟩ := own_form ho242
                  have ho250 := own_base (b' := 0) ho242 (fun _ _ => Nat.zero_le _)
                  have hS251 := hS238.trans hF243 (by simp)
                  refine ⟨_, rfl, hS251, ?_⟩
                  have hf252 := tbAt_fr hf239 hF243 (by simp)
                  have ho253 := own_fr ho240 hF243 (by simp)
                  have ho254 := own_fr ho241 hF243 (by simp)
                  refine WD.pure (NoPanic.then hN) 21 85 (.int .i64 ((entsOf (idT3 f flags now).m).length : Int)) (by kernel_rfl) (fun _ => by kernel_rfl) hS251 ?_
                  refine WD.pure (NoPanic.then hN) 22 86 (.bool (((entsOf (idT3 f flags now).m).length : Int) == 0)) (by kernel_rfl) (fun _ => by kernel_rfl) hS251 ?_
                  refine WD.pure (NoPanic.then hN) 23 87 (.bool (((entsOf (idT3 f flags now).m).length : Int) == 0)) (by kernel_rfl) (fun _ => by kernel_rfl) hS251 ?_
                  refine WD.pure (NoPanic.then hN) 24 6 (.bool (((entsOf (idT3 f flags now).m).length : Int) == 0)) (by kernel_rfl) (fun _ => by kernel_rfl) hS251 ?_
                  refine WD.done (by kernel_rfl) ?_
                  refine QX.then_normal (hK191 _ _ ?_)
                  refine WC.ret ?_
                  refine (hret _ _ _ rfl ?_).1
                  clear hN hret hret' hK191 hK76 hK74 hK70 hK68 hK66 hK59 hK57 hK46 hK44 hK42 hK32 hK18 hK16 hK11 hK9 hK2
                  exact ⟨congrArg (fun b_ => Ending.returned (Value.bool b_)) (show ((((entsOf (idT3 f flags now).m).length : Int) == 0)) = true from by rw [idT3_m]; rfl), hC245.fr⟩
                · -- operation 15 comes first
                  refine WO.new 15 (fun b => .slice (some ⟨b, 0, none⟩) 1 1) (.cells #[.int .i64 f.proto, .int .u32 f.src, .int .i64 f.sport, .int .u32 f.dst, .int .i64 f.dport] 32) (by kernel_rfl) rfl rfl rfl rfl rfl (fun _ => by kernel_rfl) (fun g256 w257 hb260 hl261 hF258 ho262 => ?_)
                  have hC259 := hC200.callB hF258 hb260 ho262
                  have hS263 := hS208.trans hF258 (by simp)
                  refine ⟨hS263, ?_⟩
                  have hf264 := tbAt_fr hT201 hF258 (by simp)
                  have ho265 := own_fr ho206 hF258 (by simp)
                  have hx266 := Expire1_ct p33 b34 (idT2 f flags now) ((now + 5) + 1) w257 hf264 (idT2_bd f flags now).1 (idT2_bd f flags now).2 (by simp [idT2]) (by simp only [idT2, List.mem_singleton]; rintro _ rfl; simp only [idE]; omega)
                  rw [show outF2 (idT2 f flags now) ((now + 5) + 1) = (([f] : List Flow), (idT3 f flags now)) from by have q_ := id_out2 (f := f) (flags := flags) hnow0 hnow1; rw [hlim_] at q_; exact q_] at hx266
                  refine WD.call 13 (by kernel_rfl) rfl rfl rfl rfl rfl (by kernel_rfl) hx266 ?_
                  rintro _ w268 ⟨v_, rfl, hF267, hT270, ho271⟩
                  have hC269 := hC259.callFN 0 rfl hF267 (fun _ hx_ => .inl hx_) (tbAt_lt hT270) (own_ge ho271) (own_lt ho271) (fun x_ hx_ hg_ => Nat.not_lt.2 (own_ge ho271 x_ hg_) (hC259.ltF 0 rfl x_ hx_))
                  obtain ⟨A272, c273, rfl, hle274⟩ := own_form ho271
                  have ho275 := own_base (b' := 0) ho271 (fun _ _ => Nat.zero_le _)
                  have hS277 := hS263.trans hF267 (by simp)
                  refine ⟨_, rfl, hS277, ?_⟩
                  have ho278 := own_fr ho265 hF267 (hC259.disj 1 0 rfl rfl (by decide))
                  refine WD.call 16 (by kernel_rfl) rfl rfl rfl rfl rfl (by kernel_rfl) (SameF_ct A272 c273 ([f] : List Flow) (some ⟨g256, 0, none⟩) 1 [f] w268 (own_rd ho275 cellsF_len (by decide)) (Rd.blk (xs := [f]) (hC269.get 1 rfl) cellsF_len rfl) (by simp)) ?_
                  rintro _ w281 ⟨rfl, hF280⟩
                  have hS283 := hS277.trans hF280 (by simp)
                  refine ⟨_, rfl, hS283, ?_⟩
                  have hC282 := hC269.call hF280
                  have hf284 := tbAt_fr hT270 hF280 (by simp)
                  have ho285 := own_fr ho278 hF280 (by simp)
                  have ho286 := own_fr ho275 hF280 (by simp)
                  refine WD.pure (NoPanic.then hN) 17 81 (.bool (decide (([f] : List Flow) = [f]))) (by kernel_rfl) (fun _ => by kernel_rfl) hS283 ?_
                  refine WD.pure (NoPanic.then hN) 18 82 (.bool (decide (([f] : List Flow) = [f]))) (by kernel_rfl) (fun _ => by kernel_rfl) hS283 ?_
                  refine WD.know 82 (.bool (decide (([f] : List Flow) = [f]))) (.bool true) rfl (congrArg Value.bool (by simp)) ?_
                  refine WD.pure (NoPanic.then hN) 19 83 (.pointer (some ⟨p33, 0, none⟩)) (by kernel_rfl) (fun _ => by kernel_rfl) hS283 ?_
                  refine WD.call 20 (by kernel_rfl) rfl rfl rfl rfl rfl (by kernel_rfl) (All1_ct p33 b34 (idT3 f flags now) w281 hf284 (by rw [idT3_m]; exact Nat.zero_le _)) ?_
                  rintro _ w289 ⟨v_, rfl, hF288, ho287⟩
                  have hC290 := hC282.callN hF288 (own_ge ho287) (own_lt ho287)
                  obtain ⟨A291, c292, rfl, hle293⟩ := own_form ho287
                  have ho295 := own_base (b' := 0) ho287 (fun _ _ => Nat.zero_le _)
                  have hS296 := hS283.trans hF288 (by simp)
                  refine ⟨_, rfl, hS296, ?_⟩
                  have hf297 := tbAt_fr hf284 hF288 (by simp)
                  have ho298 := own_fr ho285 hF288 (by simp)
                  have ho299 := own_fr ho286 hF288 (by simp)
                  refine WD.pure (NoPanic.then hN) 21 85 (.int .i64 ((entsOf (idT3 f flags now).m).length : Int)) (by kernel_rfl) (fun _ => by kernel_rfl) hS296 ?_
                  refine WD.pure (NoPanic.then hN) 22 86 (.bool (((entsOf (idT3 f flags now).m).length : Int) == 0)) (by kernel_rfl) (fun _ => by kernel_rfl) hS296 ?_
                  refine WD.pure (NoPanic.then hN) 23 87 (.bool (((entsOf (idT3 f flags now).m).length : Int) == 0)) (by kernel_rfl) (fun _ => by kernel_rfl) hS296 ?_
                  refine WD.pure (NoPanic.then hN) 24 6 (.bool (((entsOf (idT3 f flags now).m).length : Int) == 0)) (by kernel_rfl) (fun _ => by kernel_rfl) hS296 ?_
                  refine WD.done (by kernel_rfl) ?_
                  refine QX.then_normal (hK191 _ _ ?_)
                  refine WC.ret ?_
                  refine (hret _ _ _ rfl ?_).1
                  clear hN hret hret' hK191 hK76 hK74 hK70 hK68 hK66 hK59 hK57 hK46 hK44 hK42 hK32 hK18 hK16 hK11 hK9 hK2
                  exact ⟨congrArg (fun b_ => Ending.returned (Value.bool b_)) (show ((((entsOf (idT3 f flags now).m).length : Int) == 0)) = true from by rw [idT3_m]; rfl), hC290.fr⟩
              · -- (Go.bits .and .i64 flags 4) = 4: false
                have t189 : ¬ ((Go.bits .and .i64 flags 4) = 4) := by simpa using t189b
                refine WC.cond_false rfl ?_
                refine WC.skip ?_
                refine QX.then_normal (hK74 _ _ ?_)
                refine WC.seq (fun K301 hK302 => ?_)
                have hlim_ : limOf (idE f flags now) = 10 := by rw [lim_code]; simp [t189, t189b, t22, t22b, t25, t25b, t28, t28b, t71, t71b, t72, t72b, t77, t77b]
                refine WC.drawC hC63 [p33, b34] (by kernel_rfl) (fun w303 hF304 hC305 hS306 => ?_)
                have hf307 := tbAt_fr hT64 hF304 (by simp)
                refine WD.pure (NoPanic.then hN) 0 64 (.pointer (some ⟨p33, 0, none⟩)) (by kernel_rfl) (fun _ => by kernel_rfl) hS306 ?_
                refine WD.pure (NoPanic.then hN) 1 65 (.int .i64 now) (by kernel_rfl) (fun _ => by kernel_rfl) hS306 ?_
                refine WD.pure (NoPanic.then hN) 2 66 (.int .i64 10) (by kernel_rfl) (fun _ => by kernel_rfl) hS306 ?_
                refine WD.pure (NoPanic.then hN) 3 67 (.int .i64 (IntKind.i64.wrap (now + 10))) (by kernel_rfl) (fun _ => by kernel_rfl) hS306 ?_
                refine WD.recast (show (.int .i64 (IntKind.i64.wrap (now + 10)) : Value) = .int .i64 (now + 10) from by rw [wrap_in_i64 (now + 10) (by omega) (by omega)]) ?_
                have hx308 := Expire1_ct p33 b34 (idT2 f flags now) (now + 10) w303 hf307 (idT2_bd f flags now).1 (idT2_bd f flags now).2 (by simp [idT2]) (by simp only [idT2, List.mem_singleton]; rintro _ rfl; simp only [idE]; omega)
                rw [show outF2 (idT2 f flags now) (now + 10) = (([] : List Flow), (idT2 f flags now)) from by have q_ := id_out1 (f := f) (flags := flags) hnow0 hnow1; rw [hlim_] at q_; exact q_] at hx308
                refine WD.call 4 (by kernel_rfl) rfl rfl rfl rfl rfl (by kernel_rfl) hx308 ?_
                rintro _ w310 ⟨v_, rfl, hF309, hT312, ho313⟩
                have hC311 := hC305.callFN 0 rfl hF309 (fun _ hx_ => .inl hx_) (tbAt_lt hT312) (own_ge ho313) (own_lt ho313) (fun x_ hx_ hg_ => Nat.not_lt.2 (own_ge ho313 x_ hg_) (hC305.ltF 0 rfl x_ hx_))
                obtain ⟨A314, c315, rfl, hle316⟩ := own_form ho313
                have ho317 := own_base (b' := 0) ho313 (fun _ _ => Nat.zero_le _)
                have hS319 := hS306.trans hF309 (by simp)
                refine ⟨_, rfl, hS319, ?_⟩
                refine WD.pure (NoPanic.then hN) 5 69 (.int .i64 (([] : List Flow).length : Int)) (by kernel_rfl) (fun _ => by kernel_rfl) hS319 ?_
                refine WD.pure (NoPanic.then hN) 6 70 (.bool ((([] : List Flow).length : Int) == 0)) (by kernel_rfl) (fun _ => by kernel_rfl) hS319 ?_
                refine WD.pure (NoPanic.then hN) 7 71 (.bool ((([] : List Flow).length : Int) == 0)) (by kernel_rfl) (fun _ => by kernel_rfl) hS319 ?_
                refine WD.know 71 (.bool ((([] : List Flow).length : Int) == 0)) (.bool true) rfl (congrArg Value.bool (by rfl)) ?_
                refine WD.pure (NoPanic.then hN) 8 72 (.pointer (some ⟨p33, 0, none⟩)) (by kernel_rfl) (fun _ => by kernel_rfl) hS319 ?_
                refine WD.pure (NoPanic.then hN) 9 73 (.int .i64 now) (by kernel_rfl) (fun _ => by kernel_rfl) hS319 ?_
                refine WD.pure (NoPanic.then hN) 10 74 (.int .i64 10) (by kernel_rfl) (fun _ => by kernel_rfl) hS319 ?_
                refine WD.pure (NoPanic.then hN) 11 75 (.int .i64 (IntKind.i64.wrap (now + 10))) (by kernel_rfl) (fun _ => by kernel_rfl) hS319 ?_
                refine WD.recast (show (.int .i64 (IntKind.i64.wrap (now + 10)) : Value) = .int .i64 (now + 10) from by rw [wrap_in_i64 (now + 10) (by omega) (by omega)]) ?_
                refine WD.pure (NoPanic.then hN) 12 76 (.int .i64 (IntKind.i64.wrap ((now + 10) + 1))) (by kernel_rfl) (fun _ => by kernel_rfl) hS319 ?_
                refine WD.recast (show (.int .i64 (IntKind.i64.wrap ((now + 10) + 1)) : Value) = .int .i64 ((now + 10) + 1) from by rw [wrap_in_i64 ((now + 10) + 1) (by omega) (by omega)]) ?_
                refine WD.load (NoPanic.then hN) 14 32 (.pointer (some ⟨g3, 0, none⟩)) (.agg #[.int .i64 f.proto, .int .u32 f.src, .int .i64 f.sport, .int .u32 f.dst, .int .i64 f.dport]) 78 (by kernel_rfl) (by kernel_rfl) (fun _ hS_ => run_ld (Fr.has hS_ (hC305.get 0 rfl) (hC305.notin 0 0 rfl rfl)) rfl) hS319 ?_
                refine WD.all2 13 15 (by kernel_rfl) ?_ ?_
                · -- operation 13 comes first
                  have hx321 := Expire1_ct p33 b34 (idT2 f flags now) ((now + 10) + 1) w310 hT312 (idT2_bd f flags now).1 (idT2_bd f flags now).2 (by simp [idT2]) (by simp only [idT2, List.mem_singleton]; rintro _ rfl; simp only [idE]; omega)
                  rw [show outF2 (idT2 f flags now) ((now + 10) + 1) = (([f] : List Flow), (idT3 f flags now)) from by have q_ := id_out2 (f := f) (flags := flags) hnow0 hnow1; rw [hlim_] at q_; exact q_] at hx321
                  refine WO.call 13 (by kernel_rfl) rfl rfl rfl rfl rfl (by kernel_rfl) hx321 ?_
                  rintro _ w323 ⟨v_, rfl, hF322, hT325, ho326⟩
                  have hC324 := hC311.callFN 0 rfl hF322 (fun _ hx_ => .inl hx_) (tbAt_lt hT325) (own_ge ho326) (own_lt ho326) (fun x_ hx_ hg_ => Nat.not_lt.2 (own_ge ho326 x_ hg_) (hC311.ltF 0 rfl x_ hx_))
                  obtain ⟨A327, c328, rfl, hle329⟩ := own_form ho326
                  have ho330 := own_base (b' := 0) ho326 (fun _ _ => Nat.zero_le _)
                  have hS332 := hS319.trans hF322 (by simp)
                  refine ⟨_, rfl, hS332, ?_⟩
                  have ho333 := own_fr ho317 hF322 (hC311.disj 1 0 rfl rfl (by decide))
                  refine WD.new 15 (fun b => .slice (some ⟨b, 0, none⟩) 1 1) (.cells #[.int .i64 f.proto, .int .u32 f.src, .int .i64 f.sport, .int .u32 f.dst, .int .i64 f.dport] 32) (by kernel_rfl) rfl rfl rfl rfl rfl (fun _ => by kernel_rfl) (fun g335 w336 hb339 hl340 hF337 ho341 => ?_)
                  have hC338 := hC324.callB hF337 hb339 ho341
                  have hS342 := hS332.trans hF337 (by simp)
                  refine ⟨hS342, ?_⟩
                  have hf343 := tbAt_fr hT325 hF337 (by simp)
                  have ho344 := own_fr ho333 hF337 (by simp)
                  have ho345 := own_fr ho330 hF337 (by simp)
                  refine WD.call 16 (by kernel_rfl) rfl rfl rfl rfl rfl (by kernel_rfl) (SameF_ct A327 c328 ([f] : List Flow) (some ⟨g335, 0, none⟩) 1 [f] w336 (own_rd ho345 cellsF_len (by decide)) (Rd.blk (xs := [f]) (hC338.get 1 rfl) cellsF_len rfl) (by simp)) ?_
                  rintro _ w347 ⟨rfl, hF346⟩
                  have hS349 := hS342.trans hF346 (by simp)
                  refine ⟨_, rfl, hS349, ?_⟩
                  have hC348 := hC338.call hF346
                  have hf350 := tbAt_fr hf343 hF346 (by simp)
                  have ho351 := own_fr ho344 hF346 (by simp)
                  have ho352 := own_fr ho345 hF346 (by simp)
                  refine WD.pure (NoPanic.then hN) 17 81 (.bool (decide (([f] : List Flow) = [f]))) (by kernel_rfl) (fun _ => by kernel_rfl) hS349 ?_
                  refine WD.pure (NoPanic.then hN) 18 82 (.bool (decide (([f] : List Flow) = [f]))) (by kernel_rfl) (fun _ => by kernel_rfl) hS349 ?_
                  refine WD.know 82 (.bool (decide (([f] : List Flow) = [f]))) (.bool true) rfl (congrArg Value.bool (by simp)) ?_
                  refine WD.pure (NoPanic.then hN) 19 83 (.pointer (some ⟨p33, 0, none⟩)) (by kernel_rfl) (fun _ => by kernel_rfl) hS349 ?_
                  refine WD.call 20 (by kernel_rfl) rfl rfl rfl rfl rfl (by kernel_rfl) (All1_ct p33 b34 (idT3 f flags now) w347 hf350 (by rw [idT3_m]; exact Nat.zero_le _)) ?_
                  rintro _ w355 ⟨v_, rfl, hF354, ho353⟩
                  have hC356 := hC348.callN hF354 (own_ge ho353) (own_lt ho353)
                  obtain ⟨A357, c358, rfl, hle359⟩ := own_form ho353
                  have ho361 := own_base (b' := 0) ho353 (fun _ _ => Nat.zero_le _)
                  have hS362 := hS349.trans hF354 (by simp)
                  refine ⟨_, rfl, hS362, ?_⟩
                  have hf363 := tbAt_fr hf350 hF354 (by simp)
                  have ho364 := own_fr ho351 hF354 (by simp)
                  have ho365 := own_fr ho352 hF354 (by simp)
                  refine WD.pure (NoPanic.then hN) 21 85 (.int .i64 ((entsOf (idT3 f flags now).m).length : Int)) (by kernel_rfl) (fun _ => by kernel_rfl) hS362 ?_
                  refine WD.pure (NoPanic.then hN) 22 86 (.bool (((entsOf (idT3 f flags now).m).length : Int) == 0)) (by kernel_rfl) (fun _ => by kernel_rfl) hS362 ?_
                  refine WD.pure (NoPanic.then hN) 23 87 (.bool (((entsOf (idT3 f flags now).m).length : Int) == 0)) (by kernel_rfl) (fun _ => by kernel_rfl) hS362 ?_
                  refine WD.pure (NoPanic.then hN) 24 6 (.bool (((entsOf (idT3 f flags now).m).length : Int) == 0)) (by kernel_rfl) (fun _ => by kernel_rfl) hS362 ?_
                  refine WD.done (by kernel_rfl) ?_
                  refine QX.then_normal (hK302 _ _ ?_)
                  refine WC.ret ?_
                  refine (hret _ _ _ rfl ?_).1
                  clear hN hret hret' hK302 hK76 hK74 hK70 hK68 hK66 hK59 hK57 hK46 hK44 hK42 hK32 hK18 hK16 hK11 hK9 hK2
                  exact ⟨congrArg (fun b_ => Ending.returned (Value.bool b_)) (show ((((entsOf (idT3 f flags now).m).length : Int) == 0)) = true from by rw [idT3_m]; rfl), hC356.fr⟩
                · -- operation 15 comes first
                  refine WO.new 15 (fun b => .slice (some ⟨b, 0, none⟩) 1 1) (.cells #[.int .i64 f.proto, .int .u32 f.src, .int .i64 f.sport, .int .u32 f.dst, .int .i64 f.dport] 32) (by kernel_rfl) rfl rfl rfl rfl rfl (fun _ => by kernel_rfl) (fun g367 w368 hb371 hl372 hF369 ho373 => ?_)
                  have hC370 := hC311.callB hF369 hb371 ho373
                  have hS374 := hS319.trans hF369 (by simp)
                  refine ⟨hS374, ?_⟩
                  have hf375 := tbAt_fr hT312 hF369 (by simp)
                  have ho376 := own_fr ho317 hF369 (by simp)
                  have hx377 := Expire1_ct p33 b34 (idT2 f flags now) ((now + 10) + 1) w368 hf375 (idT2_bd f flags now).1 (idT2_bd f flags now).2 (by simp [idT2]) (by simp only [idT2, List.mem_singleton]; rintro _ rfl; simp only [idE]; omega)
                  rw [show outF2 (idT2 f flags now) ((now + 10) + 1) = (([f] : List Flow), (idT3 f flags now)) from by have q_ := id_out2 (f := f) (flags := flags) hnow0 hnow1; rw [hlim_] at q_; exact q_] at hx377
                  refine WD.call 13 (by kernel_rfl) rfl rfl rfl rfl rfl (by kernel_rfl) hx377 ?_
                  rintro _ w379 ⟨v_, rfl, hF378, hT381, ho382⟩
                  have hC380 := hC370.callFN 0 rfl hF378 (fun _ hx_ => .inl hx_) (tbAt_lt hT381) (own_ge ho382) (own_lt ho382) (fun x_ hx_ hg_ => Nat.not_lt.2 (own_ge ho382 x_ hg_) (hC370.ltF 0 rfl x_ hx_))
                  obtain ⟨A383, c384, rfl, hle385⟩ := own_form ho382
                  have ho386 := own_base (b' := 0) ho382 (fun _ _ => Nat.zero_le _)
                  have hS388 := hS374.trans hF378 (by simp)
                  refine ⟨_, rfl, hS388, ?_⟩
                  have ho389 := own_fr ho376 hF378 (hC370.disj 1 0 rfl rfl (by decide))
                  refine WD.call 16 (by kernel_rfl) rfl rfl rfl rfl rfl (by kernel_rfl) (SameF_ct A383 c384 ([f] : List Flow) (some ⟨g367, 0, none⟩) 1 [f] w379 (own_rd ho386 cellsF_len (by decide)) (Rd.blk (xs := [f]) (hC380.get 1 rfl) cellsF_len rfl) (by simp)) ?_
                  rintro _ w392 ⟨rfl, hF391⟩
                  have hS394 := hS388.trans hF391 (by simp)
                  refine ⟨_, rfl, hS394, ?_⟩
                  have hC393 := hC380.call hF391
                  have hf395 := tbAt_fr hT381 hF391 (by simp)
                  have ho396 := own_fr ho389 hF391 (by simp)
                  have ho397 := own_fr ho386 hF391 (by simp)
                  refine WD.pure (NoPanic.then hN) 17 81 (.bool (decide (([f] : List Flow) = [f]))) (by kernel_rfl) (fun _ => by kernel_rfl) hS394 ?_
                  refine WD.pure (NoPanic.then hN) 18 82 (.bool (decide (([f] : List Flow) = [f]))) (by kernel_rfl) (fun _ => by kernel_rfl) hS394 ?_
                  refine WD.know 82 (.bool (decide (([f] : List Flow) = [f]))) (.bool true) rfl (congrArg Value.bool (by simp)) ?_
                  refine WD.pure (NoPanic.then hN) 19 83 (.pointer (some ⟨p33, 0, none⟩)) (by kernel_rfl) (fun _ => by kernel_rfl) hS394 ?_
                  refine WD.call 20 (by kernel_rfl) rfl rfl rfl rfl rfl (by kernel_rfl) (All1_ct p33 b34 (idT3 f flags now) w392 hf395 (by rw [idT3_m]; exact Nat.zero_le _)) ?_
                  rintro _ w400 ⟨v_, rfl, hF399, ho398⟩
                  have hC401 := hC393.callN hF399 (own_ge ho398) (own_lt ho398)
                  obtain ⟨A402, c403, rfl, hle404⟩ := own_form ho398
                  have ho406 := own_base (b' := 0) ho398 (fun _ _ => Nat.zero_le _)
                  have hS407 := hS394.trans hF399 (by simp)
                  refine ⟨_, rfl, hS407, ?_⟩
                  have hf408 := tbAt_fr hf395 hF399 (by simp)
                  have ho409 := own_fr ho396 hF399 (by simp)
                  have ho410 := own_fr ho397 hF399 (by simp)
                  refine WD.pure (NoPanic.then hN) 21 85 (.int .i64 ((entsOf (idT3 f flags now).m).length : Int)) (by kernel_rfl) (fun _ => by kernel_rfl) hS407 ?_
                  refine WD.pure (NoPanic.then hN) 22 86 (.bool (((entsOf (idT3 f flags now).m).length : Int) == 0)) (by kernel_rfl) (fun _ => by kernel_rfl) hS407 ?_
                  refine WD.pure (NoPanic.then hN) 23 87 (.bool (((entsOf (idT3 f flags now).m).length : Int) == 0)) (by kernel_rfl) (fun _ => by kernel_rfl) hS407 ?_
                  refine WD.pure (NoPanic.then hN) 24 6 (.bool (((entsOf (idT3 f flags now).m).length : Int) == 0)) (by kernel_rfl) (fun _ => by kernel_rfl) hS407 ?_
                  refine WD.done (by kernel_rfl) ?_
                  refine QX.then_normal (hK302 _ _ ?_)
                  refine WC.ret ?_
                  refine (hret _ _ _ rfl ?_).1
                  clear hN hret hret' hK302 hK76 hK74 hK70 hK68 hK66 hK59 hK57 hK46 hK44 hK42 hK32 hK18 hK16 hK11 hK9 hK2
                  exact ⟨congrArg (fun b_ => Ending.returned (Value.bool b_)) (show ((((entsOf (idT3 f flags now).m).length : Int) == 0)) = true from by rw [idT3_m]; rfl), hC401.fr⟩
          · -- (Go.bits .and .i64 flags 2) = 2: false
            have t72 : ¬ ((Go.bits .and .i64 flags 2) = 2) := by simpa using t72b
            refine WC.cond_false rfl ?_
            refine WC.skip ?_
            refine QX.then_normal (hK68 _ _ ?_)
            refine WC.seq (fun K412 hK413 => ?_)
            refine WC.seq (fun K414 hK415 => ?_)
            refine WC.region ?_
            refine WL.runs 1 [(51, .pointer (some ⟨g3, 0, none⟩))] (fun _ => by kernel_rfl) ?_
            refine WL.load 3 (.pointer (some ⟨g3, 0, none⟩)) (.int .i64 f.proto) 52 (by kernel_rfl) (run_ld (hC63.get 0 rfl) rfl) ?_
            refine WL.runs 2 [(54, .bool (f.proto == 6)), (53, .bool (f.proto == 6))] (fun _ => by kernel_rfl) ?_
            refine WL.know 54 (.bool (f.proto == 6)) (.bool true) rfl (congrArg Value.bool (by exact t71b)) ?_
            refine WL.runs 4 [(58, .bool ((Go.bits .and .i64 flags 1) == 1)), (57, .bool ((Go.bits .and .i64 flags 1) == 1)), (56, .int .i64 (Go.bits .and .i64 flags 1)), (55, .int .i64 flags)] (fun _ => by kernel_rfl) ?_
            refine WL.test_at 58 ((Go.bits .and .i64 flags 1) == 1) rfl (fun t416b => ?_) (fun t416b => ?_)
            · -- (Go.bits .and .i64 flags 1) = 1: true
              have t416 : (Go.bits .and .i64 flags 1) = 1 := by simpa using t416b
              refine WL.runs 5 [(63, .bool true), (62, .bool true), (61, undef), (60, undef), (59, undef)] (fun _ => by kernel_rfl) ?_
              refine WL.done rfl ?_
              refine QX.then_normal (hK415 _ _ ?_)
              refine WC.cond_true rfl ?_
              refine WC.region ?_
              refine WL.runs 1 [(9, .int .i64 5)] (fun _ => by kernel_rfl) ?_
              refine WL.done rfl ?_
              refine QX.then_normal (hK413 _ _ ?_)
              refine WC.seq (fun K417 hK418 => ?_)
              have hlim_ : limOf (idE f flags now) = 5 := by rw [lim_code]; simp [t22, t22b, t25, t25b, t28, t28b, t416, t416b, t71, t71b, t72, t72b]
              refine WC.drawC hC63 [p33, b34] (by kernel_rfl) (fun w419 hF420 hC421 hS422 => ?_)
              have hf423 := tbAt_fr hT64 hF420 (by simp)
              refine WD.pure (NoPanic.then hN) 0 64 (.pointer (some ⟨p33, 0, none⟩)) (by kernel_rfl) (fun _ => by kernel_rfl) hS422 ?_
              refine WD.pure (NoPanic.then hN) 1 65 (.int .i64 now) (by kernel_rfl) (fun _ => by kernel_rfl) hS422 ?_
              refine WD.pure (NoPanic.then hN) 2 66 (.int .i64 5) (by kernel_rfl) (fun _ => by kernel_rfl) hS422 ?_
              refine WD.pure (NoPanic.then hN) 3 67 (.int .i64 (IntKind.i64.wrap (now + 5))) (by kernel_rfl) (fun _ => by kernel_rfl) hS422 ?_
              refine WD.recast (show (.int .i64 (IntKind.i64.wrap (now + 5)) : Value) = .int .i64 (now + 5) from by rw [wrap_in_i64 (now + 5) (by omega) (by omega)]) ?_
              have hx424 := Expire1_ct p33 b34 (idT2 f flags now) (now + 5) w419 hf423 (idT2_bd f flags now).1 (idT2_bd f flags now).2 (by simp [idT2]) (by simp only [idT2, List.mem_singleton]; rintro _ rfl; simp only [idE]; omega)
              rw [show outF2 (idT2 f flags now) (now + 5) = (([] : List Flow), (idT2 f flags now)) from by have q_ := id_out1 (f := f) (flags := flags) hnow0 hnow1; rw [hlim_] at q_; exact q_] at hx424
              refine WD.call 4 (by kernel_rfl) rfl rfl rfl rfl rfl (by kernel_rfl) hx424 ?_
              rintro _ w426 ⟨v_, rfl, hF425, hT428, ho429⟩
              have hC427 := hC421.callFN 0 rfl hF425 (fun _ hx_ => .inl hx_) (tbAt_lt hT428) (own_ge ho429) (own_lt ho429) (fun x_ hx_ hg_ => Nat.not_lt.2 (own_ge ho429 x_ hg_) (hC421.ltF 0 rfl x_ hx_))
              obtain ⟨A430, c431, rfl, hle432⟩ := own_form ho429
              have ho433 := own_base (b' := 0) ho429 (fun _ _ => Nat.zero_le _)
              have hS435 := hS422.trans hF425 (by simp)
              refine ⟨_, rfl, hS435, ?_⟩
              refine WD.pure (NoPanic.then hN) 5 69 (.int .i64 (([] : List Flow).length : Int)) (by kernel_rfl) (fun _ => by kernel_rfl) hS435 ?_
              refine WD.pure (NoPanic.then hN) 6 70 (.bool ((([] : List Flow).length : Int) == 0)) (by kernel_rfl) (fun _ => by kernel_rfl) hS435 ?_
              refine WD.pure (NoPanic.then hN) 7 71 (.bool ((([] : List Flow).length : Int) == 0)) (by kernel_rfl) (fun _ => by kernel_rfl) hS435 ?_
              refine WD.know 71 (.bool ((([] : List Flow).length : Int) == 0)) (.bool true) rfl (congrArg Value.bool (by rfl)) ?_
              refine WD.pure (NoPanic.then hN) 8 72 (.pointer (some ⟨p33, 0, none⟩)) (by kernel_rfl) (fun _ => by kernel_rfl) hS435 ?_
              refine WD.pure (NoPanic.then hN) 9 73 (.int .i64 now) (by kernel_rfl) (fun _ => by kernel_rfl) hS435 ?_
              refine WD.pure (NoPanic.then hN) 10 74 (.int .i64 5) (by kernel_rfl) (fun _ => by kernel_rfl) hS435 ?_
              refine WD.pure (NoPanic.then hN) 11 75 (.int .i64 (IntKind.i64.wrap (now + 5))) (by kernel_rfl) (fun _ => by kernel_rfl) hS435 ?_
              refine WD.recast (show (.int .i64 (IntKind.i64.wrap (now + 5)) : Value) = .int .i64 (now + 5) from by rw [wrap_in_i64 (now + 5) (by omega) (by omega)]) ?_
              refine WD.pure (NoPanic.then hN) 12 76 (.int .i64 (IntKind.i64.wrap ((now + 5) + 1))) (by kernel_rfl) (fun _ => by kernel_rfl) hS435 ?_
              refine WD.recast (show (.int .i64 (IntKind.i64.wrap ((now + 5) + 1)) : Value) = .int .i64 ((now + 5) + 1) from by rw [wrap_in_i64 ((now + 5) + 1) (by omega) (by omega)]) ?_
              refine WD.load (NoPanic.then hN) 14 32 (.pointer (some ⟨g3, 0, none⟩)) (.agg #[.int .i64 f.proto, .int .u32 f.src, .int .i64 f.sport, .int .u32 f.dst, .int .i64 f.dport]) 78 (by kernel_rfl) (by kernel_rfl) (fun _ hS_ => run_ld (Fr.has hS_ (hC421.get 0 rfl) (hC421.notin 0 0 rfl rfl)) rfl) hS435 ?_
              refine WD.all2 13 15 (by kernel_rfl) ?_ ?_
              · -- operation 13 comes first
                have hx437 := Expire1_ct p33 b34 (idT2 f flags now) ((now + 5) + 1) w426 hT428 (idT2_bd f flags now).1 (idT2_bd f flags now).2 (by simp [idT2]) (by simp only [idT2, List.mem_singleton]; rintro _ rfl; simp only [idE]; omega)
                rw [show outF2 (idT2 f flags now) ((now + 5) + 1) = (([f] : List Flow), (idT3 f flags now)) from by have q_ := id_out2 (f := f) (flags := flags) hnow0 hnow1; rw [hlim_] at q_; exact q_] at hx437
                refine WO.call 13 (by kernel_rfl) rfl rfl rfl rfl rfl (by kernel_rfl) hx437 ?_
                rintro _ w439 ⟨v_, rfl, hF438, hT441, ho442⟩
                have hC440 := hC427.callFN 0 rfl hF438 (fun _ hx_ => .inl hx_) (tbAt_lt hT441) (own_ge ho442) (own_lt ho442) (fun x_ hx_ hg_ => Nat.not_lt.2 (own_ge ho442 x_ hg_) (hC427.ltF 0 rfl x_ hx_))
                obtain ⟨A443, c444, rfl, hle445⟩ := own_form ho442
                have ho446 := own_base (b' := 0) ho442 (fun _ _ => Nat.zero_le _)
                have hS448 := hS435.trans hF438 (by simp)
                refine ⟨_, rfl, hS448, ?_⟩
                have ho449 := own_fr ho433 hF438 (hC427.disj 1 0 rfl rfl (by decide))
                refine WD.new 15 (fun b => .slice (some ⟨b, 0, none⟩) 1 1) (.cells #[.int .i64 f.proto, .int .u32 f.src, .int .i64 f.sport, .int .u32 f.dst, .int .i64 f.dport] 32) (by kernel_rfl) rfl rfl rfl rfl rfl (fun _ => by kernel_rfl) (fun g451 w452 hb455 hl456 hF453 ho457 => ?_)
                have hC454 := hC440.callB hF453 hb455 ho457
                have hS458 := hS448.trans hF453 (by simp)
                refine ⟨hS458, ?_⟩
                have hf459 := tbAt_fr hT441 hF453 (by simp)
                have ho460 := own_fr ho449 hF453 (by simp)
                have ho461 := own_fr ho446 hF453 (by simp)
                refine WD.call 16 (by kernel_rfl) rfl rfl rfl rfl rfl (by kernel_rfl) (SameF_ct A443 c444 ([f] : List Flow) (some ⟨g451, 0, none⟩) 1 [f] w452 (own_rd ho461 cellsF_len (by decide)) (Rd.blk (xs := [f]) (hC454.get 1 rfl) cellsF_len rfl) (by simp)) ?_
                rintro _ w463 ⟨rfl, hF462⟩
                have hS465 := hS458.trans hF462 (by simp)
                refine ⟨_, rfl, hS465, ?_⟩
                have hC464 := hC454.call hF462
                have hf466 := tbAt_fr hf459 hF462 (by simp)
                have ho467 := own_fr ho460 hF462 (by simp)
                have ho468 := own_fr ho461 hF462 (by simp)
                refine WD.pure (NoPanic.then hN) 17 81 (.bool (decide (([f] : List Flow) = [f]))) (by kernel_rfl) (fun _ => by kernel_rfl) hS465 ?_
                refine WD.pure (NoPanic.then hN) 18 82 (.bool (decide (([f] : List Flow) = [f]))) (by kernel_rfl) (fun _ => by kernel_rfl) hS465 ?_
                refine WD.know 82 (.bool (decide (([f] : List Flow) = [f]))) (.bool true) rfl (congrArg Value.bool (by simp)) ?_
                refine WD.pure (NoPanic.then hN) 19 83 (.pointer (some ⟨p33, 0, none⟩)) (by kernel_rfl) (fun _ => by kernel_rfl) hS465 ?_
                refine WD.call 20 (by kernel_rfl) rfl rfl rfl rfl rfl (by kernel_rfl) (All1_ct p33 b34 (idT3 f flags now) w463 hf466 (by rw [idT3_m]; exact Nat.zero_le _)) ?_
                rintro _ w471 ⟨v_, rfl, hF470, ho469⟩
                have hC472 := hC464.callN hF470 (own_ge ho469) (own_lt ho469)
                obtain ⟨A473, c474, rfl, hle475⟩ := own_form ho469
                have ho477 := own_base (b' := 0) ho469 (fun _ _ => Nat.zero_le _)
                have hS478 := hS465.trans hF470 (by simp)
                refine ⟨_, rfl, hS478, ?_⟩
                have hf479 := tbAt_fr hf466 hF470 (by simp)
                have ho480 := own_fr ho467 hF470 (by simp)
                have ho481 := own_fr ho468 hF470 (by simp)
                refine WD.pure (NoPanic.then hN) 21 85 (.int .i64 ((entsOf (idT3 f flags now).m).length : Int)) (by kernel_rfl) (fun _ => by kernel_rfl) hS478 ?_
                refine WD.pure (NoPanic.then hN) 22 86 (.bool (((entsOf (idT3 f flags now).m).length : Int) == 0)) (by kernel_rfl) (fun _ => by kernel_rfl) hS478 ?_
                refine WD.pure (NoPanic.then hN) 23 87 (.bool (((entsOf (idT3 f flags now).m).length : Int) == 0)) (by kernel_rfl) (fun _ => by kernel_rfl) hS478 ?_
                refine WD.pure (NoPanic.then hN) 24 6 (.bool (((entsOf (idT3 f flags now).m).length : Int) == 0)) (by kernel_rfl) (fun _ => by kernel_rfl) hS478 ?_
                refine WD.done (by kernel_rfl) ?_
                refine QX.then_normal (hK418 _ _ ?_)
                refine WC.ret ?_
                refine (hret _ _ _ rfl ?_).1
                clear hN hret hret' hK418 hK415 hK413 hK70 hK68 hK66 hK59 hK57 hK46 hK44 hK42 hK32 hK18 hK16 hK11 hK9 hK2
                exact ⟨congrArg (fun b_ => Ending.returned (Value.bool b_)) (show ((((entsOf (idT3 f flags now).m).length : Int) == 0)) = true from by rw [idT3_m]; rfl), hC472.fr⟩
              · -- operation 15 comes first
                refine WO.new 15 (fun b => .slice (some ⟨b, 0, none⟩) 1 1) (.cells #[.int .i64 f.proto, .int .u32 f.src, .int .i64 f.sport, .int .u32 f.dst, .int .i64 f.dport] 32) (by kernel_rfl) rfl rfl rfl rfl rfl (fun _ => by kernel_rfl) (fun g483 w484 hb487 hl488 hF485 ho489 => ?_)
                have hC486 := hC427.callB hF485 hb487 ho489
                have hS490 := hS435.trans hF485 (by simp)
                refine ⟨hS490, ?_⟩
                have hf491 := tbAt_fr hT428 hF485 (by simp)
                have ho492 := own_fr ho433 hF485 (by simp)
                have hx493 := Expire1_ct p33 b34 (idT2 f flags now) ((now + 5) + 1) w484 hf491 (idT2_bd f flags now).1 (idT2_bd f flags now).2 (by simp [idT2]) (by simp only [idT2, List.mem_singleton]; rintro _ rfl; simp only [idE]; omega)
                rw [show outF2 (idT2 f flags now) ((now + 5) + 1) = (([f] : List Flow), (idT3 f flags now)) from by have q_ := id_out2 (f := f) (flags := flags) hnow0 hnow1; rw [hlim_] at q_; exact q_] at hx493
                refine WD.call 13 (by kernel_rfl) rfl rfl rfl rfl rfl (by kernel_rfl) hx493 ?_
                rintro _ w495 ⟨v_, rfl, hF494, hT497, ho498⟩
                have hC496 := hC486.callFN 0 rfl hF494 (fun _ hx_ => .inl hx_) (tbAt_lt hT497) (own_ge ho498) (own_lt ho498) (fun x_ hx_ hg_ => Nat.not_lt.2 (own_ge ho498 x_ hg_) (hC486.ltF 0 rfl x_ hx_))
                obtain ⟨A499, c500, rfl, hle501⟩ := own_form ho498
                have ho502 := own_base (b' := 0) ho498 (fun _ _ => Nat.zero_le _)
                have hS504 := hS490.trans hF494 (by simp)
                refine ⟨_, rfl, hS504, ?_⟩
                have ho505 := own_fr ho492 hF494 (hC486.disj 1 0 rfl rfl (by decide))
                refine WD.call 16 (by kernel_rfl) rfl rfl rfl rfl rfl (by kernel_rfl) (SameF_ct A499 c500 ([f] : List Flow) (some ⟨g483, 0, none⟩) 1 [f] w495 (own_rd ho502 cellsF_len (by decide)) (Rd.blk (xs := [f]) (hC496.get 1 rfl) cellsF_len rfl) (by simp)) ?_
                rintro _ w508 ⟨rfl, hF507⟩
                have hS510 := hS504.trans hF507 (by simp)
                refine ⟨_, rfl, hS510, ?_⟩
                have hC509 := hC496.call hF507
                have hf511 := tbAt_fr hT497 hF507 (by simp)
                have ho512 := own_fr ho505 hF507 (by simp)
                have ho513 := own_fr ho502 hF507 (by simp)
                refine WD.pure (NoPanic.then hN) 17 81 (.bool (decide (([f] : List Flow) = [f]))) (by kernel_rfl) (fun _ => by kernel_rfl) hS510 ?_
                refine WD.pure (NoPanic.then hN) 18 82 (.bool (decide (([f] : List Flow) = [f]))) (by kernel_rfl) (fun _ => by kernel_rfl) hS510 ?_
                refine WD.know 82 (.bool (decide (([f] : List Flow) = [f]))) (.bool true) rfl (congrArg Value.bool (by simp)) ?_
                refine WD.pure (NoPanic.then hN) 19 83 (.pointer (some ⟨p33, 0, none⟩)) (by kernel_rfl) (fun _ => by kernel_rfl) hS510 ?_
                refine WD.call 20 (by kernel_rfl) rfl rfl rfl rfl rfl (by kernel_rfl) (All1_ct p33 b34 (idT3 f flags now) w508 hf511 (by rw [idT3_m]; exact Nat.zero_le _)) ?_
                rintro _ w516 ⟨v_, rfl, hF515, ho514⟩
                have hC517 := hC509.callN hF515 (own_ge ho514) (own_lt ho514)
                obtain ⟨A518, c519, rfl, hle520⟩ := own_form ho514
                have ho522 := own_base (b' := 0) ho514 (fun _ _ => Nat.zero_le _)
                have hS523 := hS510.trans hF515 (by simp)
                refine ⟨_, rfl, hS523, ?_⟩
                have hf524 := tbAt_fr hf511 hF515 (by simp)
                have ho525 := own_fr ho512 hF515 (by simp)
                have ho526 := own_fr ho513 hF515 (by simp)
                refine WD.pure (NoPanic.then hN) 21 85 (.int .i64 ((entsOf (idT3 f flags now).m).length : Int)) (by kernel_rfl) (fun _ => by kernel_rfl) hS523 ?_
                refine WD.pure (NoPanic.then hN) 22 86 (.bool (((entsOf (idT3 f flags now).m).length : Int) == 0)) (by kernel_rfl) (fun _ => by kernel_rfl) hS523 ?_
                refine WD.pure (NoPanic.then hN) 23 87 (.bool (((entsOf (idT3 f flags now).m).length : Int) == 0)) (by kernel_rfl) (fun _ => by kernel_rfl) hS523 ?_
                refine WD.pure (NoPanic.then hN) 24 6 (.bool (((entsOf (idT3 f flags now).m).length : Int) == 0)) (by kernel_rfl) (fun _ => by kernel_rfl) hS523 ?_
                refine WD.done (by kernel_rfl) ?_
                refine QX.then_normal (hK418 _ _ ?_)
                refine WC.ret ?_
                refine (hret _ _ _ rfl ?_).1
                clear hN hret hret' hK418 hK415 hK413 hK70 hK68 hK66 hK59 hK57 hK46 hK44 hK42 hK32 hK18 hK16 hK11 hK9 hK2
                exact ⟨congrArg (fun b_ => Ending.returned (Value.bool b_)) (show ((((entsOf (idT3 f flags now).m).length : Int) == 0)) = true from by rw [idT3_m]; rfl), hC517.fr⟩
            · -- (Go.bits .and .i64 flags 1) = 1: false
              have t416 : ¬ ((Go.bits .and .i64 flags 1) = 1) := by simpa using t416b
              refine WL.runs 5 [(63, .bool ((Go.bits .and .i64 flags 4) == 4)), (62, .bool ((Go.bits .and .i64 flags 4) == 4)), (61, .bool ((Go.bits .and .i64 flags 4) == 4)), (60, .int .i64 (Go.bits .and .i64 flags 4)), (59, .int .i64 flags)] (fun _ => by kernel_rfl) ?_
              refine WL.done rfl ?_
              refine QX.then_normal (hK415 _ _ ?_)
              refine WC.test_at 63 ((Go.bits .and .i64 flags 4) == 4) rfl (fun t528b => ?_) (fun t528b => ?_)
              · -- (Go.bits .and .i64 flags 4) = 4: true
                have t528 : (Go.bits .and .i64 flags 4) = 4 := by simpa using t528b
                refine WC.cond_true rfl ?_
                refine WC.region ?_
                refine WL.runs 1 [(9, .int .i64 5)] (fun _ => by kernel_rfl) ?_
                refine WL.done rfl ?_
                refine QX.then_normal (hK413 _ _ ?_)
                refine WC.seq (fun K529 hK530 => ?_)
                have hlim_ : limOf (idE f flags now) = 5 := by rw [lim_code]; simp [t22, t22b, t25, t25b, t28, t28b, t416, t416b, t528, t528b, t71, t71b, t72, t72b]
                refine WC.drawC hC63 [p33, b34] (by kernel_rfl) (fun w531 hF532 hC533 hS534 => ?_)
                have hf535 := tbAt_fr hT64 hF532 (by simp)
                refine WD.pure (NoPanic.then hN) 0 64 (.pointer (some ⟨p33, 0, none⟩)) (by kernel_rfl) (fun _ => by kernel_rfl) hS534 ?_
                refine WD.pure (NoPanic.then hN) 1 65 (.int .i64 now) (by kernel_rfl) (fun _ => by kernel_rfl) hS534 ?_
                refine WD.pure (NoPanic.then hN) 2 66 (.int .i64 5) (by kernel_rfl) (fun _ => by kernel_rfl) hS534 ?_
                refine WD.pure (NoPanic.then hN) 3 67 (.int .i64 (IntKind.i64.wrap (now + 5))) (by kernel_rfl) (fun _ => by kernel_rfl) hS534 ?_
                refine WD.recast (show (.int .i64 (IntKind.i64.wrap (now + 5)) : Value) = .int .i64 (now + 5) from by rw [wrap_in_i64 (now + 5) (by omega) (by omega)]) ?_
                have hx536 := Expire1_ct p33 b34 (idT2 f flags now) (now + 5) w531 hf535 (idT2_bd f flags now).1 (idT2_bd f flags now).2 (by simp [idT2]) (by simp only [idT2, List.mem_singleton]; rintro _ rfl; simp only [idE]; omega)
                rw [show outF2 (idT2 f flags now) (now + 5) = (([] : List Flow), (idT2 f flags now)) from by have q_ := id_out1 (f := f) (flags := flags) hnow0 hnow1; rw [hlim_] at q_; exact q_] at hx536
                refine WD.call 4 (by kernel_rfl) rfl rfl rfl rfl rfl (by kernel_rfl) hx536 ?_
                rintro _ w538 ⟨v_, rfl, hF537, hT540, ho541⟩
                have hC539 := hC533.callFN 0 rfl hF537 (fun _ hx_ => .inl hx_) (tbAt_lt hT540) (own_ge ho541) (own_lt ho541) (fun x_ hx_ hg_ => Nat.not_lt.2 (own_ge ho541 x_ hg_) (hC533.ltF 0 rfl x_ hx_))
                obtain ⟨A542, c543, rfl, hle544⟩ := own_form ho541
                have ho545 := own_base (b' := 0) ho541 (fun _ _ => Nat.zero_le _)
                have hS547 := hS534.trans hF537 (by simp)
                refine ⟨_, rfl, hS547, ?_⟩
                refine WD.pure (NoPanic.then hN) 5 69 (.int .i64 (([] : List Flow).length : Int)) (by kernel_rfl) (fun _ => by kernel_rfl) hS547 ?_
                refine WD.pure (NoPanic.then hN) 6 70 (.bool ((([] : List Flow).length : Int) == 0)) (by kernel_rfl) (fun _ => by kernel_rfl) hS547 ?_
                refine WD.pure (NoPanic.then hN) 7 71 (.bool ((([] : List Flow).length : Int) == 0)) (by kernel_rfl) (fun _ => by kernel_rfl) hS547 ?_
                refine WD.know 71 (.bool ((([] : List Flow).length : Int) == 0)) (.bool true) rfl (congrArg Value.bool (by rfl)) ?_
                refine WD.pure (NoPanic.then hN) 8 72 (.pointer (some ⟨p33, 0, none⟩)) (by kernel_rfl) (fun _ => by kernel_rfl) hS547 ?_
                refine WD.pure (NoPanic.then hN) 9 73 (.int .i64 now) (by kernel_rfl) (fun _ => by kernel_rfl) hS547 ?_
                refine WD.pure (NoPanic.then hN) 10 74 (.int .i64 5) (by kernel_rfl) (fun _ => by kernel_rfl) hS547 ?_
                refine WD.pure (NoPanic.then hN) 11 75 (.int .i64 (IntKind.i64.wrap (now + 5))) (by kernel_rfl) (fun _ => by kernel_rfl) hS547 ?_
                refine WD.recast (show (.int .i64 (IntKind.i64.wrap (now + 5)) : Value) = .int .i64 (now + 5) from by rw [wrap_in_i64 (now + 5) (by omega) (by omega)]) ?_
                refine WD.pure (NoPanic.then hN) 12 76 (.int .i64 (IntKind.i64.wrap ((now + 5) + 1))) (by kernel_rfl) (fun _ => by kernel_rfl) hS547 ?_
                refine WD.recast (show (.int .i64 (IntKind.i64.wrap ((now + 5) + 1)) : Value) = .int .i64 ((now + 5) + 1) from by rw [wrap_in_i64 ((now + 5) + 1) (by omega) (by omega)]) ?_
                refine WD.load (NoPanic.then hN) 14 32 (.pointer (some ⟨g3, 0, none⟩)) (.agg #[.int .i64 f.proto, .int .u32 f.src, .int .i64 f.sport, .int .u32 f.dst, .int .i64 f.dport]) 78 (by kernel_rfl) (by kernel_rfl) (fun _ hS_ => run_ld (Fr.has hS_ (hC533.get 0 rfl) (hC533.notin 0 0 rfl rfl)) rfl) hS547 ?_
                refine WD.all2 13 15 (by kernel_rfl) ?_ ?_
                · -- operation 13 comes first
                  have hx549 := Expire1_ct p33 b34 (idT2 f flags now) ((now + 5) + 1) w538 hT540 (idT2_bd f flags now).1 (idT2_bd f flags now).2 (by simp [idT2]) (by simp only [idT2, List.mem_singleton]; rintro _ rfl; simp only [idE]; omega)
                  rw [show outF2 (idT2 f flags now) ((now + 5) + 1) = (([f] : List Flow), (idT3 f flags now)) from by have q_ := id_out2 (f := f) (flags := flags) hnow0 hnow1; rw [hlim_] at q_; exact q_] at hx549
                  refine WO.call 13 (by kernel_rfl) rfl rfl rfl rfl rfl (by kernel_rfl) hx549 ?_
                  rintro _ w551 ⟨v_, rfl, hF550, hT553, ho554⟩
                  have hC552 := hC539.callFN 0 rfl hF550 (fun _ hx_ => .inl hx_) (tbAt_lt hT553) (own_ge ho554) (own_lt ho554) (fun x_ hx_ hg_ => Nat.not_lt.2 (own_ge ho554 x_ hg_) (hC539.ltF 0 rfl x_ hx_))
                  obtain ⟨A555, c556, rfl, hle557⟩ := own_form ho554
                  have ho558 := own_base (b' := 0) ho554 (fun _ _ => Nat.zero_le _)
                  have hS560 := hS547.trans hF550 (by simp)
                  refine ⟨_, rfl, hS560, ?_⟩
                  have ho561 := own_fr ho545 hF550 (hC539.disj 1 0 rfl rfl (by decide))
                  refine WD.new 15 (fun b => .slice (some ⟨b, 0, none⟩) 1 1) (.cells #[.int .i64 f.proto, .int .u32 f.src, .int .i64 f.sport, .int .u32 f.dst, .int .i64 f.dport] 32) (by kernel_rfl) rfl rfl rfl rfl rfl (fun _ => by kernel_rfl) (fun g563 w564 hb567 hl568 hF565 ho569 => ?_)
                  have hC566 := hC552.callB hF565 hb567 ho569
                  have hS570 := hS560.trans hF565 (by simp)
                  refine ⟨hS570, ?_⟩
                  have hf571 := tbAt_fr hT553 hF565 (by simp)
                  have ho572 := own_fr ho561 hF565 (by simp)
                  have ho573 := own_fr ho558 hF565 (by simp)
                  refine WD.call 16 (by kernel_rfl) rfl rfl rfl rfl rfl (by kernel_rfl) (SameF_ct A555 c556 ([f] : List Flow) (some ⟨g563, 0, none⟩) 1 [f] w564 (own_rd ho573 cellsF_len (by decide)) (Rd.blk (xs := [f]) (hC566.get 1 rfl) cellsF_len rfl) (by simp)) ?_
                  rintro _ w575 ⟨rfl, hF574⟩
                  have hS577 := hS570.trans hF574 (by simp)
                  refine ⟨_, rfl, hS577, ?_⟩
                  have hC576 := hC566.call hF574
                  have hf578 := tbAt_fr hf571 hF574 (by simp)
                  have ho579 := own_fr ho572 hF574 (by simp)
                  have ho580 := own_fr ho573 hF574 (by simp)
                  refine WD.pure (NoPanic.then hN) 17 81 (.bool (decide (([f] : List Flow) = [f]))) (by kernel_rfl) (fun _ => by kernel_rfl) hS577 ?_
                  refine WD.pure (NoPanic.then hN) 18 82 (.bool (decide (([f] : List Flow) = [f]))) (by kernel_rfl) (fun _ => by kernel_rfl) hS577 ?_
                  refine WD.know 82 (.bool (decide (([f] : List Flow) = [f]))) (.bool true) rfl (congrArg Value.bool (by simp)) ?_
                  refine WD.pure (NoPanic.then hN) 19 83 (.pointer (some ⟨p33, 0, none⟩)) (by kernel_rfl) (fun _ => by kernel_rfl) hS577 ?_
                  refine WD.call 20 (by kernel_rfl) rfl rfl rfl rfl rfl (by kernel_rfl) (All1_ct p33 b34 (idT3 f flags now) w575 hf578 (by rw [idT3_m]; exact Nat.zero_le _)) ?_
                  rintro _ w583 ⟨v_, rfl, hF582, ho581⟩
                  have hC584 := hC576.callN hF582 (own_ge ho581) (own_lt ho581)
                  obtain ⟨A585, c586, rfl, hle587⟩ := own_form ho581
                  have ho589 := own_base (b' := 0) ho581 (fun _ _ => Nat.zero_le _)
                  have hS590 := hS577.trans hF582 (by simp)
                  refine ⟨_, rfl, hS590, ?_⟩
                  have hf591 := tbAt_fr hf578 hF582 (by simp)
                  have ho592 := own_fr ho579 hF582 (by simp)
                  have ho593 := own_fr ho580 hF582 (by simp)
                  refine WD.pure (NoPanic.then hN) 21 85 (.int .i64 ((entsOf (idT3 f flags now).m).length : Int)) (by kernel_rfl) (fun _ => by kernel_rfl) hS590 ?_
                  refine WD.pure (NoPanic.then hN) 22 86 (.bool (((entsOf (idT3 f flags now).m).length : Int) == 0)) (by kernel_rfl) (fun _ => by kernel_rfl) hS590 ?_
                  refine WD.pure (NoPanic.then hN) 23 87 (.bool (((entsOf (idT3 f flags now).m).length : Int) == 0)) (by kernel_rfl) (fun _ => by kernel_rfl) hS590 ?_
                  refine WD.pure (NoPanic.then hN) 24 6 (.bool (((entsOf (idT3 f flags now).m).length : Int) == 0)) (by kernel_rfl) (fun _ => by kernel_rfl) hS590 ?_
                  refine WD.done (by kernel_rfl) ?_
                  refine QX.then_normal (hK530 _ _ ?_)
                  refine WC.ret ?_
                  refine (hret _ _ _ rfl ?_).1
                  clear hN hret hret' hK530 hK415 hK413 hK70 hK68 hK66 hK59 hK57 hK46 hK44 hK42 hK32 hK18 hK16 hK11 hK9 hK2
                  exact ⟨congrArg (fun b_ => Ending.returned (Value.bool b_)) (show ((((entsOf (idT3 f flags now).m).length : Int) == 0)) = true from by rw [idT3_m]; rfl), hC584.fr⟩
                · -- operation 15 comes first
                  refine WO.new 15 (fun b => .slice (some ⟨b, 0, none⟩) 1 1) (.cells #[.int .i64 f.proto, .int .u32 f.src, .int .i64 f.sport, .int .u32 f.dst, .int .i64 f.dport] 32) (by kernel_rfl) rfl rfl rfl rfl rfl (fun _ => by kernel_rfl) (fun g595 w596 hb599 hl600 hF597 ho601 => ?_)
                  have hC598 := hC539.callB hF597 hb599 ho601
                  have hS602 := hS547.trans hF597 (by simp)
                  refine ⟨hS602, ?_⟩
                  have hf603 := tbAt_fr hT540 hF597 (by simp)
                  have ho604 := own_fr ho545 hF597 (by simp)
                  have hx605 := Expire1_ct p33 b34 (idT2 f flags now) ((now + 5) + 1) w596 hf603 (idT2_bd f flags now).1 (idT2_bd f flags now).2 (by simp [idT2]) (by simp only [idT2, List.mem_singleton]; rintro _ rfl; simp only [idE]; omega)
                  rw [show outF2 (idT2 f flags now) ((now + 5) + 1) = (([f] : List Flow), (idT3 f flags now)) from by have q_ := id_out2 (f := f) (flags := flags) hnow0 hnow1; rw [hlim_] at q_; exact q_] at hx605
                  refine WD.call 13 (by kernel_rfl) rfl rfl rfl rfl rfl (by kernel_rfl) hx605 ?_
                  rintro _ w607 ⟨v_, rfl, hF606, hT609, ho610⟩
                  have hC608 := hC598.callFN 0 rfl hF606 (fun _ hx_ => .inl hx_) (tbAt_lt hT609) (own_ge ho610) (own_lt ho610) (fun x_ hx_ hg_ => Nat.not_lt.2 (own_ge ho610 x_ hg_) (hC598.ltF 0 rfl x_ hx_))
                  obtain ⟨A611, c612, rfl, hle613⟩ := own_form ho610
                  have ho614 := own_base (b' := 0) ho610 (fun _ _ => Nat.zero_le _)
                  have hS616 := hS602.trans hF606 (by simp)
                  refine ⟨_, rfl, hS616, ?_⟩
                  have ho617 := own_fr ho604 hF606 (hC598.disj 1 0 rfl rfl (by decide))
                  refine WD.call 16 (by kernel_rfl) rfl rfl rfl rfl rfl (by kernel_rfl) (SameF_ct A611 c612 ([f] : List Flow) (some ⟨g595, 0, none⟩) 1 [f] w607 (own_rd ho614 cellsF_len (by decide)) (Rd.blk (xs := [f]) (hC608.get 1 rfl) cellsF_len rfl) (by simp)) ?_
                  rintro _ w620 ⟨rfl, hF619⟩
                  have hS622 := hS616.trans hF619 (by simp)
                  refine ⟨_, rfl, hS622, ?_⟩
                  have hC621 := hC608.call hF619
                  have hf623 := tbAt_fr hT609 hF619 (by simp)
                  have ho624 := own_fr ho617 hF619 (by simp)
                  have ho625 := own_fr ho614 hF619 (by simp)
                  refine WD.pure (NoPanic.then hN) 17 81 (.bool (decide (([f] : List Flow) = [f]))) (by kernel_rfl) (fun _ => by kernel_rfl) hS622 ?_
                  refine WD.pure (NoPanic.then hN) 18 82 (.bool (decide (([f] : List Flow) = [f]))) (by kernel_rfl) (fun _ => by kernel_rfl) hS622 ?_
                  refine WD.know 82 (.bool (decide (([f] : List Flow) = [f]))) (.bool true) rfl (congrArg Value.bool (by simp)) ?_
                  refine WD.pure (NoPanic.then hN) 19 83 (.pointer (some ⟨p33, 0, none⟩)) (by kernel_rfl) (fun _ => by kernel_rfl) hS622 ?_
                  refine WD.call 20 (by kernel_rfl) rfl rfl rfl rfl rfl (by kernel_rfl) (All1_ct p33 b34 (idT3 f flags now) w620 hf623 (by rw [idT3_m]; exact Nat.zero_le _)) ?_
                  rintro _ w628 ⟨v_, rfl, hF627, ho626⟩
                  have hC629 := hC621.callN hF627 (own_ge ho626) (own_lt ho626)
                  obtain ⟨A630, c631, rfl, hle632⟩ := own_form ho626
                  have ho634 := own_base (b' := 0) ho626 (fun _ _ => Nat.zero_le _)
                  have hS635 := hS622.trans hF627 (by simp)
                  refine ⟨_, rfl, hS635, ?_⟩
                  have hf636 := tbAt_fr hf623 hF627 (by simp)
                  have ho637 := own_fr ho624 hF627 (by simp)
                  have ho638 := own_fr ho625 hF627 (by simp)
                  refine WD.pure (NoPanic.then hN) 21 85 (.int .i64 ((entsOf (idT3 f flags now).m).length : Int)) (by kernel_rfl) (fun _ => by kernel_rfl) hS635 ?_
                  refine WD.pure (NoPanic.then hN) 22 86 (.bool (((entsOf (idT3 f flags now).m).length : Int) == 0)) (by kernel_rfl) (fun _ => by kernel_rfl) hS635 ?_
                  refine WD.pure (NoPanic.then hN) 23 87 (.bool (((entsOf (idT3 f flags now).m).length : Int) == 0)) (by kernel_rfl) (fun _ => by kernel_rfl) hS635 ?_
                  refine WD.pure (NoPanic.then hN) 24 6 (.bool (((entsOf (idT3 f flags now).m).length : Int) == 0)) (by kernel_rfl) (fun _ => by kernel_rfl) hS635 ?_
                  refine WD.done (by kernel_rfl) ?_
                  refine QX.then_normal (hK530 _ _ ?_)
                  refine WC.ret ?_
                  refine (hret _ _ _ rfl ?_).1
                  clear hN hret hret' hK530 hK415 hK413 hK70 hK68 hK66 hK59 hK57 hK46 hK44 hK42 hK32 hK18 hK16 hK11 hK9 hK2
                  exact ⟨congrArg (fun b_ => Ending.returned (Value.bool b_)) (show ((((entsOf (idT3 f flags now).m).length : Int) == 0)) = true from by rw [idT3_m]; rfl), hC629.fr⟩
              · -- (Go.bits .and .i64 flags 4) = 4: false
                have t528 : ¬ ((Go.bits .and .i64 flags 4) = 4) := by simpa using t528b
                refine WC.cond_false rfl ?_
                refine WC.skip ?_
                refine QX.then_normal (hK413 _ _ ?_)
                refine WC.seq (fun K640 hK641 => ?_)
                have hlim_ : limOf (idE f flags now) = 60 := by rw [lim_code]; simp [t22, t22b, t25, t25b, t28, t28b, t416, t416b, t528, t528b, t71, t71b, t72, t72b]
                refine WC.drawC hC63 [p33, b34] (by kernel_rfl) (fun w642 hF643 hC644 hS645 => ?_)
                have hf646 := tbAt_fr hT64 hF643 (by simp)
                refine WD.pure (NoPanic.then hN) 0 64 (.pointer (some ⟨p33, 0, none⟩)) (by kernel_rfl) (fun _ => by kernel_rfl) hS645 ?_
                refine WD.pure (NoPanic.then hN) 1 65 (.int .i64 now) (by kernel_rfl) (fun _ => by kernel_rfl) hS645 ?_
                refine WD.pure (NoPanic.then hN) 2 66 (.int .i64 60) (by kernel_rfl) (fun _ => by kernel_rfl) hS645 ?_
                refine WD.pure (NoPanic.then hN) 3 67 (.int .i64 (IntKind.i64.wrap (now + 60))) (by kernel_rfl) (fun _ => by kernel_rfl) hS645 ?_
                refine WD.recast (show (.int .i64 (IntKind.i64.wrap (now + 60)) : Value) = .int .i64 (now + 60) from by rw [wrap_in_i64 (now + 60) (by omega) (by omega)]) ?_
                have hx647 := Expire1_ct p33 b34 (idT2 f flags now) (now + 60) w642 hf646 (idT2_bd f flags now).1 (idT2_bd f flags now).2 (by simp [idT2]) (by simp only [idT2, List.mem_singleton]; rintro _ rfl; simp only [idE]; omega)
                rw [show outF2 (idT2 f flags now) (now + 60) = (([] : List Flow), (idT2 f flags now)) from by have q_ := id_out1 (f := f) (flags := flags) hnow0 hnow1; rw [hlim_] at q_; exact q_] at hx647
                refine WD.call 4 (by kernel_rfl) rfl rfl rfl rfl rfl (by kernel_rfl) hx647 ?_
                rintro _ w649 ⟨v_, rfl, hF648, hT651, ho652⟩
                have hC650 := hC644.callFN 0 rfl hF648 (fun _ hx_ => .inl hx_) (tbAt_lt hT651) (own_ge ho652) (own_lt ho652) (fun x_ hx_ hg_ => Nat.not_lt.2 (own_ge ho652 x_ hg_) (hC644.ltF 0 rfl x_ hx_))
                obtain ⟨A653, c654, rfl, hle655⟩ := own_form ho652
                have ho656 := own_base (b' := 0) ho652 (fun _ _ => Nat.zero_le _)
                have hS658 := hS645.trans hF648 (by simp)
                refine ⟨_, rfl, hS658, ?_⟩
                refine WD.pure (NoPanic.then hN) 5 69 (.int .i64 (([] : List Flow).length : Int)) (by kernel_rfl) (fun _ => by kernel_rfl) hS658 ?_
                refine WD.pure (NoPanic.then hN) 6 70 (.bool ((([] : List Flow).length : Int) == 0)) (by kernel_rfl) (fun _ => by kernel_rfl) hS658 ?_
                refine WD.pure (NoPanic.then hN) 7 71 (.bool ((([] : List Flow).length : Int) == 0)) (by kernel_rfl) (fun _ => by kernel_rfl) hS658 ?_
                refine WD.know 71 (.bool ((([] : List Flow).length : Int) == 0)) (.bool true) rfl (congrArg Value.bool (by rfl)) ?_
                refine WD.pure (NoPanic.then hN) 8 72 (.pointer (some ⟨p33, 0, none⟩)) (by kernel_rfl) (fun _ => by kernel_rfl) hS658 ?_
                refine WD.pure (NoPanic.then hN) 9 73 (.int .i64 now) (by kernel_rfl) (fun _ => by kernel_rfl) hS658 ?_
                refine WD.pure (NoPanic.then hN) 10 74 (.int .i64 60) (by kernel_rfl) (fun _ => by kernel_rfl) hS658 ?_
                refine WD.pure (NoPanic.then hN) 11 75 (.int .i64 (IntKind.i64.wrap (now + 60))) (by kernel_rfl) (fun _ => by kernel_rfl) hS658 ?_
                refine WD.recast (show (.int .i64 (IntKind.i64.wrap (now + 60)) : Value) = .int .i64 (now + 60) from by rw [wrap_in_i64 (now + 60) (by omega) (by omega)]) ?_
                refine WD.pure (NoPanic.then hN) 12 76 (.int .i64 (IntKind.i64.wrap ((now + 60) + 1))) (by kernel_rfl) (fun _ => by kernel_rfl) hS658 ?_
                refine WD.recast (show (.int .i64 (IntKind.i64.wrap ((now + 60) + 1)) : Value) = .int .i64 ((now + 60) + 1) from by rw [wrap_in_i64 ((now + 60) + 1) (by omega) (by omega)]) ?_
                refine WD.load (NoPanic.then hN) 14 32 (.pointer (some ⟨g3, 0, none⟩)) (.agg #[.int .i64 f.proto, .int .u32 f.src, .int .i64 f.sport, .int .u32 f.dst, .int .i64 f.dport]) 78 (by kernel_rfl) (by kernel_rfl) (fun _ hS_ => run_ld (Fr.has hS_ (hC644.get 0 rfl) (hC644.notin 0 0 rfl rfl)) rfl) hS658 ?_
                refine WD.all2 13 15 (by kernel_rfl) ?_ ?_
                · -- operation 13 comes first
                  have hx660 := Expire1_ct p33 b34 (idT2 f flags now) ((now + 60) + 1) w649 hT651 (idT2_bd f flags now).1 (idT2_bd f flags now).2 (by simp [idT2]) (by simp only [idT2, List.mem_singleton]; rintro _ rfl; simp only [idE]; omega)
                  rw [show outF2 (idT2 f flags now) ((now + 60) + 1) = (([f] : List Flow), (idT3 f flags now)) from by have q_ := id_out2 (f := f) (flags := flags) hnow0 hnow1; rw [hlim_] at q_; exact q_] at hx660
                  refine WO.call 13 (by kernel_rfl) rfl rfl rfl rfl rfl (by kernel_rfl) hx660 ?_
                  rintro _ w662 ⟨v_, rfl, hF661, hT664, ho665⟩
                  have hC663 := hC650.callFN 0 rfl hF661 (fun _ hx_ => .inl hx_) (tbAt_lt hT664) (own_ge ho665) (own_lt ho665) (fun x_ hx_ hg_ => Nat.not_lt.2 (own_ge ho665 x_ hg_) (hC650.ltF 0 rfl x_ hx_))
                  obtain ⟨A666, c667, rfl, hle668⟩ := own_form ho665
                  have ho669 := own_base (b' := 0) ho665 (fun _ _ => Nat.zero_le _)
                  have hS671 := hS658.trans hF661 (by simp)
                  refine ⟨_, rfl, hS671, ?_⟩
                  have ho672 := own_fr ho656 hF661 (hC650.disj 1 0 rfl rfl (by decide))
                  refine WD.new 15 (fun b => .slice (some ⟨b, 0, none⟩) 1 1) (.cells #[.int .i64 f.proto, .int .u32 f.src, .int .i64 f.sport, .int .u32 f.dst, .int .i64 f.dport] 32) (by kernel_rfl) rfl rfl rfl rfl rfl (fun _ => by kernel_rfl) (fun g674 w675 hb678 hl679 hF676 ho680 => ?_)
                  have hC677 := hC663.callB hF676 hb678 ho680
                  have hS681 := hS671.trans hF676 (by simp)
                  refine ⟨hS681, ?_⟩
                  have hf682 := tbAt_fr hT664 hF676 (by simp)
                  have ho683 := own_fr ho672 hF676 (by simp)
                  have ho684 := own_fr ho669 hF676 (by simp)
                  refine WD.call 16 (by kernel_rfl) rfl rfl rfl rfl rfl (by kernel_rfl) (SameF_ct A666 c667 ([f] : List Flow) (some ⟨g674, 0, none⟩) 1 [f] w675 (own_rd ho684 cellsF_len (by decide)) (Rd.blk (xs := [f]) (hC677.get 1 rfl) cellsF_len rfl) (by simp)) ?_
                  rintro _ w686 ⟨rfl, hF685⟩
                  have hS688 := hS681.trans hF685 (by simp)
                  refine ⟨_, rfl, hS688, ?_⟩
                  have hC687 := hC677.call hF685
                  have hf689 := tbAt_fr hf682 hF685 (by simp)
                  have ho690 := own_fr ho683 hF685 (by simp)
                  have ho691 := own_fr ho684 hF685 (by simp)
                  refine WD.pure (NoPanic.then hN) 17 81 (.bool (decide (([f] : List Flow) = [f]))) (by kernel_rfl) (fun _ => by kernel_rfl) hS688 ?_
                  refine WD.pure (NoPanic.then hN) 18 82 (.bool (decide (([f] : List Flow) = [f]))) (by kernel_rfl) (fun _ => by kernel_rfl) hS688 ?_
                  refine WD.know 82 (.bool (decide (([f] : List Flow) = [f]))) (.bool true) rfl (congrArg Value.bool (by simp)) ?_
                  refine WD.pure (NoPanic.then hN) 19 83 (.pointer (some ⟨p33, 0, none⟩)) (by kernel_rfl) (fun _ => by kernel_rfl) hS688 ?_
                  refine WD.call 20 (by kernel_rfl) rfl rfl rfl rfl rfl (by kernel_rfl) (All1_ct p33 b34 (idT3 f flags now) w686 hf689 (by rw [idT3_m]; exact Nat.zero_le _)) ?_
                  rintro _ w694 ⟨v_, rfl, hF693, ho692⟩
                  have hC695 := hC687.callN hF693 (own_ge ho692) (own_lt ho692)
                  obtain ⟨A696, c697, rfl, hle698⟩ := own_form ho692
                  have ho700 := own_base (b' := 0) ho692 (fun _ _ => Nat.zero_le _)
                  have hS701 := hS688.trans hF693 (by simp)
                  refine ⟨_, rfl, hS701, ?_⟩
                  have hf702 := tbAt_fr hf689 hF693 (by simp)
                  have ho703 := own_fr ho690 hF693 (by simp)
                  have ho704 := own_fr ho691 hF693 (by simp)
                  refine WD.pure (NoPanic.then hN) 21 85 (.int .i64 ((entsOf (idT3 f flags now).m).length : Int)) (by kernel_rfl) (fun _ => by kernel_rfl) hS701 ?_
                  refine WD.pure (NoPanic.then hN) 22 86 (.bool (((entsOf (idT3 f flags now).m).length : Int) == 0)) (by kernel_rfl) (fun _ => by kernel_rfl) hS701 ?_
                  refine WD.pure (NoPanic.then hN) 23 87 (.bool (((entsOf (idT3 f flags now).m).length : Int) == 0)) (by kernel_rfl) (fun _ => by kernel_rfl) hS701 ?_
                  refine WD.pure (NoPanic.then hN) 24 6 (.bool (((entsOf (idT3 f flags now).m).length : Int) == 0)) (by kernel_rfl) (fun _ => by kernel_rfl) hS701 ?_
                  refine WD.done (by kernel_rfl) ?_
                  refine QX.then_normal (hK641 _ _ ?_)
                  refine WC.ret ?_
                  refine (hret _ _ _ rfl ?_).1
                  clear hN hret hret' hK641 hK415 hK413 hK70 hK68 hK66 hK59 hK57 hK46 hK44 hK42 hK32 hK18 hK16 hK11 hK9 hK2
                  exact ⟨congrArg (fun b_ => Ending.returned (Value.bool b_)) (show ((((entsOf (idT3 f flags now).m).length : Int) == 0)) = true from by rw [idT3_m]; rfl), hC695.fr⟩
                · -- operation 15 comes first
                  refine WO.new 15 (fun b => .slice (some ⟨b, 0, none⟩) 1 1) (.cells #[.int .i64 f.proto, .int .u32 f.src, .int .i64 f.sport, .int .u32 f.dst, .int .i64 f.dport] 32) (by kernel_rfl) rfl rfl rfl rfl rfl (fun _ => by kernel_rfl) (fun g706 w707 hb710 hl711 hF708 ho712 => ?_)
                  have hC709 := hC650.callB hF708 hb710 ho712
                  have hS713 := hS658.trans hF708 (by simp)
                  refine ⟨hS713, ?_⟩
                  have hf714 := tbAt_fr hT651 hF708 (by simp)
                  have ho715 := own_fr ho656 hF708 (by simp)
                  have hx716 := Expire1_ct p33 b34 (idT2 f flags now) ((now + 60) + 1) w707 hf714 (idT2_bd f flags now).1 (idT2_bd f flags now).2 (by simp [idT2]) (by simp only [idT2, List.mem_singleton]; rintro _ rfl; simp only [idE]; omega)
                  rw [show outF2 (idT2 f flags now) ((now + 60) + 1) = (([f] : List Flow), (idT3 f flags now)) from by have q_ := id_out2 (f := f) (flags := flags) hnow0 hnow1; rw [hlim_] at q_; exact q_] at hx716
                  refine WD.call 13 (by kernel_rfl) rfl rfl rfl rfl rfl (by kernel_rfl) hx716 ?_
                  rintro _ w718 ⟨v_, rfl, hF717, hT720, ho721⟩
                  have hC719 := hC709.callFN 0 rfl hF717 (fun _ hx_ => .inl hx_) (tbAt_lt hT720) (own_ge ho721) (own_lt ho721) (fun x_ hx_ hg_ => Nat.not_lt.2 (own_ge ho721 x_ hg_) (hC709.ltF 0 rfl x_ hx_))
                  obtain ⟨A722, c723, rfl, hle724⟩ := own_form ho721
                  have ho725 := own_base (b' := 0) ho721 (fun _ _ => Nat.zero_le _)
                  have hS727 := hS713.trans hF717 (by simp)
                  refine ⟨_, rfl, hS727, ?_⟩
                  have ho728 := own_fr ho715 hF717 (hC709.disj 1 0 rfl rfl (by decide))
                  refine WD.call 16 (by kernel_rfl) rfl rfl rfl rfl rfl (by kernel_rfl) (SameF_ct A722 c723 ([f] : List Flow) (some ⟨g706, 0, none⟩) 1 [f] w718 (own_rd ho725 cellsF_len (by decide)) (Rd.blk (xs := [f]) (hC719.get 1 rfl) cellsF_len rfl) (by simp)) ?_
                  rintro _ w731 ⟨rfl, hF730⟩
                  have hS733 := hS727.trans hF730 (by simp)
                  refine ⟨_, rfl, hS733, ?_⟩
                  have hC732 := hC719.call hF730
                  have hf734 := tbAt_fr hT720 hF730 (by simp)
                  have ho735 := own_fr ho728 hF730 (by simp)
                  have ho736 := own_fr ho725 hF730 (by simp)
                  refine WD.pure (NoPanic.then hN) 17 81 (.bool (decide (([f] : List Flow) = [f]))) (by kernel_rfl) (fun _ => by kernel_rfl) hS733 ?_
                  refine WD.pure (NoPanic.then hN) 18 82 (.bool (decide (([f] : List Flow) = [f]))) (by kernel_rfl) (fun _ => by kernel_rfl) hS733 ?_
                  refine WD.know 82 (.bool (decide (([f] : List Flow) = [f]))) (.bool true) rfl (congrArg Value.bool (by simp)) ?_
                  refine WD.pure (NoPanic.then hN) 19 83 (.pointer (some ⟨p33, 0, none⟩)) (by kernel_rfl) (fun _ => by kernel_rfl) hS733 ?_
                  refine WD.call 20 (by kernel_rfl) rfl rfl rfl rfl rfl (by kernel_rfl) (All1_ct p33 b34 (idT3 f flags now) w731 hf734 (by rw [idT3_m]; exact Nat.zero_le _)) ?_
                  rintro _ w739 ⟨v_, rfl, hF738, ho737⟩
                  have hC740 := hC732.callN hF738 (own_ge ho737) (own_lt ho737)
                  obtain ⟨A741, c742, rfl, hle743⟩ := own_form ho737
                  have ho745 := own_base (b' := 0) ho737 (fun _ _ => Nat.zero_le _)
                  have hS746 := hS733.trans hF738 (by simp)
                  refine ⟨_, rfl, hS746, ?_⟩
                  have hf747 := tbAt_fr hf734 hF738 (by simp)
                  have ho748 := own_fr ho735 hF738 (by simp)
                  have ho749 := own_fr ho736 hF738 (by simp)
                  refine WD.pure (NoPanic.then hN) 21 85 (.int .i64 ((entsOf (idT3 f flags now).m).length : Int)) (by kernel_rfl) (fun _ => by kernel_rfl) hS746 ?_
                  refine WD.pure (NoPanic.then hN) 22 86 (.bool (((entsOf (idT3 f flags now).m).length : Int) == 0)) (by kernel_rfl) (fun _ => by kernel_rfl) hS746 ?_
                  refine WD.pure (NoPanic.then hN) 23 87 (.bool (((entsOf (idT3 f flags now).m).length : Int) == 0)) (by kernel_rfl) (fun _ => by kernel_rfl) hS746 ?_
                  refine WD.pure (NoPanic.then hN) 24 6 (.bool (((entsOf (idT3 f flags now).m).length : Int) == 0)) (by kernel_rfl) (fun _ => by kernel_rfl) hS746 ?_
                  refine WD.done (by kernel_rfl) ?_
                  refine QX.then_normal (hK641 _ _ ?_)
                  refine WC.ret ?_
                  refine (hret _ _ _ rfl ?_).1
                  clear hN hret hret' hK641 hK415 hK413 hK70 hK68 hK66 hK59 hK57 hK46 hK44 hK42 hK32 hK18 hK16 hK11 hK9 hK2
                  exact ⟨congrArg (fun b_ => Ending.returned (Value.bool b_)) (show ((((entsOf (idT3 f flags now).m).length : Int) == 0)) = true from by rw [idT3_m]; rfl), hC740.fr⟩
        · -- f.proto = 6: false
          have t71 : ¬ (f.proto = 6) := by simpa using t71b
          refine WL.runs 4 [(50, .bool false), (49, undef), (48, undef), (47, undef)] (fun _ => by kernel_rfl) ?_
          refine WL.done rfl ?_
          refine QX.then_normal (hK70 _ _ ?_)
          refine WC.cond_false rfl ?_
          refine WC.skip ?_
          refine QX.then_normal (hK68 _ _ ?_)
          refine WC.seq (fun K751 hK752 => ?_)
          refine WC.seq (fun K753 hK754 => ?_)
          refine WC.region ?_
          refine WL.runs 1 [(51, .pointer (some ⟨g3, 0, none⟩))] (fun _ => by kernel_rfl) ?_
          refine WL.load 3 (.pointer (some ⟨g3, 0, none⟩)) (.int .i64 f.proto) 52 (by kernel_rfl) (run_ld (hC63.get 0 rfl) rfl) ?_
          refine WL.runs 2 [(54, .bool (f.proto == 6)), (53, .bool (f.proto == 6))] (fun _ => by kernel_rfl) ?_
          refine WL.know 54 (.bool (f.proto == 6)) (.bool false) rfl (congrArg Value.bool (by exact t71b)) ?_
          refine WL.runs 9 [(63, .bool false), (62, undef), (61, undef), (60, undef), (59, undef), (58, undef), (57, undef), (56, undef), (55, undef)] (fun _ => by kernel_rfl) ?_
          refine WL.done rfl ?_
          refine QX.then_normal (hK754 _ _ ?_)
          refine WC.cond_false rfl ?_
          refine WC.skip ?_
          refine QX.then_normal (hK752 _ _ ?_)
          refine WC.seq (fun K755 hK756 => ?_)
          have hlim_ : limOf (idE f flags now) = 60 := by rw [lim_code]; simp [t22, t22b, t25, t25b, t28, t28b, t71, t71b]
          refine WC.drawC hC63 [p33, b34] (by kernel_rfl) (fun w757 hF758 hC759 hS760 => ?_)
          have hf761 := tbAt_fr hT64 hF758 (by simp)
          refine WD.pure (NoPanic.then hN) 0 64 (.pointer (some ⟨p33, 0, none⟩)) (by kernel_rfl) (fun _ => by kernel_rfl) hS760 ?_
          refine WD.pure (NoPanic.then hN) 1 65 (.int .i64 now) (by kernel_rfl) (fun _ => by kernel_rfl) hS760 ?_
          refine WD.pure (NoPanic.then hN) 2 66 (.int .i64 60) (by kernel_rfl) (fun _ => by kernel_rfl) hS760 ?_
          refine WD.pure (NoPanic.then hN) 3 67 (.int .i64 (IntKind.i64.wrap (now + 60))) (by kernel_rfl) (fun _ => by kernel_rfl) hS760 ?_
          refine WD.recast (show (.int .i64 (IntKind.i64.wrap (now + 60)) : Value) = .int .i64 (now + 60) from by rw [wrap_in_i64 (now + 60) (by omega) (by omega)]) ?_
          have hx762 := Expire1_ct p33 b34 (idT2 f flags now) (now + 60) w757 hf761 (idT2_bd f flags now).1 (idT2_bd f flags now).2 (by simp [idT2]) (by simp only [idT2, List.mem_singleton]; rintro _ rfl; simp only [idE]; omega)
          rw [show outF2 (idT2 f flags now) (now + 60) = (([] : List Flow), (idT2 f flags now)) from by have q_ := id_out1 (f := f) (flags := flags) hnow0 hnow1; rw [hlim_] at q_; exact q_] at hx762
          refine WD.call 4 (by kernel_rfl) rfl rfl rfl rfl rfl (by kernel_rfl) hx762 ?_
          rintro _ w764 ⟨v_, rfl, hF763, hT766, ho767⟩
          have hC765 := hC759.callFN 0 rfl hF763 (fun _ hx_ => .inl hx_) (tbAt_lt hT766) (own_ge ho767) (own_lt ho767) (fun x_ hx_ hg_ => Nat.not_lt.2 (own_ge ho767 x_ hg_) (hC759.ltF 0 rfl x_ hx_))
          obtain ⟨A768, c769, rfl, hle770⟩ := own_form ho767
          have ho771 := own_base (b' := 0) ho767 (fun _ _ => Nat.zero_le _)
          have hS773 := hS760.trans hF763 (by simp)
          refine ⟨_, rfl, hS773, ?_⟩
          refine WD.pure (NoPanic.then hN) 5 69 (.int .i64 (([] : List Flow).length : Int)) (by kernel_rfl) (fun _ => by kernel_rfl) hS773 ?_
          refine WD.pure (NoPanic.then hN) 6 70 (.bool ((([] : List Flow).length : Int) == 0)) (by kernel_rfl) (fun _ => by kernel_rfl) hS773 ?_
          refine WD.pure (NoPanic.then hN) 7 71 (.bool ((([] : List Flow).length : Int) == 0)) (by kernel_rfl) (fun _ => by kernel_rfl) hS773 ?_
          refine WD.know 71 (.bool ((([] : List Flow).length : Int) == 0)) (.bool true) rfl (congrArg Value.bool (by rfl)) ?_
          refine WD.pure (NoPanic.then hN) 8 72 (.pointer (some ⟨p33, 0, none⟩)) (by kernel_rfl) (fun _ => by kernel_rfl) hS773 ?_
          refine WD.pure (NoPanic.then hN) 9 73 (.int .i64 now) (by kernel_rfl) (fun _ => by kernel_rfl) hS773 ?_
          refine WD.pure (NoPanic.then hN) 10 74 (.int .i64 60) (by kernel_rfl) (fun _ => by kernel_rfl) hS773 ?_
          refine WD.pure (NoPanic.then hN) 11 75 (.int .i64 (IntKind.i64.wrap (now + 60))) (by kernel_rfl) (fun _ => by kernel_rfl) hS773 ?_
          refine WD.recast (show (.int .i64 (IntKind.i64.wrap (now + 60)) : Value) = .int .i64 (now + 60) from by rw [wrap_in_i64 (now + 60) (by omega) (by omega)]) ?_
          refine WD.pure (NoPanic.then hN) 12 76 (.int .i64 (IntKind.i64.wrap ((now + 60) + 1))) (by kernel_rfl) (fun _ => by kernel_rfl) hS773 ?_
          refine WD.recast (show (.int .i64 (IntKind.i64.wrap ((now + 60) + 1)) : Value) = .int .i64 ((now + 60) + 1) from by rw [wrap_in_i64 ((now + 60) + 1) (by omega) (by omega)]) ?_
          refine WD.load (NoPanic.then hN) 14 32 (.pointer (some ⟨g3, 0, none⟩)) (.agg #[.int .i64 f.proto, .int .u32 f.src, .int .i64 f.sport, .int .u32 f.dst, .int .i64 f.dport]) 78 (by kernel_rfl) (by kernel_rfl) (fun _ hS_ => run_ld (Fr.has hS_ (hC759.get 0 rfl) (hC759.notin 0 0 rfl rfl)) rfl) hS773 ?_
          refine WD.all2 13 15 (by kernel_rfl) ?_ ?_
          · -- operation 13 comes first
            have hx775 := Expire1_ct p33 b34 (idT2 f flags now) ((now + 60) + 1) w764 hT766 (idT2_bd f flags now).1 (idT2_bd f flags now).2 (by simp [idT2]) (by simp only [idT2, List.mem_singleton]; rintro _ rfl; simp only [idE]; omega)
            rw [show outF2 (idT2 f flags now) ((now + 60) + 1) = (([f] : List Flow), (idT3 f flags now)) from by have q_ := id_out2 (f := f) (flags := flags) hnow0 hnow1; rw [hlim_] at q_; exact q_] at hx775
            refine WO.call 13 (by kernel_rfl) rfl rfl rfl rfl rfl (by kernel_rfl) hx775 ?_
            rintro _ w777 ⟨v_, rfl, hF776, hT779, ho780⟩
            have hC778 := hC765.callFN 0 rfl hF776 (fun _ hx_ => .inl hx_) (tbAt_lt hT779) (own_ge ho780) (own_lt ho780) (fun x_ hx_ hg_ => Nat.not_lt.2 (own_ge ho780 x_ hg_) (hC765.ltF 0 rfl x_ hx_))
            obtain ⟨A781, c782, rfl, hle783⟩ := own_form ho780
            have ho784 := own_base (b' := 0) ho780 (fun _ _ => Nat.zero_le _)
            have hS786 := hS773.trans hF776 (by simp)
            refine ⟨_, rfl, hS786, ?_⟩
            have ho787 := own_fr ho771 hF776 (hC765.disj 1 0 rfl rfl (by decide))
            refine WD.new 15 (fun b => .slice (some ⟨b, 0, none⟩) 1 1) (.cells #[.int .i64 f.proto, .int .u32 f.src, .int .i64 f.sport, .int .u32 f.dst, .int .i64 f.dport] 32) (by kernel_rfl) rfl rfl rfl rfl rfl (fun _ => by kernel_rfl) (fun g789 w790 hb793 hl794 hF791 ho795 => ?_)
            have hC792 := hC778.callB hF791 hb793 ho795
            have hS796 := hS786.trans hF791 (by simp)
            refine ⟨hS796, ?_⟩
            have hf797 := tbAt_fr hT779 hF791 (by simp)
            have ho798 := own_fr ho787 hF791 (by simp)
            have ho799 := own_fr ho784 hF791 (by simp)
            refine WD.call 16 (by kernel_rfl) rfl rfl rfl rfl rfl (by kernel_rfl) (SameF_ct A781 c782 ([f] : List Flow) (some ⟨g789, 0, none⟩) 1 [f] w790 (own_rd ho799 cellsF_len (by decide)) (Rd.blk (xs := [f]) (hC792.get 1 rfl) cellsF_len rfl) (by simp)) ?_
            rintro _ w801 ⟨rfl, hF800⟩
            have hS803 := hS796.trans hF800 (by simp)
            refine ⟨_, rfl, hS803, ?_⟩
            have hC802 := hC792.call hF800
            have hf804 := tbAt_fr hf797 hF800 (by simp)
            have ho805 := own_fr ho798 hF800 (by simp)
            have ho806 := own_fr ho799 hF800 (by simp)
            refine WD.pure (NoPanic.then hN) 17 81 (.bool (decide (([f] : List Flow) = [f]))) (by kernel_rfl) (fun _ => by kernel_rfl) hS803 ?_
            refine WD.pure (NoPanic.then hN) 18 82 (.bool (decide (([f] : List Flow) = [f]))) (by kernel_rfl) (fun _ => by kernel_rfl) hS803 ?_
            refine WD.know 82 (.bool (decide (([f] : List Flow) = [f]))) (.bool true) rfl (congrArg Value.bool (by simp)) ?_
            refine WD.pure (NoPanic.then hN) 19 83 (.pointer (some ⟨p33, 0, none⟩)) (by kernel_rfl) (fun _ => by kernel_rfl) hS803 ?_
            refine WD.call 20 (by kernel_rfl) rfl rfl rfl rfl rfl (by kernel_rfl) (All1_ct p33 b34 (idT3 f flags now) w801 hf804 (by rw [idT3_m]; exact Nat.zero_le _)) ?_
            rintro _ w809 ⟨v_, rfl, hF808, ho807⟩
            have hC810 := hC802.callN hF808 (own_ge ho807) (own_lt ho807)
            obtain ⟨A811, c812, rfl, hle813⟩ := own_form ho807
            have ho815 := own_base (b' := 0) ho807 (fun _ _ => Nat.zero_le _)
            have hS816 := hS803.trans hF808 (by simp)
            refine ⟨_, rfl, hS816, ?_⟩
            have hf817 := tbAt_fr hf804 hF808 (by simp)
            have ho818 := own_fr ho805 hF808 (by simp)
            have ho819 := own_fr ho806 hF808 (by simp)
            refine WD.pure (NoPanic.then hN) 21 85 (.int .i64 ((entsOf (idT3 f flags now).m).length : Int)) (by kernel_rfl) (fun _ => by kernel_rfl) hS816 ?_
            refine WD.pure (NoPanic.then hN) 22 86 (.bool (((entsOf (idT3 f flags now).m).length : Int) == 0)) (by kernel_rfl) (fun _ => by kernel_rfl) hS816 ?_
            refine WD.pure (NoPanic.then hN) 23 87 (.bool (((entsOf (idT3 f flags now).m).length : Int) == 0)) (by kernel_rfl) (fun _ => by kernel_rfl) hS816 ?_
            refine WD.pure (NoPanic.then hN) 24 6 (.bool (((entsOf (idT3 f flags now).m).length : Int) == 0)) (by kernel_rfl) (fun _ => by kernel_rfl) hS816 ?_
            refine WD.done (by kernel_rfl) ?_
            refine QX.then_normal (hK756 _ _ ?_)
            refine WC.ret ?_
            refine (hret _ _ _ rfl ?_).1
            clear hN hret hret' hK756 hK754 hK752 hK70 hK68 hK66 hK59 hK57 hK46 hK44 hK42 hK32 hK18 hK16 hK11 hK9 hK2
            exact ⟨congrArg (fun b_ => Ending.returned (Value.bool b_)) (show ((((entsOf (idT3 f flags now).m).length : Int) == 0)) = true from by rw [idT3_m]; rfl), hC810.fr⟩
          · -- operation 15 comes first
            refine WO.new 15 (fun b => .slice (some ⟨b, 0, none⟩) 1 1) (.cells #[.int .i64 f.proto, .int .u32 f.src, .int .i64 f.sport, .int .u32 f.dst, .int .i64 f.dport] 32) (by kernel_rfl) rfl rfl rfl rfl rfl (fun _ => by kernel_rfl) (fun g821 w822 hb825 hl826 hF823 ho827 => ?_)
            have hC824 := hC765.callB hF823 hb825 ho827
            have hS828 := hS773.trans hF823 (by simp)
            refine ⟨hS828, ?_⟩
            have hf829 := tbAt_fr hT766 hF823 (by simp)
            have ho830 := own_fr ho771 hF823 (by simp)
            have hx831 := Expire1_ct p33 b34 (idT2 f flags now) ((now + 60) + 1) w822 hf829 (idT2_bd f flags now).1 (idT2_bd f flags now).2 (by simp [idT2]) (by simp only [idT2, List.mem_singleton]; rintro _ rfl; simp only [idE]; omega)
            rw [show outF2 (idT2 f flags now) ((now + 60) + 1) = (([f] : List Flow), (idT3 f flags now)) from by have q_ := id_out2 (f := f) (flags := flags) hnow0 hnow1; rw [hlim_] at q_; exact q_] at hx831
            refine WD.call 13 (by kernel_rfl) rfl rfl rfl rfl rfl (by kernel_rfl) hx831 ?_
            rintro _ w833 ⟨v_, rfl, hF832, hT835, ho836⟩
            have hC834 := hC824.callFN 0 rfl hF832 (fun _ hx_ => .inl hx_) (tbAt_lt hT835) (own_ge ho836) (own_lt ho836) (fun x_ hx_ hg_ => Nat.not_lt.2 (own_ge ho836 x_ hg_) (hC824.ltF 0 rfl x_ hx_))
            obtain ⟨A837, c838, rfl, hle839⟩ := own_form ho836
            have ho840 := own_base (b' := 0) ho836 (fun _ _ => Nat.zero_le _)
            have hS842 := hS828.trans hF832 (by simp)
            refine ⟨_, rfl, hS842, ?_⟩
            have ho843 := own_fr ho830 hF832 (hC824.disj 1 0 rfl rfl (by decide))
            refine WD.call 16 (by kernel_rfl) rfl rfl rfl rfl rfl (by kernel_rfl) (SameF_ct A837 c838 ([f] : List Flow) (some ⟨g821, 0, none⟩) 1 [f] w833 (own_rd ho840 cellsF_len (by decide)) (Rd.blk (xs := [f]) (hC834.get 1 rfl) cellsF_len rfl) (by simp)) ?_
            rintro _ w846 ⟨rfl, hF845⟩
            have hS848 := hS842.trans hF845 (by simp)
            refine ⟨_, rfl, hS848, ?_⟩
            have hC847 := hC834.call hF845
            have hf849 := tbAt_fr hT835 hF845 (by simp)
            have ho850 := own_fr ho843 hF845 (by simp)
            have ho851 := own_fr ho840 hF845 (by simp)
            refine WD.pure (NoPanic.then hN) 17 81 (.bool (decide (([f] : List Flow) = [f]))) (by kernel_rfl) (fun _ => by kernel_rfl) hS848 ?_
            refine WD.pure (NoPanic.then hN) 18 82 (.bool (decide (([f] : List Flow) = [f]))) (by kernel_rfl) (fun _ => by kernel_rfl) hS848 ?_
            refine WD.know 82 (.bool (decide (([f] : List Flow) = [f]))) (.bool true) rfl (congrArg Value.bool (by simp)) ?_
            refine WD.pure (NoPanic.then hN) 19 83 (.pointer (some ⟨p33, 0, none⟩)) (by kernel_rfl) (fun _ => by kernel_rfl) hS848 ?_
            refine WD.call 20 (by kernel_rfl) rfl rfl rfl rfl rfl (by kernel_rfl) (All1_ct p33 b34 (idT3 f flags now) w846 hf849 (by rw [idT3_m]; exact Nat.zero_le _)) ?_
            rintro _ w854 ⟨v_, rfl, hF853, ho852⟩
            have hC855 := hC847.callN hF853 (own_ge ho852) (own_lt ho852)
            obtain ⟨A856, c857, rfl, hle858⟩ := own_form ho852
            have ho860 := own_base (b' := 0) ho852 (fun _ _ => Nat.zero_le _)
            have hS861 := hS848.trans hF853 (by simp)
            refine ⟨_, rfl, hS861, ?_⟩
            have hf862 := tbAt_fr hf849 hF853 (by simp)
            have ho863 := own_fr ho850 hF853 (by simp)
            have ho864 := own_fr ho851 hF853 (by simp)
            refine WD.pure (NoPanic.then hN) 21 85 (.int .i64 ((entsOf (idT3 f flags now).m).length : Int)) (by kernel_rfl) (fun _ => by kernel_rfl) hS861 ?_
            refine WD.pure (NoPanic.then hN) 22 86 (.bool (((entsOf (idT3 f flags now).m).length : Int) == 0)) (by kernel_rfl) (fun _ => by kernel_rfl) hS861 ?_
            refine WD.pure (NoPanic.then hN) 23 87 (.bool (((entsOf (idT3 f flags now).m).length : Int) == 0)) (by kernel_rfl) (fun _ => by kernel_rfl) hS861 ?_
            refine WD.pure (NoPanic.then hN) 24 6 (.bool (((entsOf (idT3 f flags now).m).length : Int) == 0)) (by kernel_rfl) (fun _ => by kernel_rfl) hS861 ?_
            refine WD.done (by kernel_rfl) ?_
            refine QX.then_normal (hK756 _ _ ?_)
            refine WC.ret ?_
            refine (hret _ _ _ rfl ?_).1
            clear hN hret hret' hK756 hK754 hK752 hK70 hK68 hK66 hK59 hK57 hK46 hK44 hK42 hK32 hK18 hK16 hK11 hK9 hK2
            exact ⟨congrArg (fun b_ => Ending.returned (Value.bool b_)) (show ((((entsOf (idT3 f flags now).m).length : Int) == 0)) = true from by rw [idT3_m]; rfl), hC855.fr⟩

end Go.Proofs.Ytimphmcoafapgaa
