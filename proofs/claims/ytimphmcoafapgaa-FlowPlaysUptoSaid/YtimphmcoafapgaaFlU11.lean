/- Contracts of functions of the program, each proved by a walk through its code; conditions stand in the statements. -/
import Derived.Test.YtimphmcoafapgaaFlG11
namespace Go.Proofs.Ytimphmcoafapgaa
set_option linter.unusedSimpArgs false
set_option linter.unusedVariables false
set_option linter.unusedSectionVars false
open Go Go.RowKit Go.Tw
set_option linter.unusedVariables false
set_option maxRecDepth 20000
theorem bvand_bits (x : BitVec 64) : (x &&& 1#64 = if x.getLsbD 0 then 1#64 else 0#64) ∧ (x &&& 2#64 = if x.getLsbD 1 then 2#64 else 0#64) ∧ (x &&& 4#64 = if x.getLsbD 2 then 4#64 else 0#64) ∧ (x &&& 5#64 = (if x.getLsbD 0 then 1#64 else 0#64) ||| (if x.getLsbD 2 then 4#64 else 0#64)) := by
  have key : ∀ (k : Nat), k < 3 → x &&& BitVec.twoPow 64 k = if x.getLsbD k then BitVec.twoPow 64 k else 0#64 := fun k hk => by
    rw [BitVec.and_twoPow]
  have h1 := key 0 (by omega)
  have h2 := key 1 (by omega)
  have h4 := key 2 (by omega)
  have e1 : BitVec.twoPow 64 0 = 1#64 := by decide
  have e2 : BitVec.twoPow 64 1 = 2#64 := by decide
  have e4 : BitVec.twoPow 64 2 = 4#64 := by decide
  rw [e1] at h1; rw [e2] at h2; rw [e4] at h4
  refine ⟨h1, h2, h4, ?_⟩
  have e5 : (5#64 : BitVec 64) = 1#64 ||| 4#64 := by decide
  rw [e5, BitVec.and_or_distrib_left, h1, h4]
theorem and_vals (n : Int) : (Go.bits .and .i64 n 2 = 0 ∨ Go.bits .and .i64 n 2 = 2) ∧ (Go.bits .and .i64 n 5 = 0 ↔ ¬ (Go.bits .and .i64 n 1 = 1 ∨ Go.bits .and .i64 n 4 = 4)) := by
  obtain ⟨h1, h2, h4, h5⟩ := bvand_bits (BitVec.ofInt 64 n)
  have g : ∀ k : Int, Go.bits .and .i64 n k = IntKind.i64.wrap ((BitVec.ofInt 64 n &&& BitVec.ofInt 64 k).toNat : Int) := fun k => rfl
  have o1 : BitVec.ofInt 64 1 = 1#64 := by decide
  have o2 : BitVec.ofInt 64 2 = 2#64 := by decide
  have o4 : BitVec.ofInt 64 4 = 4#64 := by decide
  have o5 : BitVec.ofInt 64 5 = 5#64 := by decide
  rw [g 2, g 5, g 1, g 4, o1, o2, o4, o5, h1, h2, h4, h5]
  cases (BitVec.ofInt 64 n).getLsbD 0 <;> cases (BitVec.ofInt 64 n).getLsbD 1 <;> cases (BitVec.ofInt 64 n).getLsbD 2 <;> exact ⟨by decide, by decide⟩
def flagsOf (f : Flow) (flags : Int) : Int := if f.proto = 6 then flags else 0
def idE (f : Flow) (flags now : Int) : Ent := ⟨f, 1, 1, decide (Go.bits .and .i64 (flagsOf f flags) 2 = 0), decide (¬ Go.bits .and .i64 (flagsOf f flags) 5 = 0), now⟩
def idT1 (f : Flow) (now : Int) : Tb := ⟨[(f, ⟨f, 1, 1, false, false, now⟩)], 0, 5, 1, 5⟩
def idT2 (f : Flow) (flags now : Int) : Tb := ⟨[(f, idE f flags now)], if Go.bits .and .i64 (flagsOf f flags) 2 = 0 then 1 else 0, 5, if Go.bits .and .i64 (flagsOf f flags) 2 = 0 then 0 else 1, 5⟩
theorem id_put {f : Flow} {now : Int} {T' : Tb} {o : Ent} {fd : Bool} {er : Int} (hf : goodF f = true) (ht : goodTime now = true) (h : PutRel ⟨[], 0, 5, 0, 5⟩ f 1 1 now T' o fd er) : T' = idT1 f now ∧ o = zeroE ∧ fd = false ∧ er = 0 := put_new_of h hf ht rfl (by decide) (by decide)
theorem id_touch {f : Flow} {flags now : Int} (ht : goodTime now = true) : touchT (idT1 f now) f flags now = (idT2 f flags now, true) := by
  have hl : lookL (idT1 f now).m f = some ⟨f, 1, 1, false, false, now⟩ := by simp [idT1, lookL]
  unfold touchT
  rw [hl]
  simp only [ht]
  by_cases h2 : Go.bits .and .i64 (flagsOf f flags) 2 = 0
  · have h2' := h2
    unfold flagsOf at h2'
    by_cases h5 : Go.bits .and .i64 (flagsOf f flags) 5 = 0
    · have h5' := h5
      unfold flagsOf at h5'
      simp [h2', h5', idT1, idT2, idE, h2, h5, putL]
    · have h5' := h5
      unfold flagsOf at h5'
      simp [h2', h5', idT1, idT2, idE, h2, h5, putL]
  · have h2' := h2
    unfold flagsOf at h2'
    by_cases h5 : Go.bits .and .i64 (flagsOf f flags) 5 = 0
    · have h5' := h5
      unfold flagsOf at h5'
      simp [h2', h5', idT1, idT2, idE, h2, h5, putL]
    · have h5' := h5
      unfold flagsOf at h5'
      simp [h2', h5', idT1, idT2, idE, h2, h5, putL]
theorem idT2_bd (f : Flow) (flags now : Int) : (-1000000000 ≤ (idT2 f flags now).th ∧ (idT2 f flags now).th ≤ 1000000000) ∧ (-1000000000 ≤ (idT2 f flags now).uh ∧ (idT2 f flags now).uh ≤ 1000000000) := by
  unfold idT2; dsimp only; split <;> omega
def limOf (e : Ent) : Int := if e.closing then 5 else if e.trusted then 60 else 10
theorem lim_le (e : Ent) : 5 ≤ limOf e ∧ limOf e ≤ 60 := by unfold limOf; split; omega; split <;> omega
theorem idleB_lim (e : Ent) (t : Int) : idleB e t = decide (t - e.last > limOf e) := rfl
theorem id_out1 {f : Flow} {flags now : Int} (h0 : 0 ≤ now) (h1 : now ≤ 549755813888) : outF2 (idT2 f flags now) (now + limOf (idE f flags now)) = ([], idT2 f flags now) := by
  have hl := lim_le (idE f flags now)
  have ht : goodTime (now + limOf (idE f flags now)) = true := by simp [goodTime]; omega
  have hi : idleB (idE f flags now) (now + limOf (idE f flags now)) = false := by
    rw [idleB_lim]; exact decide_eq_false (by show ¬ (now + limOf (idE f flags now) - now > _); omega)
  have ho : outF (idT2 f flags now).m (now + limOf (idE f flags now)) = [] := by simp [outF, idT2, entsOf, hi]
  unfold outF2; rw [if_pos ht, ho]; rfl
def idT3 (f : Flow) (flags now : Int) : Tb := (([f] : List Flow).foldl remF (idT2 f flags now, 0)).1
theorem id_out2 {f : Flow} {flags now : Int} (h0 : 0 ≤ now) (h1 : now ≤ 549755813888) : outF2 (idT2 f flags now) (now + limOf (idE f flags now) + 1) = ([f], idT3 f flags now) := by
  have hl := lim_le (idE f flags now)
  have ht : goodTime (now + limOf (idE f flags now) + 1) = true := by simp [goodTime]; omega
  have hi : idleB (idE f flags now) (now + limOf (idE f flags now) + 1) = true := by
    rw [idleB_lim]; exact decide_eq_true (by show now + limOf (idE f flags now) + 1 - now > _; omega)
  have ho : outF (idT2 f flags now).m (now + limOf (idE f flags now) + 1) = [f] := by
    simp only [outF, idT2, entsOf, List.map_cons, List.map_nil]
    rw [List.filter_cons_of_pos (by simpa using hi)]
    rfl
  unfold outF2; rw [if_pos ht, ho]; rfl
theorem idT3_m (f : Flow) (flags now : Int) : (idT3 f flags now).m = [] := by
  show (rem1 (idT2 f flags now) f).m = []
  unfold rem1
  have hl : lookL (idT2 f flags now).m f = some (idE f flags now) := by simp [idT2, lookL]
  rw [hl]
  dsimp only
  split <;> simp [idT2, delL]
theorem lim_code (f : Flow) (flags now : Int) : limOf (idE f flags now) = if f.proto = 6 ∧ (Go.bits .and .i64 flags 1 = 1 ∨ Go.bits .and .i64 flags 4 = 4) then 5 else if f.proto = 6 ∧ Go.bits .and .i64 flags 2 = 2 then 10 else 60 := by
  obtain ⟨v2, v5⟩ := and_vals flags
  have z2 : Go.bits .and .i64 0 2 = 0 := by decide
  have z5 : Go.bits .and .i64 0 5 = 0 := by decide
  unfold limOf idE flagsOf
  by_cases hp : f.proto = 6
  · simp only [hp, if_true, true_and]
    by_cases h : Go.bits .and .i64 flags 1 = 1 ∨ Go.bits .and .i64 flags 4 = 4
    · have : ¬ Go.bits .and .i64 flags 5 = 0 := fun e => v5.1 e h
      simp [this, h]
    · have h5 := v5.2 h
      rcases v2 with v2 | v2
      · simp [h5, h, v2]
      · simp [h5, h, v2]
  · simp [hp, z2, z5]
theorem takeF_same {xs ys : List Flow} {k : Nat} {x y : Flow} (h : xs.take k = ys.take k) (hx : xs[k]? = some x) (hy : ys[k]? = some y) (e : x = y) : xs.take (k + 1) = ys.take (k + 1) := by
  obtain ⟨hk, rfl⟩ := List.getElem?_eq_some_iff.1 hx
  obtain ⟨hk', rfl⟩ := List.getElem?_eq_some_iff.1 hy
  rw [List.take_succ_eq_append_getElem hk, List.take_succ_eq_append_getElem hk', h, e]
theorem sameF_end {xs ys : List Flow} {k : Nat} (h : xs.take k = ys.take k) (hk : xs.length ≤ k) (hl : xs.length = ys.length) : xs = ys := by
  rwa [List.take_of_length_le hk, List.take_of_length_le (by omega)] at h
theorem SameF_ct (A : Option Addr) (c : Nat) (xs : List Flow) (B : Option Addr) (c2 : Nat) (ys : List Flow) (w : World) (hr : Rd w 5 cellsF A xs) (hr2 : Rd w 5 cellsF B ys) (hm : xs.length < 2 ^ 41) : Calls Try.prog 16 #[.slice A xs.length c, .slice B ys.length c2] w fun e w' => e = .returned (.bool (decide (xs = ys))) ∧ Fr w w' [] := by
  refine enterD (n := 26) Try.func16 rfl rfl (Nat.le_of_ble_eq_true rfl) ?_
  intro Q0 hN hret hret'
  have hC := Cx.start w
  refine WC.seq (fun K1 hK2 => ?_)
  refine WC.region ?_
  refine WL.runs 1 [(4, .bool false)] (fun _ => by kernel_rfl) ?_
  refine WL.done rfl ?_
  refine QX.then_normal (hK2 _ _ ?_)
  refine WC.seq (fun K3 hK4 => ?_)
  refine WC.seq (fun K5 hK6 => ?_)
  refine WC.region ?_
  refine WL.runs 5 [(10, .bool ((xs.length : Int) != (ys.length : Int))), (9, .int .i64 (ys.length : Int)), (8, .slice B ys.length c2), (7, .int .i64 (xs.length : Int)), (6, .slice A xs.length c)] (fun _ => by kernel_rfl) ?_
  refine WL.done rfl ?_
  refine QX.then_normal (hK6 _ _ ?_)
  refine WC.test_at 10 ((xs.length : Int) != (ys.length : Int)) rfl (fun t7b => ?_) (fun t7b => ?_)
  · -- (xs.length : Int) ≠ (ys.length : Int): true
    have t7 : (xs.length : Int) ≠ (ys.length : Int) := by simpa using t7b
    refine WC.cond_true rfl ?_
    refine WC.seq (fun K8 hK9 => ?_)
    refine WC.region ?_
    refine WL.runs 1 [(4, .bool false)] (fun _ => by kernel_rfl) ?_
    refine WL.done rfl ?_
    refine QX.then_normal (hK9 _ _ ?_)
    refine WC.ret ?_
    refine QX.then_ret ?_
    refine (hret _ _ _ rfl ?_).1
    clear hN hret hret' hK9 hK6 hK4 hK2
    exact ⟨by rw [decide_eq_false (fun e_ => by have := congrArg List.length e_; omega)]; rfl, hC.fr⟩
  · -- (xs.length : Int) ≠ (ys.length : Int): false
    have t7 : (xs.length : Int) = (ys.length : Int) := by simpa using t7b
    refine WC.cond_false rfl ?_
    refine WC.skip ?_
    refine QX.then_normal (hK4 _ _ ?_)
    refine WC.seq (fun K10 hK11 => ?_)
    refine WC.seq (fun K12 hK13 => ?_)
    refine WC.region ?_
    refine WL.runs 1 [(5, .int .i64 0)] (fun _ => by kernel_rfl) ?_
    refine WL.done rfl ?_
    refine QX.then_normal (hK13 _ _ ?_)
    refine WC.block ?_
    refine WC.loop (fun m_ E_ w_ => ∃ (k : Nat), m_ = xs.length - k ∧ E_ = [(0, .slice A xs.length c), (1, .slice B ys.length c2), (5, .int .i64 (k : Int)), (6, .slice A xs.length c), (7, .int .i64 (xs.length : Int)), (8, .slice B ys.length c2), (9, .int .i64 (ys.length : Int)), (10, .bool false)] ∧ Cx w [] w_ [] [] ∧ (k ≤ xs.length ∧ xs.take k = ys.take k)) ⟨_, _, ⟨0, rfl, rfl, hC, Nat.zero_le _, rfl⟩, sub_of ⟨rfl, rfl, rfl, rfl, rfl, rfl, rfl, rfl, trivial⟩⟩ (fun m17 E_ w18 K14 hK15 hI16 => ?_)
    obtain ⟨k, rfl, rfl, hC19, hk, hsame⟩ := hI16
    refine WC.seq (fun K20 hK21 => ?_)
    refine WC.seq (fun K22 hK23 => ?_)
    refine WC.region ?_
    refine WL.runs 4 [(14, .bool (decide ((k : Int) < (xs.length : Int)))), (13, .int .i64 (xs.length : Int)), (12, .slice A xs.length c), (11, .int .i64 (k : Int))] (fun _ => by kernel_rfl) ?_
    refine WL.done rfl ?_
    refine QX.then_normal (hK23 _ _ ?_)
    refine WC.test_at 14 (decide ((k : Int) < (xs.length : Int))) rfl (fun t24b => ?_) (fun t24b => ?_)
    · -- (k : Int) < (xs.length : Int): true
      have t24 : (k : Int) < (xs.length : Int) := by have q_ := of_decide_eq_true t24b; omega
      refine WC.cond_true rfl ?_
      refine WC.skip ?_
      refine QX.then_normal (hK21 _ _ ?_)
      refine WC.seq (fun K25 hK26 => ?_)
      refine WC.block ?_
      refine WC.seq (fun K27 hK28 => ?_)
      refine WC.drawC hC19 [] (by kernel_rfl) (fun w29 hF30 hC31 hS32 => ?_)
      refine WD.pure (NoPanic.then (NoPanic.block (NoPanic.then (NoPanic.then (NoPanic.block (NoPanic.then hN)))))) 0 17 (.slice A xs.length c) (by kernel_rfl) (fun _ => by kernel_rfl) hS32 ?_
      refine WD.pure (NoPanic.then (NoPanic.block (NoPanic.then (NoPanic.then (NoPanic.block (NoPanic.then hN)))))) 1 18 (.int .i64 (k : Int)) (by kernel_rfl) (fun _ => by kernel_rfl) hS32 ?_
      obtain ⟨e33, he34⟩ := get_some (xs := xs) (i := k) (by omega)
      obtain ⟨b35, o37, hA36, hc38⟩ := hr.at_ _ _ he34
      refine WD.index (NoPanic.then (NoPanic.block (NoPanic.then (NoPanic.then (NoPanic.block (NoPanic.then hN)))))) 2 A xs.length c 19 .i64 (k : Int) b35 o37 k 5 (by kernel_rfl) (by kernel_rfl) hA36 (by omega) (by omega) (o37 + k * 5) (by first | (simp; done) | omega) hS32 ?_
      refine WD.pure (NoPanic.then (NoPanic.block (NoPanic.then (NoPanic.then (NoPanic.block (NoPanic.then hN)))))) 4 21 (.slice B ys.length c2) (by kernel_rfl) (fun _ => by kernel_rfl) hS32 ?_
      refine WD.pure (NoPanic.then (NoPanic.block (NoPanic.then (NoPanic.then (NoPanic.block (NoPanic.then hN)))))) 5 22 (.int .i64 (k : Int)) (by kernel_rfl) (fun _ => by kernel_rfl) hS32 ?_
      obtain ⟨e39, he40⟩ := get_some (xs := ys) (i := k) (by omega)
      obtain ⟨b41, o43, hA42, hc44⟩ := hr2.at_ _ _ he40
      refine WD.index (NoPanic.then (NoPanic.block (NoPanic.then (NoPanic.then (NoPanic.block (NoPanic.then hN)))))) 6 B ys.length c2 23 .i64 (k : Int) b41 o43 k 5 (by kernel_rfl) (by kernel_rfl) hA42 (by omega) (by omega) (o43 + k * 5) (by first | (simp; done) | omega) hS32 ?_
      refine WD.load (NoPanic.then (NoPanic.block (NoPanic.then (NoPanic.then (NoPanic.block (NoPanic.then hN)))))) 3 32 (.pointer (some ⟨b35, o37 + k * 5, none⟩)) (.agg #[.int .i64 e33.proto, .int .u32 e33.src, .int .i64 e33.sport, .int .u32 e33.dst, .int .i64 e33.dport]) 20 (by kernel_rfl) (by kernel_rfl) (fun _ hS_ => run_rdN (l := [.int .i64 e33.proto, .int .u32 e33.src, .int .i64 e33.sport, .int .u32 e33.dst, .int .i64 e33.dport]) rfl rfl (fun j u hu => by have hq_ := Fr.cell hS_ (hC31.fr.cell (hc38 j u hu) (by simp)) (by simp); simpa [Nat.add_assoc] using hq_)) hS32 ?_
      refine WD.load (NoPanic.then (NoPanic.block (NoPanic.then (NoPanic.then (NoPanic.block (NoPanic.then hN)))))) 7 32 (.pointer (some ⟨b41, o43 + k * 5, none⟩)) (.agg #[.int .i64 e39.proto, .int .u32 e39.src, .int .i64 e39.sport, .int .u32 e39.dst, .int .i64 e39.dport]) 24 (by kernel_rfl) (by kernel_rfl) (fun _ hS_ => run_rdN (l := [.int .i64 e39.proto, .int .u32 e39.src, .int .i64 e39.sport, .int .u32 e39.dst, .int .i64 e39.dport]) rfl rfl (fun j u hu => by have hq_ := Fr.cell hS_ (hC31.fr.cell (hc44 j u hu) (by simp)) (by simp); simpa [Nat.add_assoc] using hq_)) hS32 ?_
      have hr45 : ∀ w_, Sem.run Try.prog (do eqGuard .neq 32 (Operand.tmp 20) (Operand.tmp 24) (.agg #[.int .i64 e33.proto, .int .u32 e33.src, .int .i64 e33.sport, .int .u32 e33.dst, .int .i64 e33.dport]) (.agg #[.int .i64 e39.proto, .int .u32 e39.src, .int .i64 e39.sport, .int .u32 e39.dst, .int .i64 e39.dport]); binOp .neq 32 (.agg #[.int .i64 e33.proto, .int .u32 e33.src, .int .i64 e33.sport, .int .u32 e33.dst, .int .i64 e33.dport]) (.agg #[.int .i64 e39.proto, .int .u32 e39.src, .int .i64 e39.sport, .int .u32 e39.dst, .int .i64 e39.dport])) w_ = .ok (.bool (!(e33.proto == e39.proto && (e33.src == e39.src && (e33.sport == e39.sport && (e33.dst == e39.dst && (e33.dport == e39.dport && true))))))) w_ := fun w_ => (run_neq_S (by kernel_rfl))
      refine WD.semP (NoPanic.then (NoPanic.block (NoPanic.then (NoPanic.then (NoPanic.block (NoPanic.then hN)))))) 8 (do eqGuard .neq 32 (Operand.tmp 20) (Operand.tmp 24) (.agg #[.int .i64 e33.proto, .int .u32 e33.src, .int .i64 e33.sport, .int .u32 e33.dst, .int .i64 e33.dport]) (.agg #[.int .i64 e39.proto, .int .u32 e39.src, .int .i64 e39.sport, .int .u32 e39.dst, .int .i64 e39.dport]); binOp .neq 32 (.agg #[.int .i64 e33.proto, .int .u32 e33.src, .int .i64 e33.sport, .int .u32 e33.dst, .int .i64 e33.dport]) (.agg #[.int .i64 e39.proto, .int .u32 e39.src, .int .i64 e39.sport, .int .u32 e39.dst, .int .i64 e39.dport])) 25 (.bool (!(e33.proto == e39.proto && (e33.src == e39.src && (e33.sport == e39.sport && (e33.dst == e39.dst && (e33.dport == e39.dport && true))))))) (by kernel_rfl) (by kernel_rfl) (fun _ _ => hr45 _) hS32 ?_
      refine WD.done (by kernel_rfl) ?_
      refine QX.then_normal (hK28 _ _ ?_)
      refine WC.test_at 25 (!(e33.proto == e39.proto && (e33.src == e39.src && (e33.sport == e39.sport && (e33.dst == e39.dst && (e33.dport == e39.dport && true)))))) rfl (fun t46b => ?_) (fun t46b => ?_)
      · -- (!(e33.proto == e39.proto && (e33.src == e39.src && (e33.sport == e39.sport && (e33.dst == e39.dst && (e33.dport == e39.dport && true)))))) = true: true
        have t46 : (e33.proto == e39.proto && (e33.src == e39.src && (e33.sport == e39.sport && (e33.dst == e39.dst && (e33.dport == e39.dport && true))))) = false := by first | (simpa only [Bool.not_eq_true', Bool.not_eq_false'] using t46b) | simpa using t46b
        have hdiff_ := t46b
        refine WC.cond_true rfl ?_
        refine WC.seq (fun K47 hK48 => ?_)
        refine WC.region ?_
        refine WL.runs 1 [(4, .bool false)] (fun _ => by kernel_rfl) ?_
        refine WL.done rfl ?_
        refine QX.then_normal (hK48 _ _ ?_)
        refine WC.ret ?_
        refine QX.block_ret ?_
        refine QX.then_ret ?_
        refine QX.then_ret ?_
        refine QX.block_ret ?_
        refine QX.then_ret ?_
        refine (hret _ _ _ rfl ?_).1
        clear hN hret hret' hK48 hK28 hK26 hK23 hK21 hK13 hK11 hK6 hK4 hK2
        have hne_ : ¬ xs = ys := fun e_ => by
          rw [e_, he40] at he34
          simp only [Option.some.injEq] at he34
          rw [he34] at hdiff_
          simp at hdiff_
        exact ⟨by rw [decide_eq_false hne_]; rfl, hC31.fr⟩
      · -- (!(e33.proto == e39.proto && (e33.src == e39.src && (e33.sport == e39.sport && (e33.dst == e39.dst && (e33.dport == e39.dport && true)))))) = true: false
        have t46 : (e33.proto == e39.proto && (e33.src == e39.src && (e33.sport == e39.sport && (e33.dst == e39.dst && (e33.dport == e39.dport && true))))) = true := by first | (simpa only [Bool.not_eq_true', Bool.not_eq_false'] using t46b) | simpa using t46b
        have hdiff_ := t46b
        refine WC.cond_false rfl ?_
        refine WC.skip ?_
        refine QX.block_normal ?_
        refine QX.then_normal (hK26 _ _ ?_)
        refine WC.region ?_
        refine WL.runs 2 [(16, .int .i64 (IntKind.i64.wrap ((k : Int) + 1))), (15, .int .i64 (k : Int))] (fun _ => by kernel_rfl) ?_
        refine WL.recast (show (.int .i64 (IntKind.i64.wrap ((k : Int) + 1)) : Value) = .int .i64 ((k : Int) + 1) from by rw [wrap_in_i64 ((k : Int) + 1) (by omega) (by omega)]) ?_
        refine WL.runs 1 [(5, .int .i64 ((k : Int) + 1))] (fun _ => by kernel_rfl) ?_
        refine WL.done rfl ?_
        refine QX.then_normal ?_
        have hC49 := hC31.pick [] [] rfl rfl
        refine fun a_ ha_ => hK15 _ _ _ ?_ ⟨k + 1, rfl, rfl, hC49, by omega, takeF_same hsame he34 he40 (flow_eq.2 (by simpa using hdiff_))⟩ a_ (ha_.weaken (sub_of ⟨rfl, rfl, rfl, rfl, rfl, rfl, rfl, rfl, trivial⟩))
        omega
    · -- (k : Int) < (xs.length : Int): false
      have t24 : (xs.length : Int) ≤ (k : Int) := by have q_ := of_decide_eq_false t24b; omega
      have hdiff_ := t24b
      refine WC.cond_false rfl ?_
      refine WC.exit ?_
      refine QX.then_exit ?_
      refine QX.then_exit ?_
      refine QX.block_hit ?_
      refine QX.then_normal (hK11 _ _ ?_)
      refine WC.seq (fun K50 hK51 => ?_)
      refine WC.region ?_
      refine WL.runs 1 [(4, .bool true)] (fun _ => by kernel_rfl) ?_
      refine WL.done rfl ?_
      refine QX.then_normal (hK51 _ _ ?_)
      refine WC.ret ?_
      refine (hret _ _ _ rfl ?_).1
      clear hN hret hret' hK51 hK23 hK21 hK13 hK11 hK6 hK4 hK2
      exact ⟨by rw [decide_eq_true (sameF_end hsame (by omega) (by omega))]; rfl, hC19.fr⟩

end Go.Proofs.Ytimphmcoafapgaa
