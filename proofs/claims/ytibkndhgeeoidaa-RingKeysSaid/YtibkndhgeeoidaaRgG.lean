/- Contracts of functions of the program, each proved by a walk through its code; conditions stand in the statements. -/
import Derived.Test.YtibkndhgeeoidaaRgF
namespace Go.Proofs.Ytibkndhgeeoidaa
set_option linter.unusedSimpArgs false
set_option linter.unusedVariables false
set_option linter.unusedSectionVars false
open Go Go.RowKit Go.Tw
set_option linter.unusedVariables false
set_option maxRecDepth 20000
/-! ### which rings there are, told by the members as they stand -/
def okG (M : List Int) : Prop := M.length ≤ 64 ∧ (∀ m ∈ M, 0 ≤ m ∧ m ≤ 65535) ∧ M.Nodup
instance decOkG (M : List Int) : Decidable (okG M) := by unfold okG; infer_instance
def goodR (per : Int) (M : List Int) : Int := if per < 1 ∨ 64 < per then 4 else if okG M then 0 else 9
theorem sortI_perm (M : List Int) : (sortI M).Perm M := List.mergeSort_perm _ _
theorem sortI_le (M : List Int) : (sortI M).Pairwise (fun a b => a ≤ b) := by
  have h : (M.mergeSort leI).Pairwise (fun a b => leI a b = true) := List.pairwise_mergeSort (fun a b c h1 h2 => by simp [leI] at *; omega) (fun a b => by simp [leI]; omega) _
  exact h.imp (fun {a b} q => by simpa [leI] using q)
theorem okM_iff (M : List Int) : okM M ↔ okG M := by
  constructor
  · rintro ⟨h, hl⟩
    have hlt : ∀ i j (hi : i < (sortI M).length) (hj : j < (sortI M).length), i < j → (sortI M)[i] < (sortI M)[j] := by
      intro i j hi hj hij
      have h1 : (sortI M)[i] ≤ (sortI M)[j - 1]'(by omega) := by
        by_cases e : i = j - 1
        · subst e; exact Int.le_refl _
        · exact List.pairwise_iff_getElem.1 (sortI_le M) i (j - 1) hi (by omega) (by omega)
      have h2 : (sortI M)[j - 1]'(by omega) ≤ (sortI M)[j] := List.pairwise_iff_getElem.1 (sortI_le M) (j - 1) j (by omega) hj (by omega)
      have h3 := (h j hj _ (List.getElem?_eq_getElem hj)).2 (j - 1) _ (by omega) (List.getElem?_eq_getElem (by omega))
      omega
    refine ⟨by rw [← sortI_len]; exact hl, fun m hm => ?_, ?_⟩
    · obtain ⟨i, hi, rfl⟩ := List.getElem_of_mem ((sortI_perm M).mem_iff.2 hm)
      exact (h i hi _ (List.getElem?_eq_getElem hi)).1
    · rw [← (sortI_perm M).nodup_iff]
      exact List.pairwise_iff_getElem.2 fun i j hi hj hij => by have := hlt i j hi hj hij; omega
  · rintro ⟨hl, hr, hn⟩
    refine ⟨fun k hk m hm => ⟨?_, fun j y hj hy => ?_⟩, by rw [sortI_len]; exact hl⟩
    · exact hr m ((sortI_perm M).mem_iff.1 (List.mem_of_getElem? hm))
    · rw [← (sortI_perm M).nodup_iff] at hn
      obtain ⟨h1, rfl⟩ := List.getElem?_eq_some_iff.1 hm
      obtain ⟨h2, rfl⟩ := List.getElem?_eq_some_iff.1 hy
      exact List.pairwise_iff_getElem.1 hn j k h2 h1 (by omega)
theorem newC_good {per : Int} {M : List Int} {c : Int} (h : newC per M c) : c = goodR per M := by
  unfold newC at h; unfold goodR
  rw [okM_iff] at h
  rcases h with ⟨h1, rfl⟩ | ⟨h1, h2, rfl⟩ | ⟨h1, h2, rfl⟩
  · rw [if_pos h1]
  · rw [if_neg (by omega), if_neg h2]
  · rw [if_neg (by omega), if_pos h2]
theorem good0 {per : Int} {M : List Int} (h : goodR per M = 0) : (1 ≤ per ∧ per ≤ 64) ∧ okG M := by
  unfold goodR at h
  split at h
  · cases h
  · split at h
    · exact ⟨by omega, by assumption⟩
    · cases h
theorem ring_le {per : Int} {M : List Int} (h : goodR per M = 0) : (ringP per M).length ≤ 4096 := by
  obtain ⟨h1, h2, _⟩ := good0 h
  rw [ringP_len]
  exact Nat.mul_le_mul h2 (show per.toNat ≤ 64 by omega)
theorem mem_ringP {per : Int} {M : List Int} {p : Int × Int} : p ∈ ringP per M ↔ p.2 ∈ M ∧ ∃ j, j < per.toNat ∧ p = ptAt p.2 j := by
  unfold ringP
  rw [(List.mergeSort_perm _ _).mem_iff, ptsL, List.mem_flatMap]
  constructor
  · rintro ⟨m, hm, hp⟩
    obtain ⟨j, hj, rfl⟩ := List.mem_map.1 hp
    exact ⟨(sortI_perm M).mem_iff.1 hm, j, List.mem_range.1 hj, rfl⟩
  · rintro ⟨hm, j, hj, e⟩
    exact ⟨p.2, (sortI_perm M).mem_iff.2 hm, List.mem_map.2 ⟨j, List.mem_range.2 hj, e.symm⟩⟩
/-- the pair that New answers -/
def newR (w' : World) (base : Nat) (per : Int) (M : List Int) (a b : Value) : Prop :=
  (goodR per M ≠ 0 ∧ a = .pointer none ∧ b = errV 62 (goodR per M)) ∨ (goodR per M = 0 ∧ ∃ (p : Nat) (G : List Nat) (AP : Option Addr) (cP : Nat) (AM : Option Addr) (cM : Nat), a = .pointer (some ⟨p, 0, none⟩) ∧ b = .nilIface ∧ RingR w' G p per AP cP (ringP per M) AM cM (sortI M) ∧ ∀ x ∈ G, base ≤ x)
theorem newR.fr {w w' : World} {base : Nat} {per : Int} {M : List Int} {a b : Value} (h : newR w base per M a b) (hf : Fr w w' []) : newR w' base per M a b := by
  rcases h with h | ⟨h0, p, G, AP, cP, AM, cM, h1, h2, h3, h4⟩
  · exact .inl h
  · exact .inr ⟨h0, p, G, AP, cP, AM, cM, h1, h2, h3.fr hf (by simp), h4⟩
theorem New_n (per : Int) (A : Option Addr) (n c : Nat) (mem : List Int) (w : World) (hr : Rd w 1 (Go.Tw.encI .i64) A mem) (hn : mem.length = n) (hl : n ≤ 1099511627776) : Calls Try.prog 13 #[.int .i64 per, .slice A n c] w fun e w' => ∃ a b, e = .returned (.tuple #[a, b]) ∧ Fr w w' [] ∧ newR w' w.heap.size per mem a b := by
  subst hn
  refine (New_ct per A c mem w hr hl).mono fun e w' h => ?_
  rcases h with ⟨c_, h0, h1, he, hf⟩ | ⟨h1, p, G, AP, cP, AM, cM, he, hf, hR, hG⟩
  · have hc := newC_good h1; subst hc
    exact ⟨_, _, he, hf, .inl ⟨h0, rfl, rfl⟩⟩
  · exact ⟨_, _, he, hf, .inr ⟨(newC_good h1).symm, p, G, AP, cP, AM, cM, rfl, rfl, hR, hG⟩⟩
theorem uq_same {m : Int} : ∀ r : List Int, (∀ x ∈ r, x = m) → r.foldl uqS [m] = [m]
  | [], _ => rfl
  | x :: r, h => by
    have hx : x = m := h x (List.mem_cons_self ..)
    subst hx
    rw [List.foldl_cons, show uqS [x] x = [x] by simp [uqS]]
    exact uq_same r fun y hy => h y (List.mem_cons_of_mem _ hy)
theorem uqF_one {m : Int} {L : List Int} (h : ∀ x ∈ L, x = m) (hn : L ≠ []) : uqF L = [m] := by
  cases L with
  | nil => exact absurd rfl hn
  | cons x r =>
    have hx : x = m := h x (List.mem_cons_self ..)
    subst hx
    unfold uqF
    rw [List.foldl_cons, show uqS [] x = [x] by simp [uqS]]
    exact uq_same r fun y hy => h y (List.mem_cons_of_mem _ hy)
theorem mem_rotM {key : Int} {pts : List (Int × Int)} {m : Int} : m ∈ rotM key pts ↔ ∃ p ∈ pts, p.2 = m := by
  unfold rotM rotP
  rw [List.mem_map]
  constructor
  · rintro ⟨p, hp, rfl⟩
    rcases List.mem_append.1 hp with h | h
    · exact ⟨p, List.mem_of_mem_drop h, rfl⟩
    · exact ⟨p, List.mem_of_mem_take h, rfl⟩
  · rintro ⟨p, hp, rfl⟩
    rw [← List.take_append_drop (fromP key pts) pts] at hp
    refine ⟨p, ?_, rfl⟩
    rcases List.mem_append.1 hp with h | h
    · exact List.mem_append_right _ h
    · exact List.mem_append_left _ h
theorem alive_good : goodR 4 [32] = 0 := by decide
theorem alive_own : ownersP 7 2 (ringP 4 [32]) = [32] := by
  have hlen := ringP_len 4 [32]
  have h : uqF (rotM 7 (ringP 4 [32])) = [32] := by
    refine uqF_one (fun x hx => ?_) (fun e => ?_)
    · obtain ⟨p, hp, rfl⟩ := mem_rotM.1 hx
      simpa using (mem_ringP.1 hp).1
    · have := rotM_len 7 (ringP 4 [32])
      rw [e, hlen] at this; simp at this
  unfold ownersP
  rw [h]; rfl
theorem alive_ch (f : FlowV) : foundB f [⟨167837697, 80, 1⟩] = true ∧ (chosenE f [⟨167837697, 80, 1⟩]).port = 80 := ⟨rfl, rfl⟩
theorem Choose_n (f : FlowV) (A : Option Addr) (n c : Nat) (ends : List EndV) (w : World) (hr : Rd w 3 cellsE A ends) (hn : ends.length = n) (hwf : ∀ e ∈ ends, wfE e) (hl : n ≤ 1099511627776) : Calls Try.prog 19 #[.agg #[.int .i64 f.proto, .int .u32 f.src, .int .i64 f.sp, .int .u32 f.dst, .int .i64 f.dp], .slice A n c] w fun e w' => e = .returned (.tuple #[.agg #[.int .u32 ((chosenE f ends).dip), .int .i64 ((chosenE f ends).port), .int .i64 ((chosenE f ends).weight)], .bool (foundB f ends)]) ∧ Fr w w' [] := by subst hn; exact Choose_ct f A c ends w hr hwf hl
theorem ints_take {xs ys : List Int} {i : Nat} {a b : Int} (hm : xs.take i = ys.take i) (ha : xs[i]? = some a) (hb : ys[i]? = some b) (h : a = b) : xs.take (i + 1) = ys.take (i + 1) := by
  obtain ⟨h1, rfl⟩ := List.getElem?_eq_some_iff.1 ha
  obtain ⟨h2, rfl⟩ := List.getElem?_eq_some_iff.1 hb
  rw [List.take_succ_eq_append_getElem h1, List.take_succ_eq_append_getElem h2, hm, h]
theorem ints_end {xs ys : List Int} {i : Nat} (hm : xs.take i = ys.take i) (h1 : ¬ i < xs.length) (h2 : xs.length = ys.length) : xs = ys := by
  rw [List.take_of_length_le (by omega), List.take_of_length_le (by omega)] at hm; exact hm
theorem ints_ne {xs ys : List Int} {i : Nat} {a b : Int} (ha : xs[i]? = some a) (hb : ys[i]? = some b) (h : ¬ a = b) : xs ≠ ys := by
  intro e; subst e; rw [ha] at hb; exact h (Option.some.inj hb)

theorem Ints_ct (A B : Option Addr) (c c2 : Nat) (xs ys : List Int) (w : World) (hA : Rd w 1 (Go.Tw.encI .i64) A xs) (hB : Rd w 1 (Go.Tw.encI .i64) B ys) (h1 : xs.length ≤ 9223372036854775807) (h2 : ys.length ≤ 9223372036854775807) : Calls Try.prog 15 #[.slice A xs.length c, .slice B ys.length c2] w fun e w' => e = .returned (.bool (decide (xs = ys))) ∧ Fr w w' [] := by
 refine enterD (n := 26) Try.func15 rfl rfl (Nat.le_of_ble_eq_true rfl) ?_
 intro Q0 hN hret hret'
 have hC := Cx.start w
 refine WCs (fun K1 hK2 => ?_)
 refine WCg (WLq 1 [(4, .bool false)] (WLd rfl (QXn (hK2 _ _ ?_))))
 refine WCs (fun K3 hK4 => ?_)
 refine WCs (fun K5 hK6 => ?_)
 refine WCg (WLq 5 [(10, .bool ((xs.length : Int) != (ys.length : Int))), (9, .int .i64 (ys.length : Int)), (8, .slice B ys.length c2), (7, .int .i64 (xs.length : Int)), (6, .slice A xs.length c)] (WLd rfl (QXn (hK6 _ _ ?_))))
 refine WCa 10 ((xs.length : Int) != (ys.length : Int)) rfl (fun t7b => ?_) (fun t7b => ?_)
 ·
  have t7 : (xs.length : Int) ≠ (ys.length : Int) := by simpa using t7b
  refine WCt rfl ?_
  refine WCs (fun K8 hK9 => ?_)
  refine WCg (WLq 1 [(4, .bool false)] (WLd rfl (QXn (hK9 _ _ ?_))))
  refine WC.ret ?_
  refine QXr ?_
  refine (hret _ _ _ rfl ?_).1
  exact ⟨by rw [decide_eq_false (fun e_ => by subst e_; omega)]; rfl, hC.fr⟩
 ·
  have t7 : (xs.length : Int) = (ys.length : Int) := by simpa using t7b
  refine WCf rfl (WC.skip (QXn (hK4 _ _ ?_)))
  refine WCs (fun aE aj => ?_)
  refine WCs (fun aF ak => ?_)
  refine WCg (WLq 3 [(13, .int .i64 0), (12, .int .i64 (xs.length : Int)), (11, .slice A xs.length c)] (WLd rfl (QXn (ak _ _ ?_))))
  refine WC.block ?_
  refine WC.loop (fun m_ E_ w_ => ∃ (i : Nat), m_ = xs.length - i ∧ E_ = [(0, .slice A xs.length c), (1, .slice B ys.length c2), (12, .int .i64 (xs.length : Int)), (13, .int .i64 (i : Int))] ∧ Cx w [] w_ [] [] ∧ (i ≤ xs.length ∧ xs.take i = ys.take i)) ⟨_, _, ⟨0, rfl, rfl, hC, Nat.zero_le _, rfl⟩, sub_of ⟨rfl, rfl, rfl, rfl, trivial⟩⟩ (fun m17 E_ aG aH al am => ?_)
  obtain ⟨i, rfl, rfl, ag, hi, htk⟩ := am
  refine WCs (fun aI an => ?_)
  refine WCg (WLq 1 [(14, .bool (decide ((i : Int) < (xs.length : Int))))] (WLd rfl (QXn (an _ _ ?_))))
  refine WCs (fun aJ ao => ?_)
  refine WCa 14 (decide ((i : Int) < (xs.length : Int))) rfl (fun ad => ?_) (fun ad => ?_)
  ·
   have aB : (i : Int) < (xs.length : Int) := by have q_ := of_decide_eq_true ad; omega
   refine WCt rfl ?_
   refine WC.skip ?_
   refine QXn (ao _ _ ?_)
   refine WCs (fun aK ap => ?_)
   refine WC.block ?_
   refine WCs (fun aL aq => ?_)
   refine WCg (WLq 2 [(5, .int .i64 (i : Int)), (15, .int .i64 (i : Int))] (WLd rfl (QXn (aq _ _ ?_))))
   refine WCs (fun aM ar => ?_)
   refine WC.drawC ag [] (by kernel_rfl) (fun aN aC ac aa => ?_)
   refine WDq (NPt (NPb (NPt (NPt (NPb (NPt hN)))))) 0 16 (.slice A xs.length c) aa ?_
   refine WDq (NPt (NPb (NPt (NPt (NPb (NPt hN)))))) 1 17 (.int .i64 (i : Int)) aa ?_
   obtain ⟨ah, ae⟩ := get_some (xs := xs) (i := i) (by omega)
   obtain ⟨b37, o39, au, av⟩ := hA.at_ _ _ ae
   refine WDi (NPt (NPb (NPt (NPt (NPb (NPt hN)))))) 2 A xs.length c 18 .i64 (i : Int) b37 o39 i 1 (by kernel_rfl) (by kernel_rfl) au (by omega) (by omega) (o39 + i) (by first | (simp; done) | omega) aa ?_
   refine WDq (NPt (NPb (NPt (NPt (NPb (NPt hN)))))) 4 20 (.slice B ys.length c2) aa ?_
   refine WDq (NPt (NPb (NPt (NPt (NPb (NPt hN)))))) 5 21 (.int .i64 (i : Int)) aa ?_
   obtain ⟨ai, af⟩ := get_some (xs := ys) (i := i) (by omega)
   obtain ⟨b43, o45, aw, ax⟩ := hB.at_ _ _ af
   refine WDi (NPt (NPb (NPt (NPt (NPb (NPt hN)))))) 6 B ys.length c2 22 .i64 (i : Int) b43 o45 i 1 (by kernel_rfl) (by kernel_rfl) aw (by omega) (by omega) (o45 + i) (by first | (simp; done) | omega) aa ?_
   refine WDm (NPt (NPb (NPt (NPt (NPb (NPt hN)))))) 3 3 (.pointer (some ⟨b37, o39 + i, none⟩)) (.int .i64 ah) 19 (fun _ hS_ => run_load1 rfl (by simpa [Nat.add_assoc] using Fr.cell hS_ (ac.fr.cell (av 0 _ rfl) (by simp)) (by simp))) aa ?_
   refine WDm (NPt (NPb (NPt (NPt (NPb (NPt hN)))))) 7 3 (.pointer (some ⟨b43, o45 + i, none⟩)) (.int .i64 ai) 23 (fun _ hS_ => run_load1 rfl (by simpa [Nat.add_assoc] using Fr.cell hS_ (ac.fr.cell (ax 0 _ rfl) (by simp)) (by simp))) aa ?_
   refine WDq (NPt (NPb (NPt (NPt (NPb (NPt hN)))))) 8 24 (.bool (ah != ai)) aa ?_
   refine WD.done (by kernel_rfl) ?_
   refine QXn (ar _ _ ?_)
   refine WCa 24 (ah != ai) rfl (fun ab => ?_) (fun ab => ?_)
   ·
    have aD : ah ≠ ai := by simpa using ab
    refine WCt rfl ?_
    refine WCs (fun aO ay => ?_)
    refine WCg (WLq 1 [(4, .bool false)] (WLd rfl (QXn (ay _ _ ?_))))
    refine WC.ret ?_
    refine QXk ?_
    refine QXr ?_
    refine QXr ?_
    refine QXk ?_
    refine QXr ?_
    refine (hret _ _ _ rfl ?_).1
    exact ⟨by rw [decide_eq_false (ints_ne ae af (by simpa using ab))]; rfl, ac.fr⟩
   ·
    have aD : ah = ai := by simpa using ab
    refine WCf rfl (WC.skip ?_)
    refine QXb ?_
    refine QXn (ap _ _ ?_)
    refine WCg (WLq 1 [(25, .int .i64 (IntKind.i64.wrap ((i : Int) + 1)))] ?_)
    refine WLt (show (.int .i64 (IntKind.i64.wrap ((i : Int) + 1)) : Value) = .int .i64 ((i : Int) + 1) from by rw [wrap_in_i64 ((i : Int) + 1) (by omega) (by omega)]) ?_
    refine WLq 1 [(13, .int .i64 ((i : Int) + 1))] ?_
    refine WLd rfl ?_
    refine QXn ?_
    have az := ac.pick [] [] rfl rfl
    refine fun a_ ha_ => al _ _ _ ?_ ⟨i + 1, rfl, rfl, az, by omega, ints_take htk ae af (by simpa using ab)⟩ a_ (ha_.weaken (sub_of ⟨rfl, rfl, rfl, rfl, trivial⟩))
    omega
  ·
   have aB : (xs.length : Int) ≤ (i : Int) := by have q_ := of_decide_eq_false ad; omega
   refine WCf rfl ?_
   refine WC.exit ?_
   refine QXe ?_
   refine QXe ?_
   refine QX.block_hit ?_
   refine QXn (aj _ _ ?_)
   refine WCs (fun aP aA => ?_)
   refine WCg (WLq 1 [(4, .bool true)] (WLd rfl (QXn (aA _ _ ?_))))
   refine WC.ret ?_
   refine (hret _ _ _ rfl ?_).1
   exact ⟨by rw [decide_eq_true (ints_end htk (by omega) (by omega))]; rfl, ag.fr⟩

theorem Ints_n (A B : Option Addr) (n c n2 c2 : Nat) (xs ys : List Int) (w : World) (hA : Rd w 1 (Go.Tw.encI .i64) A xs) (hn : xs.length = n) (hB : Rd w 1 (Go.Tw.encI .i64) B ys) (hn2 : ys.length = n2) (h1 : n ≤ 9223372036854775807) (h2 : n2 ≤ 9223372036854775807) : Calls Try.prog 15 #[.slice A n c, .slice B n2 c2] w fun e w' => e = .returned (.bool (decide (xs = ys))) ∧ Fr w w' [] := by subst hn hn2; exact Ints_ct A B c c2 xs ys w hA hB h1 h2
theorem alive_ct  (w : World) : Calls Try.prog 11 #[] w fun e w' => e = .returned (.bool true) ∧ Fr w w' [] := by
 refine enterD (n := 37) Try.func11 rfl rfl (Nat.le_of_ble_eq_true rfl) ?_
 intro Q0 hN hret hret'
 have hC := Cx.start w
 refine WCs (fun K1 hK2 => ?_)
 refine WCg (WLq 1 [(0, .bool false)] (WLd rfl (QXn (hK2 _ _ ?_))))
 refine WCs (fun K3 hK4 => ?_)
 refine WCg ?_
 refine WL.newM hC (fun b => .slice (some ⟨b, 0, none⟩) 1 1) (.cells #[.int .i64 32] 3) 6 (fun _ => by kernel_rfl) (fun g5 w6 hb9 hF7 hC8 => ?_)
 refine WLc rfl rfl rfl rfl rfl (by kernel_rfl) (New_n 4 (some ⟨g5, 0, none⟩) 1 1 [32] w6 (Rd.blk (hC8.get 0 rfl) (Go.Tw.encI_len _) rfl) rfl (by first | omega | (simp; done) | (simp; omega))) ?_
 rintro _ aT ⟨a14, b15, rfl, an, (⟨ab, rfl, rfl⟩ | ⟨ab, p17, G18, AP19, cP20, AM21, cM22, rfl, rfl, ad, ao⟩)⟩
 ·
  exact absurd alive_good ab
 ·
  have ap := hC8.callN an ao (RingR.lt ad)
  refine ⟨_, rfl, ?_⟩
  refine WLq 5 [(2, .nilIface), (1, .pointer (some ⟨p17, 0, none⟩)), (9, .nilIface), (8, .pointer (some ⟨p17, 0, none⟩)), (5, .tuple #[.pointer (some ⟨p17, 0, none⟩), .nilIface])] (WLd rfl (QXn (hK4 _ _ ?_)))
  refine WCs (fun aU aq => ?_)
  refine WCg (WLq 2 [(12, .agg #[.int .u32 167837697, .int .i64 80, .int .i64 1]), (11, .agg #[.int .i64 6, .int .u32 0, .int .i64 0, .int .u32 0, .int .i64 0])] ?_)
  refine WL.newM ap (fun b => .slice (some ⟨b, 0, none⟩) 1 1) (.cells #[.int .u32 167837697, .int .i64 80, .int .i64 1] 49) 13 (fun _ => by kernel_rfl) (fun aI aJ aK ar ae => ?_)
  have au := RingR.fr ad ar (by simp)
  refine WLc rfl rfl rfl rfl rfl (by kernel_rfl) (Choose_n (⟨6, 0, 0, 0, 0⟩ : FlowV) (some ⟨aI, 0, none⟩) 1 1 [(⟨167837697, 80, 1⟩ : EndV)] aJ (Rd.blk (xs := [(⟨167837697, 80, 1⟩ : EndV)]) (ae.get 1 rfl) cellsE_len rfl) (by first | rfl | assumption | omega) (by intro e_ h_; simp only [List.mem_cons, List.not_mem_nil, or_false] at h_; subst h_; exact ⟨⟨by decide, by decide⟩, ⟨by decide, by decide⟩, ⟨by decide, by decide⟩⟩) (by first | omega | (simp; done) | (simp; omega))) ?_
  rintro _ aV ⟨rfl, af⟩
  refine ⟨_, rfl, ?_⟩
  have av := ae.call af
  have aw := RingR.fr au af (by simp)
  refine WLq 3 [(16, .bool (foundB (⟨6, 0, 0, 0, 0⟩ : FlowV) [(⟨167837697, 80, 1⟩ : EndV)])), (15, .agg #[.int .u32 ((chosenE (⟨6, 0, 0, 0, 0⟩ : FlowV) [(⟨167837697, 80, 1⟩ : EndV)]).dip), .int .i64 ((chosenE (⟨6, 0, 0, 0, 0⟩ : FlowV) [(⟨167837697, 80, 1⟩ : EndV)]).port), .int .i64 ((chosenE (⟨6, 0, 0, 0, 0⟩ : FlowV) [(⟨167837697, 80, 1⟩ : EndV)]).weight)]), (10, .tuple #[.agg #[.int .u32 ((chosenE (⟨6, 0, 0, 0, 0⟩ : FlowV) [(⟨167837697, 80, 1⟩ : EndV)]).dip), .int .i64 ((chosenE (⟨6, 0, 0, 0, 0⟩ : FlowV) [(⟨167837697, 80, 1⟩ : EndV)]).port), .int .i64 ((chosenE (⟨6, 0, 0, 0, 0⟩ : FlowV) [(⟨167837697, 80, 1⟩ : EndV)]).weight)], .bool (foundB (⟨6, 0, 0, 0, 0⟩ : FlowV) [(⟨167837697, 80, 1⟩ : EndV)])])] ?_
  refine WL.newM av (fun b => .pointer (some ⟨b, 0, none⟩)) (.cells #[.int .u32 0, .int .i64 0, .int .i64 0] 49) 3 (fun _ => by kernel_rfl) (fun ax aW aL ay ag => ?_)
  have az := RingR.fr aw ay (by simp)
  refine WLs (c' := #[.int .u32 ((chosenE (⟨6, 0, 0, 0, 0⟩ : FlowV) [(⟨167837697, 80, 1⟩ : EndV)]).dip), .int .i64 ((chosenE (⟨6, 0, 0, 0, 0⟩ : FlowV) [(⟨167837697, 80, 1⟩ : EndV)]).port), .int .i64 ((chosenE (⟨6, 0, 0, 0, 0⟩ : FlowV) [(⟨167837697, 80, 1⟩ : EndV)]).weight)]) ag 2 49 ax 0 (.agg #[.int .u32 ((chosenE (⟨6, 0, 0, 0, 0⟩ : FlowV) [(⟨167837697, 80, 1⟩ : EndV)]).dip), .int .i64 ((chosenE (⟨6, 0, 0, 0, 0⟩ : FlowV) [(⟨167837697, 80, 1⟩ : EndV)]).port), .int .i64 ((chosenE (⟨6, 0, 0, 0, 0⟩ : FlowV) [(⟨167837697, 80, 1⟩ : EndV)]).weight)]) (by kernel_rfl) rfl (by kernel_rfl) (fun aM aA aB => ?_)
  have ah := RingR.fr az aA (ag.apartM 0 2 rfl rfl)
  refine WLq 1 [(4, .bool (foundB (⟨6, 0, 0, 0, 0⟩ : FlowV) [(⟨167837697, 80, 1⟩ : EndV)]))] (WLd rfl (QXn (aq _ _ ?_)))
  refine WCs (fun aX aC => ?_)
  refine WCg (WLq 8 [(24, .pointer (some ⟨p17, 0, none⟩)), (23, .bool true), (22, .bool true), (21, .bool true), (20, .pointer (some ⟨p17, 0, none⟩)), (19, .bool true), (18, .bool true), (17, .nilIface)] ?_)
  refine WLc rfl rfl rfl rfl rfl (by kernel_rfl) (Owners_ct G18 p17 4 AP19 cP20 (ringP 4 [32]) AM21 cM22 (sortI [32]) 7 2 aM ah (risP_sort _) (ring_le ab)) ?_
  rintro _ aY ⟨v_, rfl, ai, aa⟩
  have aD := aB.callN ai (own_ge aa) (own_lt aa)
  obtain ⟨aN, aO, rfl, aH⟩ := own_form aa
  have aE := own_base (b' := 0) aa (fun _ _ => Nat.zero_le _)
  refine ⟨_, rfl, ?_⟩
  have aF := RingR.fr ah ai (by simp)
  refine WL.newM aD (fun b => .slice (some ⟨b, 0, none⟩) 1 1) (.cells #[.int .i64 32] 3) 26 (fun _ => by kernel_rfl) (fun aP aQ aR aj ak => ?_)
  have aG := RingR.fr aF aj (by simp)
  have ac := own_fr aE aj (by simp)
  refine WLc rfl rfl rfl rfl rfl (by kernel_rfl) (Ints_n aN (some ⟨aP, 0, none⟩) ((ownersP 7 2 (ringP 4 [32])).length) aO 1 1 (ownersP 7 2 (ringP 4 [32])) [32] aQ (own_rd ac (Go.Tw.encI_len _) (by decide)) (own_count (Go.Tw.encI_len _) (by decide) ac) (Rd.blk (ak.get 3 rfl) (Go.Tw.encI_len _) rfl) rfl (own_max ac) (by first | omega | (simp; done))) ?_
  rintro _ aZ ⟨rfl, al⟩
  refine ⟨_, rfl, ?_⟩
  have am := ak.call al
  have aS := RingR.fr aG al (by simp)
  refine WLq 2 [(29, .bool (decide ((ownersP 7 2 (ringP 4 [32])) = [32]))), (28, .bool (decide ((ownersP 7 2 (ringP 4 [32])) = [32])))] ?_
  refine WL.know 29 (.bool (decide ((ownersP 7 2 (ringP 4 [32])) = [32]))) (.bool true) rfl (congrArg Value.bool (by exact decide_eq_true alive_own)) ?_
  refine WLq 3 [(32, .bool (foundB (⟨6, 0, 0, 0, 0⟩ : FlowV) [(⟨167837697, 80, 1⟩ : EndV)])), (31, .bool (foundB (⟨6, 0, 0, 0, 0⟩ : FlowV) [(⟨167837697, 80, 1⟩ : EndV)])), (30, .bool (foundB (⟨6, 0, 0, 0, 0⟩ : FlowV) [(⟨167837697, 80, 1⟩ : EndV)]))] ?_
  refine WL.know 32 (.bool (foundB (⟨6, 0, 0, 0, 0⟩ : FlowV) [(⟨167837697, 80, 1⟩ : EndV)])) (.bool true) rfl (congrArg Value.bool (by exact (alive_ch _).1)) ?_
  refine WLq 1 [(33, .pointer (some ⟨ax, 1, none⟩))] ?_
  refine WLo 3 (.pointer (some ⟨ax, 1, none⟩)) (.int .i64 ((chosenE (⟨6, 0, 0, 0, 0⟩ : FlowV) [(⟨167837697, 80, 1⟩ : EndV)]).port)) 34 (run_ld (am.get 2 rfl) rfl) ?_
  refine WLq 3 [(0, .bool (((chosenE (⟨6, 0, 0, 0, 0⟩ : FlowV) [(⟨167837697, 80, 1⟩ : EndV)]).port) == 80)), (36, .bool (((chosenE (⟨6, 0, 0, 0, 0⟩ : FlowV) [(⟨167837697, 80, 1⟩ : EndV)]).port) == 80)), (35, .bool (((chosenE (⟨6, 0, 0, 0, 0⟩ : FlowV) [(⟨167837697, 80, 1⟩ : EndV)]).port) == 80))] (WLd rfl (QXn (aC _ _ ?_)))
  refine WC.ret ?_
  refine (hret _ _ _ rfl ?_).1
  exact ⟨rfl, am.fr⟩

end Go.Proofs.Ytibkndhgeeoidaa
