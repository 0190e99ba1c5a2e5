/- Contracts of functions of the program, each proved by a walk through its code; conditions stand in the statements. -/
import Derived.Test.YtibkndhgeeoidaaRgE
namespace Go.Proofs.Ytibkndhgeeoidaa
set_option linter.unusedSimpArgs false
set_option linter.unusedVariables false
set_option linter.unusedSectionVars false
open Go Go.RowKit Go.Tw
set_option linter.unusedVariables false
set_option maxRecDepth 20000
theorem contains_idx {xs : List Int} {x : Int} {i : Nat} {e : Int} (he : xs[i]? = some e) (h : x = e) : xs.contains x = true := by
  rw [List.contains_iff_mem]; subst h; exact List.mem_of_getElem? he
theorem contains_all {xs : List Int} {x : Int} (h : (xs.all fun e => !(x == e)) = true) : xs.contains x = false := by
  rw [List.all_eq_true] at h
  rw [← Bool.not_eq_true, List.contains_iff_mem]
  intro hx; have := h x hx; simp at this
theorem all_snoc {xs : List Int} {x : Int} {i : Nat} {e : Int} (he : xs[i]? = some e) (hm : ((xs.take i).all fun e => !(x == e)) = true) (h : ¬ x = e) : ((xs.take (i + 1)).all fun e => !(x == e)) = true := by
  obtain ⟨hi, rfl⟩ := List.getElem?_eq_some_iff.1 he
  rw [List.take_succ_eq_append_getElem hi, List.all_append, hm]; simpa using h
/-! ### the owners of a key -/
theorem cmpI_lt0 {x y : Int} : cmpI x y < 0 ↔ x < y := by unfold cmpI; (repeat' split) <;> omega
def fromP (key : Int) (pts : List (Int × Int)) : Nat := pts.countP fun p => decide (p.1 < key)
theorem fromP_le (key : Int) (pts : List (Int × Int)) : fromP key pts ≤ pts.length := List.countP_le_length
theorem from_eq {key : Int} {pts : List (Int × Int)} {f : Nat} (hf : f ≤ pts.length) (h1 : ∀ k p, k < f → pts[k]? = some p → p.1 < key) (h2 : ∀ k p, f ≤ k → pts[k]? = some p → key ≤ p.1) : fromP key pts = f := by
  unfold fromP
  conv => lhs; rw [← List.take_append_drop f pts]
  rw [List.countP_append, List.countP_eq_length.2, List.countP_eq_zero.2, List.length_take]
  · omega
  · intro a ha
    obtain ⟨i, hi⟩ := List.mem_iff_getElem?.1 ha
    rw [List.getElem?_drop] at hi
    have := h2 (f + i) a (by omega) hi
    simp; omega
  · intro a ha
    obtain ⟨i, hi⟩ := List.mem_iff_getElem?.1 ha
    rw [List.getElem?_take] at hi
    split at hi
    · have := h1 i a (by assumption) hi; simpa using this
    · cases hi
def risP (pts : List (Int × Int)) : Prop := ∀ (j k : Nat) (p q : Int × Int), j < k → pts[j]? = some p → pts[k]? = some q → p.1 ≤ q.1
theorem risP_sort (D : List (Int × Int)) : risP (D.mergeSort leP) := by
  intro j k p q hjk hp hq
  have h := List.pairwise_iff_getElem.1 (sortP_sorted D)
  obtain ⟨hj, rfl⟩ := List.getElem?_eq_some_iff.1 hp
  obtain ⟨hk, rfl⟩ := List.getElem?_eq_some_iff.1 hq
  have := h j k hj hk hjk
  rw [leP_iff] at this
  unfold ltP at this
  omega
def loP (key : Int) (pts : List (Int × Int)) (i : Nat) : Prop := ∀ (k : Nat) (p : Int × Int), k < i → pts[k]? = some p → p.1 < key
def hiP (key : Int) (pts : List (Int × Int)) (j : Nat) : Prop := ∀ (k : Nat) (p : Int × Int), j ≤ k → pts[k]? = some p → key ≤ p.1
theorem loP_0 (key : Int) (pts : List (Int × Int)) : loP key pts 0 := fun k _ h => absurd h (Nat.not_lt_zero _)
theorem hiP_end (key : Int) (pts : List (Int × Int)) : hiP key pts pts.length := fun k p h hp => by
  have := (List.getElem?_eq_some_iff.1 hp).1; omega
theorem loP_step {key : Int} {pts : List (Int × Int)} {h : Nat} {p : Int × Int} (hs : risP pts) (hp : pts[h]? = some p) (hl : p.1 < key) : loP key pts (h + 1) := fun k q hk hq => by
  by_cases e : k = h
  · subst e; rw [hp] at hq; cases hq; exact hl
  · have := hs k h q p (by omega) hq hp; omega
theorem hiP_step {key : Int} {pts : List (Int × Int)} {h : Nat} {p : Int × Int} (hs : risP pts) (hp : pts[h]? = some p) (hl : key ≤ p.1) : hiP key pts h := fun k q hk hq => by
  by_cases e : k = h
  · subst e; rw [hp] at hq; cases hq; exact hl
  · have := hs h k p q (by omega) hp hq; omega
def rotP (f : Nat) (pts : List (Int × Int)) : List (Int × Int) := pts.drop f ++ pts.take f
theorem rotP_len {f : Nat} {pts : List (Int × Int)} : (rotP f pts).length = pts.length := by unfold rotP; simp; omega
theorem rotP_get {f i : Nat} {pts : List (Int × Int)} (hf : f ≤ pts.length) (hi : i < pts.length) : (rotP f pts)[i]? = pts[(f + i) % pts.length]? := by
  unfold rotP
  by_cases h : i < pts.length - f
  · rw [List.getElem?_append_left (by simpa using h), List.getElem?_drop, Nat.mod_eq_of_lt (by omega)]
  · rw [List.getElem?_append_right (by simp; omega), List.length_drop, List.getElem?_take, if_pos (by omega)]
    congr 1
    rw [Nat.mod_eq_sub_mod (by omega), Nat.mod_eq_of_lt (by omega)]; omega
def uqS (o : List Int) (m : Int) : List Int := if o.contains m then o else o ++ [m]
def uqF (L : List Int) : List Int := L.foldl uqS []
theorem uqF_snoc (L : List Int) (m : Int) : uqF (L ++ [m]) = uqS (uqF L) m := by unfold uqF; rw [List.foldl_append]; rfl
theorem uqS_pre : ∀ (R : List Int) (o : List Int), o <+: R.foldl uqS o
  | [], o => List.prefix_refl o
  | m :: R, o => by
    refine List.IsPrefix.trans ?_ (uqS_pre R (uqS o m))
    unfold uqS; split
    · exact List.prefix_refl o
    · exact List.prefix_append _ _
theorem uqF_pre (L R : List Int) : uqF L <+: uqF (L ++ R) := by
  unfold uqF; rw [List.foldl_append]; exact uqS_pre R _
def rotM (key : Int) (pts : List (Int × Int)) : List Int := (rotP (fromP key pts) pts).map (·.2)
theorem rotM_len (key : Int) (pts : List (Int × Int)) : (rotM key pts).length = pts.length := by unfold rotM; rw [List.length_map, rotP_len]
theorem rotM_get {key : Int} {pts : List (Int × Int)} {i : Nat} {e : Int × Int} (hi : i < pts.length) (he : pts[(fromP key pts + i) % pts.length]? = some e) : (rotM key pts)[i]? = some e.2 := by
  unfold rotM; rw [List.getElem?_map, rotP_get (fromP_le _ _) hi, he]; rfl
def ownersP (key n : Int) (pts : List (Int × Int)) : List Int := if n < 1 then [] else (uqF (rotM key pts)).take n.toNat
theorem uq_step {L : List Int} {i : Nat} {m : Int} (h : L[i]? = some m) : uqF (L.take (i + 1)) = uqS (uqF (L.take i)) m := by
  obtain ⟨hi, rfl⟩ := List.getElem?_eq_some_iff.1 h
  rw [List.take_succ_eq_append_getElem hi, uqF_snoc]
theorem uq_has {L : List Int} {i : Nat} {m : Int} (h : L[i]? = some m) (hc : (uqF (L.take i)).contains m = true) : uqF (L.take (i + 1)) = uqF (L.take i) := by rw [uq_step h]; unfold uqS; rw [if_pos hc]
theorem uq_new {L : List Int} {i : Nat} {m : Int} (h : L[i]? = some m) (hc : (uqF (L.take i)).contains m = false) : uqF (L.take (i + 1)) = uqF (L.take i) ++ [m] := by rw [uq_step h]; unfold uqS; rw [if_neg (by rw [hc]; simp)]
theorem own_end {key n : Int} {pts : List (Int × Int)} {i : Nat} (hn : ¬ n < 1) (hi : pts.length ≤ i) (hl : ((uqF ((rotM key pts).take i)).length : Int) < n) : ownersP key n pts = uqF ((rotM key pts).take i) := by
  rw [List.take_of_length_le (by rw [rotM_len]; exact hi)] at hl ⊢
  unfold ownersP; rw [if_neg hn, List.take_of_length_le (by omega)]
theorem own_brk {key n : Int} {pts : List (Int × Int)} {i : Nat} (hn : ¬ n < 1) (hl : ((uqF ((rotM key pts).take i)).length : Int) = n) : ownersP key n pts = uqF ((rotM key pts).take i) := by
  unfold ownersP; rw [if_neg hn]
  have h := uqF_pre ((rotM key pts).take i) ((rotM key pts).drop i)
  rw [List.take_append_drop] at h
  rw [List.prefix_iff_eq_take.1 h]
  rw [show n.toNat = (uqF ((rotM key pts).take i)).length by omega]
theorem own_no {key n : Int} {pts : List (Int × Int)} (hn : n < 1) : ownersP key n pts = [] := if_pos hn
theorem uqF_len : ∀ L : List Int, (uqF L).length ≤ L.length := by
  intro L
  induction h : L.length generalizing L with
  | zero => rw [List.length_eq_zero_iff] at h; subst h; simp [uqF]
  | succ n ih =>
    rcases List.eq_nil_or_concat L with rfl | ⟨L', m, rfl⟩
    · simp at h
    · rw [List.concat_eq_append] at h ⊢
      have := ih L' (by simpa using h)
      rw [uqF_snoc]; unfold uqS; split
      · omega
      · simp; omega
theorem Index_ct (A : Option Addr) (c : Nat) (xs : List Int) (x : Int) (w : World) (hr : Rd w 1 (Go.Tw.encI .i64) A xs) (hlen : xs.length ≤ 1099511627776) : Calls Try.prog 60 #[.slice A xs.length c, .int .i64 x] w fun e w' => ∃ r : Int, e = .returned (.int .i64 r) ∧ Fr w w' [] ∧ decide (0 ≤ r) = xs.contains x := by
 refine enterD (n := 19) Try.func60 rfl rfl (Nat.le_of_ble_eq_true rfl) ?_
 intro Q0 hN hret hret'
 have hC := Cx.start w
 refine WCs (fun K1 hK2 => ?_)
 refine WCg (WLq 1 [(4, .int .i64 0)] (WLd rfl (QXn (hK2 _ _ ?_))))
 refine WCs (fun K3 hK4 => ?_)
 refine WCs (fun K5 hK6 => ?_)
 refine WCg (WLq 3 [(8, .int .i64 0), (7, .int .i64 (xs.length : Int)), (6, .slice A xs.length c)] (WLd rfl (QXn (hK6 _ _ ?_))))
 refine WC.block ?_
 refine WC.loop (fun m_ E_ w_ => ∃ (i : Nat), m_ = xs.length - i ∧ E_ = [(0, .slice A xs.length c), (1, .int .i64 x), (7, .int .i64 (xs.length : Int)), (8, .int .i64 (i : Int))] ∧ Cx w [] w_ [] [] ∧ (i ≤ xs.length ∧ ((xs.take i).all fun e => !(x == e)) = true)) ⟨_, _, ⟨0, rfl, rfl, hC, Nat.zero_le _, rfl⟩, sub_of ⟨rfl, rfl, rfl, rfl, trivial⟩⟩ (fun m10 E_ ar K7 hK8 hI9 => ?_)
 obtain ⟨i, rfl, rfl, aa, hi, hall⟩ := hI9
 refine WCs (fun au ab => ?_)
 refine WCg (WLq 1 [(9, .bool (decide ((i : Int) < (xs.length : Int))))] (WLd rfl (QXn (ab _ _ ?_))))
 refine WCs (fun av ac => ?_)
 refine WCa 9 (decide ((i : Int) < (xs.length : Int))) rfl (fun ad => ?_) (fun ad => ?_)
 ·
  have ap : (i : Int) < (xs.length : Int) := by have q_ := of_decide_eq_true ad; omega
  refine WCt rfl ?_
  refine WC.skip ?_
  refine QXn (ac _ _ ?_)
  refine WCs (fun aw ag => ?_)
  refine WC.block ?_
  refine WCs (fun ax ah => ?_)
  refine WCg (WLq 2 [(5, .int .i64 (i : Int)), (10, .int .i64 (i : Int))] (WLd rfl (QXn (ah _ _ ?_))))
  refine WCs (fun ay ai => ?_)
  refine WCg (WLq 3 [(13, .int .i64 (i : Int)), (12, .slice A xs.length c), (11, .int .i64 x)] ?_)
  obtain ⟨aj, ae⟩ := get_some (xs := xs) (i := i) (by omega)
  obtain ⟨b26, o28, am, an⟩ := hr.at_ _ _ ae
  refine WLi A xs.length c 14 .i64 (i : Int) b26 o28 i 1 (by kernel_rfl) am (by omega) (by omega) (o28 + i) (by first | (simp; done) | omega) ?_
  refine WLo 3 (.pointer (some ⟨b26, o28 + i, none⟩)) (.int .i64 aj) 15 (run_load1 rfl (by simpa [Nat.add_assoc] using aa.fr.cell (an 0 _ rfl) (by simp))) ?_
  refine WLq 1 [(16, .bool (x == aj))] (WLd rfl (QXn (ai _ _ ?_)))
  refine WCa 16 (x == aj) rfl (fun af => ?_) (fun af => ?_)
  ·
   have aq : x = aj := by simpa using af
   refine WCt rfl ?_
   refine WCs (fun az ak => ?_)
   refine WCg (WLq 2 [(4, .int .i64 (i : Int)), (17, .int .i64 (i : Int))] (WLd rfl (QXn (ak _ _ ?_))))
   refine WC.ret ?_
   refine QXk ?_
   refine QXr ?_
   refine QXr ?_
   refine QXk ?_
   refine QXr ?_
   refine (hret _ _ _ rfl ?_).1
   clear hN hret hret' ak ai ah ag ac ab hK6 hK4 hK2
   exact ⟨_, rfl, aa.fr, by rw [contains_idx ae (by assumption)]; simp⟩
  ·
   have aq : ¬ (x = aj) := by simpa using af
   refine WCf rfl (WC.skip ?_)
   refine QXb ?_
   refine QXn (ag _ _ ?_)
   refine WCg (WLq 1 [(18, .int .i64 (IntKind.i64.wrap ((i : Int) + 1)))] ?_)
   refine WLt (show (.int .i64 (IntKind.i64.wrap ((i : Int) + 1)) : Value) = .int .i64 ((i : Int) + 1) from by rw [wrap_in_i64 ((i : Int) + 1) (by omega) (by omega)]) ?_
   refine WLq 1 [(8, .int .i64 ((i : Int) + 1))] ?_
   refine WLd rfl ?_
   refine QXn ?_
   have ao := aa.pick [] [] rfl rfl
   refine fun a_ ha_ => hK8 _ _ _ ?_ ⟨i + 1, rfl, rfl, ao, by omega, all_snoc ae hall (by assumption)⟩ a_ (ha_.weaken (sub_of ⟨rfl, rfl, rfl, rfl, trivial⟩))
   omega
 ·
  have ap : (xs.length : Int) ≤ (i : Int) := by have q_ := of_decide_eq_false ad; omega
  refine WCf rfl ?_
  refine WC.exit ?_
  refine QXe ?_
  refine QXe ?_
  refine QX.block_hit ?_
  refine QXn (hK4 _ _ ?_)
  refine WCs (fun aA al => ?_)
  refine WCg (WLq 1 [(4, .int .i64 (-1))] (WLd rfl (QXn (al _ _ ?_))))
  refine WC.ret ?_
  refine (hret _ _ _ rfl ?_).1
  clear hN hret hret' al ac ab hK6 hK4 hK2
  rw [List.take_of_length_le (by omega)] at hall
  exact ⟨_, rfl, aa.fr, by rw [contains_all hall]; rfl⟩

theorem Contains_ct (A : Option Addr) (c : Nat) (xs : List Int) (x : Int) (w : World) (hr : Rd w 1 (Go.Tw.encI .i64) A xs) (hlen : xs.length ≤ 1099511627776) : Calls Try.prog 40 #[.slice A xs.length c, .int .i64 x] w fun e w' => e = .returned (.bool (xs.contains x)) ∧ Fr w w' [] := by
 refine enterD (n := 9) Try.func40 rfl rfl (Nat.le_of_ble_eq_true rfl) ?_
 intro Q0 hN hret hret'
 have hC := Cx.start w
 refine WCs (fun K1 hK2 => ?_)
 refine WCg (WLq 1 [(4, .bool false)] (WLd rfl (QXn (hK2 _ _ ?_))))
 refine WCs (fun K3 hK4 => ?_)
 refine WCg (WLq 2 [(6, .int .i64 x), (5, .slice A xs.length c)] ?_)
 refine WLc rfl rfl rfl rfl rfl (by kernel_rfl) (Index_ct A c xs x w (Rd.fr hr hC.fr) hlen) ?_
 rintro _ w7 ⟨r5, rfl, hF6, hrc_⟩
 refine ⟨_, rfl, ?_⟩
 have hC8 := hC.call hF6
 refine WLq 2 [(4, .bool (decide (r5 ≥ 0))), (8, .bool (decide (r5 ≥ 0)))] (WLd rfl (QXn (hK4 _ _ ?_)))
 refine WC.ret ?_
 refine (hret _ _ _ rfl ?_).1
 exact ⟨by show Ending.returned (.bool (decide (_ ≥ (0 : Int)))) = _; rw [← hrc_], hC8.fr⟩

theorem Contains_n (A : Option Addr) (n c : Nat) (xs : List Int) (x : Int) (w : World) (hr : Rd w 1 (Go.Tw.encI .i64) A xs) (hn : xs.length = n) (hlen : n ≤ 1099511627776) : Calls Try.prog 40 #[.slice A n c, .int .i64 x] w fun e w' => e = .returned (.bool (xs.contains x)) ∧ Fr w w' [] := by subst hn; exact Contains_ct A c xs x w hr hlen
theorem OwnC_ct (a : Int × Int) (key : Int) (w : World) : Calls Try.prog 39 #[.agg #[.int .u64 a.1, .int .i64 a.2], .int .u64 key] w fun e w' => e = .returned (.int .i64 (cmpI a.1 key)) ∧ Fr w w' [] := by
 refine enterD (n := 9) Try.func39 rfl rfl (Nat.le_of_ble_eq_true rfl) ?_
 intro Q0 hN hret hret'
 have hC := Cx.start w
 refine WCs (fun K1 hK2 => ?_)
 refine WCg ?_
 refine WL.newM hC (fun b => .pointer (some ⟨b, 0, none⟩)) (.cells #[.int .u64 a.1, .int .i64 a.2] 74) 2 (fun _ => by kernel_rfl) (fun g3 w4 hb7 hF5 hC6 => ?_)
 refine WLq 1 [(4, .int .i64 0)] (WLd rfl (QXn (hK2 _ _ ?_)))
 refine WCs (fun K8 hK9 => ?_)
 refine WCg (WLq 1 [(5, .pointer (some ⟨g3, 0, none⟩))] ?_)
 refine WLo 32 (.pointer (some ⟨g3, 0, none⟩)) (.int .u64 a.1) 6 (run_ld (hC6.get 0 rfl) rfl) ?_
 refine WLq 1 [(7, .int .u64 key)] ?_
 refine WLc rfl rfl rfl rfl rfl (by kernel_rfl) (compare_uint64 a.1 key w4) ?_
 rintro _ ac ⟨rfl, aa⟩
 refine ⟨_, rfl, ?_⟩
 have ab := hC6.call aa
 refine WLq 1 [(4, .int .i64 (cmpI a.1 key))] (WLd rfl (QXn (hK9 _ _ ?_)))
 refine WC.ret ?_
 refine (hret _ _ _ rfl ?_).1
 exact ⟨rfl, ab.fr⟩

theorem Bin_ct (A : Option Addr) (c : Nat) (pts : List (Int × Int)) (key : Int) (w : World) (hr : Rd w 2 ptC A pts) (hrs : risP pts) (hl : pts.length ≤ 1099511627776) : Calls Try.prog 38 #[.slice A pts.length c, .int .u64 key, .func (.func 39) #[] #[]] w fun e w' => ∃ b : Bool, e = .returned (.tuple #[.int .i64 (fromP key pts : Int), .bool b]) ∧ Fr w w' [] := by
 refine enterD (n := 49) Try.func38 rfl rfl (Nat.le_of_ble_eq_true rfl) ?_
 intro Q0 hN hret hret'
 have hC := Cx.start w
 refine WCs (fun K1 hK2 => ?_)
 refine WCg (WLq 2 [(7, .bool false), (6, .int .i64 0)] (WLd rfl (QXn (hK2 _ _ ?_))))
 refine WCs (fun K3 hK4 => ?_)
 refine WCg (WLq 3 [(8, .int .i64 (pts.length : Int)), (13, .int .i64 (pts.length : Int)), (12, .slice A pts.length c)] (WLd rfl (QXn (hK4 _ _ ?_))))
 refine WCs (fun K5 hK6 => ?_)
 refine WCg (WLq 3 [(10, .int .i64 (pts.length : Int)), (9, .int .i64 0), (14, .int .i64 (pts.length : Int))] (WLd rfl (QXn (hK6 _ _ ?_))))
 refine WCs (fun K7 hK8 => ?_)
 refine WC.block ?_
 refine WC.loop (fun m_ E_ w_ => ∃ (i j : Nat), m_ = j - i ∧ E_ = [(0, .slice A pts.length c), (1, .int .u64 key), (2, .func (.func 39) #[] #[]), (8, .int .i64 (pts.length : Int)), (9, .int .i64 (i : Int)), (10, .int .i64 (j : Int))] ∧ Cx w [] w_ [] [] ∧ (i ≤ j ∧ j ≤ pts.length ∧ loP key pts i ∧ hiP key pts j)) ⟨_, _, ⟨0, pts.length, rfl, rfl, hC, Nat.zero_le _, Nat.le_refl _, loP_0 _ _, hiP_end _ _⟩, sub_of ⟨rfl, rfl, rfl, rfl, rfl, rfl, trivial⟩⟩ (fun m12 E_ aB K9 ak am => ?_)
 obtain ⟨i, j, rfl, rfl, aa, hij, hj, hlo, hhi⟩ := am
 refine WCs (fun aF af => ?_)
 refine WCs (fun aG ag => ?_)
 refine WCg (WLq 3 [(17, .bool (decide ((i : Int) < (j : Int)))), (16, .int .i64 (j : Int)), (15, .int .i64 (i : Int))] (WLd rfl (QXn (ag _ _ ?_))))
 refine WCa 17 (decide ((i : Int) < (j : Int))) rfl (fun ah => ?_) (fun ah => ?_)
 ·
  have aC : (i : Int) < (j : Int) := by have q_ := of_decide_eq_true ah; omega
  refine WCt rfl ?_
  refine WC.skip ?_
  refine QXn (af _ _ ?_)
  refine WC.block ?_
  refine WCs (fun aH an => ?_)
  refine WCg (WLq 3 [(20, .int .i64 (IntKind.i64.wrap ((i : Int) + (j : Int)))), (19, .int .i64 (j : Int)), (18, .int .i64 (i : Int))] ?_)
  refine WLt (show (.int .i64 (IntKind.i64.wrap ((i : Int) + (j : Int))) : Value) = .int .i64 ((i + j : Nat) : Int) from by rw [wrap_in_i64 _ (by omega) (by omega)]; congr 1) ?_
  refine WLq 1 [(21, .int .u64 (IntKind.u64.wrap (((i + j : Nat) : Int))))] ?_
  refine WLt (show (.int .u64 (IntKind.u64.wrap (((i + j : Nat) : Int))) : Value) = .int .u64 ((i + j : Nat) : Int) from by rw [wrap_in_u64 _ (by omega) (by omega)]) ?_
  refine WLq 1 [(22, .int .u64 (((i + j : Nat) : Int).fdiv (2 ^ 1)))] ?_
  refine WLt (show (.int .u64 (((i + j : Nat) : Int).fdiv (2 ^ 1)) : Value) = .int .u64 (((i + j) / 2 : Nat) : Int) from by congr 1; rw [Int.fdiv_eq_ediv_of_nonneg _ (by decide)]; omega) ?_
  refine WLq 1 [(23, .int .i64 (IntKind.i64.wrap ((((i + j) / 2 : Nat) : Int))))] ?_
  refine WLt (show (.int .i64 (IntKind.i64.wrap ((((i + j) / 2 : Nat) : Int))) : Value) = .int .i64 (((i + j) / 2 : Nat) : Int) from by rw [wrap_in_i64 _ (by omega) (by omega)]) ?_
  refine WLq 1 [(11, .int .i64 (((i + j) / 2 : Nat) : Int))] (WLd rfl (QXn (an _ _ ?_)))
  refine WCs (fun aI ao => ?_)
  refine WCg (WLq 3 [(26, .int .i64 (((i + j) / 2 : Nat) : Int)), (25, .slice A pts.length c), (24, .func (.func 39) #[] #[])] ?_)
  obtain ⟨ac, ai⟩ := get_some (xs := pts) (i := (((i + j) / 2 : Nat) : Int).toNat) (by omega)
  obtain ⟨b26, o28, ap, aq⟩ := hr.at_ _ _ ai
  refine WLi A pts.length c 27 .i64 (((i + j) / 2 : Nat) : Int) b26 o28 ((((i + j) / 2 : Nat) : Int).toNat) 2 (by kernel_rfl) ap (by omega) (by omega) (o28 + ((((i + j) / 2 : Nat) : Int).toNat) * 2) (by first | (simp; done) | omega) ?_
  refine WLo 74 (.pointer (some ⟨b26, o28 + ((((i + j) / 2 : Nat) : Int).toNat) * 2, none⟩)) (.agg #[.int .u64 ac.1, .int .i64 ac.2]) 28 (run_rdN (l := [.int .u64 ac.1, .int .i64 ac.2]) rfl rfl (fun j u hu => by have hq_ := aa.fr.cell (aq j u hu) (by simp); simpa [Nat.add_assoc] using hq_)) ?_
  refine WLq 1 [(29, .int .u64 key)] ?_
  refine WLc rfl rfl rfl rfl rfl (by kernel_rfl) (OwnC_ct ac key aB) ?_
  rintro _ aJ ⟨rfl, ar⟩
  refine ⟨_, rfl, ?_⟩
  have al := aa.call ar
  refine WLq 1 [(31, .bool (decide ((cmpI ac.1 key) < 0)))] (WLd rfl (QXn (ao _ _ ?_)))
  refine WCa 31 (decide ((cmpI ac.1 key) < 0)) rfl (fun ab => ?_) (fun ab => ?_)
  ·
   have aD : (cmpI ac.1 key) < 0 := by have q_ := of_decide_eq_true ab; omega
   refine WCt rfl ?_
   refine WCg (WLq 2 [(33, .int .i64 (IntKind.i64.wrap ((((i + j) / 2 : Nat) : Int) + 1))), (32, .int .i64 (((i + j) / 2 : Nat) : Int))] ?_)
   refine WLt (show (.int .i64 (IntKind.i64.wrap ((((i + j) / 2 : Nat) : Int) + 1)) : Value) = .int .i64 ((((i + j) / 2 : Nat) : Int) + 1) from by rw [wrap_in_i64 ((((i + j) / 2 : Nat) : Int) + 1) (by omega) (by omega)]) ?_
   refine WLq 1 [(9, .int .i64 ((((i + j) / 2 : Nat) : Int) + 1))] ?_
   refine WLd rfl ?_
   refine QXb ?_
   refine QXn ?_
   have au := al.pick [] [] rfl rfl
   refine fun a_ ha_ => ak _ _ _ ?_ ⟨(i + j) / 2 + 1, j, rfl, rfl, au, by omega, by omega, loP_step hrs ai (cmpI_lt0.1 (of_decide_eq_true ab)), hhi⟩ a_ (ha_.weaken (sub_of ⟨rfl, rfl, rfl, rfl, rfl, rfl, trivial⟩))
   omega
  ·
   have aD : (0 : Int) ≤ (cmpI ac.1 key) := by have q_ := of_decide_eq_false ab; omega
   refine WCf rfl ?_
   refine WCg (WLq 2 [(10, .int .i64 (((i + j) / 2 : Nat) : Int)), (34, .int .i64 (((i + j) / 2 : Nat) : Int))] ?_)
   refine WLd rfl ?_
   refine QXb ?_
   refine QXn ?_
   have av := al.pick [] [] rfl rfl
   refine fun a_ ha_ => ak _ _ _ ?_ ⟨i, (i + j) / 2, rfl, rfl, av, by omega, by omega, hlo, hiP_step hrs ai (by have q_ := of_decide_eq_false ab; rw [cmpI_lt0] at q_; omega)⟩ a_ (ha_.weaken (sub_of ⟨rfl, rfl, rfl, rfl, rfl, rfl, trivial⟩))
   omega
 ·
  have aC : (j : Int) ≤ (i : Int) := by have q_ := of_decide_eq_false ah; omega
  refine WCf rfl ?_
  refine WC.exit ?_
  refine QXe ?_
  refine QXe ?_
  refine QX.block_hit ?_
  refine QXn (hK8 _ _ ?_)
  refine WCs (fun aK ad => ?_)
  refine WCg (WLq 5 [(39, .bool (decide ((i : Int) < (pts.length : Int)))), (38, .bool (decide ((i : Int) < (pts.length : Int)))), (37, .int .i64 (pts.length : Int)), (36, .int .i64 (i : Int)), (35, .int .i64 (i : Int))] ?_)
  refine WLa 39 (decide ((i : Int) < (pts.length : Int))) rfl (fun aj => ?_) (fun aj => ?_)
  ·
   have aE : (i : Int) < (pts.length : Int) := by have q_ := of_decide_eq_true aj; omega
   refine WLq 3 [(42, .int .i64 (i : Int)), (41, .slice A pts.length c), (40, .func (.func 39) #[] #[])] ?_
   obtain ⟨ae, aw⟩ := get_some (xs := pts) (i := i) (by omega)
   obtain ⟨b41, o43, ax, ay⟩ := hr.at_ _ _ aw
   refine WLi A pts.length c 43 .i64 (i : Int) b41 o43 i 2 (by kernel_rfl) ax (by omega) (by omega) (o43 + i * 2) (by first | (simp; done) | omega) ?_
   refine WLo 74 (.pointer (some ⟨b41, o43 + i * 2, none⟩)) (.agg #[.int .u64 ae.1, .int .i64 ae.2]) 44 (run_rdN (l := [.int .u64 ae.1, .int .i64 ae.2]) rfl rfl (fun j u hu => by have hq_ := aa.fr.cell (ay j u hu) (by simp); simpa [Nat.add_assoc] using hq_)) ?_
   refine WLq 1 [(45, .int .u64 key)] ?_
   refine WLc rfl rfl rfl rfl rfl (by kernel_rfl) (OwnC_ct ae key aB) ?_
   rintro _ aL ⟨rfl, az⟩
   refine ⟨_, rfl, ?_⟩
   have aA := aa.call az
   refine WLq 4 [(7, .bool ((cmpI ae.1 key) == 0)), (6, .int .i64 (i : Int)), (48, .bool ((cmpI ae.1 key) == 0)), (47, .bool ((cmpI ae.1 key) == 0))] (WLd rfl (QXn (ad _ _ ?_)))
   refine WC.ret ?_
   refine (hret _ _ _ rfl ?_).1
   clear hN hret hret' ad ag af hK8 hK6 hK4 hK2
   have hij_ : j = i := by omega
   have hf_ := from_eq (key := key) (pts := pts) (f := i) (by omega) hlo (fun k p hk => hhi k p (by omega))
   rw [hf_]
   exact ⟨_, rfl, aA.fr⟩
  ·
   have aE : (pts.length : Int) ≤ (i : Int) := by have q_ := of_decide_eq_false aj; omega
   refine WLq 11 [(7, .bool false), (6, .int .i64 (i : Int)), (48, .bool false), (47, undef), (46, undef), (45, undef), (44, undef), (43, undef), (42, undef), (41, undef), (40, undef)] (WLd rfl (QXn (ad _ _ ?_)))
   refine WC.ret ?_
   refine (hret _ _ _ rfl ?_).1
   clear hN hret hret' ad ag af hK8 hK6 hK4 hK2
   have hij_ : j = i := by omega
   have hf_ := from_eq (key := key) (pts := pts) (f := i) (by omega) hlo (fun k p hk => hhi k p (by omega))
   rw [hf_]
   exact ⟨_, rfl, aa.fr⟩

set_option maxHeartbeats 1000000 in
theorem Owners_ct (G : List Nat) (p : Nat) (per : Int) (AP : Option Addr) (cP : Nat) (pts : List (Int × Int)) (AM : Option Addr) (cM : Nat) (mem : List Int) (key n : Int) (w : World) (hR : RingR w G p per AP cP pts AM cM mem) (hrs : risP pts) (hpl : pts.length ≤ 4096) : Calls Try.prog 14 #[.pointer (some ⟨p, 0, none⟩), .int .u64 key, .int .i64 n] w fun e w' => ∃ v, e = .returned v ∧ Fr w w' [] ∧ w'.ownsRow w.heap.size 3 1 v (ownersP key n pts).length ((ownersP key n pts).flatMap (Go.Tw.encI .i64)) := by
 refine enterD (n := 64) Try.func14 rfl rfl (Nat.le_of_ble_eq_true rfl) ?_
 intro Q0 hN hret hret'
 have hfl_ := fromP_le key pts
 have hC := Cx.start w
 refine WCs (fun K1 hK2 => ?_)
 refine WCg (WLq 1 [(6, .slice none 0 0)] (WLd rfl (QXn (hK2 _ _ ?_))))
 refine WC.scope ?_
 refine WCs (fun K3 hK4 => ?_)
 refine WCs (fun K5 hK6 => ?_)
 refine WCg (WLq 6 [(17, .bool (decide (n < 1))), (16, .bool (decide (n < 1))), (15, .int .i64 n), (14, .bool false), (13, .bool false), (12, .pointer (some ⟨p, 0, none⟩))] (WLd rfl (QXn (hK6 _ _ ?_))))
 refine WCa 17 (decide (n < 1)) rfl (fun t7b => ?_) (fun t7b => ?_)
 ·
  have t7 : n < 1 := by have q_ := of_decide_eq_true t7b; omega
  refine WCt rfl ?_
  refine WCs (fun K8 hK9 => ?_)
  refine WCg (WLq 1 [(6, .slice none 0 0)] (WLd rfl (QXn (hK9 _ _ ?_))))
  refine WC.ret ?_
  refine QXr ?_
  refine QX.scope_ret ?_
  refine (hret _ _ _ rfl ?_).1
  clear hN hret hret' hK9 hK6 hK4 hK2
  rw [own_no (by omega)]
  exact ⟨_, rfl, hC.fr, own_nil _ _ _ _⟩
 ·
  have t7 : (1 : Int) ≤ n := by have q_ := of_decide_eq_false t7b; omega
  refine WCf rfl (WC.skip (QXn (hK4 _ _ ?_)))
  refine WCs (fun a7 ag => ?_)
  refine WCg (WLq 3 [(21, .pointer (some ⟨p, 1, none⟩)), (20, .pointer (some ⟨p, 0, none⟩)), (19, .pointer (some ⟨p, 0, none⟩))] ?_)
  refine WLo 69 (.pointer (some ⟨p, 1, none⟩)) (.slice AP pts.length cP) 22 (run_load1 rfl (hC.fr.cell (hR.c1) (by simp))) ?_
  refine WLq 1 [(23, .int .u64 key)] ?_
  refine WLc rfl rfl rfl rfl rfl (by kernel_rfl) (Bin_ct AP cP pts key w (Rd.fr hR.P hC.fr) hrs (by omega)) ?_
  rintro _ a8 ⟨b_, rfl, aL⟩
  refine ⟨_, rfl, ?_⟩
  have ax := hC.call aL
  refine WLq 5 [(8, .bool b_), (7, .int .i64 (fromP key pts : Int)), (26, .bool b_), (25, .int .i64 (fromP key pts : Int)), (18, .tuple #[.int .i64 (fromP key pts : Int), .bool b_])] (WLd rfl (QXn (ag _ _ ?_)))
  refine WCs (fun a9 ah => ?_)
  refine WCg (WLq 1 [(9, .slice none 0 0)] (WLd rfl (QXn (ah _ _ ?_))))
  refine WCs (fun ba ai => ?_)
  refine WC.label ?_
  refine QXn (ai _ _ ?_)
  refine WCs (fun bb ab => ?_)
  refine WCs (fun bc aj => ?_)
  refine WCg (WLq 3 [(29, .pointer (some ⟨p, 1, none⟩)), (28, .pointer (some ⟨p, 0, none⟩)), (27, .pointer (some ⟨p, 0, none⟩))] ?_)
  refine WLo 69 (.pointer (some ⟨p, 1, none⟩)) (.slice AP pts.length cP) 30 (run_load1 rfl (ax.fr.cell (hR.c1) (by simp))) ?_
  refine WLq 2 [(32, .int .i64 0), (31, .int .i64 (pts.length : Int))] (WLd rfl (QXn (aj _ _ ?_)))
  refine WC.block ?_
  have aM := ax.addNil
  refine WC.loop (fun m_ E_ w_ => ∃ (i : Nat) (A5 : Option Addr) (n5 c5 : Nat), m_ = pts.length - i ∧ E_ = [(0, .pointer (some ⟨p, 0, none⟩)), (2, .int .i64 n), (7, .int .i64 (fromP key pts : Int)), (9, .slice A5 n5 c5), (31, .int .i64 (pts.length : Int)), (32, .int .i64 (i : Int))] ∧ Cx w [] w_ [] [blk (.slice A5 n5 c5)] ∧ World.ownsRow w_ 0 3 1 (.slice A5 n5 c5) n5 ((uqF ((rotM key pts).take i)).flatMap (Go.Tw.encI .i64)) ∧ (i ≤ pts.length ∧ (n5 : Int) < n)) ⟨_, _, ⟨0, none, 0, 0, rfl, rfl, aM, own_nil _ _ _ _, Nat.zero_le _, by omega⟩, sub_of ⟨rfl, rfl, rfl, rfl, rfl, rfl, trivial⟩⟩ (fun m27 E_ bd be ay aN => ?_)
  obtain ⟨i, A5, n5, c5, rfl, rfl, ak, hrow, hi, hn5⟩ := aN
  have hcn_ := own_count (Go.Tw.encI_len _) (by decide) hrow
  have hmd_ : i < pts.length → (fromP key pts + i) % pts.length < pts.length := fun h_ => Nat.mod_lt _ (by omega)
  have huq_ := uqF_len ((rotM key pts).take i)
  rw [List.length_take, rotM_len] at huq_
  refine WCs (fun bf al => ?_)
  refine WCg (WLq 1 [(33, .bool (decide ((i : Int) < (pts.length : Int))))] (WLd rfl (QXn (al _ _ ?_))))
  refine WCs (fun bg am => ?_)
  refine WCa 33 (decide ((i : Int) < (pts.length : Int))) rfl (fun an => ?_) (fun an => ?_)
  ·
   have a2 : (i : Int) < (pts.length : Int) := by have q_ := of_decide_eq_true an; omega
   refine WCt rfl ?_
   refine WC.skip ?_
   refine QXn (am _ _ ?_)
   refine WCs (fun bh ao => ?_)
   refine WC.block ?_
   refine WCs (fun bi az => ?_)
   refine WCg (WLq 2 [(10, .int .i64 (i : Int)), (34, .int .i64 (i : Int))] (WLd rfl (QXn (az _ _ ?_))))
   refine WCs (fun bj aA => ?_)
   refine WC.drawC ak [] (by kernel_rfl) (fun a3 aO ac aa => ?_)
   have ap := own_fr hrow aO (by simp)
   refine WDq (NPt (NPb (NPt (NPt (NPb (NPt (NoPanic.scope hN))))))) 0 35 (.pointer (some ⟨p, 0, none⟩)) aa ?_
   refine WDq (NPt (NPb (NPt (NPt (NPb (NPt (NoPanic.scope hN))))))) 1 36 (.pointer (some ⟨p, 0, none⟩)) aa ?_
   refine WDq (NPt (NPb (NPt (NPt (NPb (NPt (NoPanic.scope hN))))))) 2 37 (.pointer (some ⟨p, 1, none⟩)) aa ?_
   refine WDq (NPt (NPb (NPt (NPt (NPb (NPt (NoPanic.scope hN))))))) 4 39 (.int .i64 (fromP key pts : Int)) aa ?_
   refine WDq (NPt (NPb (NPt (NPt (NPb (NPt (NoPanic.scope hN))))))) 5 40 (.int .i64 (i : Int)) aa ?_
   refine WDq (NPt (NPb (NPt (NPt (NPb (NPt (NoPanic.scope hN))))))) 6 41 (.int .i64 (IntKind.i64.wrap ((fromP key pts : Int) + (i : Int)))) aa ?_
   refine WD.recast (show (.int .i64 (IntKind.i64.wrap ((fromP key pts : Int) + (i : Int))) : Value) = .int .i64 ((fromP key pts + i : Nat) : Int) from by rw [wrap_in_i64 _ (by omega) (by omega)]; congr 1) ?_
   refine WDq (NPt (NPb (NPt (NPt (NPb (NPt (NoPanic.scope hN))))))) 7 42 (.pointer (some ⟨p, 0, none⟩)) aa ?_
   refine WDq (NPt (NPb (NPt (NPt (NPb (NPt (NoPanic.scope hN))))))) 8 43 (.pointer (some ⟨p, 0, none⟩)) aa ?_
   refine WDq (NPt (NPb (NPt (NPt (NPb (NPt (NoPanic.scope hN))))))) 9 44 (.pointer (some ⟨p, 1, none⟩)) aa ?_
   refine WDm (NPt (NPb (NPt (NPt (NPb (NPt (NoPanic.scope hN))))))) 3 69 (.pointer (some ⟨p, 1, none⟩)) (.slice AP pts.length cP) 38 (fun _ hS_ => run_load1 rfl (Fr.cell hS_ (ac.fr.cell (hR.c1) (by simp)) (by simp))) aa ?_
   refine WDm (NPt (NPb (NPt (NPt (NPb (NPt (NoPanic.scope hN))))))) 10 69 (.pointer (some ⟨p, 1, none⟩)) (.slice AP pts.length cP) 45 (fun _ hS_ => run_load1 rfl (Fr.cell hS_ (ac.fr.cell (hR.c1) (by simp)) (by simp))) aa ?_
   refine WDq (NPt (NPb (NPt (NPt (NPb (NPt (NoPanic.scope hN))))))) 11 46 (.int .i64 (pts.length : Int)) aa ?_
   have aP : ∀ w_, Sem.run Try.prog (do eqGuard .rem 3 (Operand.tmp 41) (Operand.tmp 46) (.int .i64 ((fromP key pts + i : Nat) : Int)) (.int .i64 (pts.length : Int)); binOp .rem 3 (.int .i64 ((fromP key pts + i : Nat) : Int)) (.int .i64 (pts.length : Int))) w_ = .ok (.int .i64 (Int.tmod ((fromP key pts + i : Nat) : Int) (pts.length : Int))) w_ := fun w_ => (run_rem (by omega))
   refine WD.semP (NPt (NPb (NPt (NPt (NPb (NPt (NoPanic.scope hN))))))) 12 (do eqGuard .rem 3 (Operand.tmp 41) (Operand.tmp 46) (.int .i64 ((fromP key pts + i : Nat) : Int)) (.int .i64 (pts.length : Int)); binOp .rem 3 (.int .i64 ((fromP key pts + i : Nat) : Int)) (.int .i64 (pts.length : Int))) 47 (.int .i64 (Int.tmod ((fromP key pts + i : Nat) : Int) (pts.length : Int))) (by kernel_rfl) (by kernel_rfl) (fun _ _ => aP _) aa ?_
   refine WD.recast (show (.int .i64 (Int.tmod ((fromP key pts + i : Nat) : Int) (pts.length : Int)) : Value) = .int .i64 (((fromP key pts + i) % pts.length : Nat) : Int) from by congr 1) ?_
   obtain ⟨ad, ae⟩ := get_some (xs := pts) (i := (((fromP key pts + i) % pts.length : Nat) : Int).toNat) (by omega)
   obtain ⟨b49, o51, aQ, aR⟩ := hR.P.at_ _ _ ae
   refine WDi (NPt (NPb (NPt (NPt (NPb (NPt (NoPanic.scope hN))))))) 13 AP pts.length cP 48 .i64 (((fromP key pts + i) % pts.length : Nat) : Int) b49 o51 ((((fromP key pts + i) % pts.length : Nat) : Int).toNat) 2 (by kernel_rfl) (by kernel_rfl) aQ (by omega) (by omega) (o51 + ((((fromP key pts + i) % pts.length : Nat) : Int).toNat) * 2) (by first | (simp; done) | omega) aa ?_
   refine WDq (NPt (NPb (NPt (NPt (NPb (NPt (NoPanic.scope hN))))))) 14 49 (.pointer (some ⟨b49, o51 + ((((fromP key pts + i) % pts.length : Nat) : Int).toNat) * 2 + 1, none⟩)) aa ?_
   refine WDm (NPt (NPb (NPt (NPt (NPb (NPt (NoPanic.scope hN))))))) 15 3 (.pointer (some ⟨b49, o51 + ((((fromP key pts + i) % pts.length : Nat) : Int).toNat) * 2 + 1, none⟩)) (.int .i64 ad.2) 50 (fun _ hS_ => run_load1 rfl (by simpa [Nat.add_assoc] using Fr.cell hS_ (ac.fr.cell (aR 1 _ rfl) (by simp)) (by simp))) aa ?_
   refine WDq (NPt (NPb (NPt (NPt (NPb (NPt (NoPanic.scope hN))))))) 16 11 (.int .i64 ad.2) aa ?_
   refine WD.done (by kernel_rfl) ?_
   refine QXn (aA _ _ ?_)
   refine WCs (fun bk aB => ?_)
   refine WCs (fun bl aC => ?_)
   refine WCg (WLq 2 [(52, .int .i64 ad.2), (51, .slice A5 n5 c5)] ?_)
   refine WLc rfl rfl rfl rfl rfl (by kernel_rfl) (Contains_n A5 n5 c5 (uqF ((rotM key pts).take i)) ad.2 a3 (own_rd ap (Go.Tw.encI_len _) (by decide)) (own_count (Go.Tw.encI_len _) (by decide) ap) (by first | omega | (simp; done))) ?_
   rintro _ bm ⟨rfl, aD⟩
   refine ⟨_, rfl, ?_⟩
   have aE := ac.call aD
   have aF := own_fr ap aD (by simp)
   refine WLd rfl (QXn (aC _ _ ?_))
   refine WCa 53 ((uqF ((rotM key pts).take i)).contains ad.2) rfl (fun af => ?_) (fun af => ?_)
   ·
    refine WCt rfl ?_
    refine WC.exit ?_
    refine QXe ?_
    refine QX.block_hit ?_
    refine QXn (ao _ _ ?_)
    refine WCg (WLq 1 [(62, .int .i64 (IntKind.i64.wrap ((i : Int) + 1)))] ?_)
    refine WLt (show (.int .i64 (IntKind.i64.wrap ((i : Int) + 1)) : Value) = .int .i64 ((i : Int) + 1) from by rw [wrap_in_i64 ((i : Int) + 1) (by omega) (by omega)]) ?_
    refine WLq 1 [(32, .int .i64 ((i : Int) + 1))] ?_
    refine WLd rfl ?_
    refine QXn ?_
    have aS := aE.pick [] [0] rfl rfl
    refine fun a_ ha_ => ay _ _ _ ?_ ⟨i + 1, A5, n5, c5, rfl, rfl, aS, (by rw [uq_has (rotM_get (by omega) ae) af]; exact aF), by omega, by omega⟩ a_ (ha_.weaken (sub_of ⟨rfl, rfl, rfl, rfl, rfl, rfl, trivial⟩))
    omega
   ·
    refine WCf rfl (WC.skip (QXn (aB _ _ ?_)))
    refine WCs (fun bn aG => ?_)
    refine WCg (WLq 2 [(55, .int .i64 ad.2), (54, .slice A5 n5 c5)] ?_)
    refine WL.newM aE (fun b => .slice (some ⟨b, 0, none⟩) 1 1) (.cells #[.int .i64 ad.2] 3) 56 (fun _ => by kernel_rfl) (fun a0 bo a4 aT aH => ?_)
    have aU := own_fr aF aT (by simp)
    obtain ⟨bp, bq, aV, aW, a5, aq, aX, aY⟩ := app_run Try.prog aH 0 (v := .slice A5 n5 c5) rfl 31 31 3 1 8 n5 1 1 (some ⟨a0, 0, none⟩) rfl aU [.int .i64 ad.2] rfl (srcOk.blk 1 (aH.get 0 rfl)) rfl (by simp only [maxLen]; omega) (by omega)
    have ar := own_snoc (enc := (Go.Tw.encI .i64)) (ys := (uqF ((rotM key pts).take i))) ad.2 aW
    obtain ⟨av, aw, rfl, a1⟩ := own_form ar
    refine WL.sem (Builtin.append_ #[31, 31] 31 #[.slice A5 n5 c5, .slice (some ⟨a0, 0, none⟩) 1 1]) 57 (.slice av (n5 + 1) aw) (by kernel_rfl) aV ?_
    refine WLq 1 [(9, .slice av (n5 + 1) aw)] (WLd rfl (QXn (aG _ _ ?_)))
    refine WCs (fun br aI => ?_)
    refine WCg (WLq 4 [(61, .bool ((n5 + 1 : Int) == n)), (60, .int .i64 n), (59, .int .i64 (n5 + 1 : Int)), (58, .slice av (n5 + 1) aw)] (WLd rfl (QXn (aI _ _ ?_))))
    refine WCa 61 ((n5 + 1 : Int) == n) rfl (fun au => ?_) (fun au => ?_)
    ·
     have a6 : (n5 + 1 : Int) = n := by simpa using au
     refine WCt rfl ?_
     refine WC.exit ?_
     refine QX.block_miss (by decide) ?_
     refine QXe ?_
     refine QXe ?_
     refine QX.block_hit ?_
     refine QXn (ab _ _ ?_)
     refine WCs (fun bs aJ => ?_)
     refine WCg (WLq 2 [(6, .slice av (n5 + 1) aw), (63, .slice av (n5 + 1) aw)] (WLd rfl (QXn (aJ _ _ ?_))))
     refine WC.ret ?_
     refine QX.scope_ret ?_
     refine (hret _ _ _ rfl ?_).1
     clear hN hret hret' aJ aI aG aC aB aA az ao am al aj ab ai ah ag hK6 hK4 hK2
     have hrw_ := ar
     rw [← uq_new (rotM_get (by omega) ae) af] at hrw_
     have hcw_ := own_count (Go.Tw.encI_len _) (by decide) hrw_
     rw [own_brk (i := i + 1) (by omega) (by omega)]
     rw [hcw_]
     exact ⟨_, rfl, aq.fr, own_base hrw_ (aq.geF 0 rfl)⟩
    ·
     have a6 : ¬ ((n5 + 1 : Int) = n) := by simpa using au
     refine WCf rfl (WC.skip ?_)
     refine QXb ?_
     refine QXn (ao _ _ ?_)
     refine WCg (WLq 1 [(62, .int .i64 (IntKind.i64.wrap ((i : Int) + 1)))] ?_)
     refine WLt (show (.int .i64 (IntKind.i64.wrap ((i : Int) + 1)) : Value) = .int .i64 ((i : Int) + 1) from by rw [wrap_in_i64 ((i : Int) + 1) (by omega) (by omega)]) ?_
     refine WLq 1 [(32, .int .i64 ((i : Int) + 1))] ?_
     refine WLd rfl ?_
     refine QXn ?_
     have aZ := aq.pick [] [0] rfl rfl
     refine fun a_ ha_ => ay _ _ _ ?_ ⟨i + 1, av, n5 + 1, aw, rfl, rfl, aZ, (by rw [uq_new (rotM_get (by omega) ae) af]; exact ar), by omega, by omega⟩ a_ (ha_.weaken (sub_of ⟨rfl, rfl, rfl, rfl, rfl, rfl, trivial⟩))
     omega
  ·
   have a2 : (pts.length : Int) ≤ (i : Int) := by have q_ := of_decide_eq_false an; omega
   refine WCf rfl ?_
   refine WC.exit ?_
   refine QXe ?_
   refine QXe ?_
   refine QX.block_hit ?_
   refine QXn (ab _ _ ?_)
   refine WCs (fun bt aK => ?_)
   refine WCg (WLq 2 [(6, .slice A5 n5 c5), (63, .slice A5 n5 c5)] (WLd rfl (QXn (aK _ _ ?_))))
   refine WC.ret ?_
   refine QX.scope_ret ?_
   refine (hret _ _ _ rfl ?_).1
   clear hN hret hret' aK am al aj ab ai ah ag hK6 hK4 hK2
   have hrw_ := hrow
   have hcw_ := own_count (Go.Tw.encI_len _) (by decide) hrw_
   rw [own_end (i := i) (by omega) (by omega) (by omega)]
   rw [hcw_]
   exact ⟨_, rfl, ak.fr, own_base hrw_ (ak.geF 0 rfl)⟩

end Go.Proofs.Ytibkndhgeeoidaa
