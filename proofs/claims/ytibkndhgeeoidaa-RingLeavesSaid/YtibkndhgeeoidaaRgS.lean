/- Contracts of functions of the program, each proved by a walk through its code; conditions stand in the statements. -/
import Derived.Test.YtibkndhgeeoidaaRgQ
namespace Go.Proofs.Ytibkndhgeeoidaa
set_option linter.unusedSimpArgs false
set_option linter.unusedVariables false
set_option linter.unusedSectionVars false
open Go Go.RowKit Go.Tw
set_option linter.unusedVariables false
set_option maxRecDepth 20000
/-! ### the owners of a key are all members, each once -/
theorem sorted_uniqR {α : Type} {R : α → α → Prop} (ha : ∀ a b, R a b → R b a → a = b) : ∀ {A B : List α}, A.Perm B → A.Pairwise R → B.Pairwise R → A = B
  | [], B, h, _, _ => (List.nil_perm.1 h).symm
  | a :: A, B, h, hA, hB => by
    cases B with
    | nil => exact absurd (List.perm_nil.1 h) (by simp)
    | cons b B =>
      rw [List.pairwise_cons] at hA hB
      have h1 : a = b := by
        have q1 : a ∈ b :: B := h.mem_iff.1 (List.mem_cons_self ..)
        have q2 : b ∈ a :: A := h.mem_iff.2 (List.mem_cons_self ..)
        rcases List.mem_cons.1 q1 with e | q1
        · exact e
        · rcases List.mem_cons.1 q2 with e | q2
          · exact e.symm
          · exact ha _ _ (hA.1 b q2) (hB.1 a q1)
      subst h1
      rw [sorted_uniqR ha (List.Perm.cons_inv h) hA.2 hB.2]
def allP (key per : Int) (M : List Int) : List Int := uqF (rotM key (ringP per M))
theorem mem_uqF {m : Int} : ∀ {L : List Int}, m ∈ uqF L ↔ m ∈ L := by
  intro L
  induction h : L.length generalizing L with
  | zero => rw [List.length_eq_zero_iff] at h; subst h; simp [uqF]
  | succ n ih =>
    rcases List.eq_nil_or_concat L with rfl | ⟨L', x, rfl⟩
    · simp at h
    · rw [List.concat_eq_append] at h ⊢
      have := ih (L := L') (by simpa using h)
      rw [uqF_snoc]; unfold uqS; split
      · rename_i hc
        rw [List.contains_iff_mem] at hc
        rw [List.mem_append, List.mem_singleton, this]
        constructor
        · exact .inl
        · rintro (h | rfl)
          · exact h
          · exact this.1 hc
      · rw [List.mem_append, List.mem_append, this]
theorem uqF_nodup : ∀ (L : List Int), (uqF L).Nodup := by
  intro L
  induction h : L.length generalizing L with
  | zero => rw [List.length_eq_zero_iff] at h; subst h; simp [uqF]
  | succ n ih =>
    rcases List.eq_nil_or_concat L with rfl | ⟨L', x, rfl⟩
    · simp at h
    · rw [List.concat_eq_append] at h ⊢
      have := ih L' (by simpa using h)
      rw [uqF_snoc]; unfold uqS; split
      · exact this
      · rename_i hc
        rw [List.contains_iff_mem] at hc
        refine List.nodup_append.2 ⟨this, by simp, fun a ha b hb => ?_⟩
        simp at hb; subst hb
        exact fun e => hc (e ▸ ha)
theorem all_perm {key per : Int} {M : List Int} (h : goodR per M = 0) : (allP key per M).Perm M := by
  obtain ⟨h1, h2, h3, h4⟩ := good0 h
  refine (List.perm_ext_iff_of_nodup (uqF_nodup _) h4).2 fun m => ?_
  rw [mem_uqF, mem_rotM]
  constructor
  · rintro ⟨p, hp, rfl⟩; exact (mem_ringP.1 hp).1
  · exact fun hm => ⟨ptAt m 0, mem_ringP.2 ⟨hm, 0, by omega, rfl⟩, rfl⟩
theorem all_len {key per : Int} {M : List Int} (h : goodR per M = 0) : (allP key per M).length = M.length := (all_perm h).length_eq
theorem good_len {per : Int} {M : List Int} (h : goodR per M = 0) : M.length ≤ 64 := (good0 h).2.1
theorem own_take (key per n : Int) (M : List Int) : ownersP key n (ringP per M) = (allP key per M).take n.toNat := by
  unfold ownersP allP; split
  · rw [show n.toNat = 0 by omega, List.take_zero]
  · rfl
theorem own_all {key per n : Int} {M : List Int} (h : goodR per M = 0) (hn : 64 ≤ n) : ownersP key n (ringP per M) = allP key per M := by
  rw [own_take, List.take_of_length_le (by have := all_len (key := key) h; have := good_len h; omega)]
/-! without a member -/
theorem uqF_filter (p : Int → Bool) : ∀ (L : List Int), uqF (L.filter p) = (uqF L).filter p := by
  intro L
  induction h : L.length generalizing L with
  | zero => rw [List.length_eq_zero_iff] at h; subst h; simp [uqF]
  | succ n ih =>
    rcases List.eq_nil_or_concat L with rfl | ⟨L', x, rfl⟩
    · simp at h
    · rw [List.concat_eq_append] at h ⊢
      have hL := ih L' (by simpa using h)
      rw [List.filter_append, uqF_snoc]
      by_cases hp : p x = true
      · rw [show [x].filter p = [x] by simp [hp], uqF_snoc, hL]
        unfold uqS
        by_cases hc : x ∈ uqF L'
        · rw [if_pos (by rw [List.contains_iff_mem, List.mem_filter]; exact ⟨hc, hp⟩), if_pos (by rw [List.contains_iff_mem]; exact hc)]
        · rw [if_neg (by rw [List.contains_iff_mem, List.mem_filter]; exact fun q => hc q.1), if_neg (by rw [List.contains_iff_mem]; exact hc), List.filter_append]
          simp [hp]
      · rw [show [x].filter p = [] by simp [hp], List.append_nil, hL]
        unfold uqS
        split
        · rfl
        · rw [List.filter_append]; simp [hp]
theorem split_key (key : Int) : ∀ {pts : List (Int × Int)}, pts.Pairwise (fun a b => a.1 ≤ b.1) → pts = pts.filter (fun p => decide (p.1 < key)) ++ pts.filter (fun p => decide (key ≤ p.1))
  | [], _ => rfl
  | x :: r, h => by
    rw [List.pairwise_cons] at h
    by_cases hx : x.1 < key
    · rw [List.filter_cons_of_pos (by simpa using hx), List.filter_cons_of_neg (by simp; omega), List.cons_append, ← split_key key h.2]
    · rw [List.filter_cons_of_neg (by simpa using hx), List.filter_cons_of_pos (by simp; omega)]
      rw [show r.filter (fun p => decide (p.1 < key)) = [] from List.filter_eq_nil_iff.2 fun p hp => by have := h.1 p hp; simp; omega]
      rw [show r.filter (fun p => decide (key ≤ p.1)) = r from List.filter_eq_self.2 fun p hp => by have := h.1 p hp; simp; omega]
      rfl
theorem rot_split {key : Int} {pts : List (Int × Int)} (h : pts.Pairwise (fun a b => a.1 ≤ b.1)) : rotP (fromP key pts) pts = pts.filter (fun p => decide (key ≤ p.1)) ++ pts.filter (fun p => decide (p.1 < key)) := by
  have hs := split_key key h
  have hf : fromP key pts = (pts.filter fun p => decide (p.1 < key)).length := List.countP_eq_length_filter
  generalize hA : pts.filter (fun p => decide (p.1 < key)) = A at hs hf ⊢
  generalize hB : pts.filter (fun p => decide (key ≤ p.1)) = B at hs ⊢
  unfold rotP
  rw [hf, hs, List.drop_left, List.take_left]
theorem ringP_pw (per : Int) (M : List Int) : (ringP per M).Pairwise (fun a b => leP a b = true) := sortP_sorted _
theorem leP_fst {a b : Int × Int} (h : leP a b = true) : a.1 ≤ b.1 := by rw [leP_iff] at h; unfold ltP at h; omega
theorem leP_anti {a b : Int × Int} (h : leP a b = true) (h2 : leP b a = true) : a = b := by
  rw [leP_iff] at h h2; unfold ltP at h h2
  exact Prod.ext (by omega) (by omega)
theorem pts_filter (n : Nat) (p : Int → Bool) : ∀ L : List Int, (ptsL n L).filter (fun q => p q.2) = ptsL n (L.filter p)
  | [] => rfl
  | m :: r => by
    have h1 : ∀ q ∈ ptsM n m, q.2 = m := fun q hq => by obtain ⟨j, _, rfl⟩ := List.mem_map.1 hq; rfl
    show (ptsM n m ++ ptsL n r).filter _ = _
    rw [List.filter_append, pts_filter n p r]
    by_cases hp : p m = true
    · rw [List.filter_eq_self.2 (fun q hq => by rw [h1 q hq]; exact hp), List.filter_cons_of_pos hp]; rfl
    · rw [List.filter_eq_nil_iff.2 (fun q hq => by rw [h1 q hq]; exact hp), List.filter_cons_of_neg hp]; rfl
theorem ringP_filter (per : Int) (M : List Int) (p : Int → Bool) : ringP per ((sortI M).filter p) = (ringP per M).filter (fun q => p q.2) := by
  refine sorted_uniqR (R := fun a b => leP a b = true) (fun a b h1 h2 => leP_anti h1 h2) ?_ (ringP_pw _ _) ((ringP_pw _ _).filter _)
  refine (List.mergeSort_perm _ _).trans (List.Perm.trans ?_ ((List.mergeSort_perm _ _).filter _).symm)
  rw [pts_filter]
  exact List.Perm.flatMap_right _ (sortI_perm _)
theorem all_filter (key per : Int) (M : List Int) (p : Int → Bool) : allP key per ((sortI M).filter p) = (allP key per M).filter p := by
  unfold allP
  rw [← uqF_filter]
  congr 1
  unfold rotM
  rw [ringP_filter, rot_split (((ringP_pw per M).filter _).imp fun h => leP_fst h), rot_split ((ringP_pw per M).imp fun h => leP_fst h)]
  simp only [List.filter_filter, List.map_append, List.filter_append, List.filter_map]
  congr 1 <;> (congr 1; apply List.filter_congr; intro q _; simp [Function.comp, Bool.and_comm])
theorem all_out (key per : Int) (K M : List Int) : allP key per (outK K (sortI M)) = outK K (allP key per M) := all_filter key per M _
theorem good_out {per : Int} {K M : List Int} (h : goodR per M = 0) : goodR per (outK K (sortI M)) = 0 := by
  obtain ⟨h1, h2, h3, h4⟩ := good0 h
  refine good_0 h1 ⟨?_, fun m hm => ?_, ?_⟩
  · have : (outK K (sortI M)).length ≤ (sortI M).length := List.length_filter_le _ _
    rw [sortI_len] at this; omega
  · exact h3 m ((sortI_perm M).mem_iff.1 (List.mem_filter.1 hm).1)
  · exact List.Nodup.sublist List.filter_sublist ((sortI_perm M).nodup_iff.2 h4)
theorem take_min2 (L : List Int) : L.take (2 : Int).toNat = L.take (min 2 (L.length : Int)).toNat := by
  rw [List.take_eq_take_iff]; omega
theorem Owners_all (G : List Nat) (p : Nat) (per : Int) (AP : Option Addr) (cP : Nat) (M : List Int) (AM : Option Addr) (cM : Nat) (key n : Int) (w : World) (hR : RingR w G p per AP cP (ringP per M) AM cM (sortI M)) (h0 : goodR per M = 0) (hn : 64 ≤ n) : Calls Try.prog 14 #[.pointer (some ⟨p, 0, none⟩), .int .u64 key, .int .i64 n] w fun e w' => ∃ v, e = .returned v ∧ Fr w w' [] ∧ w'.ownsRow w.heap.size 3 1 v (allP key per M).length ((allP key per M).flatMap (Go.Tw.encI .i64)) := by
  have h := Owners_ct G p per AP cP (ringP per M) AM cM (sortI M) key n w hR (risP_sort _) (ring_le h0)
  rw [own_all h0 hn] at h; exact h
theorem Owners_take (G : List Nat) (p : Nat) (per : Int) (AP : Option Addr) (cP : Nat) (M : List Int) (AM : Option Addr) (cM : Nat) (key n : Int) (w : World) (hR : RingR w G p per AP cP (ringP per M) AM cM (sortI M)) (h0 : goodR per M = 0) : Calls Try.prog 14 #[.pointer (some ⟨p, 0, none⟩), .int .u64 key, .int .i64 n] w fun e w' => ∃ v, e = .returned v ∧ Fr w w' [] ∧ w'.ownsRow w.heap.size 3 1 v ((allP key per M).take n.toNat).length (((allP key per M).take n.toNat).flatMap (Go.Tw.encI .i64)) := by
  have h := Owners_ct G p per AP cP (ringP per M) AM cM (sortI M) key n w hR (risP_sort _) (ring_le h0)
  rw [own_take] at h; exact h
theorem Without_n (G : List Nat) (p : Nat) (per : Int) (AP : Option Addr) (cP : Nat) (pts : List (Int × Int)) (AM : Option Addr) (cM : Nat) (mem : List Int) (A : Option Addr) (n c : Nat) (xs : List Int) (w : World) (hR : RingR w G p per AP cP pts AM cM mem) (hml : mem.length ≤ 4096) (hr : Rd w 1 (Go.Tw.encI .i64) A xs) (hn : xs.length = n) (hl : n ≤ 1099511623680) : Calls Try.prog 23 #[.pointer (some ⟨p, 0, none⟩), .slice A n c] w fun e w' => ∃ a b, e = .returned (.tuple #[a, b]) ∧ Fr w w' [] ∧ newR w' w.heap.size per (outK xs mem) a b := by subst hn; exact Without_ct G p per AP cP pts AM cM mem A c xs w hR hml hr hl
set_option maxHeartbeats 1000000 in
theorem RingLeaves_ct (per : Int) (A : Option Addr) (c : Nat) (M : List Int) (key n : Int) (gone : Int) (w : World) (hr : Rd w 1 (Go.Tw.encI .i64) A M) (hl : M.length ≤ 9223372036854775807) : Calls Try.prog 7 #[.agg #[.int .i64 per, .slice A M.length c, .int .u64 key, .int .i64 n], .int .i64 gone] w fun e w' => e = .returned (.bool true) ∧ Fr w w' [] := by
 refine enterD (n := 77) Try.func7 rfl rfl (Nat.le_of_ble_eq_true rfl) ?_
 intro Q0 hN hret hret'
 have hC := Cx.start w
 refine WCs (fun K1 hK2 => ?_)
 refine WCg ?_
 refine WL.newM hC (fun b => .pointer (some ⟨b, 0, none⟩)) (.cells #[.int .i64 per, .slice A M.length c, .int .u64 key, .int .i64 n] 34) 2 (fun _ => by kernel_rfl) (fun g3 w4 hb7 hF5 hC6 => ?_)
 refine WLq 1 [(4, .bool false)] (WLd rfl (QXn (hK2 _ _ ?_)))
 refine WCs (fun K8 hK9 => ?_)
 refine WCs (fun df b3 => ?_)
 refine WCg ?_
 refine WLc rfl rfl rfl rfl rfl (by kernel_rfl) (alive_ct w4) ?_
 rintro _ c4 ⟨rfl, b5⟩
 refine ⟨_, rfl, ?_⟩
 have aO := hC6.call b5
 refine WLq 1 [(10, .bool false)] (WLd rfl (QXn (b3 _ _ ?_)))
 refine WCf rfl (WC.skip (QXn (hK9 _ _ ?_)))
 refine WCs (fun dg b6 => ?_)
 refine WCs (fun dh b7 => ?_)
 refine WCg (WLq 1 [(11, .pointer (some ⟨g3, 0, none⟩))] ?_)
 refine WLo 3 (.pointer (some ⟨g3, 0, none⟩)) (.int .i64 per) 12 (run_ld (aO.get 0 rfl) rfl) ?_
 refine WLq 1 [(13, .pointer (some ⟨g3, 1, none⟩))] ?_
 refine WLo 31 (.pointer (some ⟨g3, 1, none⟩)) (.slice A M.length c) 14 (run_ld (aO.get 0 rfl) rfl) ?_
 refine WLc rfl rfl rfl rfl rfl (by kernel_rfl) (Good_n per A M.length c M c4 (Rd.fr hr aO.fr) (by first | rfl | assumption | omega) (by first | omega | (simp; done) | (simp; omega))) ?_
 rintro _ c5 ⟨rfl, b9⟩
 refine ⟨_, rfl, ?_⟩
 have aA := aO.call b9
 refine WLq 1 [(16, .bool ((goodR per M) != 0))] (WLd rfl (QXn (b7 _ _ ?_)))
 refine WCa 16 ((goodR per M) != 0) rfl (fun a6 => ?_) (fun a6 => ?_)
 ·
  have c6 : (goodR per M) ≠ 0 := by simpa using a6
  refine WCt rfl ?_
  refine WCs (fun di ca => ?_)
  refine WCg (WLq 1 [(4, .bool true)] (WLd rfl (QXn (ca _ _ ?_))))
  refine WC.ret ?_
  refine QXr ?_
  refine (hret _ _ _ rfl ?_).1
  exact ⟨rfl, aA.fr⟩
 ·
  have c6 : (goodR per M) = 0 := by simpa using a6
  refine WCf rfl (WC.skip (QXn (b6 _ _ ?_)))
  refine WCs (fun dj cb => ?_)
  refine WCg (WLq 1 [(18, .pointer (some ⟨g3, 0, none⟩))] ?_)
  refine WLo 3 (.pointer (some ⟨g3, 0, none⟩)) (.int .i64 per) 19 (run_ld (aA.get 0 rfl) rfl) ?_
  refine WLq 1 [(20, .pointer (some ⟨g3, 1, none⟩))] ?_
  refine WLo 31 (.pointer (some ⟨g3, 1, none⟩)) (.slice A M.length c) 21 (run_ld (aA.get 0 rfl) rfl) ?_
  have hgl_ := good_len (show goodR per M = 0 by omega)
  refine WLc rfl rfl rfl rfl rfl (by kernel_rfl) (New_n per A M.length c M c5 (Rd.fr hr aA.fr) (by first | rfl | assumption | omega) (by first | omega | (simp; done) | (simp; omega))) ?_
  rintro _ dk ⟨a31, b32, rfl, cc, (⟨ac, rfl, rfl⟩ | ⟨ac, p34, G35, AP36, cP37, AM38, cM39, rfl, rfl, ba, cd⟩)⟩
  ·
   exact absurd (by omega) ac
  ·
   have ce := aA.callN cc cd (RingR.lt ba)
   refine ⟨_, rfl, ?_⟩
   refine WLq 5 [(6, .nilIface), (5, .pointer (some ⟨p34, 0, none⟩)), (24, .nilIface), (23, .pointer (some ⟨p34, 0, none⟩)), (17, .tuple #[.pointer (some ⟨p34, 0, none⟩), .nilIface])] (WLd rfl (QXn (cb _ _ ?_)))
   refine WCs (fun dl cf => ?_)
   refine WCs (fun dm cg => ?_)
   refine WCg (WLq 6 [(30, .bool false), (29, .bool false), (28, .pointer (some ⟨p34, 0, none⟩)), (27, .bool false), (26, .bool false), (25, .nilIface)] (WLd rfl (QXn (cg _ _ ?_))))
   refine WCf rfl (WC.skip (QXn (cf _ _ ?_)))
   refine WCs (fun dn ch => ?_)
   refine WCg (WLq 2 [(33, .int .i64 gone), (32, .pointer (some ⟨p34, 0, none⟩))] ?_)
   refine WL.newM ce (fun b => .slice (some ⟨b, 0, none⟩) 1 1) (.cells #[.int .i64 gone] 3) 34 (fun _ => by kernel_rfl) (fun c7 c8 c9 ci bb => ?_)
   have bc := RingR.fr ba ci (by simp)
   have hql_ := good_len ac
   refine WLc rfl rfl rfl rfl rfl (by kernel_rfl) (Without_n G35 p34 per AP36 cP37 (ringP per M) AM38 cM39 (sortI M) (some ⟨c7, 0, none⟩) 1 1 [gone] c8 bc (by rw [sortI_len]; omega) (Rd.blk (bb.get 1 rfl) (Go.Tw.encI_len _) rfl) rfl (by first | omega | (simp; done) | (simp; omega))) ?_
   rintro _ da ⟨a67, b68, rfl, bd, (⟨ah, rfl, rfl⟩ | ⟨ah, p59, G60, AP61, cP62, AM63, cM64, rfl, rfl, be, cj⟩)⟩
   ·
    exact absurd (good_out (K := [gone]) ac) ah
   ·
    have bf := bb.callN bd cj (RingR.lt be)
    refine ⟨_, rfl, ?_⟩
    have bg := RingR.fr bc bd (by simp)
    refine WLq 5 [(6, .nilIface), (7, .pointer (some ⟨p59, 0, none⟩)), (37, .nilIface), (36, .pointer (some ⟨p59, 0, none⟩)), (31, .tuple #[.pointer (some ⟨p59, 0, none⟩), .nilIface])] (WLd rfl (QXn (ch _ _ ?_)))
    refine WCs (fun dp ck => ?_)
    refine WCs (fun dq cl => ?_)
    refine WCg (WLq 6 [(43, .bool false), (42, .bool false), (41, .pointer (some ⟨p59, 0, none⟩)), (40, .bool false), (39, .bool false), (38, .nilIface)] (WLd rfl (QXn (cl _ _ ?_))))
    refine WCf rfl (WC.skip (QXn (ck _ _ ?_)))
    refine WCs (fun dr cm => ?_)
    refine WCg (WLq 2 [(45, .pointer (some ⟨g3, 2, none⟩)), (44, .pointer (some ⟨p34, 0, none⟩))] ?_)
    refine WLo 32 (.pointer (some ⟨g3, 2, none⟩)) (.int .u64 key) 46 (run_ld (bf.get 0 rfl) rfl) ?_
    have hal_ := all_len (key := key) ac
    have hgl_ := good_len ac
    refine WLc rfl rfl rfl rfl rfl (by kernel_rfl) (Owners_all G35 p34 per AP36 cP37 M AM38 cM39 key 64 da bg ac (by decide)) ?_
    rintro _ ds ⟨v_, rfl, a7, aP⟩
    have cn := bf.callN a7 (own_ge aP) (own_lt aP)
    obtain ⟨ap, ai, rfl, cU⟩ := own_form aP
    have co := own_base (b' := 0) aP (fun _ _ => Nat.zero_le _)
    refine ⟨_, rfl, ?_⟩
    have cp := RingR.fr bg a7 (by simp)
    have cq := RingR.fr be a7 (by simp)
    refine WLq 1 [(8, .slice ap ((allP key per M).length) ai)] (WLd rfl (QXn (cm _ _ ?_)))
    refine WCs (fun dt bh => ?_)
    refine WC.drawC cn [] (by kernel_rfl) (fun db a8 az ad => ?_)
    have bi := RingR.fr cp a8 (by simp)
    have a9 := RingR.fr cq a8 (by simp)
    have bj := own_fr co a8 (by simp)
    refine WDq (NPt hN) 0 48 (.slice ap ((allP key per M).length) ai) ad ?_
    refine WDq (NPt hN) 1 49 (.int .i64 ((allP key per M).length : Int)) ad ?_
    refine WDq (NPt hN) 2 50 (.pointer (some ⟨g3, 1, none⟩)) ad ?_
    refine WDm (NPt hN) 3 31 (.pointer (some ⟨g3, 1, none⟩)) (.slice A M.length c) 51 (fun _ hS_ => run_ld (Fr.has hS_ (az.get 0 rfl) (by simp)) rfl) ad ?_
    refine WDq (NPt hN) 4 52 (.int .i64 (M.length : Int)) ad ?_
    refine WDq (NPt hN) 5 53 (.bool (((allP key per M).length : Int) == (M.length : Int))) ad ?_
    refine WDq (NPt hN) 6 54 (.bool (((allP key per M).length : Int) == (M.length : Int))) ad ?_
    refine WD.know 54 (.bool (((allP key per M).length : Int) == (M.length : Int))) (.bool true) rfl (congrArg Value.bool (by rw [all_len ac]; simp)) ?_
    refine WDq (NPt hN) 7 55 (.pointer (some ⟨p59, 0, none⟩)) ad ?_
    refine WDq (NPt hN) 8 56 (.pointer (some ⟨g3, 2, none⟩)) ad ?_
    refine WDq (NPt hN) 11 59 (.slice ap ((allP key per M).length) ai) ad ?_
    refine WDq (NPt hN) 12 60 (.int .i64 gone) ad ?_
    refine WDm (NPt hN) 9 32 (.pointer (some ⟨g3, 2, none⟩)) (.int .u64 key) 57 (fun _ hS_ => run_ld (Fr.has hS_ (az.get 0 rfl) (by simp)) rfl) ad ?_
    refine WD.all2 10 13 (by kernel_rfl) ?_ ?_
    ·
     have hal_ := all_len (key := key) ah
     have hgl_ := good_len ah
     refine WO.call 10 (by kernel_rfl) rfl rfl rfl rfl rfl (by kernel_rfl) (Owners_all G60 p59 per AP61 cP62 (outK [gone] (sortI M)) AM63 cM64 key 64 db a9 ah (by decide)) ?_
     rintro _ dc ⟨v_, rfl, aB, aQ⟩
     have bk := az.callN aB (own_ge aQ) (own_lt aQ)
     obtain ⟨cr, cs, rfl, ct⟩ := own_form aQ
     have bl := own_base (b' := 0) aQ (fun _ _ => Nat.zero_le _)
     have aR := ad.trans aB (by simp)
     refine ⟨_, rfl, aR, ?_⟩
     have bm := RingR.fr bi aB (by simp)
     have bn := RingR.fr a9 aB (by simp)
     have bo := own_fr bj aB (by simp)
     refine WD.new 13 (fun b => .slice (some ⟨b, 0, none⟩) 1 1) (.cells #[.int .i64 gone] 3) (by kernel_rfl) rfl rfl rfl rfl rfl (fun _ => by kernel_rfl) (fun cu cv bp cV ae bq => ?_)
     have aS := bk.callB ae bp bq
     have aT := aR.trans ae (by simp)
     refine ⟨aT, ?_⟩
     have br := RingR.fr bm ae (by simp)
     have bs := RingR.fr bn ae (by simp)
     have aC := own_fr bo ae (by simp)
     have bt := own_fr bl ae (by simp)
     refine WD.call 14 (by kernel_rfl) rfl rfl rfl rfl rfl (by kernel_rfl) (RWithout_n ap ((allP key per M).length) ai (allP key per M) (some ⟨cu, 0, none⟩) 1 1 [gone] cv (own_rd aC (Go.Tw.encI_len _) (by decide)) (own_count (Go.Tw.encI_len _) (by decide) aC) (by first | omega | (simp; done) | (simp; omega)) (Rd.blk (aS.get 2 rfl) (Go.Tw.encI_len _) rfl) rfl (by first | omega | (simp; done) | (simp; omega))) ?_
     rintro _ cw ⟨v_, rfl, af, aq⟩
     have bu := aS.callN af (own_ge aq) (own_lt aq)
     obtain ⟨cx, cy, rfl, cz⟩ := own_form aq
     have aD := own_base (b' := 0) aq (fun _ _ => Nat.zero_le _)
     have aU := aT.trans af (by simp)
     refine ⟨_, rfl, aU, ?_⟩
     have bv := RingR.fr br af (by simp)
     have bw := RingR.fr bs af (by simp)
     have bx := own_fr aC af (by simp)
     have aE := own_fr bt af (by simp)
     refine WD.call 15 (by kernel_rfl) rfl rfl rfl rfl rfl (by kernel_rfl) (Ints_n cr cx ((allP key per (outK [gone] (sortI M))).length) cs ((outK [gone] (allP key per M)).length) cy (allP key per (outK [gone] (sortI M))) (outK [gone] (allP key per M)) cw (own_rd aE (Go.Tw.encI_len _) (by decide)) (own_count (Go.Tw.encI_len _) (by decide) aE) (own_rd aD (Go.Tw.encI_len _) (by decide)) (own_count (Go.Tw.encI_len _) (by decide) aD) (own_max aE) (own_max aD)) ?_
     rintro _ cA ⟨rfl, aj⟩
     have aa := aU.trans aj (by simp)
     refine ⟨_, rfl, aa, ?_⟩
     have bz := bu.call aj
     have aV := RingR.fr bv aj (by simp)
     have bA := RingR.fr bw aj (by simp)
     have aW := own_fr bx aj (by simp)
     refine WDq (NPt hN) 16 64 (.bool (decide ((allP key per (outK [gone] (sortI M))) = (outK [gone] (allP key per M))))) aa ?_
     refine WDq (NPt hN) 17 65 (.bool (decide ((allP key per (outK [gone] (sortI M))) = (outK [gone] (allP key per M))))) aa ?_
     refine WD.know 65 (.bool (decide ((allP key per (outK [gone] (sortI M))) = (outK [gone] (allP key per M))))) (.bool true) rfl (congrArg Value.bool (by exact decide_eq_true (all_out _ _ _ _))) ?_
     refine WDq (NPt hN) 18 66 (.pointer (some ⟨p34, 0, none⟩)) aa ?_
     refine WDq (NPt hN) 19 67 (.pointer (some ⟨g3, 2, none⟩)) aa ?_
     refine WDq (NPt hN) 22 70 (.slice ap ((allP key per M).length) ai) aa ?_
     refine WDq (NPt hN) 23 71 (.slice ap ((allP key per M).length) ai) aa ?_
     refine WDq (NPt hN) 24 72 (.int .i64 ((allP key per M).length : Int)) aa ?_
     have bB : ∀ w_, Sem.run Try.prog (Builtin.min_ #[3, 3] 3 #[.int .i64 2, .int .i64 ((allP key per M).length : Int)]) w_ = .ok (.int .i64 (min (2 : Int) ((allP key per M).length : Int))) w_ := fun w_ => run_minI
     refine WD.semP (NPt hN) 25 (Builtin.min_ #[3, 3] 3 #[.int .i64 2, .int .i64 ((allP key per M).length : Int)]) 73 (.int .i64 (min (2 : Int) ((allP key per M).length : Int))) (by kernel_rfl) (by kernel_rfl) (fun _ _ => bB _) aa ?_
     have hle_ := own_le aW
     have bC : (min (2 : Int) ((allP key per M).length : Int)).toNat ≤ ai := by omega
     refine WD.slc (NPt hN) 26 31 3 1 ap ap ((allP key per M).length) ai 0 ((min (2 : Int) ((allP key per M).length : Int)).toNat) ((min (2 : Int) ((allP key per M).length : Int)).toNat) ai none (some (.int .i64 (min (2 : Int) ((allP key per M).length : Int)))) 74 (by kernel_rfl) (by kernel_rfl) (by kernel_rfl) bnd.no (bnd.yes (by omega)) (by omega) bC (slcAt_pre _ _ _) (by first | rfl | omega) (by first | rfl | omega) aa ?_
     have bD := own_takeE (m := (min (2 : Int) ((allP key per M).length : Int)).toNat) (Go.Tw.encI_len _) aW (by omega)
     refine WDm (NPt hN) 20 32 (.pointer (some ⟨g3, 2, none⟩)) (.int .u64 key) 68 (fun _ hS_ => run_ld (Fr.has hS_ (az.get 0 rfl) (by simp)) rfl) aa ?_
     have hal_ := all_len (key := key) ac
     have hgl_ := good_len ac
     refine WD.call 21 (by kernel_rfl) rfl rfl rfl rfl rfl (by kernel_rfl) (Owners_take G35 p34 per AP36 cP37 M AM38 cM39 key 2 cA aV ac) ?_
     rintro _ cB ⟨v_, rfl, ak, ar⟩
     have bE := bz.callN ak (own_ge ar) (own_lt ar)
     obtain ⟨cC, cD, rfl, cE⟩ := own_form ar
     have aF := own_base (b' := 0) ar (fun _ _ => Nat.zero_le _)
     have aX := aa.trans ak (by simp)
     refine ⟨_, rfl, aX, ?_⟩
     have bF := RingR.fr aV ak (by simp)
     have bG := RingR.fr bA ak (by simp)
     have aG := own_fr bD ak (by simp)
     refine WD.call 27 (by kernel_rfl) rfl rfl rfl rfl rfl (by kernel_rfl) (Ints_n cC ap (((allP key per M).take (2 : Int).toNat).length) cD ((min (2 : Int) ((allP key per M).length : Int)).toNat) ai ((allP key per M).take (2 : Int).toNat) ((allP key per M).take ((min (2 : Int) ((allP key per M).length : Int)).toNat)) cB (own_rd aF (Go.Tw.encI_len _) (by decide)) (own_count (Go.Tw.encI_len _) (by decide) aF) (own_rd aG (Go.Tw.encI_len _) (by decide)) (own_count (Go.Tw.encI_len _) (by decide) aG) (own_max aF) (own_max aG)) ?_
     rintro _ dd ⟨rfl, au⟩
     have aH := aX.trans au (by simp)
     refine ⟨_, rfl, aH, ?_⟩
     have bH := bE.call au
     have cW := RingR.fr bF au (by simp)
     have cX := RingR.fr bG au (by simp)
     refine WDq (NPt hN) 28 76 (.bool (decide (((allP key per M).take (2 : Int).toNat) = (allP key per M).take ((min (2 : Int) ((allP key per M).length : Int)).toNat)))) aH ?_
     refine WDq (NPt hN) 29 4 (.bool (decide (((allP key per M).take (2 : Int).toNat) = (allP key per M).take ((min (2 : Int) ((allP key per M).length : Int)).toNat)))) aH ?_
     refine WD.done (by kernel_rfl) ?_
     refine QXn (bh _ _ ?_)
     refine WC.ret ?_
     refine (hret _ _ _ rfl ?_).1
     exact ⟨congrArg (fun b_ => Ending.returned (Value.bool b_)) (show ((decide (((allP key per M).take (2 : Int).toNat) = (allP key per M).take ((min (2 : Int) ((allP key per M).length : Int)).toNat)))) = true from by exact decide_eq_true (take_min2 _)), bH.fr⟩
    ·
     refine WO.new 13 (fun b => .slice (some ⟨b, 0, none⟩) 1 1) (.cells #[.int .i64 gone] 3) (by kernel_rfl) rfl rfl rfl rfl rfl (fun _ => by kernel_rfl) (fun cF cG bI cY al bJ => ?_)
     have bK := az.callB al bI bJ
     have aY := ad.trans al (by simp)
     refine ⟨aY, ?_⟩
     have bL := RingR.fr bi al (by simp)
     have aZ := RingR.fr a9 al (by simp)
     have bM := own_fr bj al (by simp)
     have hal_ := all_len (key := key) ah
     have hgl_ := good_len ah
     refine WD.call 10 (by kernel_rfl) rfl rfl rfl rfl rfl (by kernel_rfl) (Owners_all G60 p59 per AP61 cP62 (outK [gone] (sortI M)) AM63 cM64 key 64 cG aZ ah (by decide)) ?_
     rintro _ cH ⟨v_, rfl, am, av⟩
     have a0 := bK.callN am (own_ge av) (own_lt av)
     obtain ⟨cI, cJ, rfl, cK⟩ := own_form av
     have bN := own_base (b' := 0) av (fun _ _ => Nat.zero_le _)
     have a1 := aY.trans am (by simp)
     refine ⟨_, rfl, a1, ?_⟩
     have bO := RingR.fr bL am (by simp)
     have bP := RingR.fr aZ am (by simp)
     have aI := own_fr bM am (by simp)
     refine WD.call 14 (by kernel_rfl) rfl rfl rfl rfl rfl (by kernel_rfl) (RWithout_n ap ((allP key per M).length) ai (allP key per M) (some ⟨cF, 0, none⟩) 1 1 [gone] cH (own_rd aI (Go.Tw.encI_len _) (by decide)) (own_count (Go.Tw.encI_len _) (by decide) aI) (by first | omega | (simp; done) | (simp; omega)) (Rd.blk (a0.get 2 rfl) (Go.Tw.encI_len _) rfl) rfl (by first | omega | (simp; done) | (simp; omega))) ?_
     rintro _ cL ⟨v_, rfl, ag, aw⟩
     have bQ := a0.callN ag (own_ge aw) (own_lt aw)
     obtain ⟨cM, cN, rfl, cO⟩ := own_form aw
     have aJ := own_base (b' := 0) aw (fun _ _ => Nat.zero_le _)
     have a2 := a1.trans ag (by simp)
     refine ⟨_, rfl, a2, ?_⟩
     have bR := RingR.fr bO ag (by simp)
     have bS := RingR.fr bP ag (by simp)
     have bT := own_fr aI ag (by simp)
     have aK := own_fr bN ag (by simp)
     refine WD.call 15 (by kernel_rfl) rfl rfl rfl rfl rfl (by kernel_rfl) (Ints_n cI cM ((allP key per (outK [gone] (sortI M))).length) cJ ((outK [gone] (allP key per M)).length) cN (allP key per (outK [gone] (sortI M))) (outK [gone] (allP key per M)) cL (own_rd aK (Go.Tw.encI_len _) (by decide)) (own_count (Go.Tw.encI_len _) (by decide) aK) (own_rd aJ (Go.Tw.encI_len _) (by decide)) (own_count (Go.Tw.encI_len _) (by decide) aJ) (own_max aK) (own_max aJ)) ?_
     rintro _ cP ⟨rfl, an⟩
     have ab := a2.trans an (by simp)
     refine ⟨_, rfl, ab, ?_⟩
     have bU := bQ.call an
     have a3 := RingR.fr bR an (by simp)
     have bV := RingR.fr bS an (by simp)
     have a4 := own_fr bT an (by simp)
     refine WDq (NPt hN) 16 64 (.bool (decide ((allP key per (outK [gone] (sortI M))) = (outK [gone] (allP key per M))))) ab ?_
     refine WDq (NPt hN) 17 65 (.bool (decide ((allP key per (outK [gone] (sortI M))) = (outK [gone] (allP key per M))))) ab ?_
     refine WD.know 65 (.bool (decide ((allP key per (outK [gone] (sortI M))) = (outK [gone] (allP key per M))))) (.bool true) rfl (congrArg Value.bool (by exact decide_eq_true (all_out _ _ _ _))) ?_
     refine WDq (NPt hN) 18 66 (.pointer (some ⟨p34, 0, none⟩)) ab ?_
     refine WDq (NPt hN) 19 67 (.pointer (some ⟨g3, 2, none⟩)) ab ?_
     refine WDq (NPt hN) 22 70 (.slice ap ((allP key per M).length) ai) ab ?_
     refine WDq (NPt hN) 23 71 (.slice ap ((allP key per M).length) ai) ab ?_
     refine WDq (NPt hN) 24 72 (.int .i64 ((allP key per M).length : Int)) ab ?_
     have bW : ∀ w_, Sem.run Try.prog (Builtin.min_ #[3, 3] 3 #[.int .i64 2, .int .i64 ((allP key per M).length : Int)]) w_ = .ok (.int .i64 (min (2 : Int) ((allP key per M).length : Int))) w_ := fun w_ => run_minI
     refine WD.semP (NPt hN) 25 (Builtin.min_ #[3, 3] 3 #[.int .i64 2, .int .i64 ((allP key per M).length : Int)]) 73 (.int .i64 (min (2 : Int) ((allP key per M).length : Int))) (by kernel_rfl) (by kernel_rfl) (fun _ _ => bW _) ab ?_
     have hle_ := own_le a4
     have bX : (min (2 : Int) ((allP key per M).length : Int)).toNat ≤ ai := by omega
     refine WD.slc (NPt hN) 26 31 3 1 ap ap ((allP key per M).length) ai 0 ((min (2 : Int) ((allP key per M).length : Int)).toNat) ((min (2 : Int) ((allP key per M).length : Int)).toNat) ai none (some (.int .i64 (min (2 : Int) ((allP key per M).length : Int)))) 74 (by kernel_rfl) (by kernel_rfl) (by kernel_rfl) bnd.no (bnd.yes (by omega)) (by omega) bX (slcAt_pre _ _ _) (by first | rfl | omega) (by first | rfl | omega) ab ?_
     have bY := own_takeE (m := (min (2 : Int) ((allP key per M).length : Int)).toNat) (Go.Tw.encI_len _) a4 (by omega)
     refine WDm (NPt hN) 20 32 (.pointer (some ⟨g3, 2, none⟩)) (.int .u64 key) 68 (fun _ hS_ => run_ld (Fr.has hS_ (az.get 0 rfl) (by simp)) rfl) ab ?_
     have hal_ := all_len (key := key) ac
     have hgl_ := good_len ac
     refine WD.call 21 (by kernel_rfl) rfl rfl rfl rfl rfl (by kernel_rfl) (Owners_take G35 p34 per AP36 cP37 M AM38 cM39 key 2 cP a3 ac) ?_
     rintro _ cQ ⟨v_, rfl, ao, ax⟩
     have bZ := bU.callN ao (own_ge ax) (own_lt ax)
     obtain ⟨cR, cS, rfl, cT⟩ := own_form ax
     have aL := own_base (b' := 0) ax (fun _ _ => Nat.zero_le _)
     have a5 := ab.trans ao (by simp)
     refine ⟨_, rfl, a5, ?_⟩
     have b0 := RingR.fr a3 ao (by simp)
     have b1 := RingR.fr bV ao (by simp)
     have aM := own_fr bY ao (by simp)
     refine WD.call 27 (by kernel_rfl) rfl rfl rfl rfl rfl (by kernel_rfl) (Ints_n cR ap (((allP key per M).take (2 : Int).toNat).length) cS ((min (2 : Int) ((allP key per M).length : Int)).toNat) ai ((allP key per M).take (2 : Int).toNat) ((allP key per M).take ((min (2 : Int) ((allP key per M).length : Int)).toNat)) cQ (own_rd aL (Go.Tw.encI_len _) (by decide)) (own_count (Go.Tw.encI_len _) (by decide) aL) (own_rd aM (Go.Tw.encI_len _) (by decide)) (own_count (Go.Tw.encI_len _) (by decide) aM) (own_max aL) (own_max aM)) ?_
     rintro _ de ⟨rfl, ay⟩
     have aN := a5.trans ay (by simp)
     refine ⟨_, rfl, aN, ?_⟩
     have b2 := bZ.call ay
     have cZ := RingR.fr b0 ay (by simp)
     have c3 := RingR.fr b1 ay (by simp)
     refine WDq (NPt hN) 28 76 (.bool (decide (((allP key per M).take (2 : Int).toNat) = (allP key per M).take ((min (2 : Int) ((allP key per M).length : Int)).toNat)))) aN ?_
     refine WDq (NPt hN) 29 4 (.bool (decide (((allP key per M).take (2 : Int).toNat) = (allP key per M).take ((min (2 : Int) ((allP key per M).length : Int)).toNat)))) aN ?_
     refine WD.done (by kernel_rfl) ?_
     refine QXn (bh _ _ ?_)
     refine WC.ret ?_
     refine (hret _ _ _ rfl ?_).1
     exact ⟨congrArg (fun b_ => Ending.returned (Value.bool b_)) (show ((decide (((allP key per M).take (2 : Int).toNat) = (allP key per M).take ((min (2 : Int) ((allP key per M).length : Int)).toNat)))) = true from by exact decide_eq_true (take_min2 _)), b2.fr⟩

end Go.Proofs.Ytibkndhgeeoidaa
