/- Contracts of functions of the program, each proved by a walk through its code; conditions stand in the statements. -/
import Derived.Test.YtibkndhgeeoidaaRgQ
namespace Go.Proofs.Ytibkndhgeeoidaa
set_option linter.unusedSimpArgs false
set_option linter.unusedVariables false
set_option linter.unusedSectionVars false
open Go Go.RowKit Go.Tw
set_option linter.unusedVariables false
set_option maxRecDepth 20000
/-! ### the owners of a key are all members, each once -/
def allP (key per : Int) (M : List Int) : List Int := uqF (rotM key (ringP per M))
theorem mem_uqF {m : Int} : ∀ {L : List Int}, m ∈ uqF L ↔ m ∈ L := by
  intro L
  induction h : L.length generalizing L with
  | zero => rw [List.length_eq_zero_iff] at h; subst h; simp [uqF]
  | succ n ih =>
    rcases List.eq_nil_or_concat L with rfl | ⟨L', x, rfl⟩
    · simp at h
    · rw [List.concat_eq_append] at h ⊢
      have := ih (L := L') (by simpa using h)
      rw [uqF_snoc]; unfold uqS; split
      · rename_i hc
        rw [List.contains_iff_mem] at hc
        rw [List.mem_append, List.mem_singleton, this]
        constructor
        · exact .inl
        · rintro (h | rfl)
          · exact h
          · exact this.1 hc
      · rw [List.mem_append, List.mem_append, this]
theorem uqF_nodup : ∀ (L : List Int), (uqF L).Nodup := by
  intro L
  induction h : L.length generalizing L with
  | zero => rw [List.length_eq_zero_iff] at h; subst h; simp [uqF]
  | succ n ih =>
    rcases List.eq_nil_or_concat L with rfl | ⟨L', x, rfl⟩
    · simp at h
    · rw [List.concat_eq_append] at h ⊢
      have := ih L' (by simpa using h)
      rw [uqF_snoc]; unfold uqS; split
      · exact this
      · rename_i hc
        rw [List.contains_iff_mem] at hc
        refine List.nodup_append.2 ⟨this, by simp, fun a ha b hb => ?_⟩
        simp at hb; subst hb
        exact fun e => hc (e ▸ ha)
theorem all_perm {key per : Int} {M : List Int} (h : goodR per M = 0) : (allP key per M).Perm M := by
  obtain ⟨h1, h2, h3, h4⟩ := good0 h
  refine (List.perm_ext_iff_of_nodup (uqF_nodup _) h4).2 fun m => ?_
  rw [mem_uqF, mem_rotM]
  constructor
  · rintro ⟨p, hp, rfl⟩; exact (mem_ringP.1 hp).1
  · exact fun hm => ⟨ptAt m 0, mem_ringP.2 ⟨hm, 0, by omega, rfl⟩, rfl⟩
theorem all_len {key per : Int} {M : List Int} (h : goodR per M = 0) : (allP key per M).length = M.length := (all_perm h).length_eq
theorem good_len {per : Int} {M : List Int} (h : goodR per M = 0) : M.length ≤ 64 := (good0 h).2.1
theorem own_take (key per n : Int) (M : List Int) : ownersP key n (ringP per M) = (allP key per M).take n.toNat := by
  unfold ownersP allP; split
  · rw [show n.toNat = 0 by omega, List.take_zero]
  · rfl
theorem own_all {key per n : Int} {M : List Int} (h : goodR per M = 0) (hn : 64 ≤ n) : ownersP key n (ringP per M) = allP key per M := by
  rw [own_take, List.take_of_length_le (by have := all_len (key := key) h; have := good_len h; omega)]
theorem all_sort {key per : Int} {M : List Int} (h : goodR per M = 0) : sortI (allP key per M) = sortI M := sortI_of_perm (all_perm h)
/-! without a member -/
theorem Owners_all (G : List Nat) (p : Nat) (per : Int) (AP : Option Addr) (cP : Nat) (M : List Int) (AM : Option Addr) (cM : Nat) (key n : Int) (w : World) (hR : RingR w G p per AP cP (ringP per M) AM cM (sortI M)) (h0 : goodR per M = 0) (hn : 64 ≤ n) : Calls Try.prog 14 #[.pointer (some ⟨p, 0, none⟩), .int .u64 key, .int .i64 n] w fun e w' => ∃ v, e = .returned v ∧ Fr w w' [] ∧ w'.ownsRow w.heap.size 3 1 v (allP key per M).length ((allP key per M).flatMap (Go.Tw.encI .i64)) := by
  have h := Owners_ct G p per AP cP (ringP per M) AM cM (sortI M) key n w hR (risP_sort _) (ring_le h0)
  rw [own_all h0 hn] at h; exact h
theorem Owners_take (G : List Nat) (p : Nat) (per : Int) (AP : Option Addr) (cP : Nat) (M : List Int) (AM : Option Addr) (cM : Nat) (key n : Int) (w : World) (hR : RingR w G p per AP cP (ringP per M) AM cM (sortI M)) (h0 : goodR per M = 0) : Calls Try.prog 14 #[.pointer (some ⟨p, 0, none⟩), .int .u64 key, .int .i64 n] w fun e w' => ∃ v, e = .returned v ∧ Fr w w' [] ∧ w'.ownsRow w.heap.size 3 1 v ((allP key per M).take n.toNat).length (((allP key per M).take n.toNat).flatMap (Go.Tw.encI .i64)) := by
  have h := Owners_ct G p per AP cP (ringP per M) AM cM (sortI M) key n w hR (risP_sort _) (ring_le h0)
  rw [own_take] at h; exact h
set_option maxHeartbeats 1000000 in
theorem RingAll_ct (per : Int) (A : Option Addr) (c : Nat) (M : List Int) (key n : Int) (w : World) (hr : Rd w 1 (Go.Tw.encI .i64) A M) (hl : M.length ≤ 9223372036854775807) : Calls Try.prog 4 #[.agg #[.int .i64 per, .slice A M.length c, .int .u64 key, .int .i64 n]] w fun e w' => e = .returned (.bool true) ∧ Fr w w' [] := by
 refine enterD (n := 57) Try.func4 rfl rfl (Nat.le_of_ble_eq_true rfl) ?_
 intro Q0 hN hret hret'
 have hC := Cx.start w
 refine WCs (fun K1 hK2 => ?_)
 refine WCg ?_
 refine WL.newM hC (fun b => .pointer (some ⟨b, 0, none⟩)) (.cells #[.int .i64 per, .slice A M.length c, .int .u64 key, .int .i64 n] 34) 1 (fun _ => by kernel_rfl) (fun g3 w4 hb7 hF5 hC6 => ?_)
 refine WLq 1 [(2, .bool false)] (WLd rfl (QXn (hK2 _ _ ?_)))
 refine WCs (fun K8 hK9 => ?_)
 refine WCs (fun ce bi => ?_)
 refine WCg ?_
 refine WLc rfl rfl rfl rfl rfl (by kernel_rfl) (alive_ct w4) ?_
 rintro _ bV ⟨rfl, bj⟩
 refine ⟨_, rfl, ?_⟩
 have ap := hC6.call bj
 refine WLq 1 [(8, .bool false)] (WLd rfl (QXn (bi _ _ ?_)))
 refine WCf rfl (WC.skip (QXn (hK9 _ _ ?_)))
 refine WCs (fun cf bk => ?_)
 refine WCs (fun cg bl => ?_)
 refine WCg (WLq 1 [(9, .pointer (some ⟨g3, 0, none⟩))] ?_)
 refine WLo 3 (.pointer (some ⟨g3, 0, none⟩)) (.int .i64 per) 10 (run_ld (ap.get 0 rfl) rfl) ?_
 refine WLq 1 [(11, .pointer (some ⟨g3, 1, none⟩))] ?_
 refine WLo 31 (.pointer (some ⟨g3, 1, none⟩)) (.slice A M.length c) 12 (run_ld (ap.get 0 rfl) rfl) ?_
 refine WLc rfl rfl rfl rfl rfl (by kernel_rfl) (Good_n per A M.length c M bV (Rd.fr hr ap.fr) (by first | rfl | assumption | omega) (by first | omega | (simp; done) | (simp; omega))) ?_
 rintro _ bW ⟨rfl, bm⟩
 refine ⟨_, rfl, ?_⟩
 have ai := ap.call bm
 refine WLq 1 [(14, .bool ((goodR per M) != 0))] (WLd rfl (QXn (bl _ _ ?_)))
 refine WCa 14 ((goodR per M) != 0) rfl (fun aF => ?_) (fun aF => ?_)
 ·
  have bX : (goodR per M) ≠ 0 := by simpa using aF
  refine WCt rfl ?_
  refine WCs (fun ch bn => ?_)
  refine WCg (WLq 1 [(2, .bool true)] (WLd rfl (QXn (bn _ _ ?_))))
  refine WC.ret ?_
  refine QXr ?_
  refine (hret _ _ _ rfl ?_).1
  exact ⟨rfl, ai.fr⟩
 ·
  have bX : (goodR per M) = 0 := by simpa using aF
  refine WCf rfl (WC.skip (QXn (bk _ _ ?_)))
  refine WCs (fun ci bo => ?_)
  refine WCg (WLq 1 [(16, .pointer (some ⟨g3, 0, none⟩))] ?_)
  refine WLo 3 (.pointer (some ⟨g3, 0, none⟩)) (.int .i64 per) 17 (run_ld (ai.get 0 rfl) rfl) ?_
  refine WLq 1 [(18, .pointer (some ⟨g3, 1, none⟩))] ?_
  refine WLo 31 (.pointer (some ⟨g3, 1, none⟩)) (.slice A M.length c) 19 (run_ld (ai.get 0 rfl) rfl) ?_
  have hgl_ := good_len (show goodR per M = 0 by omega)
  refine WLc rfl rfl rfl rfl rfl (by kernel_rfl) (New_n per A M.length c M bW (Rd.fr hr ai.fr) (by first | rfl | assumption | omega) (by first | omega | (simp; done) | (simp; omega))) ?_
  rintro _ bY ⟨a31, b32, rfl, bp, (⟨ab, rfl, rfl⟩ | ⟨ab, p34, G35, AP36, cP37, AM38, cM39, rfl, rfl, aG, bq⟩)⟩
  ·
   exact absurd (by omega) ab
  ·
   have aI := ai.callN bp bq (RingR.lt aG)
   refine ⟨_, rfl, ?_⟩
   refine WLq 5 [(4, .nilIface), (3, .pointer (some ⟨p34, 0, none⟩)), (22, .nilIface), (21, .pointer (some ⟨p34, 0, none⟩)), (15, .tuple #[.pointer (some ⟨p34, 0, none⟩), .nilIface])] (WLd rfl (QXn (bo _ _ ?_)))
   refine WCs (fun cj br => ?_)
   refine WCs (fun ck bs => ?_)
   refine WCg (WLq 6 [(28, .bool false), (27, .bool false), (26, .pointer (some ⟨p34, 0, none⟩)), (25, .bool false), (24, .bool false), (23, .nilIface)] (WLd rfl (QXn (bs _ _ ?_))))
   refine WCf rfl (WC.skip (QXn (br _ _ ?_)))
   refine WCs (fun cl bt => ?_)
   refine WCg (WLq 2 [(30, .pointer (some ⟨g3, 2, none⟩)), (29, .pointer (some ⟨p34, 0, none⟩))] ?_)
   refine WLo 32 (.pointer (some ⟨g3, 2, none⟩)) (.int .u64 key) 31 (run_ld (aI.get 0 rfl) rfl) ?_
   have hal_ := all_len (key := key) ab
   have hgl_ := good_len ab
   refine WLc rfl rfl rfl rfl rfl (by kernel_rfl) (Owners_all G35 p34 per AP36 cP37 M AM38 cM39 key 100 bY aG ab (by decide)) ?_
   rintro _ cm ⟨v_, rfl, aJ, aq⟩
   have bu := aI.callN aJ (own_ge aq) (own_lt aq)
   obtain ⟨aj, ah, rfl, bS⟩ := own_form aq
   have bv := own_base (b' := 0) aq (fun _ _ => Nat.zero_le _)
   refine ⟨_, rfl, ?_⟩
   have bw := RingR.fr aG aJ (by simp)
   refine WLq 1 [(5, .slice aj ((allP key per M).length) ah)] (WLd rfl (QXn (bt _ _ ?_)))
   refine WCs (fun cn bx => ?_)
   refine WCs (fun co bz => ?_)
   refine WC.drawC bu [] (by kernel_rfl) (fun bZ aK aL ar => ?_)
   have bA := RingR.fr bw aK (by simp)
   have aH := own_fr bv aK (by simp)
   refine WDq (NPt (NPt hN)) 0 33 (.slice aj ((allP key per M).length) ah) ar ?_
   refine WDq (NPt (NPt hN)) 2 35 (.pointer (some ⟨g3, 1, none⟩)) ar ?_
   refine WDm (NPt (NPt hN)) 3 31 (.pointer (some ⟨g3, 1, none⟩)) (.slice A M.length c) 36 (fun _ hS_ => run_ld (Fr.has hS_ (aL.get 0 rfl) (by simp)) rfl) ar ?_
   refine WD.call 1 (by kernel_rfl) rfl rfl rfl rfl rfl (by kernel_rfl) (RSorted_n aj ((allP key per M).length) ah (allP key per M) bZ (own_rd aH (Go.Tw.encI_len _) (by decide)) (own_count (Go.Tw.encI_len _) (by decide) aH) (by first | omega | (simp; done) | (simp; omega))) ?_
   rintro _ b0 ⟨v_, rfl, au, av⟩
   have aM := aL.callN au (own_ge av) (own_lt av)
   obtain ⟨bB, bC, rfl, bT⟩ := own_form av
   have bD := own_base (b' := 0) av (fun _ _ => Nat.zero_le _)
   have aN := ar.trans au (by simp)
   refine ⟨_, rfl, aN, ?_⟩
   have bE := RingR.fr bA au (by simp)
   have bF := own_fr aH au (by simp)
   refine WD.call 4 (by kernel_rfl) rfl rfl rfl rfl rfl (by kernel_rfl) (RSorted_n A M.length c M b0 (Rd.fr hr aM.fr) (by first | rfl | assumption | omega) (by first | omega | (simp; done) | (simp; omega))) ?_
   rintro _ b1 ⟨v_, rfl, ak, aw⟩
   have bG := aM.callN ak (own_ge aw) (own_lt aw)
   obtain ⟨bH, bI, rfl, bU⟩ := own_form aw
   have ax := own_base (b' := 0) aw (fun _ _ => Nat.zero_le _)
   have aO := aN.trans ak (by simp)
   refine ⟨_, rfl, aO, ?_⟩
   have bJ := RingR.fr bE ak (by simp)
   have bK := own_fr bF ak (by simp)
   have ay := own_fr bD ak (by simp)
   refine WD.call 5 (by kernel_rfl) rfl rfl rfl rfl rfl (by kernel_rfl) (Ints_n bB bH ((allP key per M).length) bC M.length bI (sortI (allP key per M)) (sortI M) b1 (own_rd ay (Go.Tw.encI_len _) (by decide)) (own_count (Go.Tw.encI_len _) (by decide) ay) (own_rd ax (Go.Tw.encI_len _) (by decide)) (own_count (Go.Tw.encI_len _) (by decide) ax) (own_max ay) (own_max ax)) ?_
   rintro _ cp ⟨rfl, ag⟩
   have az := aO.trans ag (by simp)
   refine ⟨_, rfl, az, ?_⟩
   have bL := bG.call ag
   have aP := RingR.fr bJ ag (by simp)
   have aQ := own_fr bK ag (by simp)
   have aR := own_fr ay ag (by simp)
   have aS := own_fr ax ag (by simp)
   refine WDq (NPt (NPt hN)) 6 39 (.bool (!(decide ((sortI (allP key per M)) = (sortI M))))) az ?_
   refine WD.done (by kernel_rfl) ?_
   refine QXn (bz _ _ ?_)
   refine WC.know 39 (.bool (!(decide ((sortI (allP key per M)) = (sortI M))))) (.bool false) rfl (congrArg Value.bool (by rw [show (decide ((sortI (allP key per M)) = (sortI M))) = true from by exact decide_eq_true (all_sort ab)]; rfl)) ?_
   refine WCf rfl (WC.skip (QXn (bx _ _ ?_)))
   refine WCs (fun b2 aT => ?_)
   refine WCs (fun b3 aU => ?_)
   refine WCg (WLq 1 [(6, .int .i64 (-1))] (WLd rfl (QXn (aU _ _ ?_))))
   refine WC.block ?_
   refine WC.loop (fun m_ E_ w_ => ∃ (n1 : Int), m_ = ((allP key per M).length + 1 - n1).toNat ∧ E_ = [(1, .pointer (some ⟨g3, 0, none⟩)), (3, .pointer (some ⟨p34, 0, none⟩)), (5, .slice aj ((allP key per M).length) ah), (6, .int .i64 n1)] ∧ Cx w [] w_ [(g3, .cells #[.int .i64 per, .slice A M.length c, .int .u64 key, .int .i64 n] 34)] [G35, blk (.slice aj ((allP key per M).length) ah), blk (.slice bB ((allP key per M).length) bC), blk (.slice bH M.length bI)] ∧ RingR w_ G35 p34 per AP36 cP37 (ringP per M) AM38 cM39 (sortI M) ∧ World.ownsRow w_ 0 3 1 (.slice aj ((allP key per M).length) ah) ((allP key per M).length) ((allP key per M).flatMap (Go.Tw.encI .i64)) ∧ World.ownsRow w_ 0 3 1 (.slice bB ((allP key per M).length) bC) ((allP key per M).length) ((sortI (allP key per M)).flatMap (Go.Tw.encI .i64)) ∧ World.ownsRow w_ 0 3 1 (.slice bH M.length bI) M.length ((sortI M).flatMap (Go.Tw.encI .i64)) ∧ (-1 ≤ n1 ∧ n1 ≤ (allP key per M).length + 1)) ⟨_, _, ⟨(-1), rfl, rfl, bL, aP, aQ, aR, aS, by omega, by omega⟩, sub_of ⟨rfl, rfl, rfl, rfl, trivial⟩⟩ (fun m112 E_ b5 b6 aV aW => ?_)
   obtain ⟨n1, rfl, rfl, aA, ring42_m112, row59_m112, row82_m112, row96_m112, hn0, hn1⟩ := aW
   have hal_ := all_len (key := key) ab
   have hgl_ := good_len ab
   refine WCs (fun b7 aX => ?_)
   refine WCs (fun b9 aY => ?_)
   refine WCg (WLq 4 [(43, .bool (decide (n1 ≤ ((allP key per M).length : Int)))), (42, .int .i64 ((allP key per M).length : Int)), (41, .slice aj ((allP key per M).length) ah), (40, .int .i64 n1)] (WLd rfl (QXn (aY _ _ ?_))))
   refine WCa 43 (decide (n1 ≤ ((allP key per M).length : Int))) rfl (fun al => ?_) (fun al => ?_)
   ·
    have bM : n1 ≤ ((allP key per M).length : Int) := by have q_ := of_decide_eq_true al; omega
    refine WCt rfl ?_
    refine WC.skip ?_
    refine QXn (aX _ _ ?_)
    refine WCs (fun ca aZ => ?_)
    refine WC.block ?_
    refine WCs (fun cb a0 => ?_)
    refine WC.drawC aA [] (by kernel_rfl) (fun bN ae aB aa => ?_)
    have aC := RingR.fr ring42_m112 ae (by simp)
    have am := own_fr row59_m112 ae (by simp)
    have a1 := own_fr row82_m112 ae (by simp)
    have a2 := own_fr row96_m112 ae (by simp)
    refine WDq (NPt (NPb (NPt (NPt (NPb (NPt hN)))))) 0 46 (.pointer (some ⟨p34, 0, none⟩)) aa ?_
    refine WDq (NPt (NPb (NPt (NPt (NPb (NPt hN)))))) 1 47 (.pointer (some ⟨g3, 2, none⟩)) aa ?_
    refine WDq (NPt (NPb (NPt (NPt (NPb (NPt hN)))))) 3 49 (.int .i64 n1) aa ?_
    refine WDq (NPt (NPb (NPt (NPt (NPb (NPt hN)))))) 5 51 (.slice aj ((allP key per M).length) ah) aa ?_
    refine WDq (NPt (NPb (NPt (NPt (NPb (NPt hN)))))) 6 52 (.int .i64 n1) aa ?_
    have a3 : ∀ w_, Sem.run Try.prog (Builtin.max_ #[3, 3] 3 #[.int .i64 n1, .int .i64 0]) w_ = .ok (.int .i64 (max n1 (0 : Int))) w_ := fun w_ => run_maxI
    refine WD.semP (NPt (NPb (NPt (NPt (NPb (NPt hN)))))) 7 (Builtin.max_ #[3, 3] 3 #[.int .i64 n1, .int .i64 0]) 53 (.int .i64 (max n1 (0 : Int))) (by kernel_rfl) (by kernel_rfl) (fun _ _ => a3 _) aa ?_
    have hle_ := own_le am
    have a4 : (max n1 (0 : Int)).toNat ≤ ah := by omega
    refine WD.slc (NPt (NPb (NPt (NPt (NPb (NPt hN)))))) 8 31 3 1 aj aj ((allP key per M).length) ah 0 ((max n1 (0 : Int)).toNat) ((max n1 (0 : Int)).toNat) ah none (some (.int .i64 (max n1 (0 : Int)))) 54 (by kernel_rfl) (by kernel_rfl) (by kernel_rfl) bnd.no (bnd.yes (by omega)) (by omega) a4 (slcAt_pre _ _ _) (by first | rfl | omega) (by first | rfl | omega) aa ?_
    have a5 := own_takeE (m := (max n1 (0 : Int)).toNat) (Go.Tw.encI_len _) am (by omega)
    refine WDm (NPt (NPb (NPt (NPt (NPb (NPt hN)))))) 2 32 (.pointer (some ⟨g3, 2, none⟩)) (.int .u64 key) 48 (fun _ hS_ => run_ld (Fr.has hS_ (aB.get 0 rfl) (by simp)) rfl) aa ?_
    have hal_ := all_len (key := key) ab
    have hgl_ := good_len ab
    refine WD.call 4 (by kernel_rfl) rfl rfl rfl rfl rfl (by kernel_rfl) (Owners_take G35 p34 per AP36 cP37 M AM38 cM39 key n1 bN aC ab) ?_
    rintro _ bO ⟨v_, rfl, ac, af⟩
    have a6 := aB.callN ac (own_ge af) (own_lt af)
    obtain ⟨bP, bQ, rfl, bR⟩ := own_form af
    have an := own_base (b' := 0) af (fun _ _ => Nat.zero_le _)
    have aD := aa.trans ac (by simp)
    refine ⟨_, rfl, aD, ?_⟩
    have a7 := RingR.fr aC ac (by simp)
    have a8 := own_fr am ac (by simp)
    have a9 := own_fr a1 ac (by simp)
    have ba := own_fr a2 ac (by simp)
    have ao := own_fr a5 ac (by simp)
    refine WD.call 9 (by kernel_rfl) rfl rfl rfl rfl rfl (by kernel_rfl) (Ints_n bP aj (((allP key per M).take n1.toNat).length) bQ ((max n1 (0 : Int)).toNat) ah ((allP key per M).take n1.toNat) ((allP key per M).take ((max n1 (0 : Int)).toNat)) bO (own_rd an (Go.Tw.encI_len _) (by decide)) (own_count (Go.Tw.encI_len _) (by decide) an) (own_rd ao (Go.Tw.encI_len _) (by decide)) (own_count (Go.Tw.encI_len _) (by decide) ao) (own_max an) (own_max ao)) ?_
    rintro _ cc ⟨rfl, ad⟩
    have aE := aD.trans ad (by simp)
    refine ⟨_, rfl, aE, ?_⟩
    have bb := a6.call ad
    have bc := RingR.fr a7 ad (by simp)
    have bd := own_fr a8 ad (by simp)
    have be := own_fr a9 ad (by simp)
    have bf := own_fr ba ad (by simp)
    refine WDq (NPt (NPb (NPt (NPt (NPb (NPt hN)))))) 10 56 (.bool (!(decide (((allP key per M).take n1.toNat) = (allP key per M).take ((max n1 (0 : Int)).toNat))))) aE ?_
    refine WD.done (by kernel_rfl) ?_
    refine QXn (a0 _ _ ?_)
    refine WC.know 56 (.bool (!(decide (((allP key per M).take n1.toNat) = (allP key per M).take ((max n1 (0 : Int)).toNat))))) (.bool false) rfl (congrArg Value.bool (by rw [show (decide (((allP key per M).take n1.toNat) = (allP key per M).take ((max n1 (0 : Int)).toNat))) = true from by exact decide_eq_true (congrArg (fun k_ => List.take k_ _) (by omega))]; rfl)) ?_
    refine WCf rfl (WC.skip ?_)
    refine QXb ?_
    refine QXn (aZ _ _ ?_)
    refine WCg (WLq 2 [(45, .int .i64 (IntKind.i64.wrap (n1 + 1))), (44, .int .i64 n1)] ?_)
    refine WLt (show (.int .i64 (IntKind.i64.wrap (n1 + 1)) : Value) = .int .i64 (n1 + 1) from by rw [wrap_in_i64 (n1 + 1) (by omega) (by omega)]) ?_
    refine WLq 1 [(6, .int .i64 (n1 + 1))] ?_
    refine WLd rfl ?_
    refine QXn ?_
    have bg := bb.pick [0] [0, 1, 2, 3] rfl rfl
    refine fun a_ ha_ => aV _ _ _ ?_ ⟨n1 + 1, rfl, rfl, bg, bc, bd, be, bf, by omega, by omega⟩ a_ (ha_.weaken (sub_of ⟨rfl, rfl, rfl, rfl, trivial⟩))
    omega
   ·
    have bM : ((allP key per M).length : Int) < n1 := by have q_ := of_decide_eq_false al; omega
    refine WCf rfl ?_
    refine WC.exit ?_
    refine QXe ?_
    refine QXe ?_
    refine QX.block_hit ?_
    refine QXn (aT _ _ ?_)
    refine WCs (fun cd bh => ?_)
    refine WCg (WLq 1 [(2, .bool true)] (WLd rfl (QXn (bh _ _ ?_))))
    refine WC.ret ?_
    refine (hret _ _ _ rfl ?_).1
    exact ⟨rfl, aA.fr⟩

end Go.Proofs.Ytibkndhgeeoidaa
