/- Contracts of functions of the program, each proved by a walk through its code; conditions stand in the statements. -/
import Derived.Test.YtibkndhgeeoidaaRgA
namespace Go.Proofs.Ytibkndhgeeoidaa
set_option linter.unusedSimpArgs false
set_option linter.unusedVariables false
set_option linter.unusedSectionVars false
open Go Go.RowKit Go.Tw
set_option linter.unusedVariables false
set_option maxRecDepth 20000
def zE : EndV := ⟨0, 0, 0⟩
def scoreE (f : FlowV) (e : EndV) (j : Nat) : Int := hashU (e.dip * 256 + (j : Int)) f
def stepC (f : FlowV) (e : EndV) (j : Nat) (o : Option (Int × EndV)) : Option (Int × EndV) := match o with
  | none => some (scoreE f e j, e)
  | some (b, c) => if b < scoreE f e j then some (scoreE f e j, e) else some (b, c)
def innerC (f : FlowV) (e : EndV) : Nat → Option (Int × EndV) → Option (Int × EndV)
  | 0, o => o
  | n + 1, o => stepC f e n (innerC f e n o)
def wE (e : EndV) : Nat := (min e.weight 16).toNat
def chooseC (f : FlowV) (L : List EndV) : Option (Int × EndV) := L.foldl (fun o e => innerC f e (wE e) o) none
theorem choose_step {f : FlowV} {L : List EndV} {i : Nat} {e : EndV} (h : L[i]? = some e) : chooseC f (L.take (i + 1)) = innerC f e (wE e) (chooseC f (L.take i)) := by
  obtain ⟨hi, rfl⟩ := List.getElem?_eq_some_iff.1 h
  unfold chooseC
  rw [List.take_succ_eq_append_getElem hi, List.foldl_append]; rfl
def stO (fd : Bool) (b : Int) (c : EndV) : Option (Int × EndV) := if fd = true then some (b, c) else none
def chosenE (f : FlowV) (L : List EndV) : EndV := match chooseC f L with | none => zE | some (_, c) => c
def foundB (f : FlowV) (L : List EndV) : Bool := (chooseC f L).isSome
theorem stO_end {f : FlowV} {L : List EndV} {fd : Bool} {b : Int} {c : EndV} (h : stO fd b c = chooseC f L) (hz : fd = false → c = zE) : c = chosenE f L ∧ fd = foundB f L := by
  unfold chosenE foundB
  rw [← h]
  cases fd
  · exact ⟨hz rfl, rfl⟩
  · exact ⟨rfl, rfl⟩
theorem in_new {f : FlowV} {e : EndV} {j : Nat} {b : Int} {c : EndV} {o : Option (Int × EndV)} (h : stO false b c = innerC f e j o) : stO true (scoreE f e j) e = innerC f e (j + 1) o := by
  show _ = stepC f e j (innerC f e j o)
  rw [← h]; rfl
theorem in_more {f : FlowV} {e : EndV} {j : Nat} {b : Int} {c : EndV} {o : Option (Int × EndV)} (h : stO true b c = innerC f e j o) (hl : b < scoreE f e j) : stO true (scoreE f e j) e = innerC f e (j + 1) o := by
  show _ = stepC f e j (innerC f e j o)
  rw [← h]
  show _ = (if b < scoreE f e j then some (scoreE f e j, e) else some (b, c))
  rw [if_pos hl]; rfl
theorem in_keep {f : FlowV} {e : EndV} {j : Nat} {b : Int} {c : EndV} {o : Option (Int × EndV)} (h : stO true b c = innerC f e j o) (hl : ¬ b < scoreE f e j) : stO true b c = innerC f e (j + 1) o := by
  show _ = stepC f e j (innerC f e j o)
  rw [← h]
  show _ = (if b < scoreE f e j then some (scoreE f e j, e) else some (b, c))
  rw [if_neg hl]; rfl
set_option maxHeartbeats 1000000 in
theorem Choose_ct (f : FlowV) (A : Option Addr) (c : Nat) (ends : List EndV) (w : World) (hr : Rd w 3 cellsE A ends) (hwf : ∀ e ∈ ends, wfE e) (hl : ends.length ≤ 1099511627776) : Calls Try.prog 19 #[.agg #[.int .i64 f.proto, .int .u32 f.src, .int .i64 f.sp, .int .u32 f.dst, .int .i64 f.dp], .slice A ends.length c] w fun e w' => e = .returned (.tuple #[.agg #[.int .u32 ((chosenE f ends).dip), .int .i64 ((chosenE f ends).port), .int .i64 ((chosenE f ends).weight)], .bool (foundB f ends)]) ∧ Fr w w' [] := by
 refine enterD (n := 47) Try.func19 rfl rfl (Nat.le_of_ble_eq_true rfl) ?_
 intro Q0 hN hret hret'
 have hC := Cx.start w
 refine WCs (fun K1 hK2 => ?_)
 refine WCg ?_
 refine WL.newM hC (fun b => .pointer (some ⟨b, 0, none⟩)) (.cells #[.int .i64 f.proto, .int .u32 f.src, .int .i64 f.sp, .int .u32 f.dst, .int .i64 f.dp] 25) 2 (fun _ => by kernel_rfl) (fun g3 w4 hb7 hF5 hC6 => ?_)
 refine WL.newM hC6 (fun b => .pointer (some ⟨b, 0, none⟩)) (.cells #[.int .u32 0, .int .i64 0, .int .i64 0] 49) 4 (fun _ => by kernel_rfl) (fun g8 w9 ba bb aO => ?_)
 refine WLq 1 [(5, .bool false)] (WLd rfl (QXn (hK2 _ _ ?_)))
 refine WCs (fun bp av => ?_)
 refine WCg (WLq 1 [(6, .int .u64 0)] (WLd rfl (QXn (av _ _ ?_))))
 refine WCs (fun bq aw => ?_)
 refine WCg ?_
 refine WL.newM aO (fun b => .pointer (some ⟨b, 0, none⟩)) (.cells #[.int .u32 0, .int .i64 0, .int .i64 0] 49) 7 (fun _ => by kernel_rfl) (fun ab br bc bd aP => ?_)
 refine WLd rfl (QXn (aw _ _ ?_))
 refine WCs (fun bs ax => ?_)
 refine WCg (WLq 1 [(8, .bool false)] (WLd rfl (QXn (ax _ _ ?_))))
 refine WCs (fun bt ay => ?_)
 refine WCs (fun bu az => ?_)
 refine WCg (WLq 3 [(15, .int .i64 0), (14, .int .i64 (ends.length : Int)), (13, .slice A ends.length c)] (WLd rfl (QXn (az _ _ ?_))))
 refine WC.block ?_
 refine WC.loop (fun m_ E_ w_ => ∃ (i : Nat) (b : Int) (ch : EndV) (fd : Bool), m_ = ends.length - i ∧ E_ = [(0, .agg #[.int .i64 f.proto, .int .u32 f.src, .int .i64 f.sp, .int .u32 f.dst, .int .i64 f.dp]), (1, .slice A ends.length c), (2, .pointer (some ⟨g3, 0, none⟩)), (4, .pointer (some ⟨g8, 0, none⟩)), (5, .bool false), (6, .int .u64 b), (7, .pointer (some ⟨ab, 0, none⟩)), (8, .bool fd), (13, .slice A ends.length c), (14, .int .i64 (ends.length : Int)), (15, .int .i64 (i : Int))] ∧ Cx w [] w_ [(g3, .cells #[.int .i64 f.proto, .int .u32 f.src, .int .i64 f.sp, .int .u32 f.dst, .int .i64 f.dp] 25), (g8, .cells #[.int .u32 0, .int .i64 0, .int .i64 0] 49), (ab, .cells #[.int .u32 ch.dip, .int .i64 ch.port, .int .i64 ch.weight] 49)] [] ∧ (i ≤ ends.length ∧ stO fd b ch = chooseC f (ends.take i) ∧ (fd = false → ch = zE))) ⟨_, _, ⟨0, 0, zE, false, rfl, rfl, aP, Nat.zero_le _, rfl, fun _ => rfl⟩, sub_of ⟨rfl, rfl, rfl, rfl, rfl, rfl, rfl, rfl, rfl, rfl, rfl, trivial⟩⟩ (fun m31 E_ bv bw aQ aR => ?_)
 obtain ⟨i, b, ch, fd, rfl, rfl, af, hi, hst, hz⟩ := aR
 refine WCs (fun bx aA => ?_)
 refine WCg (WLq 1 [(16, .bool (decide ((i : Int) < (ends.length : Int))))] (WLd rfl (QXn (aA _ _ ?_))))
 refine WCs (fun bz aB => ?_)
 refine WCa 16 (decide ((i : Int) < (ends.length : Int))) rfl (fun am => ?_) (fun am => ?_)
 ·
  have be : (i : Int) < (ends.length : Int) := by have q_ := of_decide_eq_true am; omega
  refine WCt rfl ?_
  refine WC.skip ?_
  refine QXn (aB _ _ ?_)
  refine WCs (fun bA aS => ?_)
  refine WC.block ?_
  refine WCs (fun bB aT => ?_)
  refine WCg ?_
  obtain ⟨aa, an⟩ := get_some (xs := ends) (i := i) (by omega)
  obtain ⟨b45, o47, aU, aV⟩ := hr.at_ _ _ an
  have ag := hwf _ (List.mem_of_getElem? an)
  obtain ⟨hwd0_e43, hwd1_e43⟩ := ag.dip
  refine WLi A ends.length c 17 .i64 (i : Int) b45 o47 i 3 (by kernel_rfl) aU (by omega) (by omega) (o47 + i * 3) (by first | (simp; done) | omega) ?_
  refine WLo 49 (.pointer (some ⟨b45, o47 + i * 3, none⟩)) (.agg #[.int .u32 aa.dip, .int .i64 aa.port, .int .i64 aa.weight]) 18 (run_rdN (l := [.int .u32 aa.dip, .int .i64 aa.port, .int .i64 aa.weight]) rfl rfl (fun j u hu => by have hq_ := af.fr.cell (aV j u hu) (by simp); simpa [Nat.add_assoc] using hq_)) ?_
  refine WL.newM af (fun b => .pointer (some ⟨b, 0, none⟩)) (.cells #[.int .u32 0, .int .i64 0, .int .i64 0] 49) 10 (fun _ => by kernel_rfl) (fun ah bC bf bg aW => ?_)
  refine WLs (c' := #[.int .u32 aa.dip, .int .i64 aa.port, .int .i64 aa.weight]) aW 3 49 ah 0 (.agg #[.int .u32 aa.dip, .int .i64 aa.port, .int .i64 aa.weight]) (by kernel_rfl) rfl (by kernel_rfl) (fun bD bh aC => ?_)
  refine WLd rfl (QXn (aT _ _ ?_))
  refine WCs (fun bE aX => ?_)
  refine WCg (WLq 1 [(19, .pointer (some ⟨ah, 2, none⟩))] ?_)
  refine WLo 3 (.pointer (some ⟨ah, 2, none⟩)) (.int .i64 aa.weight) 20 (run_ld (aC.get 3 rfl) rfl) ?_
  have aY : ∀ w_, Sem.run Try.prog (Builtin.min_ #[3, 3] 3 #[.int .i64 aa.weight, .int .i64 16]) w_ = .ok (.int .i64 (min aa.weight (16 : Int))) w_ := fun w_ => run_minI
  refine WL.sem (Builtin.min_ #[3, 3] 3 #[.int .i64 aa.weight, .int .i64 16]) 21 (.int .i64 (min aa.weight (16 : Int))) (by kernel_rfl) (aY _) ?_
  refine WLq 1 [(22, .int .i64 0)] (WLd rfl (QXn (aX _ _ ?_)))
  refine WC.block ?_
  refine WC.loop (fun m_ E_ w_ => ∃ (j : Nat) (b2 : Int) (ch2 : EndV) (fd2 : Bool), m_ = (min aa.weight 16).toNat - j ∧ E_ = [(0, .agg #[.int .i64 f.proto, .int .u32 f.src, .int .i64 f.sp, .int .u32 f.dst, .int .i64 f.dp]), (1, .slice A ends.length c), (2, .pointer (some ⟨g3, 0, none⟩)), (4, .pointer (some ⟨g8, 0, none⟩)), (5, .bool false), (6, .int .u64 b2), (7, .pointer (some ⟨ab, 0, none⟩)), (8, .bool fd2), (10, .pointer (some ⟨ah, 0, none⟩)), (13, .slice A ends.length c), (14, .int .i64 (ends.length : Int)), (15, .int .i64 (i : Int)), (20, .int .i64 aa.weight), (21, .int .i64 (min aa.weight (16 : Int))), (22, .int .i64 (j : Int))] ∧ Cx w [] w_ [(g3, .cells #[.int .i64 f.proto, .int .u32 f.src, .int .i64 f.sp, .int .u32 f.dst, .int .i64 f.dp] 25), (g8, .cells #[.int .u32 0, .int .i64 0, .int .i64 0] 49), (ab, .cells #[.int .u32 ch2.dip, .int .i64 ch2.port, .int .i64 ch2.weight] 49), (ah, .cells #[.int .u32 aa.dip, .int .i64 aa.port, .int .i64 aa.weight] 49)] [] ∧ (j ≤ (min aa.weight 16).toNat ∧ stO fd2 b2 ch2 = innerC f aa j (chooseC f (ends.take i)) ∧ (fd2 = false → ch2 = zE))) ⟨_, _, ⟨0, b, ch, fd, rfl, rfl, aC, Nat.zero_le _, hst, hz⟩, sub_of ⟨rfl, rfl, rfl, rfl, rfl, rfl, rfl, rfl, rfl, rfl, rfl, rfl, rfl, rfl, rfl, trivial⟩⟩ (fun m64 E_ bi bF ao aZ => ?_)
  obtain ⟨j, b2, ch2, fd2, rfl, rfl, ai, hj, hst2, hz2⟩ := aZ
  refine WCs (fun bG a0 => ?_)
  refine WCg (WLq 1 [(23, .bool (decide ((j : Int) < (min aa.weight (16 : Int)))))] (WLd rfl (QXn (a0 _ _ ?_))))
  refine WCs (fun bH a1 => ?_)
  refine WCa 23 (decide ((j : Int) < (min aa.weight (16 : Int)))) rfl (fun ap => ?_) (fun ap => ?_)
  ·
   have bj : (j : Int) < (min aa.weight (16 : Int)) := by have q_ := of_decide_eq_true ap; omega
   refine WCt rfl ?_
   refine WC.skip ?_
   refine QXn (a1 _ _ ?_)
   refine WCs (fun bI aq => ?_)
   refine WC.block ?_
   refine WCs (fun bJ a2 => ?_)
   refine WCg (WLq 2 [(11, .int .i64 (j : Int)), (24, .int .i64 (j : Int))] (WLd rfl (QXn (a2 _ _ ?_))))
   refine WCs (fun bK a3 => ?_)
   refine WCg (WLq 1 [(25, .pointer (some ⟨ah, 0, none⟩))] ?_)
   refine WLo 23 (.pointer (some ⟨ah, 0, none⟩)) (.int .u32 aa.dip) 26 (run_ld (ai.get 3 rfl) rfl) ?_
   refine WLq 1 [(27, .int .u64 (IntKind.u64.wrap (aa.dip)))] ?_
   refine WLt (show (.int .u64 (IntKind.u64.wrap (aa.dip)) : Value) = .int .u64 aa.dip from by rw [wrap_in_u64 (aa.dip) (by omega) (by omega)]) ?_
   refine WLq 1 [(28, .int .u64 (IntKind.u64.wrap (aa.dip * 2 ^ 8)))] ?_
   refine WLt (show (.int .u64 (IntKind.u64.wrap (aa.dip * 2 ^ 8)) : Value) = .int .u64 (aa.dip * 256) from by rw [wrap_in_u64 _ (by omega) (by omega)]; congr 1) ?_
   refine WLq 2 [(30, .int .u64 (IntKind.u64.wrap ((j : Int)))), (29, .int .i64 (j : Int))] ?_
   refine WLt (show (.int .u64 (IntKind.u64.wrap ((j : Int))) : Value) = .int .u64 (j : Int) from by rw [wrap_in_u64 ((j : Int)) (by omega) (by omega)]) ?_
   refine WLq 1 [(31, .int .u64 (IntKind.u64.wrap ((aa.dip * 256) + (j : Int))))] ?_
   refine WLt (show (.int .u64 (IntKind.u64.wrap ((aa.dip * 256) + (j : Int))) : Value) = .int .u64 (aa.dip * 256 + (j : Int)) from by rw [wrap_in_u64 _ (by omega) (by omega)]) ?_
   refine WLo 25 (.pointer (some ⟨g3, 0, none⟩)) (.agg #[.int .i64 f.proto, .int .u32 f.src, .int .i64 f.sp, .int .u32 f.dst, .int .i64 f.dp]) 32 (run_ld (ai.get 0 rfl) rfl) ?_
   refine WLc rfl rfl rfl rfl rfl (by kernel_rfl) (Hash_ct (aa.dip * 256 + (j : Int)) f bi) ?_
   rintro _ bL ⟨rfl, a4⟩
   refine ⟨_, rfl, ?_⟩
   have ar := ai.call a4
   refine WLq 1 [(12, .int .u64 (scoreE f aa j))] (WLd rfl (QXn (a3 _ _ ?_)))
   refine WCs (fun bM aD => ?_)
   refine WCg (WLq 3 [(36, .bool !fd2), (35, .bool !fd2), (34, .bool fd2)] ?_)
   refine WLa 36 (!fd2) rfl (fun ac => ?_) (fun ac => ?_)
   ·
    have aE : fd2 = false := by first | (simpa only [Bool.not_eq_true', Bool.not_eq_false'] using ac) | simpa using ac
    refine WLq 4 [(40, .bool true), (39, undef), (38, undef), (37, undef)] (WLd rfl (QXn (aD _ _ ?_)))
    refine WCt rfl ?_
    refine WC.drawC ar [ab] (by kernel_rfl) (fun bN bk aF ad => ?_)
    refine WDq (NPb (NPt (NPt (NPb (NPb (NPt (NPt (NPb (NPt hN))))))))) 0 41 (.int .u64 (scoreE f aa j)) ad ?_
    refine WDq (NPb (NPt (NPt (NPb (NPb (NPt (NPt (NPb (NPt hN))))))))) 2 6 (.int .u64 (scoreE f aa j)) ad ?_
    refine WD.sem 1 (Instr.loadAt 49 (.pointer (some ⟨ah, 0, none⟩))) 42 (.agg #[.int .u32 aa.dip, .int .i64 aa.port, .int .i64 aa.weight]) (by kernel_rfl) (by kernel_rfl) (run_ld (aF.get 3 rfl) rfl) ad ?_
    obtain ⟨bO, a5, a6, a7⟩ := sto_run (c' := #[.int .u32 aa.dip, .int .i64 aa.port, .int .i64 aa.weight]) Try.prog aF 2 49 ab 0 (.agg #[.int .u32 aa.dip, .int .i64 aa.port, .int .i64 aa.weight]) rfl (by kernel_rfl)
    have aG := ad.trans a6 (by first | (simp; done) | (simp [*]; done) | (have q_ := ad.size; simp; omega))
    refine WD.semU 3 (Instr.storeAt 49 (.pointer (some ⟨ab, 0, none⟩)) (.agg #[.int .u32 aa.dip, .int .i64 aa.port, .int .i64 aa.weight])) (by kernel_rfl) (by kernel_rfl) a5 aG ?_
    refine WDq (NPb (NPt (NPt (NPb (NPb (NPt (NPt (NPb (NPt hN))))))))) 4 8 (.bool true) aG ?_
    refine WD.done (by kernel_rfl) ?_
    refine QXb ?_
    refine QXn (aq _ _ ?_)
    refine WCg (WLq 1 [(43, .int .i64 (IntKind.i64.wrap ((j : Int) + 1)))] ?_)
    refine WLt (show (.int .i64 (IntKind.i64.wrap ((j : Int) + 1)) : Value) = .int .i64 ((j : Int) + 1) from by rw [wrap_in_i64 ((j : Int) + 1) (by omega) (by omega)]) ?_
    refine WLq 1 [(22, .int .i64 ((j : Int) + 1))] ?_
    refine WLd rfl ?_
    refine QXn ?_
    have a8 := a7.pick [0, 1, 2, 3] [] rfl rfl
    refine fun a_ ha_ => ao _ _ _ ?_ ⟨j + 1, scoreE f aa j, aa, true, rfl, rfl, a8, by omega, in_new (by rw [← hst2, aE]), by simp⟩ a_ (ha_.weaken (sub_of ⟨rfl, rfl, rfl, rfl, rfl, rfl, rfl, rfl, rfl, rfl, rfl, rfl, rfl, rfl, rfl, trivial⟩))
    omega
   ·
    have aE : fd2 = true := by first | (simpa only [Bool.not_eq_true', Bool.not_eq_false'] using ac) | simpa using ac
    refine WLq 4 [(40, .bool (decide ((scoreE f aa j) > b2))), (39, .bool (decide ((scoreE f aa j) > b2))), (38, .int .u64 b2), (37, .int .u64 (scoreE f aa j))] (WLd rfl (QXn (aD _ _ ?_)))
    refine WCa 40 (decide ((scoreE f aa j) > b2)) rfl (fun au => ?_) (fun au => ?_)
    ·
     have bl : b2 < (scoreE f aa j) := by have q_ := of_decide_eq_true au; omega
     refine WCt rfl ?_
     refine WC.drawC ar [ab] (by kernel_rfl) (fun bP bm aH ae => ?_)
     refine WDq (NPb (NPt (NPt (NPb (NPb (NPt (NPt (NPb (NPt hN))))))))) 0 41 (.int .u64 (scoreE f aa j)) ae ?_
     refine WDq (NPb (NPt (NPt (NPb (NPb (NPt (NPt (NPb (NPt hN))))))))) 2 6 (.int .u64 (scoreE f aa j)) ae ?_
     refine WD.sem 1 (Instr.loadAt 49 (.pointer (some ⟨ah, 0, none⟩))) 42 (.agg #[.int .u32 aa.dip, .int .i64 aa.port, .int .i64 aa.weight]) (by kernel_rfl) (by kernel_rfl) (run_ld (aH.get 3 rfl) rfl) ae ?_
     obtain ⟨bQ, aI, aJ, aK⟩ := sto_run (c' := #[.int .u32 aa.dip, .int .i64 aa.port, .int .i64 aa.weight]) Try.prog aH 2 49 ab 0 (.agg #[.int .u32 aa.dip, .int .i64 aa.port, .int .i64 aa.weight]) rfl (by kernel_rfl)
     have aj := ae.trans aJ (by first | (simp; done) | (simp [*]; done) | (have q_ := ae.size; simp; omega))
     refine WD.semU 3 (Instr.storeAt 49 (.pointer (some ⟨ab, 0, none⟩)) (.agg #[.int .u32 aa.dip, .int .i64 aa.port, .int .i64 aa.weight])) (by kernel_rfl) (by kernel_rfl) aI aj ?_
     refine WDq (NPb (NPt (NPt (NPb (NPb (NPt (NPt (NPb (NPt hN))))))))) 4 8 (.bool true) aj ?_
     refine WD.done (by kernel_rfl) ?_
     refine QXb ?_
     refine QXn (aq _ _ ?_)
     refine WCg (WLq 1 [(43, .int .i64 (IntKind.i64.wrap ((j : Int) + 1)))] ?_)
     refine WLt (show (.int .i64 (IntKind.i64.wrap ((j : Int) + 1)) : Value) = .int .i64 ((j : Int) + 1) from by rw [wrap_in_i64 ((j : Int) + 1) (by omega) (by omega)]) ?_
     refine WLq 1 [(22, .int .i64 ((j : Int) + 1))] ?_
     refine WLd rfl ?_
     refine QXn ?_
     have aL := aK.pick [0, 1, 2, 3] [] rfl rfl
     refine fun a_ ha_ => ao _ _ _ ?_ ⟨j + 1, scoreE f aa j, aa, true, rfl, rfl, aL, by omega, in_more (by rw [← hst2, aE]) (by omega), by simp⟩ a_ (ha_.weaken (sub_of ⟨rfl, rfl, rfl, rfl, rfl, rfl, rfl, rfl, rfl, rfl, rfl, rfl, rfl, rfl, rfl, trivial⟩))
     omega
    ·
     have bl : (scoreE f aa j) ≤ b2 := by have q_ := of_decide_eq_false au; omega
     refine WCf rfl (WC.skip ?_)
     refine QXb ?_
     refine QXn (aq _ _ ?_)
     refine WCg (WLq 1 [(43, .int .i64 (IntKind.i64.wrap ((j : Int) + 1)))] ?_)
     refine WLt (show (.int .i64 (IntKind.i64.wrap ((j : Int) + 1)) : Value) = .int .i64 ((j : Int) + 1) from by rw [wrap_in_i64 ((j : Int) + 1) (by omega) (by omega)]) ?_
     refine WLq 1 [(22, .int .i64 ((j : Int) + 1))] ?_
     refine WLd rfl ?_
     refine QXn ?_
     have aM := ar.pick [0, 1, 2, 3] [] rfl rfl
     refine fun a_ ha_ => ao _ _ _ ?_ ⟨j + 1, b2, ch2, fd2, rfl, rfl, aM, by omega, (by have q_ := in_keep (e := aa) (j := j) (b := b2) (c := ch2) (by rw [← hst2, aE]) (by omega); rw [← q_, aE]), hz2⟩ a_ (ha_.weaken (sub_of ⟨rfl, rfl, rfl, rfl, rfl, rfl, rfl, rfl, rfl, rfl, rfl, rfl, rfl, rfl, rfl, trivial⟩))
     omega
  ·
   have bj : (min aa.weight (16 : Int)) ≤ (j : Int) := by have q_ := of_decide_eq_false ap; omega
   refine WCf rfl ?_
   refine WC.exit ?_
   refine QXe ?_
   refine QXe ?_
   refine QX.block_hit ?_
   refine QXb ?_
   refine QXn (aS _ _ ?_)
   refine WCg (WLq 1 [(44, .int .i64 (IntKind.i64.wrap ((i : Int) + 1)))] ?_)
   refine WLt (show (.int .i64 (IntKind.i64.wrap ((i : Int) + 1)) : Value) = .int .i64 ((i : Int) + 1) from by rw [wrap_in_i64 ((i : Int) + 1) (by omega) (by omega)]) ?_
   refine WLq 1 [(15, .int .i64 ((i : Int) + 1))] ?_
   refine WLd rfl ?_
   refine QXn ?_
   have aN := ai.pick [0, 1, 2] [] rfl rfl
   refine fun a_ ha_ => aQ _ _ _ ?_ ⟨i + 1, b2, ch2, fd2, rfl, rfl, aN, by omega, by rw [choose_step an, hst2]; congr 1; unfold wE; omega, hz2⟩ a_ (ha_.weaken (sub_of ⟨rfl, rfl, rfl, rfl, rfl, rfl, rfl, rfl, rfl, rfl, rfl, trivial⟩))
   omega
 ·
  have be : (ends.length : Int) ≤ (i : Int) := by have q_ := of_decide_eq_false am; omega
  refine WCf rfl ?_
  refine WC.exit ?_
  refine QXe ?_
  refine QXe ?_
  refine QX.block_hit ?_
  refine QXn (ay _ _ ?_)
  refine WCs (fun bn ak => ?_)
  refine WCg ?_
  refine WLo 49 (.pointer (some ⟨ab, 0, none⟩)) (.agg #[.int .u32 ch.dip, .int .i64 ch.port, .int .i64 ch.weight]) 45 (run_ld (af.get 2 rfl) rfl) ?_
  refine WLq 1 [(46, .bool fd)] ?_
  refine WLs (c' := #[.int .u32 ch.dip, .int .i64 ch.port, .int .i64 ch.weight]) af 1 49 g8 0 (.agg #[.int .u32 ch.dip, .int .i64 ch.port, .int .i64 ch.weight]) (by kernel_rfl) rfl (by kernel_rfl) (fun bo a9 al => ?_)
  refine WLq 1 [(5, .bool fd)] (WLd rfl (QXn (ak _ _ ?_)))
  refine WC.ret ?_
  refine (hret' _ _ (.tuple #[.agg #[.int .u32 ch.dip, .int .i64 ch.port, .int .i64 ch.weight], .bool fd]) (fun a ha => ?_) ?_).1
  ·
   exact res_run ha ((ResR.cell rfl (run_ld (al.get 1 rfl) rfl) (ResR.tmp rfl ResR.nil))) rfl
  clear hN hret hret' ak aB aA az ay ax aw av hK2
  have hie_ : i = ends.length := by omega
  rw [hie_, List.take_length] at hst
  obtain ⟨h1_, h2_⟩ := stO_end hst hz
  rw [← h1_, ← h2_]
  exact ⟨rfl, al.fr⟩

end Go.Proofs.Ytibkndhgeeoidaa
