/- Contracts of functions of the program, each proved by a walk through its code; conditions stand in the statements. -/
import Derived.Test.YtmahghppojbeoaaSeB
namespace Go.Proofs.Ytmahghppojbeoaa
set_option linter.unusedSimpArgs false
set_option linter.unusedVariables false
set_option linter.unusedSectionVars false
open Go Go.RowKit Go.Tw
set_option linter.unusedVariables false
set_option maxRecDepth 20000
set_option maxHeartbeats 1000000 in
theorem Recv_ct (F : List Nat) (p : Nat) (L : Lm) (from_ kind now : Int) (An : Option Addr) (cn : Nat) (nums : List Int) (Ad : Option Addr) (dn dc : Nat) (w : World) (ht : lsAt w F p L) (hf0 : isI64 from_) (hrn : Rd w 1 (Go.Tw.encI .i64) An nums) (hnl : nums.length ≤ 1099511627776) (hnc : nums.length ≤ cn) : Calls Try.prog 30 #[.pointer (some ⟨p, 0, none⟩), .int .i64 from_, .agg #[.int .i64 kind, .slice An nums.length cn, .slice Ad dn dc], .int .i64 now] w fun e w' => (∃ F' L', e = .returned (.tuple #[.agg #[.int .i64 0, .slice none 0 0, .slice none 0 0], .bool false]) ∧ Fr w w' F ∧ lsAt w' F' p L' ∧ (∀ x ∈ F', x ∈ F ∨ w.heap.size ≤ x) ∧ RecvR L from_ kind now nums L' none) ∨ (∃ F' L' k b A2 c2, e = .returned (.tuple #[.agg #[.int .i64 k, .slice A2 1 c2, .slice none 0 0], .bool true]) ∧ Fr w w' F ∧ lsAt w' F' p L' ∧ (∀ x ∈ F', x ∈ F ∨ w.heap.size ≤ x) ∧ RecvR L from_ kind now nums L' (some (k, b)) ∧ w'.ownsRow w.heap.size 3 1 (.slice A2 1 c2) 1 ([b].flatMap (Go.Tw.encI .i64)) ∧ ∀ x ∈ F', x ∉ blk (.slice A2 1 c2)) := by
 refine enterD (n := 119) Try.func30 rfl rfl (Nat.le_of_ble_eq_true rfl) ?_
 intro Q0 hN hret hret'
 obtain ⟨hf1_, hf2_⟩ := hf0
 have ht0 := ht
 obtain ⟨mb, R, es, cl, hp_, hmb_, hm_, hr_, hok_, rfl, hne_, hpR_, hmR_⟩ := ht
 have hk_ := hm_.keys
 have hl8_ := lok_len hok_ hk_
 have hsl_ := sesL_len L
 have hC := Cx.startMs w [(p, .cells #[.map (some mb)] 89), (mb, .map es cl)] (by simp [hne_]) (by simp [hp_, hmb_])
 refine WCs (fun K1 hK2 => ?_)
 refine WCg ?_
 refine WL.newM hC (fun b => .pointer (some ⟨b, 0, none⟩)) (.cells #[.int .i64 kind, .slice An nums.length cn, .slice Ad dn dc] 40) 6 (fun _ => by kernel_rfl) (fun g3 w4 hb7 hF5 hC6 => ?_)
 have hf8 := (Fr.refl w []).trans hF5 (by simp)
 refine WL.newM hC6 (fun b => .pointer (some ⟨b, 0, none⟩)) (.cells #[.int .i64 0, .slice none 0 0, .slice none 0 0] 40) 8 (fun _ => by kernel_rfl) (fun g9 ea eb dj dk => ?_)
 have dl := hf8.trans dj (by simp)
 refine WLq 1 [(9, .bool false)] (WLd rfl (QXn (hK2 _ _ ?_)))
 refine WCs (fun ft aB => ?_)
 refine WCs (fun fu ak => ?_)
 refine WCg (WLq 4 [(18, .int .i64 from_), (17, .bool false), (16, .bool false), (15, .pointer (some ⟨p, 0, none⟩))] ?_)
 refine WLc rfl rfl rfl rfl rfl (by kernel_rfl) (mux_ct from_ ea ⟨by omega, by omega⟩) ?_
 rintro _ ec ⟨rfl, cg⟩
 refine ⟨_, rfl, ?_⟩
 have ch := dk.call cg
 have dm := dl.trans cg (by simp)
 refine WLq 3 [(22, .bool (!(muxB from_))), (21, .bool (!(muxB from_))), (20, .bool (!(muxB from_)))] ?_
 refine WLa 22 (!(muxB from_)) rfl (fun a6 => ?_) (fun a6 => ?_)
 ·
  have bs : (muxB from_) = false := by first | (simpa only [Bool.not_eq_true', Bool.not_eq_false'] using a6) | simpa using a6
  refine WLq 18 [(40, .bool true), (39, undef), (38, undef), (37, undef), (36, undef), (35, undef), (34, undef), (33, .bool true), (32, .bool true), (31, undef), (30, undef), (29, undef), (28, undef), (27, .bool true), (26, .bool true), (25, undef), (24, undef), (23, undef)] (WLd rfl (QXn (ak _ _ ?_)))
  refine WCt rfl ?_
  refine WCs (fun fv dp => ?_)
  refine WCg (WLq 1 [(41, .agg #[.int .i64 0, .slice none 0 0, .slice none 0 0])] ?_)
  refine WLs (c' := #[.int .i64 0, .slice none 0 0, .slice none 0 0]) ch 3 40 g9 0 (.agg #[.int .i64 0, .slice none 0 0, .slice none 0 0]) (by kernel_rfl) rfl (by kernel_rfl) (fun fw ed a7 => ?_)
  refine WLq 1 [(9, .bool false)] (WLd rfl (QXn (dp _ _ ?_)))
  refine WC.ret ?_
  refine QXr ?_
  refine (hret' _ _ (.tuple #[.agg #[.int .i64 0, .slice none 0 0, .slice none 0 0], .bool false]) (fun a ha => ?_) ?_).1
  ·
   exact res_run ha ((ResR.cell rfl (run_ld (a7.get 3 rfl) rfl) (ResR.tmp rfl ResR.nil))) rfl
  exact .inl ⟨_, _, rfl, a7.fr.mono (fun x_ h_ => by simp only [List.map_cons, List.map_nil, List.mem_cons, List.not_mem_nil, or_false] at h_ ⊢; rcases h_ with rfl | rfl; exact .inl rfl; exact .inr (.inl rfl)), ls_shut (a7.get 0 rfl) (a7.get 1 rfl) hm_ (rows_up hr_ a7.fr hpR_ hmR_) hok_ hne_ hpR_ hmR_, fun x_ h_ => .inl h_, .bad (fun q_ => by have h_ := q_.mux; rw [bs] at h_; cases h_)⟩
 ·
  have bs : (muxB from_) = true := by first | (simpa only [Bool.not_eq_true', Bool.not_eq_false'] using a6) | simpa using a6
  refine WLq 1 [(23, .int .i64 now)] ?_
  refine WLc rfl rfl rfl rfl rfl (by kernel_rfl) (goodTime_ct now ec) ?_
  rintro _ ee ⟨rfl, ci⟩
  refine ⟨_, rfl, ?_⟩
  have a8 := ch.call ci
  have cj := dm.trans ci (by simp)
  refine WLq 3 [(27, .bool (!(timB now))), (26, .bool (!(timB now))), (25, .bool (!(timB now)))] ?_
  refine WLa 27 (!(timB now)) rfl (fun a9 => ?_) (fun a9 => ?_)
  ·
   have aD : (timB now) = false := by first | (simpa only [Bool.not_eq_true', Bool.not_eq_false'] using a9) | simpa using a9
   refine WLq 13 [(40, .bool true), (39, undef), (38, undef), (37, undef), (36, undef), (35, undef), (34, undef), (33, .bool true), (32, .bool true), (31, undef), (30, undef), (29, undef), (28, undef)] (WLd rfl (QXn (ak _ _ ?_)))
   refine WCt rfl ?_
   refine WCs (fun fx dq => ?_)
   refine WCg (WLq 1 [(41, .agg #[.int .i64 0, .slice none 0 0, .slice none 0 0])] ?_)
   refine WLs (c' := #[.int .i64 0, .slice none 0 0, .slice none 0 0]) a8 3 40 g9 0 (.agg #[.int .i64 0, .slice none 0 0, .slice none 0 0]) (by kernel_rfl) rfl (by kernel_rfl) (fun fy ef ba => ?_)
   refine WLq 1 [(9, .bool false)] (WLd rfl (QXn (dq _ _ ?_)))
   refine WC.ret ?_
   refine QXr ?_
   refine (hret' _ _ (.tuple #[.agg #[.int .i64 0, .slice none 0 0, .slice none 0 0], .bool false]) (fun a ha => ?_) ?_).1
   ·
    exact res_run ha ((ResR.cell rfl (run_ld (ba.get 3 rfl) rfl) (ResR.tmp rfl ResR.nil))) rfl
   exact .inl ⟨_, _, rfl, ba.fr.mono (fun x_ h_ => by simp only [List.map_cons, List.map_nil, List.mem_cons, List.not_mem_nil, or_false] at h_ ⊢; rcases h_ with rfl | rfl; exact .inl rfl; exact .inr (.inl rfl)), ls_shut (ba.get 0 rfl) (ba.get 1 rfl) hm_ (rows_up hr_ ba.fr hpR_ hmR_) hok_ hne_ hpR_ hmR_, fun x_ h_ => .inl h_, .bad (fun q_ => by have h_ := q_.tm; rw [aD] at h_; cases h_)⟩
  ·
   have aD : (timB now) = true := by first | (simpa only [Bool.not_eq_true', Bool.not_eq_false'] using a9) | simpa using a9
   refine WLq 1 [(28, .pointer (some ⟨g3, 1, none⟩))] ?_
   refine WLo 37 (.pointer (some ⟨g3, 1, none⟩)) (.slice An nums.length cn) 29 (run_ld (a8.get 2 rfl) rfl) ?_
   refine WLq 4 [(33, .bool ((nums.length : Int) == 0)), (32, .bool ((nums.length : Int) == 0)), (31, .bool ((nums.length : Int) == 0)), (30, .int .i64 (nums.length : Int))] ?_
   refine WLa 33 ((nums.length : Int) == 0) rfl (fun b2 => ?_) (fun b2 => ?_)
   ·
    have eg : (nums.length : Int) = 0 := by simpa using b2
    refine WLq 7 [(40, .bool true), (39, undef), (38, undef), (37, undef), (36, undef), (35, undef), (34, undef)] (WLd rfl (QXn (ak _ _ ?_)))
    refine WCt rfl ?_
    refine WCs (fun fz dr => ?_)
    refine WCg (WLq 1 [(41, .agg #[.int .i64 0, .slice none 0 0, .slice none 0 0])] ?_)
    refine WLs (c' := #[.int .i64 0, .slice none 0 0, .slice none 0 0]) a8 3 40 g9 0 (.agg #[.int .i64 0, .slice none 0 0, .slice none 0 0]) (by kernel_rfl) rfl (by kernel_rfl) (fun fA eh bb => ?_)
    refine WLq 1 [(9, .bool false)] (WLd rfl (QXn (dr _ _ ?_)))
    refine WC.ret ?_
    refine QXr ?_
    refine (hret' _ _ (.tuple #[.agg #[.int .i64 0, .slice none 0 0, .slice none 0 0], .bool false]) (fun a ha => ?_) ?_).1
    ·
     exact res_run ha ((ResR.cell rfl (run_ld (bb.get 3 rfl) rfl) (ResR.tmp rfl ResR.nil))) rfl
    exact .inl ⟨_, _, rfl, bb.fr.mono (fun x_ h_ => by simp only [List.map_cons, List.map_nil, List.mem_cons, List.not_mem_nil, or_false] at h_ ⊢; rcases h_ with rfl | rfl; exact .inl rfl; exact .inr (.inl rfl)), ls_shut (bb.get 0 rfl) (bb.get 1 rfl) hm_ (rows_up hr_ bb.fr hpR_ hmR_) hok_ hne_ hpR_ hmR_, fun x_ h_ => .inl h_, .bad (fun q_ => q_.ne (List.eq_nil_of_length_eq_zero (by omega)))⟩
   ·
    have eg : ¬ ((nums.length : Int) = 0) := by simpa using b2
    refine WLq 1 [(34, .pointer (some ⟨g3, 1, none⟩))] ?_
    refine WLo 37 (.pointer (some ⟨g3, 1, none⟩)) (.slice An nums.length cn) 35 (run_ld (a8.get 2 rfl) rfl) ?_
    obtain ⟨ag, aa⟩ := get_some (xs := nums) (i := 0) (by omega)
    obtain ⟨b50, o52, ck, cm⟩ := hrn.at_ _ _ aa
    refine WLi An nums.length cn 36 .i64 0 b50 o52 0 1 (by kernel_rfl) ck (by omega) (by omega) (o52 + 0) (by first | (simp; done) | omega) ?_
    refine WLo 3 (.pointer (some ⟨b50, o52 + 0, none⟩)) (.int .i64 ag) 37 (run_load1 rfl (by simpa [Nat.add_assoc] using cj.cell (cm 0 _ rfl) (by simp))) ?_
    refine WLc rfl rfl rfl rfl rfl (by kernel_rfl) (goodTime_ct ag ee) ?_
    rintro _ ei ⟨rfl, co⟩
    refine ⟨_, rfl, ?_⟩
    have bc := a8.call co
    have bv := cj.trans co (by simp)
    refine WLq 2 [(40, .bool (!(timB ag))), (39, .bool (!(timB ag)))] (WLd rfl (QXn (ak _ _ ?_)))
    refine WCa 40 (!(timB ag)) rfl (fun bd => ?_) (fun bd => ?_)
    ·
     have aE : (timB ag) = false := by first | (simpa only [Bool.not_eq_true', Bool.not_eq_false'] using bd) | simpa using bd
     refine WCt rfl ?_
     refine WCs (fun fB ds => ?_)
     refine WCg (WLq 1 [(41, .agg #[.int .i64 0, .slice none 0 0, .slice none 0 0])] ?_)
     refine WLs (c' := #[.int .i64 0, .slice none 0 0, .slice none 0 0]) bc 3 40 g9 0 (.agg #[.int .i64 0, .slice none 0 0, .slice none 0 0]) (by kernel_rfl) rfl (by kernel_rfl) (fun fC ej be => ?_)
     refine WLq 1 [(9, .bool false)] (WLd rfl (QXn (ds _ _ ?_)))
     refine WC.ret ?_
     refine QXr ?_
     refine (hret' _ _ (.tuple #[.agg #[.int .i64 0, .slice none 0 0, .slice none 0 0], .bool false]) (fun a ha => ?_) ?_).1
     ·
      exact res_run ha ((ResR.cell rfl (run_ld (be.get 3 rfl) rfl) (ResR.tmp rfl ResR.nil))) rfl
     exact .inl ⟨_, _, rfl, be.fr.mono (fun x_ h_ => by simp only [List.map_cons, List.map_nil, List.mem_cons, List.not_mem_nil, or_false] at h_ ⊢; rcases h_ with rfl | rfl; exact .inl rfl; exact .inr (.inl rfl)), ls_shut (be.get 0 rfl) (be.get 1 rfl) hm_ (rows_up hr_ be.fr hpR_ hmR_) hok_ hne_ hpR_ hmR_, fun x_ h_ => .inl h_, .bad (fun q_ => by have h_ := q_.bt; rw [head_of aa, aE] at h_; cases h_)⟩
    ·
     have aE : (timB ag) = true := by first | (simpa only [Bool.not_eq_true', Bool.not_eq_false'] using bd) | simpa using bd
     refine WCf rfl (WC.skip (QXn (aB _ _ ?_)))
     refine WCs (fun fD aC => ?_)
     refine WCg (WLq 1 [(42, .pointer (some ⟨g3, 1, none⟩))] ?_)
     refine WLo 37 (.pointer (some ⟨g3, 1, none⟩)) (.slice An nums.length cn) 43 (run_ld (bc.get 2 rfl) rfl) ?_
     refine WLi An nums.length cn 44 .i64 0 b50 o52 0 1 (by kernel_rfl) ck (by omega) (by omega) (o52 + 0) (by first | (simp; done) | omega) ?_
     refine WLo 3 (.pointer (some ⟨b50, o52 + 0, none⟩)) (.int .i64 ag) 45 (run_load1 rfl (by simpa [Nat.add_assoc] using bv.cell (cm 0 _ rfl) (by simp))) ?_
     refine WLq 1 [(10, .int .i64 ag)] (WLd rfl (QXn (aC _ _ ?_)))
     refine WCs (fun fE ar => ?_)
     refine WCg (WLq 1 [(47, .pointer (some ⟨g3, 1, none⟩))] ?_)
     refine WLo 37 (.pointer (some ⟨g3, 1, none⟩)) (.slice An nums.length cn) 48 (run_ld (bc.get 2 rfl) rfl) ?_
     obtain ⟨dJ, cp⟩ : ∃ A_, slcAt An 1 cn 1 = A_ := ⟨_, rfl⟩
     have cq : nums.length ≤ cn := by omega
     refine WL.slc 37 3 1 An dJ nums.length cn 1 nums.length (nums.length - 1) (cn - 1) (some (.int .i64 1)) none 49 (by kernel_rfl) (by kernel_rfl) (bnd.yes (by omega)) bnd.no (by omega) cq cp (by first | rfl | omega) (by first | rfl | omega) ?_
     have cr := Rd.slc hrn 1 nums.length cn cq cp
     have hdr_ : (List.drop 1 (List.take nums.length nums)) = nums.drop 1 := by rw [List.take_length]
     refine WLc rfl rfl rfl rfl rfl (by kernel_rfl) (vipsOf_n dJ (nums.length - 1) (cn - 1) (nums.drop 1) ei (hdr_ ▸ Rd.fr cr bv) (by rw [List.length_drop]) (by omega)) ?_
     rintro _ dK (⟨au, bf, bg, rfl, bh, b3⟩ | ⟨au, rfl, bh⟩)
     ·
      have al := bc.callN bh (own_ge b3) (own_lt b3)
      refine ⟨_, rfl, ?_⟩
      have cs := bv.trans bh (by simp)
      have dt := own_base (b' := 0) b3 (fun _ _ => Nat.zero_le _)
      refine WLq 5 [(12, .bool (decide ((nums.drop 1).length ≤ 39))), (11, .slice bf ((nums.drop 1).length) bg), (52, .bool (decide ((nums.drop 1).length ≤ 39))), (51, .slice bf ((nums.drop 1).length) bg), (46, .tuple #[.slice bf ((nums.drop 1).length) bg, .bool (decide ((nums.drop 1).length ≤ 39))])] (WLd rfl (QXn (ar _ _ ?_)))
      refine WCs (fun fF av => ?_)
      refine WCs (fun fG am => ?_)
      refine WCg (WLq 3 [(55, .bool (!(decide ((nums.drop 1).length ≤ 39)))), (54, .bool (!(decide ((nums.drop 1).length ≤ 39)))), (53, .bool (decide ((nums.drop 1).length ≤ 39)))] ?_)
      refine WLa 55 (!(decide ((nums.drop 1).length ≤ 39))) rfl (fun bi => ?_) (fun bi => ?_)
      ·
       have bu : (decide ((nums.drop 1).length ≤ 39)) = false := by first | (simpa only [Bool.not_eq_true', Bool.not_eq_false'] using bi) | simpa using bi
       refine WLq 10 [(65, .bool true), (64, undef), (63, undef), (62, undef), (61, undef), (60, undef), (59, undef), (58, undef), (57, undef), (56, undef)] (WLd rfl (QXn (am _ _ ?_)))
       refine WCt rfl ?_
       refine WCs (fun fH du => ?_)
       refine WCg (WLq 1 [(66, .agg #[.int .i64 0, .slice none 0 0, .slice none 0 0])] ?_)
       refine WLs (c' := #[.int .i64 0, .slice none 0 0, .slice none 0 0]) al 3 40 g9 0 (.agg #[.int .i64 0, .slice none 0 0, .slice none 0 0]) (by kernel_rfl) rfl (by kernel_rfl) (fun fI em bj => ?_)
       refine WLq 1 [(9, .bool false)] (WLd rfl (QXn (du _ _ ?_)))
       refine WC.ret ?_
       refine QXr ?_
       refine (hret' _ _ (.tuple #[.agg #[.int .i64 0, .slice none 0 0, .slice none 0 0], .bool false]) (fun a ha => ?_) ?_).1
       ·
        exact res_run ha ((ResR.cell rfl (run_ld (bj.get 3 rfl) rfl) (ResR.tmp rfl ResR.nil))) rfl
       exact .inl ⟨_, _, rfl, bj.fr.mono (fun x_ h_ => by simp only [List.map_cons, List.map_nil, List.mem_cons, List.not_mem_nil, or_false] at h_ ⊢; rcases h_ with rfl | rfl; exact .inl rfl; exact .inr (.inl rfl)), ls_shut (bj.get 0 rfl) (bj.get 1 rfl) hm_ (rows_up hr_ bj.fr hpR_ hmR_) hok_ hne_ hpR_ hmR_, fun x_ h_ => .inl h_, .bad (fun q_ => by have h_ := q_.len; have z_ := bu; simp only [List.length_drop] at h_; simp at z_; omega)⟩
      ·
       have bu : (decide ((nums.drop 1).length ≤ 39)) = true := by first | (simpa only [Bool.not_eq_true', Bool.not_eq_false'] using bi) | simpa using bi
       refine WLq 1 [(56, .pointer (some ⟨g3, 0, none⟩))] ?_
       refine WLo 3 (.pointer (some ⟨g3, 0, none⟩)) (.int .i64 kind) 57 (run_ld (al.get 2 rfl) rfl) ?_
       refine WLq 2 [(59, .bool (kind != 12)), (58, .bool (kind != 12))] ?_
       refine WLa 59 (kind != 12) rfl (fun ai => ?_) (fun ai => ?_)
       ·
        have en : kind ≠ 12 := by simpa using ai
        refine WLq 1 [(60, .pointer (some ⟨g3, 1, none⟩))] ?_
        refine WLo 37 (.pointer (some ⟨g3, 1, none⟩)) (.slice An nums.length cn) 61 (run_ld (al.get 2 rfl) rfl) ?_
        refine WLq 4 [(65, .bool ((nums.length : Int) != 1)), (64, .bool ((nums.length : Int) != 1)), (63, .bool ((nums.length : Int) != 1)), (62, .int .i64 (nums.length : Int))] (WLd rfl (QXn (am _ _ ?_)))
        refine WCa 65 ((nums.length : Int) != 1) rfl (fun aF => ?_) (fun aF => ?_)
        ·
         have eo : (nums.length : Int) ≠ 1 := by simpa using aF
         refine WCt rfl ?_
         refine WCs (fun ep ct => ?_)
         refine WCg (WLq 1 [(66, .agg #[.int .i64 0, .slice none 0 0, .slice none 0 0])] ?_)
         refine WLs (c' := #[.int .i64 0, .slice none 0 0, .slice none 0 0]) al 3 40 g9 0 (.agg #[.int .i64 0, .slice none 0 0, .slice none 0 0]) (by kernel_rfl) rfl (by kernel_rfl) (fun er dL aG => ?_)
         refine WLq 1 [(9, .bool false)] (WLd rfl (QXn (ct _ _ ?_)))
         refine WC.ret ?_
         refine QXr ?_
         refine (hret' _ _ (.tuple #[.agg #[.int .i64 0, .slice none 0 0, .slice none 0 0], .bool false]) (fun a ha => ?_) ?_).1
         ·
          exact res_run ha ((ResR.cell rfl (run_ld (aG.get 3 rfl) rfl) (ResR.tmp rfl ResR.nil))) rfl
         exact .inl ⟨_, _, rfl, aG.fr.mono (fun x_ h_ => by simp only [List.map_cons, List.map_nil, List.mem_cons, List.not_mem_nil, or_false] at h_ ⊢; rcases h_ with rfl | rfl; exact .inl rfl; exact .inr (.inl rfl)), ls_shut (aG.get 0 rfl) (aG.get 1 rfl) hm_ (rows_up hr_ aG.fr hpR_ hmR_) hok_ hne_ hpR_ hmR_, fun x_ h_ => .inl h_, .bad (fun q_ => by rcases q_.one with h_ | h_ <;> omega)⟩
        ·
         have eo : (nums.length : Int) = 1 := by simpa using aF
         refine WCf rfl (WC.skip (QXn (av _ _ ?_)))
         refine WCs (fun et aw => ?_)
         refine WCg (WLq 3 [(70, .pointer (some ⟨p, 0, none⟩)), (69, .pointer (some ⟨p, 0, none⟩)), (68, .pointer (some ⟨p, 0, none⟩))] ?_)
         refine WLo 87 (.pointer (some ⟨p, 0, none⟩)) (.map (some mb)) 71 (run_ld (al.get 0 rfl) rfl) ?_
         refine WLq 1 [(72, .int .i64 from_)] ?_
         obtain ⟨xv109, bk⟩ : ∃ x_, (lookL L from_).getD zO = x_ := ⟨_, rfl⟩
         obtain ⟨bv111, aU⟩ : ∃ b_, (lookL L from_).isSome = b_ := ⟨_, rfl⟩
         have cu := lookM_ok (P := Try.prog) (w := dK) (ek := ekI) (ev := encO) (d := zO) (rfl : Program.underlying Try.prog 87 = some (.map 3 91)) keyI' (fun _ => by kernel_rfl) (al.get 1 rfl) hm_ from_ bk aU
         refine WL.sem (Instr.lookup 87 (.map (some mb)) (.int .i64 from_) true) 73 (.tuple #[.agg #[.int .i64 xv109.boot, .int .i64 xv109.heard, .slice xv109.a xv109.vs.length xv109.c], .bool bv111]) (by kernel_rfl) cu ?_
         have hxo_ : oneOf L from_ = xv109 := bk
         refine WLq 3 [(75, .bool bv111), (74, .agg #[.int .i64 xv109.boot, .int .i64 xv109.heard, .slice xv109.a xv109.vs.length xv109.c]), (67, .tuple #[.agg #[.int .i64 xv109.boot, .int .i64 xv109.heard, .slice xv109.a xv109.vs.length xv109.c], .bool bv111])] ?_
         refine WL.newM al (fun b => .pointer (some ⟨b, 0, none⟩)) (.cells #[.int .i64 0, .int .i64 0, .slice none 0 0] 91) 13 (fun _ => by kernel_rfl) (fun a5 eu dM cv cw => ?_)
         have dN := cs.trans cv (by simp)
         refine WLs (c' := #[.int .i64 xv109.boot, .int .i64 xv109.heard, .slice xv109.a xv109.vs.length xv109.c]) cw 4 91 a5 0 (.agg #[.int .i64 xv109.boot, .int .i64 xv109.heard, .slice xv109.a xv109.vs.length xv109.c]) (by kernel_rfl) rfl (by kernel_rfl) (fun ew dO aj => ?_)
         refine WLq 1 [(14, .bool bv111)] (WLd rfl (QXn (aw _ _ ?_)))
         refine WCs (fun ex an => ?_)
         refine WCs (fun ey ax => ?_)
         refine WCg (WLq 1 [(76, .pointer (some ⟨g3, 0, none⟩))] ?_)
         refine WLo 3 (.pointer (some ⟨g3, 0, none⟩)) (.int .i64 kind) 77 (run_ld (aj.get 2 rfl) rfl) ?_
         refine WLd rfl (QXn (ax _ _ ?_))
         refine WC.block ?_
         refine WCs (fun ez ay => ?_)
         refine WCg (WLq 2 [(78, .bool (kind == 10)), (79, .bool (kind == 10))] (WLd rfl (QXn (ay _ _ ?_))))
         refine WCa 78 (kind == 10) rfl (fun aH => ?_) (fun aH => ?_)
         ·
          have dv : kind = 10 := by simpa using aH
          refine WCt rfl ?_
          refine WCs (fun eA bw => ?_)
          refine WCg (WLq 3 [(82, .pointer (some ⟨p, 0, none⟩)), (81, .pointer (some ⟨p, 0, none⟩)), (80, .pointer (some ⟨p, 0, none⟩))] ?_)
          refine WLo 87 (.pointer (some ⟨p, 0, none⟩)) (.map (some mb)) 83 (run_ld (aj.get 0 rfl) rfl) ?_
          refine WLq 4 [(87, .agg #[.int .i64 ag, .int .i64 now, .slice none 0 0]), (86, .int .i64 now), (85, .int .i64 ag), (84, .int .i64 from_)] ?_
          obtain ⟨eB, es136, cl137, cx, dP, cy, cz⟩ := putM_run (P := Try.prog) (ek := ekI) (ev := encO) aj 1 rfl (rfl : Program.underlying Try.prog 87 = some (.map 3 91)) keyI' hm_ from_ (⟨ag, now, none, 0, []⟩ : One)
          refine WL.semU (Instr.mapUpdate 87 (.map (some mb)) (.int .i64 from_) (.agg #[.int .i64 ag, .int .i64 now, .slice none 0 0])) (by kernel_rfl) cx ?_
          refine WLd rfl (QXn (bw _ _ ?_))
          refine WCs (fun eC bx => ?_)
          refine WCg (WLq 1 [(88, .int .i64 ag)] ?_)
          refine WL.newM cy (fun b => .slice (some ⟨b, 0, none⟩) 1 1) (.cells #[.int .i64 ag] 3) 89 (fun _ => by kernel_rfl) (fun dw dx dQ dR bz => ?_)
          refine WLc rfl rfl rfl rfl rfl (by kernel_rfl) (Make_n 11 (some ⟨dw, 0, none⟩) 1 1 [ag] dx (Rd.blk (bz.get 5 rfl) (Go.Tw.encI_len _) rfl) rfl (by decide)) ?_
          rintro _ eD ⟨b4, b5, rfl, cA, bl⟩
          have bA := bz.callN cA (own_ge bl) (own_lt bl)
          refine ⟨_, rfl, ?_⟩
          have cB := own_base (b' := 0) bl (fun _ _ => Nat.zero_le _)
          refine WLs (c' := #[.int .i64 11, .slice b4 1 b5, .slice none 0 0]) bA 3 40 g9 0 (.agg #[.int .i64 11, .slice b4 1 b5, .slice none 0 0]) (by kernel_rfl) rfl (by kernel_rfl) (fun eE cC ab => ?_)
          have cD := own_fr cB cC (bA.apartM 1 3 rfl rfl)
          refine WLq 1 [(9, .bool true)] (WLd rfl (QXn (bx _ _ ?_)))
          refine WC.ret ?_
          refine QXk ?_
          refine QXr ?_
          refine (hret' _ _ (.tuple #[.agg #[.int .i64 11, .slice b4 1 b5, .slice none 0 0], .bool true]) (fun a ha => ?_) ?_).1
          ·
           exact res_run ha ((ResR.cell rfl (run_ld (ab.get 3 rfl) rfl) (ResR.tmp rfl ResR.nil))) rfl
          clear hN hret hret' bx bw ay ax an aw am av ar aC ak aB hK2
          have hok2_ : okIn from_ kind now nums := ⟨bs, aD, ne_of0 aa, by rw [head_of aa]; exact aE, au, of_decide_eq_true bu, (.inr (by have z_ := aF; simp at z_; omega))⟩
          have hhd_ := head_of aa
          obtain ⟨hbt0_, hbt1_⟩ := tim_b aE
          obtain ⟨hnw0_, hnw1_⟩ := tim_b aD
          have hz_ := RecvR.opn (L := L) hok2_ (by simpa using aH)
          rw [hhd_] at hz_
          exact .inr ⟨_, _, _, _, _, _, rfl, ab.fr.mono (fun x_ h_ => by simp only [List.map_cons, List.map_nil, List.mem_cons, List.not_mem_nil, or_false] at h_ ⊢; rcases h_ with rfl | rfl; exact .inl rfl; exact .inr (.inl rfl)), recv_close (R2 := []) (ab.get 0 rfl) (ab.get 1 rfl) cz (rows_up hr_ ab.fr hpR_ hmR_) hk_ hok_ hok2_.mux ⟨hbt0_, hbt1_⟩ ⟨hnw0_, hnw1_⟩ (Nat.zero_le _) (Rd.nil _ _ _ _) (fun b_ off_ e_ => by cases e_) (by simp) hne_ hpR_ (by simp) hmR_ (by simp), fun x_ h_ => .inl (by simpa using h_), hz_, own_base cD (newF_of ab 1 rfl (by intro x hx; simp at hx; rcases hx with rfl | rfl; exact lt_of_heap hp_; exact lt_of_heap hmb_) (by intro q_ hq_; simp at hq_; rcases hq_ with rfl | rfl; exact ab.notin 1 0 rfl rfl; exact ab.notin 1 1 rfl rfl)), (fun x_ hx_ hb_ => by
           simp only [List.mem_cons, List.append_nil] at hx_
           rcases hx_ with rfl | rfl | hx_
           ·
            exact ab.notin 1 0 rfl rfl hb_
           ·
            exact ab.notin 1 1 rfl rfl hb_
           ·
            exact absurd (hr_.lt x_ hx_) (Nat.not_lt.2 ((newF_of ab 1 rfl (by intro x hx; simp at hx; rcases hx with rfl | rfl; exact lt_of_heap hp_; exact lt_of_heap hmb_) (by intro q_ hq_; simp at hq_; rcases hq_ with rfl | rfl; exact ab.notin 1 0 rfl rfl; exact ab.notin 1 1 rfl rfl)) x_ hb_)))⟩
         ·
          have dv : ¬ (kind = 10) := by simpa using aH
          refine WCf rfl ?_
          refine WCs (fun eF aI => ?_)
          refine WCs (fun eG aJ => ?_)
          refine WCg (WLq 2 [(91, .bool (kind == 12)), (92, .bool (kind == 12))] (WLd rfl (QXn (aJ _ _ ?_))))
          refine WC.know 91 (.bool (kind == 12)) (.bool false) rfl (congrArg Value.bool (by simpa using ai)) ?_
          refine WCf rfl ?_
          refine WCg (WLq 2 [(91, .bool (kind == 13)), (93, .bool (kind == 13))] (WLd rfl (QXn (aI _ _ ?_))))
          refine WCa 91 (kind == 13) rfl (fun ao => ?_) (fun ao => ?_)
          ·
           have dy : kind = 13 := by simpa using ao
           refine WCt rfl ?_
           refine WCs (fun eH aW => ?_)
           refine WCs (fun eI aK => ?_)
           refine WCg (WLq 3 [(96, .bool !bv111), (95, .bool !bv111), (94, .bool bv111)] ?_)
           refine WLa 96 (!bv111) rfl (fun aL => ?_) (fun aL => ?_)
           ·
            have b6 : bv111 = false := by first | (simpa only [Bool.not_eq_true', Bool.not_eq_false'] using aL) | simpa using aL
            refine WLq 5 [(101, .bool true), (100, undef), (99, undef), (98, undef), (97, undef)] (WLd rfl (QXn (aK _ _ ?_)))
            refine WCt rfl ?_
            refine WCs (fun eJ bB => ?_)
            refine WCg (WLq 1 [(102, .int .i64 ag)] ?_)
            refine WL.newM aj (fun b => .slice (some ⟨b, 0, none⟩) 1 1) (.cells #[.int .i64 ag] 3) 103 (fun _ => by kernel_rfl) (fun dz dA dS dT bC => ?_)
            refine WLc rfl rfl rfl rfl rfl (by kernel_rfl) (Make_n 14 (some ⟨dz, 0, none⟩) 1 1 [ag] dA (Rd.blk (bC.get 5 rfl) (Go.Tw.encI_len _) rfl) rfl (by decide)) ?_
            rintro _ eK ⟨b7, b8, rfl, cE, bm⟩
            have bD := bC.callN cE (own_ge bm) (own_lt bm)
            refine ⟨_, rfl, ?_⟩
            have cF := own_base (b' := 0) bm (fun _ _ => Nat.zero_le _)
            refine WLs (c' := #[.int .i64 14, .slice b7 1 b8, .slice none 0 0]) bD 3 40 g9 0 (.agg #[.int .i64 14, .slice b7 1 b8, .slice none 0 0]) (by kernel_rfl) rfl (by kernel_rfl) (fun eL cG ac => ?_)
            have cH := own_fr cF cG (bD.apartM 1 3 rfl rfl)
            refine WLq 1 [(9, .bool true)] (WLd rfl (QXn (bB _ _ ?_)))
            refine WC.ret ?_
            refine QXr ?_
            refine QXk ?_
            refine QXr ?_
            refine (hret' _ _ (.tuple #[.agg #[.int .i64 14, .slice b7 1 b8, .slice none 0 0], .bool true]) (fun a ha => ?_) ?_).1
            ·
             exact res_run ha ((ResR.cell rfl (run_ld (ac.get 3 rfl) rfl) (ResR.tmp rfl ResR.nil))) rfl
            clear hN hret hret' bB aK aW aJ aI ay ax an aw am av ar aC ak aB hK2
            have hok2_ : okIn from_ kind now nums := ⟨bs, aD, ne_of0 aa, by rw [head_of aa]; exact aE, au, of_decide_eq_true bu, (.inr (by have z_ := aF; simp at z_; omega))⟩
            have hhd_ := head_of aa
            obtain ⟨hbt0_, hbt1_⟩ := tim_b aE
            obtain ⟨hnw0_, hnw1_⟩ := tim_b aD
            have hz_ := RecvR.cls (L := L) hok2_ (.inr (by simpa using ao)) (.inl (by rw [aU]; exact b6))
            rw [hhd_] at hz_
            exact .inr ⟨_, _, _, _, _, _, rfl, ac.fr.mono (fun x_ h_ => by simp only [List.map_cons, List.map_nil, List.mem_cons, List.not_mem_nil, or_false] at h_ ⊢; rcases h_ with rfl | rfl; exact .inl rfl; exact .inr (.inl rfl)), ls_shut (ac.get 0 rfl) (ac.get 1 rfl) hm_ (rows_up hr_ ac.fr hpR_ hmR_) hok_ hne_ hpR_ hmR_, fun x_ h_ => .inl h_, hz_, own_base cH (newF_of ac 1 rfl (by intro x hx; simp at hx; rcases hx with rfl | rfl; exact lt_of_heap hp_; exact lt_of_heap hmb_) (by intro q_ hq_; simp at hq_; rcases hq_ with rfl | rfl; exact ac.notin 1 0 rfl rfl; exact ac.notin 1 1 rfl rfl)), (fun x_ hx_ hb_ => by
             simp only [List.mem_cons, List.append_nil] at hx_
             rcases hx_ with rfl | rfl | hx_
             ·
              exact ac.notin 1 0 rfl rfl hb_
             ·
              exact ac.notin 1 1 rfl rfl hb_
             ·
              exact absurd (hr_.lt x_ hx_) (Nat.not_lt.2 ((newF_of ac 1 rfl (by intro x hx; simp at hx; rcases hx with rfl | rfl; exact lt_of_heap hp_; exact lt_of_heap hmb_) (by intro q_ hq_; simp at hq_; rcases hq_ with rfl | rfl; exact ac.notin 1 0 rfl rfl; exact ac.notin 1 1 rfl rfl)) x_ hb_)))⟩
           ·
            have b6 : bv111 = true := by first | (simpa only [Bool.not_eq_true', Bool.not_eq_false'] using aL) | simpa using aL
            refine WLq 1 [(97, .pointer (some ⟨a5, 0, none⟩))] ?_
            refine WLo 3 (.pointer (some ⟨a5, 0, none⟩)) (.int .i64 xv109.boot) 98 (run_ld (aj.get 4 rfl) rfl) ?_
            refine WLq 3 [(101, .bool (xv109.boot != ag)), (100, .bool (xv109.boot != ag)), (99, .int .i64 ag)] (WLd rfl (QXn (aK _ _ ?_)))
            refine WCa 101 (xv109.boot != ag) rfl (fun aM => ?_) (fun aM => ?_)
            ·
             have dB : xv109.boot ≠ ag := by simpa using aM
             refine WCt rfl ?_
             refine WCs (fun eM bE => ?_)
             refine WCg (WLq 1 [(102, .int .i64 ag)] ?_)
             refine WL.newM aj (fun b => .slice (some ⟨b, 0, none⟩) 1 1) (.cells #[.int .i64 ag] 3) 103 (fun _ => by kernel_rfl) (fun dC dD dU dW bF => ?_)
             refine WLc rfl rfl rfl rfl rfl (by kernel_rfl) (Make_n 14 (some ⟨dC, 0, none⟩) 1 1 [ag] dD (Rd.blk (bF.get 5 rfl) (Go.Tw.encI_len _) rfl) rfl (by decide)) ?_
             rintro _ eN ⟨b9, ca, rfl, cI, bn⟩
             have bG := bF.callN cI (own_ge bn) (own_lt bn)
             refine ⟨_, rfl, ?_⟩
             have cJ := own_base (b' := 0) bn (fun _ _ => Nat.zero_le _)
             refine WLs (c' := #[.int .i64 14, .slice b9 1 ca, .slice none 0 0]) bG 3 40 g9 0 (.agg #[.int .i64 14, .slice b9 1 ca, .slice none 0 0]) (by kernel_rfl) rfl (by kernel_rfl) (fun eO cK ad => ?_)
             have cL := own_fr cJ cK (bG.apartM 1 3 rfl rfl)
             refine WLq 1 [(9, .bool true)] (WLd rfl (QXn (bE _ _ ?_)))
             refine WC.ret ?_
             refine QXr ?_
             refine QXk ?_
             refine QXr ?_
             refine (hret' _ _ (.tuple #[.agg #[.int .i64 14, .slice b9 1 ca, .slice none 0 0], .bool true]) (fun a ha => ?_) ?_).1
             ·
              exact res_run ha ((ResR.cell rfl (run_ld (ad.get 3 rfl) rfl) (ResR.tmp rfl ResR.nil))) rfl
             clear hN hret hret' bE aK aW aJ aI ay ax an aw am av ar aC ak aB hK2
             have hok2_ : okIn from_ kind now nums := ⟨bs, aD, ne_of0 aa, by rw [head_of aa]; exact aE, au, of_decide_eq_true bu, (.inr (by have z_ := aF; simp at z_; omega))⟩
             have hhd_ := head_of aa
             obtain ⟨hbt0_, hbt1_⟩ := tim_b aE
             obtain ⟨hnw0_, hnw1_⟩ := tim_b aD
             have hz_ := RecvR.cls (L := L) hok2_ (.inr (by simpa using ao)) (.inr (by rw [hxo_, hhd_]; simpa using aM))
             rw [hhd_] at hz_
             exact .inr ⟨_, _, _, _, _, _, rfl, ad.fr.mono (fun x_ h_ => by simp only [List.map_cons, List.map_nil, List.mem_cons, List.not_mem_nil, or_false] at h_ ⊢; rcases h_ with rfl | rfl; exact .inl rfl; exact .inr (.inl rfl)), ls_shut (ad.get 0 rfl) (ad.get 1 rfl) hm_ (rows_up hr_ ad.fr hpR_ hmR_) hok_ hne_ hpR_ hmR_, fun x_ h_ => .inl h_, hz_, own_base cL (newF_of ad 1 rfl (by intro x hx; simp at hx; rcases hx with rfl | rfl; exact lt_of_heap hp_; exact lt_of_heap hmb_) (by intro q_ hq_; simp at hq_; rcases hq_ with rfl | rfl; exact ad.notin 1 0 rfl rfl; exact ad.notin 1 1 rfl rfl)), (fun x_ hx_ hb_ => by
              simp only [List.mem_cons, List.append_nil] at hx_
              rcases hx_ with rfl | rfl | hx_
              ·
               exact ad.notin 1 0 rfl rfl hb_
              ·
               exact ad.notin 1 1 rfl rfl hb_
              ·
               exact absurd (hr_.lt x_ hx_) (Nat.not_lt.2 ((newF_of ad 1 rfl (by intro x hx; simp at hx; rcases hx with rfl | rfl; exact lt_of_heap hp_; exact lt_of_heap hmb_) (by intro q_ hq_; simp at hq_; rcases hq_ with rfl | rfl; exact ad.notin 1 0 rfl rfl; exact ad.notin 1 1 rfl rfl)) x_ hb_)))⟩
            ·
             have dB : xv109.boot = ag := by simpa using aM
             refine WCf rfl (WC.skip (QXn (aW _ _ ?_)))
             refine WCs (fun eP bH => ?_)
             refine WCg (WLq 2 [(106, .pointer (some ⟨a5, 1, none⟩)), (105, .int .i64 now)] ?_)
             refine WLs (c' := #[.int .i64 xv109.boot, .int .i64 now, .slice xv109.a xv109.vs.length xv109.c]) aj 4 3 a5 1 (.int .i64 now) (by kernel_rfl) rfl (by kernel_rfl) (fun eQ dX bI => ?_)
             refine WLd rfl (QXn (bH _ _ ?_))
             refine WCs (fun eR bJ => ?_)
             refine WCs (fun eS bK => ?_)
             refine WCg (WLq 1 [(107, .pointer (some ⟨g3, 0, none⟩))] ?_)
             refine WLo 3 (.pointer (some ⟨g3, 0, none⟩)) (.int .i64 kind) 108 (run_ld (bI.get 2 rfl) rfl) ?_
             refine WLq 1 [(109, .bool (kind == 12))] (WLd rfl (QXn (bK _ _ ?_)))
             refine WC.know 109 (.bool (kind == 12)) (.bool false) rfl (congrArg Value.bool (by simpa using ai)) ?_
             refine WCf rfl (WC.skip (QXn (bJ _ _ ?_)))
             refine WC.drawC bI [mb] (by kernel_rfl) (fun eT dY aX ap => ?_)
             refine WDq (NPb (NPt hN)) 0 112 (.pointer (some ⟨p, 0, none⟩)) ap ?_
             refine WDq (NPb (NPt hN)) 1 113 (.pointer (some ⟨p, 0, none⟩)) ap ?_
             refine WDq (NPb (NPt hN)) 2 114 (.pointer (some ⟨p, 0, none⟩)) ap ?_
             refine WDq (NPb (NPt hN)) 4 116 (.int .i64 from_) ap ?_
             refine WDm (NPb (NPt hN)) 3 87 (.pointer (some ⟨p, 0, none⟩)) (.map (some mb)) 115 (fun _ hS_ => run_ld (Fr.has hS_ (aX.get 0 rfl) (by simpa using aX.ne 0 1 rfl rfl (by decide))) rfl) ap ?_
             refine WD.sem 5 (Instr.loadAt 91 (.pointer (some ⟨a5, 0, none⟩))) 117 (.agg #[.int .i64 xv109.boot, .int .i64 now, .slice xv109.a xv109.vs.length xv109.c]) (by kernel_rfl) (by kernel_rfl) (run_ld (aX.get 4 rfl) rfl) ap ?_
             obtain ⟨eU, es237, cl238, cM, cN, cO, cP⟩ := putM_run (P := Try.prog) (ek := ekI) (ev := encO) aX 1 rfl (rfl : Program.underlying Try.prog 87 = some (.map 3 91)) keyI' hm_ from_ (⟨xv109.boot, now, xv109.a, xv109.c, xv109.vs⟩ : One)
             have cQ := ap.trans cN (by simp)
             refine WD.semU 6 (Instr.mapUpdate 87 (.map (some mb)) (.int .i64 from_) (.agg #[.int .i64 xv109.boot, .int .i64 now, .slice xv109.a xv109.vs.length xv109.c])) (by kernel_rfl) (by kernel_rfl) cM cQ ?_
             refine WD.done (by kernel_rfl) ?_
             refine QXb ?_
             refine QXn (an _ _ ?_)
             refine WCs (fun eV bL => ?_)
             refine WCg (WLq 1 [(118, .agg #[.int .i64 0, .slice none 0 0, .slice none 0 0])] ?_)
             refine WLs (c' := #[.int .i64 0, .slice none 0 0, .slice none 0 0]) cO 3 40 g9 0 (.agg #[.int .i64 0, .slice none 0 0, .slice none 0 0]) (by kernel_rfl) rfl (by kernel_rfl) (fun eW dZ az => ?_)
             refine WLq 1 [(9, .bool false)] (WLd rfl (QXn (bL _ _ ?_)))
             refine WC.ret ?_
             refine (hret' _ _ (.tuple #[.agg #[.int .i64 0, .slice none 0 0, .slice none 0 0], .bool false]) (fun a ha => ?_) ?_).1
             ·
              exact res_run ha ((ResR.cell rfl (run_ld (az.get 3 rfl) rfl) (ResR.tmp rfl ResR.nil))) rfl
             clear hN hret hret' bL bK bJ bH aK aW aJ aI ay ax an aw am av ar aC ak aB hK2
             have hok2_ : okIn from_ kind now nums := ⟨bs, aD, ne_of0 aa, by rw [head_of aa]; exact aE, au, of_decide_eq_true bu, (.inr (by have z_ := aF; simp at z_; omega))⟩
             have hhd_ := head_of aa
             obtain ⟨hbt0_, hbt1_⟩ := tim_b aE
             obtain ⟨hnw0_, hnw1_⟩ := tim_b aD
             obtain ⟨hob0_, hob1_⟩ := one_bt hok_ from_
             rw [hxo_] at hob0_ hob1_
             have hol_ := one_len hok_ from_
             have hoi_ := one_inn hr_ from_
             have hor_ := one_rd2 hr_ az.fr hpR_ hmR_ from_
             rw [hxo_] at hol_ hoi_ hor_
             have hz_ := RecvR.kep (L := L) hok2_ (by simpa using ao) (by rw [aU]; exact b6) (by rw [hxo_, hhd_]; simpa using aM)
             rw [hxo_] at hz_
             exact .inl ⟨_, _, rfl, az.fr.mono (fun x_ h_ => by simp only [List.map_cons, List.map_nil, List.mem_cons, List.not_mem_nil, or_false] at h_ ⊢; rcases h_ with rfl | rfl; exact .inl rfl; exact .inr (.inl rfl)), recv_close (R2 := []) (az.get 0 rfl) (az.get 1 rfl) cP (rows_up hr_ az.fr hpR_ hmR_) hk_ hok_ hok2_.mux ⟨hob0_, hob1_⟩ ⟨hnw0_, hnw1_⟩ hol_ hor_ (fun b_ off_ e_ => List.mem_append_left _ (hoi_ b_ off_ e_)) (by simp) hne_ hpR_ (by simp) hmR_ (by simp), fun x_ h_ => .inl (by simpa using h_), hz_⟩
          ·
           have dy : ¬ (kind = 13) := by simpa using ao
           refine WCf rfl (WC.skip ?_)
           refine QXb ?_
           refine QXn (an _ _ ?_)
           refine WCs (fun eX bM => ?_)
           refine WCg (WLq 1 [(118, .agg #[.int .i64 0, .slice none 0 0, .slice none 0 0])] ?_)
           refine WLs (c' := #[.int .i64 0, .slice none 0 0, .slice none 0 0]) aj 3 40 g9 0 (.agg #[.int .i64 0, .slice none 0 0, .slice none 0 0]) (by kernel_rfl) rfl (by kernel_rfl) (fun eY d0 aN => ?_)
           refine WLq 1 [(9, .bool false)] (WLd rfl (QXn (bM _ _ ?_)))
           refine WC.ret ?_
           refine (hret' _ _ (.tuple #[.agg #[.int .i64 0, .slice none 0 0, .slice none 0 0], .bool false]) (fun a ha => ?_) ?_).1
           ·
            exact res_run ha ((ResR.cell rfl (run_ld (aN.get 3 rfl) rfl) (ResR.tmp rfl ResR.nil))) rfl
           clear hN hret hret' bM aJ aI ay ax an aw am av ar aC ak aB hK2
           have hok2_ : okIn from_ kind now nums := ⟨bs, aD, ne_of0 aa, by rw [head_of aa]; exact aE, au, of_decide_eq_true bu, (.inr (by have z_ := aF; simp at z_; omega))⟩
           have hhd_ := head_of aa
           obtain ⟨hbt0_, hbt1_⟩ := tim_b aE
           obtain ⟨hnw0_, hnw1_⟩ := tim_b aD
           exact .inl ⟨_, _, rfl, aN.fr.mono (fun x_ h_ => by simp only [List.map_cons, List.map_nil, List.mem_cons, List.not_mem_nil, or_false] at h_ ⊢; rcases h_ with rfl | rfl; exact .inl rfl; exact .inr (.inl rfl)), ls_shut (aN.get 0 rfl) (aN.get 1 rfl) hm_ (rows_up hr_ aN.fr hpR_ hmR_) hok_ hne_ hpR_ hmR_, fun x_ h_ => .inl h_, .oth hok2_ ⟨by simpa using aH, by simpa using ai, by simpa using ao⟩⟩
       ·
        have en : kind = 12 := by simpa using ai
        refine WLq 6 [(65, .bool false), (64, .bool false), (63, undef), (62, undef), (61, undef), (60, undef)] (WLd rfl (QXn (am _ _ ?_)))
        refine WCf rfl (WC.skip (QXn (av _ _ ?_)))
        refine WCs (fun eZ aY => ?_)
        refine WCg (WLq 3 [(70, .pointer (some ⟨p, 0, none⟩)), (69, .pointer (some ⟨p, 0, none⟩)), (68, .pointer (some ⟨p, 0, none⟩))] ?_)
        refine WLo 87 (.pointer (some ⟨p, 0, none⟩)) (.map (some mb)) 71 (run_ld (al.get 0 rfl) rfl) ?_
        refine WLq 1 [(72, .int .i64 from_)] ?_
        obtain ⟨xv261, bo⟩ : ∃ x_, (lookL L from_).getD zO = x_ := ⟨_, rfl⟩
        obtain ⟨bv263, aV⟩ : ∃ b_, (lookL L from_).isSome = b_ := ⟨_, rfl⟩
        have cR := lookM_ok (P := Try.prog) (w := dK) (ek := ekI) (ev := encO) (d := zO) (rfl : Program.underlying Try.prog 87 = some (.map 3 91)) keyI' (fun _ => by kernel_rfl) (al.get 1 rfl) hm_ from_ bo aV
        refine WL.sem (Instr.lookup 87 (.map (some mb)) (.int .i64 from_) true) 73 (.tuple #[.agg #[.int .i64 xv261.boot, .int .i64 xv261.heard, .slice xv261.a xv261.vs.length xv261.c], .bool bv263]) (by kernel_rfl) cR ?_
        have hxo_ : oneOf L from_ = xv261 := bo
        refine WLq 3 [(75, .bool bv263), (74, .agg #[.int .i64 xv261.boot, .int .i64 xv261.heard, .slice xv261.a xv261.vs.length xv261.c]), (67, .tuple #[.agg #[.int .i64 xv261.boot, .int .i64 xv261.heard, .slice xv261.a xv261.vs.length xv261.c], .bool bv263])] ?_
        refine WL.newM al (fun b => .pointer (some ⟨b, 0, none⟩)) (.cells #[.int .i64 0, .int .i64 0, .slice none 0 0] 91) 13 (fun _ => by kernel_rfl) (fun aO e0 d1 bN bO => ?_)
        have d2 := cs.trans bN (by simp)
        have cS := own_fr dt bN (by simp)
        refine WLs (c' := #[.int .i64 xv261.boot, .int .i64 xv261.heard, .slice xv261.a xv261.vs.length xv261.c]) bO 4 91 aO 0 (.agg #[.int .i64 xv261.boot, .int .i64 xv261.heard, .slice xv261.a xv261.vs.length xv261.c]) (by kernel_rfl) rfl (by kernel_rfl) (fun e1 cT aA => ?_)
        have cU := own_fr cS cT (bO.apartM 0 4 rfl rfl)
        refine WLq 1 [(14, .bool bv263)] (WLd rfl (QXn (aY _ _ ?_)))
        refine WCs (fun e2 aZ => ?_)
        refine WCs (fun e3 a0 => ?_)
        refine WCg (WLq 1 [(76, .pointer (some ⟨g3, 0, none⟩))] ?_)
        refine WLo 3 (.pointer (some ⟨g3, 0, none⟩)) (.int .i64 kind) 77 (run_ld (aA.get 2 rfl) rfl) ?_
        refine WLd rfl (QXn (a0 _ _ ?_))
        refine WC.block ?_
        refine WCs (fun e4 a1 => ?_)
        refine WCg (WLq 2 [(78, .bool (kind == 10)), (79, .bool (kind == 10))] (WLd rfl (QXn (a1 _ _ ?_))))
        refine WC.know 78 (.bool (kind == 10)) (.bool false) rfl (congrArg Value.bool (by rw [show kind = 12 from by simpa using ai]; rfl)) ?_
        refine WCf rfl ?_
        refine WCs (fun e5 a2 => ?_)
        refine WCs (fun e6 a3 => ?_)
        refine WCg (WLq 2 [(91, .bool (kind == 12)), (92, .bool (kind == 12))] (WLd rfl (QXn (a3 _ _ ?_))))
        refine WC.know 91 (.bool (kind == 12)) (.bool true) rfl (congrArg Value.bool (by simpa using ai)) ?_
        refine WCt rfl ?_
        refine WC.skip ?_
        refine QXn (a2 _ _ ?_)
        refine WCt rfl ?_
        refine WCs (fun e7 a4 => ?_)
        refine WCs (fun e8 aP => ?_)
        refine WCg (WLq 3 [(96, .bool !bv263), (95, .bool !bv263), (94, .bool bv263)] ?_)
        refine WLa 96 (!bv263) rfl (fun aQ => ?_) (fun aQ => ?_)
        ·
         have cb : bv263 = false := by first | (simpa only [Bool.not_eq_true', Bool.not_eq_false'] using aQ) | simpa using aQ
         refine WLq 5 [(101, .bool true), (100, undef), (99, undef), (98, undef), (97, undef)] (WLd rfl (QXn (aP _ _ ?_)))
         refine WCt rfl ?_
         refine WCs (fun e9 bP => ?_)
         refine WCg (WLq 1 [(102, .int .i64 ag)] ?_)
         refine WL.newM aA (fun b => .slice (some ⟨b, 0, none⟩) 1 1) (.cells #[.int .i64 ag] 3) 103 (fun _ => by kernel_rfl) (fun dE dF d3 d4 bQ => ?_)
         refine WLc rfl rfl rfl rfl rfl (by kernel_rfl) (Make_n 14 (some ⟨dE, 0, none⟩) 1 1 [ag] dF (Rd.blk (bQ.get 5 rfl) (Go.Tw.encI_len _) rfl) rfl (by decide)) ?_
         rintro _ fa ⟨cc, cd, rfl, cV, bp⟩
         have bR := bQ.callN cV (own_ge bp) (own_lt bp)
         refine ⟨_, rfl, ?_⟩
         have cW := own_base (b' := 0) bp (fun _ _ => Nat.zero_le _)
         refine WLs (c' := #[.int .i64 14, .slice cc 1 cd, .slice none 0 0]) bR 3 40 g9 0 (.agg #[.int .i64 14, .slice cc 1 cd, .slice none 0 0]) (by kernel_rfl) rfl (by kernel_rfl) (fun fb cX ae => ?_)
         have cY := own_fr cW cX (bR.apartM 1 3 rfl rfl)
         refine WLq 1 [(9, .bool true)] (WLd rfl (QXn (bP _ _ ?_)))
         refine WC.ret ?_
         refine QXr ?_
         refine QXk ?_
         refine QXr ?_
         refine (hret' _ _ (.tuple #[.agg #[.int .i64 14, .slice cc 1 cd, .slice none 0 0], .bool true]) (fun a ha => ?_) ?_).1
         ·
          exact res_run ha ((ResR.cell rfl (run_ld (ae.get 3 rfl) rfl) (ResR.tmp rfl ResR.nil))) rfl
         clear hN hret hret' bP aP a4 a3 a2 a1 a0 aZ aY am av ar aC ak aB hK2
         have hok2_ : okIn from_ kind now nums := ⟨bs, aD, ne_of0 aa, by rw [head_of aa]; exact aE, au, of_decide_eq_true bu, (.inl (by simpa using ai))⟩
         have hhd_ := head_of aa
         obtain ⟨hbt0_, hbt1_⟩ := tim_b aE
         obtain ⟨hnw0_, hnw1_⟩ := tim_b aD
         have hz_ := RecvR.cls (L := L) hok2_ (.inl (by simpa using ai)) (.inl (by rw [aV]; exact cb))
         rw [hhd_] at hz_
         exact .inr ⟨_, _, _, _, _, _, rfl, ae.fr.mono (fun x_ h_ => by simp only [List.map_cons, List.map_nil, List.mem_cons, List.not_mem_nil, or_false] at h_ ⊢; rcases h_ with rfl | rfl; exact .inl rfl; exact .inr (.inl rfl)), ls_shut (ae.get 0 rfl) (ae.get 1 rfl) hm_ (rows_up hr_ ae.fr hpR_ hmR_) hok_ hne_ hpR_ hmR_, fun x_ h_ => .inl h_, hz_, own_base cY (newF_of ae 1 rfl (by intro x hx; simp at hx; rcases hx with rfl | rfl; exact lt_of_heap hp_; exact lt_of_heap hmb_) (by intro q_ hq_; simp at hq_; rcases hq_ with rfl | rfl; exact ae.notin 1 0 rfl rfl; exact ae.notin 1 1 rfl rfl)), (fun x_ hx_ hb_ => by
          simp only [List.mem_cons, List.append_nil] at hx_
          rcases hx_ with rfl | rfl | hx_
          ·
           exact ae.notin 1 0 rfl rfl hb_
          ·
           exact ae.notin 1 1 rfl rfl hb_
          ·
           exact absurd (hr_.lt x_ hx_) (Nat.not_lt.2 ((newF_of ae 1 rfl (by intro x hx; simp at hx; rcases hx with rfl | rfl; exact lt_of_heap hp_; exact lt_of_heap hmb_) (by intro q_ hq_; simp at hq_; rcases hq_ with rfl | rfl; exact ae.notin 1 0 rfl rfl; exact ae.notin 1 1 rfl rfl)) x_ hb_)))⟩
        ·
         have cb : bv263 = true := by first | (simpa only [Bool.not_eq_true', Bool.not_eq_false'] using aQ) | simpa using aQ
         refine WLq 1 [(97, .pointer (some ⟨aO, 0, none⟩))] ?_
         refine WLo 3 (.pointer (some ⟨aO, 0, none⟩)) (.int .i64 xv261.boot) 98 (run_ld (aA.get 4 rfl) rfl) ?_
         refine WLq 3 [(101, .bool (xv261.boot != ag)), (100, .bool (xv261.boot != ag)), (99, .int .i64 ag)] (WLd rfl (QXn (aP _ _ ?_)))
         refine WCa 101 (xv261.boot != ag) rfl (fun aR => ?_) (fun aR => ?_)
         ·
          have dG : xv261.boot ≠ ag := by simpa using aR
          refine WCt rfl ?_
          refine WCs (fun fc bS => ?_)
          refine WCg (WLq 1 [(102, .int .i64 ag)] ?_)
          refine WL.newM aA (fun b => .slice (some ⟨b, 0, none⟩) 1 1) (.cells #[.int .i64 ag] 3) 103 (fun _ => by kernel_rfl) (fun dH dI d5 d6 bT => ?_)
          refine WLc rfl rfl rfl rfl rfl (by kernel_rfl) (Make_n 14 (some ⟨dH, 0, none⟩) 1 1 [ag] dI (Rd.blk (bT.get 5 rfl) (Go.Tw.encI_len _) rfl) rfl (by decide)) ?_
          rintro _ fd ⟨ce, cf, rfl, cZ, bq⟩
          have bU := bT.callN cZ (own_ge bq) (own_lt bq)
          refine ⟨_, rfl, ?_⟩
          have c0 := own_base (b' := 0) bq (fun _ _ => Nat.zero_le _)
          refine WLs (c' := #[.int .i64 14, .slice ce 1 cf, .slice none 0 0]) bU 3 40 g9 0 (.agg #[.int .i64 14, .slice ce 1 cf, .slice none 0 0]) (by kernel_rfl) rfl (by kernel_rfl) (fun fe c1 af => ?_)
          have c3 := own_fr c0 c1 (bU.apartM 1 3 rfl rfl)
          refine WLq 1 [(9, .bool true)] (WLd rfl (QXn (bS _ _ ?_)))
          refine WC.ret ?_
          refine QXr ?_
          refine QXk ?_
          refine QXr ?_
          refine (hret' _ _ (.tuple #[.agg #[.int .i64 14, .slice ce 1 cf, .slice none 0 0], .bool true]) (fun a ha => ?_) ?_).1
          ·
           exact res_run ha ((ResR.cell rfl (run_ld (af.get 3 rfl) rfl) (ResR.tmp rfl ResR.nil))) rfl
          clear hN hret hret' bS aP a4 a3 a2 a1 a0 aZ aY am av ar aC ak aB hK2
          have hok2_ : okIn from_ kind now nums := ⟨bs, aD, ne_of0 aa, by rw [head_of aa]; exact aE, au, of_decide_eq_true bu, (.inl (by simpa using ai))⟩
          have hhd_ := head_of aa
          obtain ⟨hbt0_, hbt1_⟩ := tim_b aE
          obtain ⟨hnw0_, hnw1_⟩ := tim_b aD
          have hz_ := RecvR.cls (L := L) hok2_ (.inl (by simpa using ai)) (.inr (by rw [hxo_, hhd_]; simpa using aR))
          rw [hhd_] at hz_
          exact .inr ⟨_, _, _, _, _, _, rfl, af.fr.mono (fun x_ h_ => by simp only [List.map_cons, List.map_nil, List.mem_cons, List.not_mem_nil, or_false] at h_ ⊢; rcases h_ with rfl | rfl; exact .inl rfl; exact .inr (.inl rfl)), ls_shut (af.get 0 rfl) (af.get 1 rfl) hm_ (rows_up hr_ af.fr hpR_ hmR_) hok_ hne_ hpR_ hmR_, fun x_ h_ => .inl h_, hz_, own_base c3 (newF_of af 1 rfl (by intro x hx; simp at hx; rcases hx with rfl | rfl; exact lt_of_heap hp_; exact lt_of_heap hmb_) (by intro q_ hq_; simp at hq_; rcases hq_ with rfl | rfl; exact af.notin 1 0 rfl rfl; exact af.notin 1 1 rfl rfl)), (fun x_ hx_ hb_ => by
           simp only [List.mem_cons, List.append_nil] at hx_
           rcases hx_ with rfl | rfl | hx_
           ·
            exact af.notin 1 0 rfl rfl hb_
           ·
            exact af.notin 1 1 rfl rfl hb_
           ·
            exact absurd (hr_.lt x_ hx_) (Nat.not_lt.2 ((newF_of af 1 rfl (by intro x hx; simp at hx; rcases hx with rfl | rfl; exact lt_of_heap hp_; exact lt_of_heap hmb_) (by intro q_ hq_; simp at hq_; rcases hq_ with rfl | rfl; exact af.notin 1 0 rfl rfl; exact af.notin 1 1 rfl rfl)) x_ hb_)))⟩
         ·
          have dG : xv261.boot = ag := by simpa using aR
          refine WCf rfl (WC.skip (QXn (a4 _ _ ?_)))
          refine WCs (fun ff bV => ?_)
          refine WCg (WLq 2 [(106, .pointer (some ⟨aO, 1, none⟩)), (105, .int .i64 now)] ?_)
          refine WLs (c' := #[.int .i64 xv261.boot, .int .i64 now, .slice xv261.a xv261.vs.length xv261.c]) aA 4 3 aO 1 (.int .i64 now) (by kernel_rfl) rfl (by kernel_rfl) (fun fg c4 br => ?_)
          have c5 := own_fr cU c4 (aA.apartM 0 4 rfl rfl)
          refine WLd rfl (QXn (bV _ _ ?_))
          refine WCs (fun fh bW => ?_)
          refine WCs (fun fi bX => ?_)
          refine WCg (WLq 1 [(107, .pointer (some ⟨g3, 0, none⟩))] ?_)
          refine WLo 3 (.pointer (some ⟨g3, 0, none⟩)) (.int .i64 kind) 108 (run_ld (br.get 2 rfl) rfl) ?_
          refine WLq 1 [(109, .bool (kind == 12))] (WLd rfl (QXn (bX _ _ ?_)))
          refine WC.know 109 (.bool (kind == 12)) (.bool true) rfl (congrArg Value.bool (by simpa using ai)) ?_
          refine WCt rfl ?_
          refine WCg (WLq 2 [(111, .pointer (some ⟨aO, 2, none⟩)), (110, .slice bf ((nums.drop 1).length) bg)] ?_)
          refine WLs (c' := #[.int .i64 xv261.boot, .int .i64 now, .slice bf ((nums.drop 1).length) bg]) br 4 33 aO 2 (.slice bf ((nums.drop 1).length) bg) (by kernel_rfl) rfl (by kernel_rfl) (fun fj c6 c7 => ?_)
          have c8 := own_fr c5 c6 (br.apartM 0 4 rfl rfl)
          refine WLd rfl (QXn (bW _ _ ?_))
          refine WC.drawC c7 [mb] (by kernel_rfl) (fun fk c9 aS aq => ?_)
          have da := own_fr c8 c9 (by simp)
          refine WDq (NPb (NPt hN)) 0 112 (.pointer (some ⟨p, 0, none⟩)) aq ?_
          refine WDq (NPb (NPt hN)) 1 113 (.pointer (some ⟨p, 0, none⟩)) aq ?_
          refine WDq (NPb (NPt hN)) 2 114 (.pointer (some ⟨p, 0, none⟩)) aq ?_
          refine WDq (NPb (NPt hN)) 4 116 (.int .i64 from_) aq ?_
          refine WDm (NPb (NPt hN)) 3 87 (.pointer (some ⟨p, 0, none⟩)) (.map (some mb)) 115 (fun _ hS_ => run_ld (Fr.has hS_ (aS.get 0 rfl) (by simpa using aS.ne 0 1 rfl rfl (by decide))) rfl) aq ?_
          refine WD.sem 5 (Instr.loadAt 91 (.pointer (some ⟨aO, 0, none⟩))) 117 (.agg #[.int .i64 xv261.boot, .int .i64 now, .slice bf ((nums.drop 1).length) bg]) (by kernel_rfl) (by kernel_rfl) (run_ld (aS.get 4 rfl) rfl) aq ?_
          obtain ⟨fl, es360, cl361, db, bY, bZ, dd⟩ := putM_run (P := Try.prog) (ek := ekI) (ev := encO) aS 1 rfl (rfl : Program.underlying Try.prog 87 = some (.map 3 91)) keyI' hm_ from_ (⟨xv261.boot, now, bf, bg, (nums.drop 1)⟩ : One)
          have de := aq.trans bY (by simp)
          refine WD.semU 6 (Instr.mapUpdate 87 (.map (some mb)) (.int .i64 from_) (.agg #[.int .i64 xv261.boot, .int .i64 now, .slice bf ((nums.drop 1).length) bg])) (by kernel_rfl) (by kernel_rfl) db de ?_
          have df := own_fr da bY (aS.apartM 0 1 rfl rfl)
          refine WD.done (by kernel_rfl) ?_
          refine QXb ?_
          refine QXn (aZ _ _ ?_)
          refine WCs (fun fm b0 => ?_)
          refine WCg (WLq 1 [(118, .agg #[.int .i64 0, .slice none 0 0, .slice none 0 0])] ?_)
          refine WLs (c' := #[.int .i64 0, .slice none 0 0, .slice none 0 0]) bZ 3 40 g9 0 (.agg #[.int .i64 0, .slice none 0 0, .slice none 0 0]) (by kernel_rfl) rfl (by kernel_rfl) (fun fn dg ah => ?_)
          have b1 := own_fr df dg (bZ.apartM 0 3 rfl rfl)
          refine WLq 1 [(9, .bool false)] (WLd rfl (QXn (b0 _ _ ?_)))
          refine WC.ret ?_
          refine (hret' _ _ (.tuple #[.agg #[.int .i64 0, .slice none 0 0, .slice none 0 0], .bool false]) (fun a ha => ?_) ?_).1
          ·
           exact res_run ha ((ResR.cell rfl (run_ld (ah.get 3 rfl) rfl) (ResR.tmp rfl ResR.nil))) rfl
          clear hN hret hret' b0 bX bW bV aP a4 a3 a2 a1 a0 aZ aY am av ar aC ak aB hK2
          have hok2_ : okIn from_ kind now nums := ⟨bs, aD, ne_of0 aa, by rw [head_of aa]; exact aE, au, of_decide_eq_true bu, (.inl (by simpa using ai))⟩
          have hhd_ := head_of aa
          obtain ⟨hbt0_, hbt1_⟩ := tim_b aE
          obtain ⟨hnw0_, hnw1_⟩ := tim_b aD
          obtain ⟨hob0_, hob1_⟩ := one_bt hok_ from_
          rw [hxo_] at hob0_ hob1_
          have hz_ := RecvR.rts (L := L) hok2_ (by simpa using ai) (by rw [aV]; exact cb) (by rw [hxo_, hhd_]; simpa using aR) bf bg
          rw [hxo_] at hz_
          exact .inl ⟨_, _, rfl, ah.fr.mono (fun x_ h_ => by simp only [List.map_cons, List.map_nil, List.mem_cons, List.not_mem_nil, or_false] at h_ ⊢; rcases h_ with rfl | rfl; exact .inl rfl; exact .inr (.inl rfl)), recv_close (R2 := blk (.slice bf ((nums.drop 1).length) bg)) (ah.get 0 rfl) (ah.get 1 rfl) dd (rows_up hr_ ah.fr hpR_ hmR_) hk_ hok_ hok2_.mux ⟨hob0_, hob1_⟩ ⟨hnw0_, hnw1_⟩ hok2_.len (own_rd b1 (Go.Tw.encI_len _) (by decide)) (fun b_ off_ e_ => List.mem_append_right _ (blk_one e_)) (own_lt b1) hne_ hpR_ (ah.notin 0 0 rfl rfl) hmR_ (ah.notin 0 1 rfl rfl), (fun x_ h_ => by
           simp only [List.mem_cons, List.mem_append] at h_ ⊢
           rcases h_ with rfl | rfl | h_ | h_
           ·
            exact .inl (.inl rfl)
           ·
            exact .inl (.inr (.inl rfl))
           ·
            exact .inl (.inr (.inr h_))
           ·
            exact .inr ((newF_of ah 0 rfl (by intro x hx; simp at hx; rcases hx with rfl | rfl; exact lt_of_heap hp_; exact lt_of_heap hmb_) (by intro q_ hq_; simp at hq_; rcases hq_ with rfl | rfl; exact ah.notin 0 0 rfl rfl; exact ah.notin 0 1 rfl rfl)) x_ h_)), hz_⟩
     ·
      have al := bc.call bh
      refine ⟨_, rfl, ?_⟩
      have d7 := bv.trans bh (by simp)
      refine WLq 5 [(12, .bool false), (11, .slice none 0 0), (52, .bool false), (51, .slice none 0 0), (46, .tuple #[.slice none 0 0, .bool false])] (WLd rfl (QXn (ar _ _ ?_)))
      refine WCs (fun fo d8 => ?_)
      refine WCs (fun fp dh => ?_)
      refine WCg (WLq 13 [(65, .bool true), (64, undef), (63, undef), (62, undef), (61, undef), (60, undef), (59, undef), (58, undef), (57, undef), (56, undef), (55, .bool true), (54, .bool true), (53, .bool false)] (WLd rfl (QXn (dh _ _ ?_))))
      refine WCt rfl ?_
      refine WCs (fun fq di => ?_)
      refine WCg (WLq 1 [(66, .agg #[.int .i64 0, .slice none 0 0, .slice none 0 0])] ?_)
      refine WLs (c' := #[.int .i64 0, .slice none 0 0, .slice none 0 0]) al 3 40 g9 0 (.agg #[.int .i64 0, .slice none 0 0, .slice none 0 0]) (by kernel_rfl) rfl (by kernel_rfl) (fun fs d9 aT => ?_)
      refine WLq 1 [(9, .bool false)] (WLd rfl (QXn (di _ _ ?_)))
      refine WC.ret ?_
      refine QXr ?_
      refine (hret' _ _ (.tuple #[.agg #[.int .i64 0, .slice none 0 0, .slice none 0 0], .bool false]) (fun a ha => ?_) ?_).1
      ·
       exact res_run ha ((ResR.cell rfl (run_ld (aT.get 3 rfl) rfl) (ResR.tmp rfl ResR.nil))) rfl
      exact .inl ⟨_, _, rfl, aT.fr.mono (fun x_ h_ => by simp only [List.map_cons, List.map_nil, List.mem_cons, List.not_mem_nil, or_false] at h_ ⊢; rcases h_ with rfl | rfl; exact .inl rfl; exact .inr (.inl rfl)), ls_shut (aT.get 0 rfl) (aT.get 1 rfl) hm_ (rows_up hr_ aT.fr hpR_ hmR_) hok_ hne_ hpR_ hmR_, fun x_ h_ => .inl h_, .bad (fun q_ => au q_.vs)⟩

end Go.Proofs.Ytmahghppojbeoaa
