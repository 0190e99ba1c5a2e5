/- Contracts of functions of the program, each proved by a walk through its code; conditions stand in the statements. -/
import Derived.Test.YtimphmcoafapgaaFlP11
namespace Go.Proofs.Ytimphmcoafapgaa
set_option linter.unusedSimpArgs false
set_option linter.unusedVariables false
set_option linter.unusedSectionVars false
open Go Go.RowKit Go.Tw
set_option linter.unusedVariables false
set_option maxRecDepth 20000
set_option maxHeartbeats 4000000 in
theorem RPut_ct (F : List Nat) (p : Nat) (L : List Ent) (tr un : Int) (f : Flow) (dip ep now : Int) (w : World) (ht : dfAt w F p L tr un) (hbf : bdF f) (hbl : ∀ x ∈ L, bdF x.flow) (hlm : L.length ≤ 1000000) (hun0 : 0 ≤ un) : Calls Try.prog 19 #[.pointer (some ⟨p, 0, none⟩), .agg #[.int .i64 f.proto, .int .u32 f.src, .int .i64 f.sport, .int .u32 f.dst, .int .i64 f.dport], .int .u32 dip, .int .i64 ep, .int .i64 now] w fun e w' => ∃ L2 o fd er F2, e = .returned (.tuple #[.agg #[.int .i64 o.flow.proto, .int .u32 o.flow.src, .int .i64 o.flow.sport, .int .u32 o.flow.dst, .int .i64 o.flow.dport, .int .u32 o.dip, .int .i64 o.epoch, .bool o.trusted, .bool o.closing, .int .i64 o.last], .bool fd, .int .i64 er]) ∧ Fr w w' F ∧ dfAt w' F2 p L2 tr un ∧ (∀ x ∈ F2, x ∈ F ∨ w.heap.size ≤ x) ∧ RPut L un f dip ep now L2 o fd er := by
  refine enterD (n := 187) Try.func19 rfl rfl (Nat.le_of_ble_eq_true rfl) ?_
  intro Q0 hN hret hret'
  have ht0 := ht
  obtain ⟨A1, c1, hp_, ho_, rfl, hn_⟩ := ht
  have hC := Cx.openR hp_ (own_lt ho_) hn_
  have hmx_ := own_max ho_
  refine WC.seq (fun K1 hK2 => ?_)
  refine WC.region ?_
  refine WL.newM hC (fun b => .pointer (some ⟨b, 0, none⟩)) (.cells #[.int .i64 f.proto, .int .u32 f.src, .int .i64 f.sport, .int .u32 f.dst, .int .i64 f.dport] 32) 6 (fun _ => by kernel_rfl) (fun g3 w4 hb7 hF5 hC6 => ?_)
  have ho8 := own_fr ho_ hF5 (by simp)
  have hf9 := (Fr.refl w []).trans hF5 (by simp)
  refine WL.newM hC6 (fun b => .pointer (some ⟨b, 0, none⟩)) (.cells #[.int .i64 0, .int .u32 0, .int .i64 0, .int .u32 0, .int .i64 0, .int .u32 0, .int .i64 0, .bool false, .bool false, .int .i64 0] 34) 10 (fun _ => by kernel_rfl) (fun g10 w11 hb14 hF12 hC13 => ?_)
  have ho15 := own_fr ho8 hF12 (by simp)
  have hf16 := hf9.trans hF12 (by simp)
  refine WL.runs 2 [(12, .int .i64 0), (11, .bool false)] (fun _ => by kernel_rfl) ?_
  refine WL.done rfl ?_
  refine QX.then_normal (hK2 _ _ ?_)
  refine WC.seq (fun K17 hK18 => ?_)
  refine WC.region ?_
  refine WL.runs 1 [(26, .agg #[.int .i64 0, .int .u32 0, .int .i64 0, .int .u32 0, .int .i64 0, .int .u32 0, .int .i64 0, .bool false, .bool false, .int .i64 0])] (fun _ => by kernel_rfl) ?_
  refine WL.newM hC13 (fun b => .pointer (some ⟨b, 0, none⟩)) (.cells #[.int .i64 0, .int .u32 0, .int .i64 0, .int .u32 0, .int .i64 0, .int .u32 0, .int .i64 0, .bool false, .bool false, .int .i64 0] 34) 13 (fun _ => by kernel_rfl) (fun g19 w20 hb23 hF21 hC22 => ?_)
  have ho24 := own_fr ho15 hF21 (by simp)
  have hf25 := hf16.trans hF21 (by simp)
  refine WL.storeM (c' := #[.int .i64 0, .int .u32 0, .int .i64 0, .int .u32 0, .int .i64 0, .int .u32 0, .int .i64 0, .bool false, .bool false, .int .i64 0]) hC22 3 34 g19 0 (.agg #[.int .i64 0, .int .u32 0, .int .i64 0, .int .u32 0, .int .i64 0, .int .u32 0, .int .i64 0, .bool false, .bool false, .int .i64 0]) (by kernel_rfl) rfl (by kernel_rfl) (fun w26 hF28 hC29 => ?_)
  have ho30 := own_fr ho24 hF28 (hC22.apartM 0 3 rfl rfl)
  refine WL.done rfl ?_
  refine QX.then_normal (hK18 _ _ ?_)
  refine WC.seq (fun K31 hK32 => ?_)
  refine WC.seq (fun K33 hK34 => ?_)
  refine WC.region ?_
  refine WL.load 32 (.pointer (some ⟨g3, 0, none⟩)) (.agg #[.int .i64 f.proto, .int .u32 f.src, .int .i64 f.sport, .int .u32 f.dst, .int .i64 f.dport]) 27 (by kernel_rfl) (run_ld (hC29.get 1 rfl) rfl) ?_
  refine WL.call rfl rfl rfl rfl rfl (by kernel_rfl) (Good1_ct f w26) ?_
  rintro _ w36 ⟨rfl, hF35⟩
  refine ⟨_, rfl, ?_⟩
  have hC37 := hC29.call hF35
  have ho38 := own_fr ho30 hF35 (by simp)
  refine WL.runs 1 [(29, .bool (!(goodF f)))] (fun _ => by kernel_rfl) ?_
  refine WL.done rfl ?_
  refine QX.then_normal (hK34 _ _ ?_)
  refine WC.test_at 29 (!(goodF f)) rfl (fun t39b => ?_) (fun t39b => ?_)
  · -- (!(goodF f)) = true: true
    have t39 : (goodF f) = false := by first | (simpa only [Bool.not_eq_true', Bool.not_eq_false'] using t39b) | simpa using t39b
    refine WC.cond_true rfl ?_
    refine WC.seq (fun K40 hK41 => ?_)
    refine WC.region ?_
    refine WL.load 34 (.pointer (some ⟨g19, 0, none⟩)) (.agg #[.int .i64 0, .int .u32 0, .int .i64 0, .int .u32 0, .int .i64 0, .int .u32 0, .int .i64 0, .bool false, .bool false, .int .i64 0]) 30 (by kernel_rfl) (run_ld (hC37.get 3 rfl) rfl) ?_
    refine WL.storeM (c' := #[.int .i64 0, .int .u32 0, .int .i64 0, .int .u32 0, .int .i64 0, .int .u32 0, .int .i64 0, .bool false, .bool false, .int .i64 0]) hC37 2 34 g10 0 (.agg #[.int .i64 0, .int .u32 0, .int .i64 0, .int .u32 0, .int .i64 0, .int .u32 0, .int .i64 0, .bool false, .bool false, .int .i64 0]) (by kernel_rfl) rfl (by kernel_rfl) (fun w42 hF44 hC45 => ?_)
    have ho46 := own_fr ho38 hF44 (hC37.apartM 0 2 rfl rfl)
    refine WL.runs 2 [(12, .int .i64 9), (11, .bool false)] (fun _ => by kernel_rfl) ?_
    refine WL.done rfl ?_
    refine QX.then_normal (hK41 _ _ ?_)
    refine WC.ret ?_
    refine QX.then_ret ?_
    refine (hret' _ _ (.tuple #[.agg #[.int .i64 0, .int .u32 0, .int .i64 0, .int .u32 0, .int .i64 0, .int .u32 0, .int .i64 0, .bool false, .bool false, .int .i64 0], .bool false, .int .i64 9]) (fun a ha => ?_) ?_).1
    · exact res_run ha ((ResR.cell rfl (run_ld (hC45.get 2 rfl) rfl) (ResR.tmp rfl (ResR.tmp rfl ResR.nil)))) rfl
    clear hN hret hret' hK41 hK34 hK32 hK18 hK2
    exact ⟨_, zeroE, false, 9, _, rfl, hC45.fr, df_mk hC45 0 0 rfl rfl ho46, fun x_ hx_ => (List.mem_cons.1 hx_).elim (fun e_ => by subst e_; exact .inl List.mem_cons_self) (fun h_ => hC45.ownF _ (List.mem_of_getElem? (show _[0]? = some (blk (.slice A1 L.length c1)) from rfl)) x_ h_), .form t39⟩
  · -- (!(goodF f)) = true: false
    have t39 : (goodF f) = true := by first | (simpa only [Bool.not_eq_true', Bool.not_eq_false'] using t39b) | simpa using t39b
    refine WC.cond_false rfl ?_
    refine WC.skip ?_
    refine QX.then_normal (hK32 _ _ ?_)
    refine WC.seq (fun K47 hK48 => ?_)
    refine WC.seq (fun K49 hK50 => ?_)
    refine WC.region ?_
    refine WL.runs 1 [(31, .int .i64 now)] (fun _ => by kernel_rfl) ?_
    refine WL.call rfl rfl rfl rfl rfl (by kernel_rfl) (time_ct now w36) ?_
    rintro _ w52 ⟨rfl, hF51⟩
    refine ⟨_, rfl, ?_⟩
    have hC53 := hC37.call hF51
    have ho54 := own_fr ho38 hF51 (by simp)
    refine WL.runs 1 [(33, .bool (!(goodTime now)))] (fun _ => by kernel_rfl) ?_
    refine WL.done rfl ?_
    refine QX.then_normal (hK50 _ _ ?_)
    refine WC.test_at 33 (!(goodTime now)) rfl (fun t55b => ?_) (fun t55b => ?_)
    · -- (!(goodTime now)) = true: true
      have t55 : (goodTime now) = false := by first | (simpa only [Bool.not_eq_true', Bool.not_eq_false'] using t55b) | simpa using t55b
      refine WC.cond_true rfl ?_
      refine WC.seq (fun K56 hK57 => ?_)
      refine WC.region ?_
      refine WL.load 34 (.pointer (some ⟨g19, 0, none⟩)) (.agg #[.int .i64 0, .int .u32 0, .int .i64 0, .int .u32 0, .int .i64 0, .int .u32 0, .int .i64 0, .bool false, .bool false, .int .i64 0]) 34 (by kernel_rfl) (run_ld (hC53.get 3 rfl) rfl) ?_
      refine WL.storeM (c' := #[.int .i64 0, .int .u32 0, .int .i64 0, .int .u32 0, .int .i64 0, .int .u32 0, .int .i64 0, .bool false, .bool false, .int .i64 0]) hC53 2 34 g10 0 (.agg #[.int .i64 0, .int .u32 0, .int .i64 0, .int .u32 0, .int .i64 0, .int .u32 0, .int .i64 0, .bool false, .bool false, .int .i64 0]) (by kernel_rfl) rfl (by kernel_rfl) (fun w58 hF60 hC61 => ?_)
      have ho62 := own_fr ho54 hF60 (hC53.apartM 0 2 rfl rfl)
      refine WL.runs 2 [(12, .int .i64 4), (11, .bool false)] (fun _ => by kernel_rfl) ?_
      refine WL.done rfl ?_
      refine QX.then_normal (hK57 _ _ ?_)
      refine WC.ret ?_
      refine QX.then_ret ?_
      refine (hret' _ _ (.tuple #[.agg #[.int .i64 0, .int .u32 0, .int .i64 0, .int .u32 0, .int .i64 0, .int .u32 0, .int .i64 0, .bool false, .bool false, .int .i64 0], .bool false, .int .i64 4]) (fun a ha => ?_) ?_).1
      · exact res_run ha ((ResR.cell rfl (run_ld (hC61.get 2 rfl) rfl) (ResR.tmp rfl (ResR.tmp rfl ResR.nil)))) rfl
      clear hN hret hret' hK57 hK50 hK48 hK34 hK32 hK18 hK2
      exact ⟨_, zeroE, false, 4, _, rfl, hC61.fr, df_mk hC61 0 0 rfl rfl ho62, fun x_ hx_ => (List.mem_cons.1 hx_).elim (fun e_ => by subst e_; exact .inl List.mem_cons_self) (fun h_ => hC61.ownF _ (List.mem_of_getElem? (show _[0]? = some (blk (.slice A1 L.length c1)) from rfl)) x_ h_), .range t39 t55⟩
    · -- (!(goodTime now)) = true: false
      have t55 : (goodTime now) = true := by first | (simpa only [Bool.not_eq_true', Bool.not_eq_false'] using t55b) | simpa using t55b
      refine WC.cond_false rfl ?_
      refine WC.skip ?_
      refine QX.then_normal (hK48 _ _ ?_)
      refine WC.seq (fun K63 hK64 => ?_)
      refine WC.region ?_
      refine WL.runs 1 [(35, .pointer (some ⟨p, 0, none⟩))] (fun _ => by kernel_rfl) ?_
      refine WL.load 32 (.pointer (some ⟨g3, 0, none⟩)) (.agg #[.int .i64 f.proto, .int .u32 f.src, .int .i64 f.sport, .int .u32 f.dst, .int .i64 f.dport]) 36 (by kernel_rfl) (run_ld (hC53.get 1 rfl) rfl) ?_
      refine WL.call rfl rfl rfl rfl rfl (by kernel_rfl) (RFind_ct _ p L tr un f w52 (df_mk hC53 0 0 rfl rfl ho54)) ?_
      rintro _ w73 ⟨r75, rfl, hF72, hfr71⟩
      have hC74 := hC53.call hF72
      have ho76 := own_fr ho54 hF72 (by simp)
      rcases hfr71 with hnn70 | ⟨i65, x66, hx67, hfx68, hpr69⟩
      · -- found: False
        refine ⟨_, rfl, ?_⟩
        refine WL.runs 1 [(14, .int .i64 (-1))] (fun _ => by kernel_rfl) ?_
        refine WL.done rfl ?_
        refine QX.then_normal (hK64 _ _ ?_)
        refine WC.seq (fun K77 hK78 => ?_)
        refine WC.seq (fun K79 hK80 => ?_)
        refine WC.region ?_
        refine WL.runs 2 [(39, .bool false), (38, .int .i64 (-1))] (fun _ => by kernel_rfl) ?_
        refine WL.done rfl ?_
        refine QX.then_normal (hK80 _ _ ?_)
        refine WC.cond_false rfl ?_
        refine WC.skip ?_
        refine QX.then_normal (hK78 _ _ ?_)
        refine WC.seq (fun K81 hK82 => ?_)
        refine WC.seq (fun K83 hK84 => ?_)
        refine WC.region ?_
        refine WL.runs 3 [(64, .pointer (some ⟨p, 2, none⟩)), (63, .pointer (some ⟨p, 0, none⟩)), (62, .pointer (some ⟨p, 0, none⟩))] (fun _ => by kernel_rfl) ?_
        refine WL.load 3 (.pointer (some ⟨p, 2, none⟩)) (.int .i64 un) 65 (by kernel_rfl) (run_ld (hC74.get 0 rfl) rfl) ?_
        refine WL.runs 1 [(66, .bool (un == 0))] (fun _ => by kernel_rfl) ?_
        refine WL.done rfl ?_
        refine QX.then_normal (hK84 _ _ ?_)
        refine WC.test_at 66 (un == 0) rfl (fun t85b => ?_) (fun t85b => ?_)
        · -- un = 0: true
          have t85 : un = 0 := by simpa using t85b
          refine WC.cond_true rfl ?_
          refine WC.seq (fun K86 hK87 => ?_)
          refine WC.region ?_
          refine WL.load 34 (.pointer (some ⟨g19, 0, none⟩)) (.agg #[.int .i64 0, .int .u32 0, .int .i64 0, .int .u32 0, .int .i64 0, .int .u32 0, .int .i64 0, .bool false, .bool false, .int .i64 0]) 67 (by kernel_rfl) (run_ld (hC74.get 3 rfl) rfl) ?_
          refine WL.storeM (c' := #[.int .i64 0, .int .u32 0, .int .i64 0, .int .u32 0, .int .i64 0, .int .u32 0, .int .i64 0, .bool false, .bool false, .int .i64 0]) hC74 2 34 g10 0 (.agg #[.int .i64 0, .int .u32 0, .int .i64 0, .int .u32 0, .int .i64 0, .int .u32 0, .int .i64 0, .bool false, .bool false, .int .i64 0]) (by kernel_rfl) rfl (by kernel_rfl) (fun w88 hF90 hC91 => ?_)
          have ho92 := own_fr ho76 hF90 (hC74.apartM 0 2 rfl rfl)
          refine WL.runs 2 [(12, .int .i64 5), (11, .bool false)] (fun _ => by kernel_rfl) ?_
          refine WL.done rfl ?_
          refine QX.then_normal (hK87 _ _ ?_)
          refine WC.ret ?_
          refine QX.then_ret ?_
          refine (hret' _ _ (.tuple #[.agg #[.int .i64 0, .int .u32 0, .int .i64 0, .int .u32 0, .int .i64 0, .int .u32 0, .int .i64 0, .bool false, .bool false, .int .i64 0], .bool false, .int .i64 5]) (fun a ha => ?_) ?_).1
          · exact res_run ha ((ResR.cell rfl (run_ld (hC91.get 2 rfl) rfl) (ResR.tmp rfl (ResR.tmp rfl ResR.nil)))) rfl
          clear hN hret hret' hK87 hK84 hK82 hK80 hK78 hK64 hK50 hK48 hK34 hK32 hK18 hK2
          exact ⟨_, zeroE, false, 5, _, rfl, hC91.fr, df_mk hC91 0 0 rfl rfl ho92, fun x_ hx_ => (List.mem_cons.1 hx_).elim (fun e_ => by subst e_; exact .inl List.mem_cons_self) (fun h_ => hC91.ownF _ (List.mem_of_getElem? (show _[0]? = some (blk (.slice A1 L.length c1)) from rfl)) x_ h_), .empty t39 t55 hnn70 (by simpa using t85b)⟩
        · -- un = 0: false
          have t85 : ¬ (un = 0) := by simpa using t85b
          refine WC.cond_false rfl ?_
          refine WC.skip ?_
          refine QX.then_normal (hK82 _ _ ?_)
          refine WC.seq (fun K93 hK94 => ?_)
          refine WC.region ?_
          refine WL.runs 1 [(69, .pointer (some ⟨p, 0, none⟩))] (fun _ => by kernel_rfl) ?_
          refine WL.call rfl rfl rfl rfl rfl (by kernel_rfl) (RLen_ct _ p L tr un w73 (df_mk hC74 0 0 rfl rfl ho76)) ?_
          rintro _ w96 ⟨rfl, hF95⟩
          refine ⟨_, rfl, ?_⟩
          have hC97 := hC74.call hF95
          have ho98 := own_fr ho76 hF95 (by simp)
          refine WL.runs 5 [(17, .int .i64 ((L.length : Int) - cntE L)), (16, .int .i64 (cntE L : Int)), (72, .int .i64 ((L.length : Int) - cntE L)), (71, .int .i64 (cntE L : Int)), (68, .tuple #[.int .i64 (cntE L : Int), .int .i64 ((L.length : Int) - cntE L)])] (fun _ => by kernel_rfl) ?_
          refine WL.done rfl ?_
          refine QX.then_normal (hK94 _ _ ?_)
          refine WC.seq (fun K99 hK100 => ?_)
          refine WC.region ?_
          refine WL.load 34 (.pointer (some ⟨g19, 0, none⟩)) (.agg #[.int .i64 0, .int .u32 0, .int .i64 0, .int .u32 0, .int .i64 0, .int .u32 0, .int .i64 0, .bool false, .bool false, .int .i64 0]) 73 (by kernel_rfl) (run_ld (hC97.get 3 rfl) rfl) ?_
          refine WL.newM hC97 (fun b => .pointer (some ⟨b, 0, none⟩)) (.cells #[.int .i64 0, .int .u32 0, .int .i64 0, .int .u32 0, .int .i64 0, .int .u32 0, .int .i64 0, .bool false, .bool false, .int .i64 0] 34) 18 (fun _ => by kernel_rfl) (fun g101 w102 hb105 hF103 hC104 => ?_)
          have ho106 := own_fr ho98 hF103 (by simp)
          refine WL.storeM (c' := #[.int .i64 0, .int .u32 0, .int .i64 0, .int .u32 0, .int .i64 0, .int .u32 0, .int .i64 0, .bool false, .bool false, .int .i64 0]) hC104 4 34 g101 0 (.agg #[.int .i64 0, .int .u32 0, .int .i64 0, .int .u32 0, .int .i64 0, .int .u32 0, .int .i64 0, .bool false, .bool false, .int .i64 0]) (by kernel_rfl) rfl (by kernel_rfl) (fun w107 hF109 hC110 => ?_)
          have ho111 := own_fr ho106 hF109 (hC104.apartM 0 4 rfl rfl)
          refine WL.done rfl ?_
          refine QX.then_normal (hK100 _ _ ?_)
          refine WC.seq (fun K112 hK113 => ?_)
          refine WC.region ?_
          refine WL.runs 4 [(77, .pointer (some ⟨p, 2, none⟩)), (76, .pointer (some ⟨p, 0, none⟩)), (75, .pointer (some ⟨p, 0, none⟩)), (74, .int .i64 ((L.length : Int) - cntE L))] (fun _ => by kernel_rfl) ?_
          refine WL.load 3 (.pointer (some ⟨p, 2, none⟩)) (.int .i64 un) 78 (by kernel_rfl) (run_ld (hC110.get 0 rfl) rfl) ?_
          refine WL.runs 2 [(19, .bool (decide (((L.length : Int) - cntE L) ≥ un))), (79, .bool (decide (((L.length : Int) - cntE L) ≥ un)))] (fun _ => by kernel_rfl) ?_
          refine WL.done rfl ?_
          refine QX.then_normal (hK113 _ _ ?_)
          refine WC.seqI (fun E_ w_ => ∃ (fl : Bool) (o3 : Ent) (L3 : List Ent) (A3 : Option Addr) (n3 c3 : Nat), E_ = [(0, .pointer (some ⟨p, 0, none⟩)), (1, .agg #[.int .i64 f.proto, .int .u32 f.src, .int .i64 f.sport, .int .u32 f.dst, .int .i64 f.dport]), (2, .int .u32 dip), (3, .int .i64 ep), (4, .int .i64 now), (6, .pointer (some ⟨g3, 0, none⟩)), (10, .pointer (some ⟨g10, 0, none⟩)), (11, .bool false), (12, .int .i64 0), (13, .pointer (some ⟨g19, 0, none⟩)), (18, .pointer (some ⟨g101, 0, none⟩)), (19, .bool fl)] ∧ Cx w (p :: blk (.slice A1 L.length c1)) w_ [(p, .cells #[.slice A3 n3 c3, .int .i64 tr, .int .i64 un] 51), (g3, .cells #[.int .i64 f.proto, .int .u32 f.src, .int .i64 f.sport, .int .u32 f.dst, .int .i64 f.dport] 32), (g10, .cells #[.int .i64 0, .int .u32 0, .int .i64 0, .int .u32 0, .int .i64 0, .int .u32 0, .int .i64 0, .bool false, .bool false, .int .i64 0] 34), (g19, .cells #[.int .i64 0, .int .u32 0, .int .i64 0, .int .u32 0, .int .i64 0, .int .u32 0, .int .i64 0, .bool false, .bool false, .int .i64 0] 34), (g101, .cells #[.int .i64 o3.flow.proto, .int .u32 o3.flow.src, .int .i64 o3.flow.sport, .int .u32 o3.flow.dst, .int .i64 o3.flow.dport, .int .u32 o3.dip, .int .i64 o3.epoch, .bool o3.trusted, .bool o3.closing, .int .i64 o3.last] 34)] [blk (.slice A3 n3 c3)] ∧ World.ownsRow w_ 0 34 10 (.slice A3 n3 c3) n3 (L3.flatMap cellsE) ∧ (leftE o3 fl L L3 un)) (fun K114 hK115 => ?_) ?_
          · skip
            refine WC.seq (fun K119 hK120 => ?_)
            refine WC.region ?_
            refine WL.runs 1 [(80, .bool (decide (((L.length : Int) - cntE L) ≥ un)))] (fun _ => by kernel_rfl) ?_
            refine WL.done rfl ?_
            refine QX.then_normal (hK120 _ _ ?_)
            refine WC.test_at 80 (decide (((L.length : Int) - cntE L) ≥ un)) rfl (fun t121b => ?_) (fun t121b => ?_)
            · -- ((L.length : Int) - cntE L) ≥ un: true
              have t121 : un ≤ ((L.length : Int) - cntE L) := by have q_ := of_decide_eq_true t121b; omega
              refine WC.cond_true rfl ?_
              refine WC.seq (fun K122 hK123 => ?_)
              refine WC.region ?_
              refine WL.runs 1 [(20, .int .i64 (-1))] (fun _ => by kernel_rfl) ?_
              refine WL.done rfl ?_
              refine QX.then_normal (hK123 _ _ ?_)
              refine WC.seq (fun K124 hK125 => ?_)
              refine WC.seq (fun K126 hK127 => ?_)
              refine WC.region ?_
              refine WL.runs 1 [(21, .int .i64 0)] (fun _ => by kernel_rfl) ?_
              refine WL.done rfl ?_
              refine QX.then_normal (hK127 _ _ ?_)
              refine WC.block ?_
              refine WC.loop (fun m_ E_ w_ => ∃ (k b : Nat), m_ = L.length - k ∧ E_ = [(0, .pointer (some ⟨p, 0, none⟩)), (1, .agg #[.int .i64 f.proto, .int .u32 f.src, .int .i64 f.sport, .int .u32 f.dst, .int .i64 f.dport]), (2, .int .u32 dip), (3, .int .i64 ep), (4, .int .i64 now), (6, .pointer (some ⟨g3, 0, none⟩)), (10, .pointer (some ⟨g10, 0, none⟩)), (11, .bool false), (12, .int .i64 0), (13, .pointer (some ⟨g19, 0, none⟩)), (18, .pointer (some ⟨g101, 0, none⟩)), (19, .bool (decide (((L.length : Int) - cntE L) ≥ un))), (20, .int .i64 ((b : Int) - 1)), (21, .int .i64 (k : Int))] ∧ Cx w (p :: blk (.slice A1 L.length c1)) w_ [(p, .cells #[.slice A1 L.length c1, .int .i64 tr, .int .i64 un] 51), (g3, .cells #[.int .i64 f.proto, .int .u32 f.src, .int .i64 f.sport, .int .u32 f.dst, .int .i64 f.dport] 32), (g10, .cells #[.int .i64 0, .int .u32 0, .int .i64 0, .int .u32 0, .int .i64 0, .int .u32 0, .int .i64 0, .bool false, .bool false, .int .i64 0] 34), (g19, .cells #[.int .i64 0, .int .u32 0, .int .i64 0, .int .u32 0, .int .i64 0, .int .u32 0, .int .i64 0, .bool false, .bool false, .int .i64 0] 34), (g101, .cells #[.int .i64 0, .int .u32 0, .int .i64 0, .int .u32 0, .int .i64 0, .int .u32 0, .int .i64 0, .bool false, .bool false, .int .i64 0] 34)] [blk (.slice A1 L.length c1)] ∧ World.ownsRow w_ 0 34 10 (.slice A1 L.length c1) L.length (L.flatMap cellsE) ∧ (k ≤ L.length ∧ minU L k b ∧ b ≤ k)) ⟨_, _, ⟨0, 0, rfl, rfl, hC110, ho111, Nat.zero_le _, minU_0 L, Nat.le_refl _⟩, sub_of ⟨rfl, rfl, rfl, rfl, rfl, rfl, rfl, rfl, rfl, rfl, rfl, rfl, rfl, rfl, trivial⟩⟩ (fun m131 E_ w132 K128 hK129 hI130 => ?_)
              obtain ⟨k, b, rfl, rfl, hC133, row_m131, hk, hmu, hbk⟩ := hI130
              refine WC.seq (fun K134 hK135 => ?_)
              refine WC.seq (fun K136 hK137 => ?_)
              refine WC.region ?_
              refine WL.runs 4 [(84, .pointer (some ⟨p, 0, none⟩)), (83, .pointer (some ⟨p, 0, none⟩)), (82, .pointer (some ⟨p, 0, none⟩)), (81, .int .i64 (k : Int))] (fun _ => by kernel_rfl) ?_
              refine WL.load 44 (.pointer (some ⟨p, 0, none⟩)) (.slice A1 L.length c1) 85 (by kernel_rfl) (run_ld (hC133.get 0 rfl) rfl) ?_
              refine WL.runs 2 [(87, .bool (decide ((k : Int) < (L.length : Int)))), (86, .int .i64 (L.length : Int))] (fun _ => by kernel_rfl) ?_
              refine WL.done rfl ?_
              refine QX.then_normal (hK137 _ _ ?_)
              refine WC.test_at 87 (decide ((k : Int) < (L.length : Int))) rfl (fun t138b => ?_) (fun t138b => ?_)
              · -- (k : Int) < (L.length : Int): true
                have t138 : (k : Int) < (L.length : Int) := by have q_ := of_decide_eq_true t138b; omega
                refine WC.cond_true rfl ?_
                refine WC.skip ?_
                refine QX.then_normal (hK135 _ _ ?_)
                refine WC.seq (fun K139 hK140 => ?_)
                refine WC.block ?_
                refine WC.seq (fun K141 hK142 => ?_)
                refine WC.drawC hC133 [] (by kernel_rfl) (fun w143 hF144 hC145 hS146 => ?_)
                have ho147 := own_fr row_m131 hF144 (by simp)
                refine WD.pure (NoPanic.then (NoPanic.block (NoPanic.then (NoPanic.then (NoPanic.block (NoPanic.then (NoPanic.then hN))))))) 0 90 (.pointer (some ⟨p, 0, none⟩)) (by kernel_rfl) (fun _ => by kernel_rfl) hS146 ?_
                refine WD.pure (NoPanic.then (NoPanic.block (NoPanic.then (NoPanic.then (NoPanic.block (NoPanic.then (NoPanic.then hN))))))) 1 91 (.pointer (some ⟨p, 0, none⟩)) (by kernel_rfl) (fun _ => by kernel_rfl) hS146 ?_
                refine WD.pure (NoPanic.then (NoPanic.block (NoPanic.then (NoPanic.then (NoPanic.block (NoPanic.then (NoPanic.then hN))))))) 2 92 (.pointer (some ⟨p, 0, none⟩)) (by kernel_rfl) (fun _ => by kernel_rfl) hS146 ?_
                refine WD.pure (NoPanic.then (NoPanic.block (NoPanic.then (NoPanic.then (NoPanic.block (NoPanic.then (NoPanic.then hN))))))) 4 94 (.int .i64 (k : Int)) (by kernel_rfl) (fun _ => by kernel_rfl) hS146 ?_
                refine WD.load (NoPanic.then (NoPanic.block (NoPanic.then (NoPanic.then (NoPanic.block (NoPanic.then (NoPanic.then hN))))))) 3 44 (.pointer (some ⟨p, 0, none⟩)) (.slice A1 L.length c1) 93 (by kernel_rfl) (by kernel_rfl) (fun _ hS_ => run_ld (Fr.has hS_ (hC145.get 0 rfl) (by simp)) rfl) hS146 ?_
                have hn152 := own_count cellsE_len (by decide) ho147
                obtain ⟨e148, he149⟩ := get_some (xs := L) (i := k) (by omega)
                obtain ⟨b150, hA151⟩ := own_addr (by decide) cellsE_len ho147 he149
                refine WD.index (NoPanic.then (NoPanic.block (NoPanic.then (NoPanic.then (NoPanic.block (NoPanic.then (NoPanic.then hN))))))) 5 A1 L.length c1 95 .i64 (k : Int) b150 0 k 10 (by kernel_rfl) (by kernel_rfl) hA151 (by omega) (by omega) (k * 10) (by first | (simp; done) | omega) hS146 ?_
                refine WD.pure (NoPanic.then (NoPanic.block (NoPanic.then (NoPanic.then (NoPanic.block (NoPanic.then (NoPanic.then hN))))))) 6 96 (.pointer (some ⟨b150, k * 10 + 7, none⟩)) (by kernel_rfl) (fun _ => by kernel_rfl) hS146 ?_
                refine WD.load (NoPanic.then (NoPanic.block (NoPanic.then (NoPanic.then (NoPanic.block (NoPanic.then (NoPanic.then hN))))))) 7 4 (.pointer (some ⟨b150, k * 10 + 7, none⟩)) (.bool e148.trusted) 97 (by kernel_rfl) (by kernel_rfl) (fun _ hS_ => run_load1 rfl (by simpa [Nat.add_assoc] using Rd.cell (own_rd (own_fr ho147 hS_ (by simp)) cellsE_len (by decide)) hA151 he149 7 _ rfl)) hS146 ?_
                refine WD.pure (NoPanic.then (NoPanic.block (NoPanic.then (NoPanic.then (NoPanic.block (NoPanic.then (NoPanic.then hN))))))) 8 98 (.bool !e148.trusted) (by kernel_rfl) (fun _ => by kernel_rfl) hS146 ?_
                refine WD.pure (NoPanic.then (NoPanic.block (NoPanic.then (NoPanic.then (NoPanic.block (NoPanic.then (NoPanic.then hN))))))) 9 99 (.bool !e148.trusted) (by kernel_rfl) (fun _ => by kernel_rfl) hS146 ?_
                refine WD.test_at 99 (!e148.trusted) rfl (fun t153b => ?_) (fun t153b => ?_)
                · -- !e148.trusted = true: true
                  have t153 : e148.trusted = false := by first | (simpa only [Bool.not_eq_true', Bool.not_eq_false'] using t153b) | simpa using t153b
                  refine WD.pure (NoPanic.then (NoPanic.block (NoPanic.then (NoPanic.then (NoPanic.block (NoPanic.then (NoPanic.then hN))))))) 10 100 (.int .i64 ((b : Int) - 1)) (by kernel_rfl) (fun _ => by kernel_rfl) hS146 ?_
                  refine WD.pure (NoPanic.then (NoPanic.block (NoPanic.then (NoPanic.then (NoPanic.block (NoPanic.then (NoPanic.then hN))))))) 11 101 (.bool (decide (((b : Int) - 1) < 0))) (by kernel_rfl) (fun _ => by kernel_rfl) hS146 ?_
                  refine WD.pure (NoPanic.then (NoPanic.block (NoPanic.then (NoPanic.then (NoPanic.block (NoPanic.then (NoPanic.then hN))))))) 12 102 (.bool (decide (((b : Int) - 1) < 0))) (by kernel_rfl) (fun _ => by kernel_rfl) hS146 ?_
                  refine WD.test_at 102 (decide (((b : Int) - 1) < 0)) rfl (fun t154b => ?_) (fun t154b => ?_)
                  · -- ((b : Int) - 1) < 0: true
                    have t154 : ((b : Int) - 1) < 0 := by have q_ := of_decide_eq_true t154b; omega
                    refine WD.pure (NoPanic.then (NoPanic.block (NoPanic.then (NoPanic.then (NoPanic.block (NoPanic.then (NoPanic.then hN))))))) 13 103 (undef) (by kernel_rfl) (fun _ => by kernel_rfl) hS146 ?_
                    refine WD.pure (NoPanic.then (NoPanic.block (NoPanic.then (NoPanic.then (NoPanic.block (NoPanic.then (NoPanic.then hN))))))) 14 104 (undef) (by kernel_rfl) (fun _ => by kernel_rfl) hS146 ?_
                    refine WD.pure (NoPanic.then (NoPanic.block (NoPanic.then (NoPanic.then (NoPanic.block (NoPanic.then (NoPanic.then hN))))))) 15 105 (undef) (by kernel_rfl) (fun _ => by kernel_rfl) hS146 ?_
                    refine WD.pure (NoPanic.then (NoPanic.block (NoPanic.then (NoPanic.then (NoPanic.block (NoPanic.then (NoPanic.then hN))))))) 16 106 (undef) (by kernel_rfl) (fun _ => by kernel_rfl) hS146 ?_
                    refine WD.pure (NoPanic.then (NoPanic.block (NoPanic.then (NoPanic.then (NoPanic.block (NoPanic.then (NoPanic.then hN))))))) 17 107 (undef) (by kernel_rfl) (fun _ => by kernel_rfl) hS146 ?_
                    refine WD.pure (NoPanic.then (NoPanic.block (NoPanic.then (NoPanic.then (NoPanic.block (NoPanic.then (NoPanic.then hN))))))) 18 108 (undef) (by kernel_rfl) (fun _ => by kernel_rfl) hS146 ?_
                    refine WD.pure (NoPanic.then (NoPanic.block (NoPanic.then (NoPanic.then (NoPanic.block (NoPanic.then (NoPanic.then hN))))))) 19 109 (undef) (by kernel_rfl) (fun _ => by kernel_rfl) hS146 ?_
                    refine WD.pure (NoPanic.then (NoPanic.block (NoPanic.then (NoPanic.then (NoPanic.block (NoPanic.then (NoPanic.then hN))))))) 20 110 (undef) (by kernel_rfl) (fun _ => by kernel_rfl) hS146 ?_
                    refine WD.pure (NoPanic.then (NoPanic.block (NoPanic.then (NoPanic.then (NoPanic.block (NoPanic.then (NoPanic.then hN))))))) 21 111 (undef) (by kernel_rfl) (fun _ => by kernel_rfl) hS146 ?_
                    refine WD.pure (NoPanic.then (NoPanic.block (NoPanic.then (NoPanic.then (NoPanic.block (NoPanic.then (NoPanic.then hN))))))) 22 112 (undef) (by kernel_rfl) (fun _ => by kernel_rfl) hS146 ?_
                    refine WD.pure (NoPanic.then (NoPanic.block (NoPanic.then (NoPanic.then (NoPanic.block (NoPanic.then (NoPanic.then hN))))))) 23 113 (undef) (by kernel_rfl) (fun _ => by kernel_rfl) hS146 ?_
                    refine WD.pure (NoPanic.then (NoPanic.block (NoPanic.then (NoPanic.then (NoPanic.block (NoPanic.then (NoPanic.then hN))))))) 24 114 (undef) (by kernel_rfl) (fun _ => by kernel_rfl) hS146 ?_
                    refine WD.pure (NoPanic.then (NoPanic.block (NoPanic.then (NoPanic.then (NoPanic.block (NoPanic.then (NoPanic.then hN))))))) 25 115 (undef) (by kernel_rfl) (fun _ => by kernel_rfl) hS146 ?_
                    refine WD.pure (NoPanic.then (NoPanic.block (NoPanic.then (NoPanic.then (NoPanic.block (NoPanic.then (NoPanic.then hN))))))) 26 116 (undef) (by kernel_rfl) (fun _ => by kernel_rfl) hS146 ?_
                    refine WD.pure (NoPanic.then (NoPanic.block (NoPanic.then (NoPanic.then (NoPanic.block (NoPanic.then (NoPanic.then hN))))))) 27 117 (undef) (by kernel_rfl) (fun _ => by kernel_rfl) hS146 ?_
                    refine WD.pure (NoPanic.then (NoPanic.block (NoPanic.then (NoPanic.then (NoPanic.block (NoPanic.then (NoPanic.then hN))))))) 28 118 (undef) (by kernel_rfl) (fun _ => by kernel_rfl) hS146 ?_
                    refine WD.pure (NoPanic.then (NoPanic.block (NoPanic.then (NoPanic.then (NoPanic.block (NoPanic.then (NoPanic.then hN))))))) 29 119 (undef) (by kernel_rfl) (fun _ => by kernel_rfl) hS146 ?_
                    refine WD.pure (NoPanic.then (NoPanic.block (NoPanic.then (NoPanic.then (NoPanic.block (NoPanic.then (NoPanic.then hN))))))) 30 120 (.bool true) (by kernel_rfl) (fun _ => by kernel_rfl) hS146 ?_
                    refine WD.pure (NoPanic.then (NoPanic.block (NoPanic.then (NoPanic.then (NoPanic.block (NoPanic.then (NoPanic.then hN))))))) 31 121 (.bool true) (by kernel_rfl) (fun _ => by kernel_rfl) hS146 ?_
                    refine WD.done (by kernel_rfl) ?_
                    refine QX.then_normal (hK142 _ _ ?_)
                    refine WC.cond_true rfl ?_
                    refine WC.region ?_
                    refine WL.runs 2 [(20, .int .i64 (k : Int)), (122, .int .i64 (k : Int))] (fun _ => by kernel_rfl) ?_
                    refine WL.recast (show (.int .i64 (k : Int) : Value) = .int .i64 (((k + 1 : Nat) : Int) - 1) from congrArg (Value.int .i64) (by omega)) ?_
                    refine WL.done rfl ?_
                    refine QX.block_normal ?_
                    refine QX.then_normal (hK140 _ _ ?_)
                    refine WC.region ?_
                    refine WL.runs 2 [(89, .int .i64 (IntKind.i64.wrap ((k : Int) + 1))), (88, .int .i64 (k : Int))] (fun _ => by kernel_rfl) ?_
                    refine WL.recast (show (.int .i64 (IntKind.i64.wrap ((k : Int) + 1)) : Value) = .int .i64 ((k : Int) + 1) from by rw [wrap_in_i64 ((k : Int) + 1) (by omega) (by omega)]) ?_
                    refine WL.runs 1 [(21, .int .i64 ((k : Int) + 1))] (fun _ => by kernel_rfl) ?_
                    refine WL.done rfl ?_
                    refine QX.then_normal ?_
                    have hC155 := hC145.pick [0, 1, 2, 3, 4] [0] rfl rfl
                    refine fun a_ ha_ => hK129 _ _ _ ?_ ⟨k + 1, k + 1, rfl, rfl, hC155, ho147, by omega, minU_first hmu he149 t153 (by omega), by omega⟩ a_ (ha_.weaken (sub_of ⟨rfl, rfl, rfl, rfl, rfl, rfl, rfl, rfl, rfl, rfl, rfl, rfl, rfl, rfl, trivial⟩))
                    omega
                  · -- ((b : Int) - 1) < 0: false
                    have t154 : (0 : Int) ≤ ((b : Int) - 1) := by have q_ := of_decide_eq_false t154b; omega
                    refine WD.pure (NoPanic.then (NoPanic.block (NoPanic.then (NoPanic.then (NoPanic.block (NoPanic.then (NoPanic.then hN))))))) 13 103 (.pointer (some ⟨p, 0, none⟩)) (by kernel_rfl) (fun _ => by kernel_rfl) hS146 ?_
                    refine WD.pure (NoPanic.then (NoPanic.block (NoPanic.then (NoPanic.then (NoPanic.block (NoPanic.then (NoPanic.then hN))))))) 14 104 (.pointer (some ⟨p, 0, none⟩)) (by kernel_rfl) (fun _ => by kernel_rfl) hS146 ?_
                    refine WD.pure (NoPanic.then (NoPanic.block (NoPanic.then (NoPanic.then (NoPanic.block (NoPanic.then (NoPanic.then hN))))))) 15 105 (.pointer (some ⟨p, 0, none⟩)) (by kernel_rfl) (fun _ => by kernel_rfl) hS146 ?_
                    refine WD.pure (NoPanic.then (NoPanic.block (NoPanic.then (NoPanic.then (NoPanic.block (NoPanic.then (NoPanic.then hN))))))) 17 107 (.int .i64 (k : Int)) (by kernel_rfl) (fun _ => by kernel_rfl) hS146 ?_
                    refine WD.pure (NoPanic.then (NoPanic.block (NoPanic.then (NoPanic.then (NoPanic.block (NoPanic.then (NoPanic.then hN))))))) 21 111 (.pointer (some ⟨p, 0, none⟩)) (by kernel_rfl) (fun _ => by kernel_rfl) hS146 ?_
                    refine WD.pure (NoPanic.then (NoPanic.block (NoPanic.then (NoPanic.then (NoPanic.block (NoPanic.then (NoPanic.then hN))))))) 22 112 (.pointer (some ⟨p, 0, none⟩)) (by kernel_rfl) (fun _ => by kernel_rfl) hS146 ?_
                    refine WD.pure (NoPanic.then (NoPanic.block (NoPanic.then (NoPanic.then (NoPanic.block (NoPanic.then (NoPanic.then hN))))))) 23 113 (.pointer (some ⟨p, 0, none⟩)) (by kernel_rfl) (fun _ => by kernel_rfl) hS146 ?_
                    refine WD.pure (NoPanic.then (NoPanic.block (NoPanic.then (NoPanic.then (NoPanic.block (NoPanic.then (NoPanic.then hN))))))) 25 115 (.int .i64 ((b : Int) - 1)) (by kernel_rfl) (fun _ => by kernel_rfl) hS146 ?_
                    refine WD.load (NoPanic.then (NoPanic.block (NoPanic.then (NoPanic.then (NoPanic.block (NoPanic.then (NoPanic.then hN))))))) 16 44 (.pointer (some ⟨p, 0, none⟩)) (.slice A1 L.length c1) 106 (by kernel_rfl) (by kernel_rfl) (fun _ hS_ => run_ld (Fr.has hS_ (hC145.get 0 rfl) (by simp)) rfl) hS146 ?_
                    refine WD.index (NoPanic.then (NoPanic.block (NoPanic.then (NoPanic.then (NoPanic.block (NoPanic.then (NoPanic.then hN))))))) 18 A1 L.length c1 108 .i64 (k : Int) b150 0 k 10 (by kernel_rfl) (by kernel_rfl) hA151 (by omega) (by omega) (k * 10) (by first | (simp; done) | omega) hS146 ?_
                    refine WD.pure (NoPanic.then (NoPanic.block (NoPanic.then (NoPanic.then (NoPanic.block (NoPanic.then (NoPanic.then hN))))))) 19 109 (.pointer (some ⟨b150, k * 10 + 9, none⟩)) (by kernel_rfl) (fun _ => by kernel_rfl) hS146 ?_
                    refine WD.load (NoPanic.then (NoPanic.block (NoPanic.then (NoPanic.then (NoPanic.block (NoPanic.then (NoPanic.then hN))))))) 20 3 (.pointer (some ⟨b150, k * 10 + 9, none⟩)) (.int .i64 e148.last) 110 (by kernel_rfl) (by kernel_rfl) (fun _ hS_ => run_load1 rfl (by simpa [Nat.add_assoc] using Rd.cell (own_rd (own_fr ho147 hS_ (by simp)) cellsE_len (by decide)) hA151 he149 9 _ rfl)) hS146 ?_
                    refine WD.load (NoPanic.then (NoPanic.block (NoPanic.then (NoPanic.then (NoPanic.block (NoPanic.then (NoPanic.then hN))))))) 24 44 (.pointer (some ⟨p, 0, none⟩)) (.slice A1 L.length c1) 114 (by kernel_rfl) (by kernel_rfl) (fun _ hS_ => run_ld (Fr.has hS_ (hC145.get 0 rfl) (by simp)) rfl) hS146 ?_
                    have hn164 := own_count cellsE_len (by decide) ho147
                    obtain ⟨e160, he161⟩ := get_some (xs := L) (i := ((b : Int) - 1).toNat) (by omega)
                    obtain ⟨b162, hA163⟩ := own_addr (by decide) cellsE_len ho147 he161
                    refine WD.index (NoPanic.then (NoPanic.block (NoPanic.then (NoPanic.then (NoPanic.block (NoPanic.then (NoPanic.then hN))))))) 26 A1 L.length c1 116 .i64 ((b : Int) - 1) b162 0 (((b : Int) - 1).toNat) 10 (by kernel_rfl) (by kernel_rfl) hA163 (by omega) (by omega) ((((b : Int) - 1).toNat) * 10) (by first | (simp; done) | omega) hS146 ?_
                    refine WD.pure (NoPanic.then (NoPanic.block (NoPanic.then (NoPanic.then (NoPanic.block (NoPanic.then (NoPanic.then hN))))))) 27 117 (.pointer (some ⟨b162, (((b : Int) - 1).toNat) * 10 + 9, none⟩)) (by kernel_rfl) (fun _ => by kernel_rfl) hS146 ?_
                    refine WD.load (NoPanic.then (NoPanic.block (NoPanic.then (NoPanic.then (NoPanic.block (NoPanic.then (NoPanic.then hN))))))) 28 3 (.pointer (some ⟨b162, (((b : Int) - 1).toNat) * 10 + 9, none⟩)) (.int .i64 e160.last) 118 (by kernel_rfl) (by kernel_rfl) (fun _ hS_ => run_load1 rfl (by simpa [Nat.add_assoc] using Rd.cell (own_rd (own_fr ho147 hS_ (by simp)) cellsE_len (by decide)) hA163 he161 9 _ rfl)) hS146 ?_
                    refine WD.pure (NoPanic.then (NoPanic.block (NoPanic.then (NoPanic.then (NoPanic.block (NoPanic.then (NoPanic.then hN))))))) 29 119 (.bool (decide (e148.last < e160.last))) (by kernel_rfl) (fun _ => by kernel_rfl) hS146 ?_
                    refine WD.pure (NoPanic.then (NoPanic.block (NoPanic.then (NoPanic.then (NoPanic.block (NoPanic.then (NoPanic.then hN))))))) 30 120 (.bool (decide (e148.last < e160.last))) (by kernel_rfl) (fun _ => by kernel_rfl) hS146 ?_
                    refine WD.pure (NoPanic.then (NoPanic.block (NoPanic.then (NoPanic.then (NoPanic.block (NoPanic.then (NoPanic.then hN))))))) 31 121 (.bool (decide (e148.last < e160.last))) (by kernel_rfl) (fun _ => by kernel_rfl) hS146 ?_
                    refine WD.done (by kernel_rfl) ?_
                    refine QX.then_normal (hK142 _ _ ?_)
                    refine WC.test_at 121 (decide (e148.last < e160.last)) rfl (fun t165b => ?_) (fun t165b => ?_)
                    · -- e148.last < e160.last: true
                      have t165 : e148.last < e160.last := by have q_ := of_decide_eq_true t165b; omega
                      refine WC.cond_true rfl ?_
                      refine WC.region ?_
                      refine WL.runs 2 [(20, .int .i64 (k : Int)), (122, .int .i64 (k : Int))] (fun _ => by kernel_rfl) ?_
                      refine WL.recast (show (.int .i64 (k : Int) : Value) = .int .i64 (((k + 1 : Nat) : Int) - 1) from congrArg (Value.int .i64) (by omega)) ?_
                      refine WL.done rfl ?_
                      refine QX.block_normal ?_
                      refine QX.then_normal (hK140 _ _ ?_)
                      refine WC.region ?_
                      refine WL.runs 2 [(89, .int .i64 (IntKind.i64.wrap ((k : Int) + 1))), (88, .int .i64 (k : Int))] (fun _ => by kernel_rfl) ?_
                      refine WL.recast (show (.int .i64 (IntKind.i64.wrap ((k : Int) + 1)) : Value) = .int .i64 ((k : Int) + 1) from by rw [wrap_in_i64 ((k : Int) + 1) (by omega) (by omega)]) ?_
                      refine WL.runs 1 [(21, .int .i64 ((k : Int) + 1))] (fun _ => by kernel_rfl) ?_
                      refine WL.done rfl ?_
                      refine QX.then_normal ?_
                      have hC166 := hC145.pick [0, 1, 2, 3, 4] [0] rfl rfl
                      refine fun a_ ha_ => hK129 _ _ _ ?_ ⟨k + 1, k + 1, rfl, rfl, hC166, ho147, by omega, minU_next hmu he149 t153 (by omega) (show L[b - 1]? = some _ from by have z_ := he161; rw [show ((b : Int) - 1).toNat = b - 1 from by omega] at z_; exact z_) (by omega), by omega⟩ a_ (ha_.weaken (sub_of ⟨rfl, rfl, rfl, rfl, rfl, rfl, rfl, rfl, rfl, rfl, rfl, rfl, rfl, rfl, trivial⟩))
                      omega
                    · -- e148.last < e160.last: false
                      have t165 : e160.last ≤ e148.last := by have q_ := of_decide_eq_false t165b; omega
                      refine WC.cond_false rfl ?_
                      refine WC.skip ?_
                      refine QX.block_normal ?_
                      refine QX.then_normal (hK140 _ _ ?_)
                      refine WC.region ?_
                      refine WL.runs 2 [(89, .int .i64 (IntKind.i64.wrap ((k : Int) + 1))), (88, .int .i64 (k : Int))] (fun _ => by kernel_rfl) ?_
                      refine WL.recast (show (.int .i64 (IntKind.i64.wrap ((k : Int) + 1)) : Value) = .int .i64 ((k : Int) + 1) from by rw [wrap_in_i64 ((k : Int) + 1) (by omega) (by omega)]) ?_
                      refine WL.runs 1 [(21, .int .i64 ((k : Int) + 1))] (fun _ => by kernel_rfl) ?_
                      refine WL.done rfl ?_
                      refine QX.then_normal ?_
                      have hC167 := hC145.pick [0, 1, 2, 3, 4] [0] rfl rfl
                      refine fun a_ ha_ => hK129 _ _ _ ?_ ⟨k + 1, b, rfl, rfl, hC167, ho147, by omega, minU_stay hmu he149 (show L[b - 1]? = some _ from by have z_ := he161; rw [show ((b : Int) - 1).toNat = b - 1 from by omega] at z_; exact z_) (by omega) (by omega), by omega⟩ a_ (ha_.weaken (sub_of ⟨rfl, rfl, rfl, rfl, rfl, rfl, rfl, rfl, rfl, rfl, rfl, rfl, rfl, rfl, trivial⟩))
                      omega
                · -- !e148.trusted = true: false
                  have t153 : e148.trusted = true := by first | (simpa only [Bool.not_eq_true', Bool.not_eq_false'] using t153b) | simpa using t153b
                  refine WD.pure (NoPanic.then (NoPanic.block (NoPanic.then (NoPanic.then (NoPanic.block (NoPanic.then (NoPanic.then hN))))))) 10 100 (undef) (by kernel_rfl) (fun _ => by kernel_rfl) hS146 ?_
                  refine WD.pure (NoPanic.then (NoPanic.block (NoPanic.then (NoPanic.then (NoPanic.block (NoPanic.then (NoPanic.then hN))))))) 11 101 (undef) (by kernel_rfl) (fun _ => by kernel_rfl) hS146 ?_
                  refine WD.pure (NoPanic.then (NoPanic.block (NoPanic.then (NoPanic.then (NoPanic.block (NoPanic.then (NoPanic.then hN))))))) 12 102 (undef) (by kernel_rfl) (fun _ => by kernel_rfl) hS146 ?_
                  refine WD.pure (NoPanic.then (NoPanic.block (NoPanic.then (NoPanic.then (NoPanic.block (NoPanic.then (NoPanic.then hN))))))) 13 103 (undef) (by kernel_rfl) (fun _ => by kernel_rfl) hS146 ?_
                  refine WD.pure (NoPanic.then (NoPanic.block (NoPanic.then (NoPanic.then (NoPanic.block (NoPanic.then (NoPanic.then hN))))))) 14 104 (undef) (by kernel_rfl) (fun _ => by kernel_rfl) hS146 ?_
                  refine WD.pure (NoPanic.then (NoPanic.block (NoPanic.then (NoPanic.then (NoPanic.block (NoPanic.then (NoPanic.then hN))))))) 15 105 (undef) (by kernel_rfl) (fun _ => by kernel_rfl) hS146 ?_
                  refine WD.pure (NoPanic.then (NoPanic.block (NoPanic.then (NoPanic.then (NoPanic.block (NoPanic.then (NoPanic.then hN))))))) 16 106 (undef) (by kernel_rfl) (fun _ => by kernel_rfl) hS146 ?_
                  refine WD.pure (NoPanic.then (NoPanic.block (NoPanic.then (NoPanic.then (NoPanic.block (NoPanic.then (NoPanic.then hN))))))) 17 107 (undef) (by kernel_rfl) (fun _ => by kernel_rfl) hS146 ?_
                  refine WD.pure (NoPanic.then (NoPanic.block (NoPanic.then (NoPanic.then (NoPanic.block (NoPanic.then (NoPanic.then hN))))))) 18 108 (undef) (by kernel_rfl) (fun _ => by kernel_rfl) hS146 ?_
                  refine WD.pure (NoPanic.then (NoPanic.block (NoPanic.then (NoPanic.then (NoPanic.block (NoPanic.then (NoPanic.then hN))))))) 19 109 (undef) (by kernel_rfl) (fun _ => by kernel_rfl) hS146 ?_
                  refine WD.pure (NoPanic.then (NoPanic.block (NoPanic.then (NoPanic.then (NoPanic.block (NoPanic.then (NoPanic.then hN))))))) 20 110 (undef) (by kernel_rfl) (fun _ => by kernel_rfl) hS146 ?_
                  refine WD.pure (NoPanic.then (NoPanic.block (NoPanic.then (NoPanic.then (NoPanic.block (NoPanic.then (NoPanic.then hN))))))) 21 111 (undef) (by kernel_rfl) (fun _ => by kernel_rfl) hS146 ?_
                  refine WD.pure (NoPanic.then (NoPanic.block (NoPanic.then (NoPanic.then (NoPanic.block (NoPanic.then (NoPanic.then hN))))))) 22 112 (undef) (by kernel_rfl) (fun _ => by kernel_rfl) hS146 ?_
                  refine WD.pure (NoPanic.then (NoPanic.block (NoPanic.then (NoPanic.then (NoPanic.block (NoPanic.then (NoPanic.then hN))))))) 23 113 (undef) (by kernel_rfl) (fun _ => by kernel_rfl) hS146 ?_
                  refine WD.pure (NoPanic.then (NoPanic.block (NoPanic.then (NoPanic.then (NoPanic.block (NoPanic.then (NoPanic.then hN))))))) 24 114 (undef) (by kernel_rfl) (fun _ => by kernel_rfl) hS146 ?_
                  refine WD.pure (NoPanic.then (NoPanic.block (NoPanic.then (NoPanic.then (NoPanic.block (NoPanic.then (NoPanic.then hN))))))) 25 115 (undef) (by kernel_rfl) (fun _ => by kernel_rfl) hS146 ?_
                  refine WD.pure (NoPanic.then (NoPanic.block (NoPanic.then (NoPanic.then (NoPanic.block (NoPanic.then (NoPanic.then hN))))))) 26 116 (undef) (by kernel_rfl) (fun _ => by kernel_rfl) hS146 ?_
                  refine WD.pure (NoPanic.then (NoPanic.block (NoPanic.then (NoPanic.then (NoPanic.block (NoPanic.then (NoPanic.then hN))))))) 27 117 (undef) (by kernel_rfl) (fun _ => by kernel_rfl) hS146 ?_
                  refine WD.pure (NoPanic.then (NoPanic.block (NoPanic.then (NoPanic.then (NoPanic.block (NoPanic.then (NoPanic.then hN))))))) 28 118 (undef) (by kernel_rfl) (fun _ => by kernel_rfl) hS146 ?_
                  refine WD.pure (NoPanic.then (NoPanic.block (NoPanic.then (NoPanic.then (NoPanic.block (NoPanic.then (NoPanic.then hN))))))) 29 119 (undef) (by kernel_rfl) (fun _ => by kernel_rfl) hS146 ?_
                  refine WD.pure (NoPanic.then (NoPanic.block (NoPanic.then (NoPanic.then (NoPanic.block (NoPanic.then (NoPanic.then hN))))))) 30 120 (undef) (by kernel_rfl) (fun _ => by kernel_rfl) hS146 ?_
                  refine WD.pure (NoPanic.then (NoPanic.block (NoPanic.then (NoPanic.then (NoPanic.block (NoPanic.then (NoPanic.then hN))))))) 31 121 (.bool false) (by kernel_rfl) (fun _ => by kernel_rfl) hS146 ?_
                  refine WD.done (by kernel_rfl) ?_
                  refine QX.then_normal (hK142 _ _ ?_)
                  refine WC.cond_false rfl ?_
                  refine WC.skip ?_
                  refine QX.block_normal ?_
                  refine QX.then_normal (hK140 _ _ ?_)
                  refine WC.region ?_
                  refine WL.runs 2 [(89, .int .i64 (IntKind.i64.wrap ((k : Int) + 1))), (88, .int .i64 (k : Int))] (fun _ => by kernel_rfl) ?_
                  refine WL.recast (show (.int .i64 (IntKind.i64.wrap ((k : Int) + 1)) : Value) = .int .i64 ((k : Int) + 1) from by rw [wrap_in_i64 ((k : Int) + 1) (by omega) (by omega)]) ?_
                  refine WL.runs 1 [(21, .int .i64 ((k : Int) + 1))] (fun _ => by kernel_rfl) ?_
                  refine WL.done rfl ?_
                  refine QX.then_normal ?_
                  have hC168 := hC145.pick [0, 1, 2, 3, 4] [0] rfl rfl
                  refine fun a_ ha_ => hK129 _ _ _ ?_ ⟨k + 1, b, rfl, rfl, hC168, ho147, by omega, minU_skip hmu he149 t153, by omega⟩ a_ (ha_.weaken (sub_of ⟨rfl, rfl, rfl, rfl, rfl, rfl, rfl, rfl, rfl, rfl, rfl, rfl, rfl, rfl, trivial⟩))
                  omega
              · -- (k : Int) < (L.length : Int): false
                have t138 : (L.length : Int) ≤ (k : Int) := by have q_ := of_decide_eq_false t138b; omega
                refine WC.cond_false rfl ?_
                have hke_ : k = L.length := by omega
                subst hke_
                have hb0_ := minU_pos hmu hun0 (by simpa using t85b) (by omega)
                refine WC.exit ?_
                refine QX.then_exit ?_
                refine QX.then_exit ?_
                refine QX.block_hit ?_
                refine QX.then_normal (hK125 _ _ ?_)
                refine WC.seq (fun K169 hK170 => ?_)
                refine WC.region ?_
                refine WL.runs 3 [(125, .pointer (some ⟨p, 0, none⟩)), (124, .pointer (some ⟨p, 0, none⟩)), (123, .pointer (some ⟨p, 0, none⟩))] (fun _ => by kernel_rfl) ?_
                refine WL.load 44 (.pointer (some ⟨p, 0, none⟩)) (.slice A1 L.length c1) 126 (by kernel_rfl) (run_ld (hC133.get 0 rfl) rfl) ?_
                refine WL.runs 1 [(127, .int .i64 ((b : Int) - 1))] (fun _ => by kernel_rfl) ?_
                have hn175 := own_count cellsE_len (by decide) row_m131
                obtain ⟨e171, he172⟩ := get_some (xs := L) (i := ((b : Int) - 1).toNat) (by omega)
                obtain ⟨b173, hA174⟩ := own_addr (by decide) cellsE_len row_m131 he172
                refine WL.index A1 L.length c1 128 .i64 ((b : Int) - 1) b173 0 (((b : Int) - 1).toNat) 10 (by kernel_rfl) hA174 (by omega) (by omega) ((((b : Int) - 1).toNat) * 10) (by first | (simp; done) | omega) ?_
                refine WL.load 34 (.pointer (some ⟨b173, (((b : Int) - 1).toNat) * 10, none⟩)) (.agg #[.int .i64 e171.flow.proto, .int .u32 e171.flow.src, .int .i64 e171.flow.sport, .int .u32 e171.flow.dst, .int .i64 e171.flow.dport, .int .u32 e171.dip, .int .i64 e171.epoch, .bool e171.trusted, .bool e171.closing, .int .i64 e171.last]) 129 (by kernel_rfl) (run_rdN (l := [.int .i64 e171.flow.proto, .int .u32 e171.flow.src, .int .i64 e171.flow.sport, .int .u32 e171.flow.dst, .int .i64 e171.flow.dport, .int .u32 e171.dip, .int .i64 e171.epoch, .bool e171.trusted, .bool e171.closing, .int .i64 e171.last]) rfl rfl (fun j u hu => by have hq_ := Rd.cell (own_rd row_m131 cellsE_len (by decide)) hA174 he172 j u hu; simpa [Nat.add_assoc] using hq_)) ?_
                refine WL.storeM (c' := #[.int .i64 e171.flow.proto, .int .u32 e171.flow.src, .int .i64 e171.flow.sport, .int .u32 e171.flow.dst, .int .i64 e171.flow.dport, .int .u32 e171.dip, .int .i64 e171.epoch, .bool e171.trusted, .bool e171.closing, .int .i64 e171.last]) hC133 4 34 g101 0 (.agg #[.int .i64 e171.flow.proto, .int .u32 e171.flow.src, .int .i64 e171.flow.sport, .int .u32 e171.flow.dst, .int .i64 e171.flow.dport, .int .u32 e171.dip, .int .i64 e171.epoch, .bool e171.trusted, .bool e171.closing, .int .i64 e171.last]) (by kernel_rfl) rfl (by kernel_rfl) (fun w176 hF178 hC179 => ?_)
                have ho180 := own_fr row_m131 hF178 (hC133.apartM 0 4 rfl rfl)
                refine WL.done rfl ?_
                refine QX.then_normal (hK170 _ _ ?_)
                refine WC.region ?_
                refine WL.runs 2 [(131, .int .i64 ((b : Int) - 1)), (130, .pointer (some ⟨p, 0, none⟩))] (fun _ => by kernel_rfl) ?_
                refine WL.recast (show (.int .i64 ((b : Int) - 1) : Value) = .int .i64 ((b - 1 : Nat) : Int) from congrArg (Value.int .i64) (by omega)) ?_
                have hdf181 : dfAt w176 (p :: blk (.slice A1 L.length c1)) p L tr un := df_mk hC179 0 0 rfl rfl ho180
                have hC182 := hC179.toF1 0 0 rfl rfl
                refine WL.call rfl rfl rfl rfl rfl (by kernel_rfl) (RCut_ct (p :: blk (.slice A1 L.length c1)) p L tr un (b - 1) w176 hdf181 (by omega) (by omega)) ?_
                rintro _ w184 ⟨F187, rfl, hF183, hT186, hsub188⟩
                have hT186' : dfAt w184 F187 p (L.eraseIdx (b - 1)) tr un := hT186
                have hC185 := hC182.callF 0 rfl hF183 hsub188 (dfAt_lt hT186)
                refine ⟨_, rfl, ?_⟩
                obtain ⟨A189, c190, hp191, ho192, rfl, hn193⟩ := hT186'
                have hC194 := hC185.unF1 0 rfl hp191 hn193
                refine WL.done rfl ?_
                refine QX.then_normal ?_
                have hC195 := hC194.pickM [4, 0, 1, 2, 3] [0] (by decide) rfl rfl
                exact fun a_ ha_ => hK115 _ _ ⟨(decide (((L.length : Int) - cntE L) ≥ un)), e171, (L.eraseIdx (b - 1)), A189, (L.eraseIdx (b - 1)).length, c190, rfl, hC195, ho192, .inr ⟨t121b, by omega, b, _, hb0_, hmu, (show L[b - 1]? = some _ from by have z_ := he172; rw [show ((b : Int) - 1).toNat = b - 1 from by omega] at z_; exact z_), rfl, rfl⟩⟩ a_ (ha_.weaken (sub_of ⟨rfl, rfl, rfl, rfl, rfl, rfl, rfl, rfl, rfl, rfl, rfl, rfl, trivial⟩))
            · -- ((L.length : Int) - cntE L) ≥ un: false
              have t121 : ((L.length : Int) - cntE L) < un := by have q_ := of_decide_eq_false t121b; omega
              refine WC.cond_false rfl ?_
              refine WC.skip ?_
              refine QX.then_normal ?_
              have hC196 := hC110.pickM [0, 1, 2, 3, 4] [0] (by decide) rfl rfl
              exact fun a_ ha_ => hK115 _ _ ⟨(decide (((L.length : Int) - cntE L) ≥ un)), zeroE, L, A1, L.length, c1, rfl, hC196, ho111, .inl ⟨t121b, rfl, rfl, by omega⟩⟩ a_ (ha_.weaken (sub_of ⟨rfl, rfl, rfl, rfl, rfl, rfl, rfl, rfl, rfl, rfl, rfl, rfl, trivial⟩))
          rintro E_ w117 ⟨fl, o3, L3, A3, n3, c3, rfl, hC118, hrow3, hle3⟩
          obtain ⟨hsub3_, hlen3_⟩ := leftE_sub hle3
          have hbl3_ : ∀ x ∈ L3, bdF x.flow := fun x hx => hbl x (hsub3_ x hx)
          have hcn3_ := own_count cellsE_len (by decide) hrow3
          refine WC.seq (fun K197 hK198 => ?_)
          refine WC.region ?_
          refine WL.runs 1 [(22, .slice none 0 0)] (fun _ => by kernel_rfl) ?_
          refine WL.done rfl ?_
          refine QX.then_normal (hK198 _ _ ?_)
          refine WC.seq (fun K199 hK200 => ?_)
          refine WC.region ?_
          refine WL.runs 1 [(23, .bool false)] (fun _ => by kernel_rfl) ?_
          refine WL.done rfl ?_
          refine QX.then_normal (hK200 _ _ ?_)
          refine WC.seq (fun K201 hK202 => ?_)
          refine WC.region ?_
          refine WL.load 32 (.pointer (some ⟨g3, 0, none⟩)) (.agg #[.int .i64 f.proto, .int .u32 f.src, .int .i64 f.sport, .int .u32 f.dst, .int .i64 f.dport]) 133 (by kernel_rfl) (run_ld (hC118.get 1 rfl) rfl) ?_
          refine WL.runs 4 [(137, .agg #[.int .i64 f.proto, .int .u32 f.src, .int .i64 f.sport, .int .u32 f.dst, .int .i64 f.dport, .int .u32 dip, .int .i64 ep, .bool false, .bool false, .int .i64 now]), (136, .int .i64 now), (135, .int .i64 ep), (134, .int .u32 dip)] (fun _ => by kernel_rfl) ?_
          refine WL.newM hC118 (fun b => .pointer (some ⟨b, 0, none⟩)) (.cells #[.int .i64 0, .int .u32 0, .int .i64 0, .int .u32 0, .int .i64 0, .int .u32 0, .int .i64 0, .bool false, .bool false, .int .i64 0] 34) 24 (fun _ => by kernel_rfl) (fun g203 w204 hb207 hF205 hC206 => ?_)
          have ho208 := own_fr hrow3 hF205 (by simp)
          refine WL.storeM (c' := #[.int .i64 f.proto, .int .u32 f.src, .int .i64 f.sport, .int .u32 f.dst, .int .i64 f.dport, .int .u32 dip, .int .i64 ep, .bool false, .bool false, .int .i64 now]) hC206 5 34 g203 0 (.agg #[.int .i64 f.proto, .int .u32 f.src, .int .i64 f.sport, .int .u32 f.dst, .int .i64 f.dport, .int .u32 dip, .int .i64 ep, .bool false, .bool false, .int .i64 now]) (by kernel_rfl) rfl (by kernel_rfl) (fun w209 hF211 hC212 => ?_)
          have ho213 := own_fr ho208 hF211 (hC206.apartM 0 5 rfl rfl)
          refine WL.done rfl ?_
          refine QX.then_normal (hK202 _ _ ?_)
          refine WC.seq (fun K214 hK215 => ?_)
          refine WC.seq (fun K216 hK217 => ?_)
          refine WC.region ?_
          refine WL.runs 1 [(25, .int .i64 0)] (fun _ => by kernel_rfl) ?_
          refine WL.done rfl ?_
          refine QX.then_normal (hK217 _ _ ?_)
          refine WC.block ?_
          have hC218 := hC212.addNil
          refine WC.loop (fun m_ E_ w_ => ∃ (k : Nat) (dn : Bool) (A7 : Option Addr) (n7 c7 : Nat) (nx : List Ent), m_ = L3.length - k ∧ E_ = [(0, .pointer (some ⟨p, 0, none⟩)), (1, .agg #[.int .i64 f.proto, .int .u32 f.src, .int .i64 f.sport, .int .u32 f.dst, .int .i64 f.dport]), (2, .int .u32 dip), (3, .int .i64 ep), (4, .int .i64 now), (6, .pointer (some ⟨g3, 0, none⟩)), (10, .pointer (some ⟨g10, 0, none⟩)), (11, .bool false), (12, .int .i64 0), (13, .pointer (some ⟨g19, 0, none⟩)), (18, .pointer (some ⟨g101, 0, none⟩)), (19, .bool fl), (22, .slice A7 n7 c7), (23, .bool dn), (24, .pointer (some ⟨g203, 0, none⟩)), (25, .int .i64 (k : Int))] ∧ Cx w (p :: blk (.slice A1 L.length c1)) w_ [(p, .cells #[.slice A3 n3 c3, .int .i64 tr, .int .i64 un] 51), (g3, .cells #[.int .i64 f.proto, .int .u32 f.src, .int .i64 f.sport, .int .u32 f.dst, .int .i64 f.dport] 32), (g10, .cells #[.int .i64 0, .int .u32 0, .int .i64 0, .int .u32 0, .int .i64 0, .int .u32 0, .int .i64 0, .bool false, .bool false, .int .i64 0] 34), (g19, .cells #[.int .i64 0, .int .u32 0, .int .i64 0, .int .u32 0, .int .i64 0, .int .u32 0, .int .i64 0, .bool false, .bool false, .int .i64 0] 34), (g101, .cells #[.int .i64 o3.flow.proto, .int .u32 o3.flow.src, .int .i64 o3.flow.sport, .int .u32 o3.flow.dst, .int .i64 o3.flow.dport, .int .u32 o3.dip, .int .i64 o3.epoch, .bool o3.trusted, .bool o3.closing, .int .i64 o3.last] 34), (g203, .cells #[.int .i64 f.proto, .int .u32 f.src, .int .i64 f.sport, .int .u32 f.dst, .int .i64 f.dport, .int .u32 dip, .int .i64 ep, .bool false, .bool false, .int .i64 now] 34)] [blk (.slice A3 n3 c3), blk (.slice A7 n7 c7)] ∧ World.ownsRow w_ 0 34 10 (.slice A3 n3 c3) n3 (L3.flatMap cellsE) ∧ World.ownsRow w_ 0 34 10 (.slice A7 n7 c7) n7 (nx.flatMap cellsE) ∧ (k ≤ L3.length ∧ insE (⟨f, dip, ep, false, false, now⟩ : Ent) L3 = nx ++ insB (⟨f, dip, ep, false, false, now⟩ : Ent) dn (L3.drop k))) ⟨_, _, ⟨0, false, none, 0, 0, [], rfl, rfl, hC218, ho213, own_nil _ _ _ _, Nat.zero_le _, rfl⟩, sub_of ⟨rfl, rfl, rfl, rfl, rfl, rfl, rfl, rfl, rfl, rfl, rfl, rfl, rfl, rfl, rfl, rfl, trivial⟩⟩ (fun m222 E_ w223 K219 hK220 hI221 => ?_)
          obtain ⟨k, dn, A7, n7, c7, nx, rfl, rfl, hC224, row_m222, hnx7, hk, hins⟩ := hI221
          have hcn7_ := own_count cellsE_len (by decide) hnx7
          have hnl := ins_nl hins hk
          refine WC.seq (fun K225 hK226 => ?_)
          refine WC.seq (fun K227 hK228 => ?_)
          refine WC.region ?_
          refine WL.runs 4 [(141, .pointer (some ⟨p, 0, none⟩)), (140, .pointer (some ⟨p, 0, none⟩)), (139, .pointer (some ⟨p, 0, none⟩)), (138, .int .i64 (k : Int))] (fun _ => by kernel_rfl) ?_
          refine WL.load 44 (.pointer (some ⟨p, 0, none⟩)) (.slice A3 n3 c3) 142 (by kernel_rfl) (run_ld (hC224.get 0 rfl) rfl) ?_
          refine WL.runs 2 [(144, .bool (decide ((k : Int) < (n3 : Int)))), (143, .int .i64 (n3 : Int))] (fun _ => by kernel_rfl) ?_
          refine WL.done rfl ?_
          refine QX.then_normal (hK228 _ _ ?_)
          refine WC.test_at 144 (decide ((k : Int) < (n3 : Int))) rfl (fun t229b => ?_) (fun t229b => ?_)
          · -- (k : Int) < (n3 : Int): true
            have t229 : (k : Int) < (n3 : Int) := by have q_ := of_decide_eq_true t229b; omega
            refine WC.cond_true rfl ?_
            refine WC.skip ?_
            refine QX.then_normal (hK226 _ _ ?_)
            refine WC.seq (fun K230 hK231 => ?_)
            refine WC.block ?_
            refine WC.seq (fun K232 hK233 => ?_)
            refine WC.seq (fun K234 hK235 => ?_)
            refine WC.drawC hC224 [] (by kernel_rfl) (fun w236 hF237 hC238 hS239 => ?_)
            have ho240 := own_fr row_m222 hF237 (by simp)
            have ho241 := own_fr hnx7 hF237 (by simp)
            refine WD.pure (NoPanic.then (NoPanic.then (NoPanic.block (NoPanic.then (NoPanic.then (NoPanic.block (NoPanic.then hN))))))) 0 147 (.bool dn) (by kernel_rfl) (fun _ => by kernel_rfl) hS239 ?_
            refine WD.pure (NoPanic.then (NoPanic.then (NoPanic.block (NoPanic.then (NoPanic.then (NoPanic.block (NoPanic.then hN))))))) 1 148 (.bool !dn) (by kernel_rfl) (fun _ => by kernel_rfl) hS239 ?_
            refine WD.pure (NoPanic.then (NoPanic.then (NoPanic.block (NoPanic.then (NoPanic.then (NoPanic.block (NoPanic.then hN))))))) 2 149 (.bool !dn) (by kernel_rfl) (fun _ => by kernel_rfl) hS239 ?_
            refine WD.test_at 149 (!dn) rfl (fun t242b => ?_) (fun t242b => ?_)
            · -- !dn = true: true
              have t242 : dn = false := by first | (simpa only [Bool.not_eq_true', Bool.not_eq_false'] using t242b) | simpa using t242b
              refine WD.pure (NoPanic.then (NoPanic.then (NoPanic.block (NoPanic.then (NoPanic.then (NoPanic.block (NoPanic.then hN))))))) 4 151 (.pointer (some ⟨p, 0, none⟩)) (by kernel_rfl) (fun _ => by kernel_rfl) hS239 ?_
              refine WD.pure (NoPanic.then (NoPanic.then (NoPanic.block (NoPanic.then (NoPanic.then (NoPanic.block (NoPanic.then hN))))))) 5 152 (.pointer (some ⟨p, 0, none⟩)) (by kernel_rfl) (fun _ => by kernel_rfl) hS239 ?_
              refine WD.pure (NoPanic.then (NoPanic.then (NoPanic.block (NoPanic.then (NoPanic.then (NoPanic.block (NoPanic.then hN))))))) 6 153 (.pointer (some ⟨p, 0, none⟩)) (by kernel_rfl) (fun _ => by kernel_rfl) hS239 ?_
              refine WD.pure (NoPanic.then (NoPanic.then (NoPanic.block (NoPanic.then (NoPanic.then (NoPanic.block (NoPanic.then hN))))))) 8 155 (.int .i64 (k : Int)) (by kernel_rfl) (fun _ => by kernel_rfl) hS239 ?_
              refine WD.load (NoPanic.then (NoPanic.then (NoPanic.block (NoPanic.then (NoPanic.then (NoPanic.block (NoPanic.then hN))))))) 3 32 (.pointer (some ⟨g3, 0, none⟩)) (.agg #[.int .i64 f.proto, .int .u32 f.src, .int .i64 f.sport, .int .u32 f.dst, .int .i64 f.dport]) 150 (by kernel_rfl) (by kernel_rfl) (fun _ hS_ => run_ld (Fr.has hS_ (hC238.get 1 rfl) (by simp)) rfl) hS239 ?_
              refine WD.load (NoPanic.then (NoPanic.then (NoPanic.block (NoPanic.then (NoPanic.then (NoPanic.block (NoPanic.then hN))))))) 7 44 (.pointer (some ⟨p, 0, none⟩)) (.slice A3 n3 c3) 154 (by kernel_rfl) (by kernel_rfl) (fun _ hS_ => run_ld (Fr.has hS_ (hC238.get 0 rfl) (by simp)) rfl) hS239 ?_
              have hn247 := own_count cellsE_len (by decide) ho240
              obtain ⟨e243, he244⟩ := get_some (xs := L3) (i := k) (by omega)
              obtain ⟨b245, hA246⟩ := own_addr (by decide) cellsE_len ho240 he244
              refine WD.index (NoPanic.then (NoPanic.then (NoPanic.block (NoPanic.then (NoPanic.then (NoPanic.block (NoPanic.then hN))))))) 9 A3 n3 c3 156 .i64 (k : Int) b245 0 k 10 (by kernel_rfl) (by kernel_rfl) hA246 (by omega) (by omega) (k * 10) (by first | (simp; done) | omega) hS239 ?_
              refine WD.pure (NoPanic.then (NoPanic.then (NoPanic.block (NoPanic.then (NoPanic.then (NoPanic.block (NoPanic.then hN))))))) 10 157 (.pointer (some ⟨b245, k * 10, none⟩)) (by kernel_rfl) (fun _ => by kernel_rfl) hS239 ?_
              refine WD.load (NoPanic.then (NoPanic.then (NoPanic.block (NoPanic.then (NoPanic.then (NoPanic.block (NoPanic.then hN))))))) 11 32 (.pointer (some ⟨b245, k * 10, none⟩)) (.agg #[.int .i64 e243.flow.proto, .int .u32 e243.flow.src, .int .i64 e243.flow.sport, .int .u32 e243.flow.dst, .int .i64 e243.flow.dport]) 158 (by kernel_rfl) (by kernel_rfl) (fun _ hS_ => run_rdN (l := [.int .i64 e243.flow.proto, .int .u32 e243.flow.src, .int .i64 e243.flow.sport, .int .u32 e243.flow.dst, .int .i64 e243.flow.dport]) rfl rfl (fun j u hu => by have hq_ := Rd.cell (own_rd (own_fr ho240 hS_ (by simp)) cellsE_len (by decide)) hA246 he244 j u (pre_get 5 rfl hu); simpa [Nat.add_assoc] using hq_)) hS239 ?_
              refine WD.call 12 (by kernel_rfl) rfl rfl rfl rfl rfl (by kernel_rfl) (RLess_ct f e243.flow w236 hbf (hbl3_ _ (List.mem_of_getElem? he244))) ?_
              rintro _ w249 ⟨rfl, hF248⟩
              have hS251 := hS239.trans hF248 (by simp)
              refine ⟨_, rfl, hS251, ?_⟩
              have hC250 := hC238.call hF248
              have ho252 := own_fr ho240 hF248 (by simp)
              have ho253 := own_fr ho241 hF248 (by simp)
              refine WD.pure (NoPanic.then (NoPanic.then (NoPanic.block (NoPanic.then (NoPanic.then (NoPanic.block (NoPanic.then hN))))))) 13 160 (.bool (lessF f e243.flow)) (by kernel_rfl) (fun _ => by kernel_rfl) hS251 ?_
              refine WD.done (by kernel_rfl) ?_
              refine QX.then_normal (hK235 _ _ ?_)
              refine WC.test_at 160 (lessF f e243.flow) rfl (fun t254b => ?_) (fun t254b => ?_)
              · -- (lessF f e243.flow) = true: true
                refine WC.cond_true rfl ?_
                refine WC.seq (fun K255 hK256 => ?_)
                refine WC.region ?_
                refine WL.runs 1 [(161, .slice A7 n7 c7)] (fun _ => by kernel_rfl) ?_
                refine WL.load 34 (.pointer (some ⟨g203, 0, none⟩)) (.agg #[.int .i64 f.proto, .int .u32 f.src, .int .i64 f.sport, .int .u32 f.dst, .int .i64 f.dport, .int .u32 dip, .int .i64 ep, .bool false, .bool false, .int .i64 now]) 162 (by kernel_rfl) (run_ld (hC250.get 5 rfl) rfl) ?_
                refine WL.newM hC250 (fun b => .slice (some ⟨b, 0, none⟩) 1 1) (.cells #[.int .i64 f.proto, .int .u32 f.src, .int .i64 f.sport, .int .u32 f.dst, .int .i64 f.dport, .int .u32 dip, .int .i64 ep, .bool false, .bool false, .int .i64 now] 34) 163 (fun _ => by kernel_rfl) (fun g257 w258 hb261 hF259 hC260 => ?_)
                have ho262 := own_fr ho252 hF259 (by simp)
                have ho263 := own_fr ho253 hF259 (by simp)
                obtain ⟨v264, w265, hr266, ho267, hF268, hC269, hnil270, hsub271⟩ := app_run Try.prog hC260 1 (v := .slice A7 n7 c7) rfl 44 44 34 10 72 n7 1 1 (some ⟨g257, 0, none⟩) rfl ho263 [.int .i64 f.proto, .int .u32 f.src, .int .i64 f.sport, .int .u32 f.dst, .int .i64 f.dport, .int .u32 dip, .int .i64 ep, .bool false, .bool false, .int .i64 now] rfl (srcOk.blk 1 (hC260.get 6 rfl)) rfl (by simp only [maxLen]; omega) (by omega)
                have ho275 := own_snoc (enc := cellsE) (ys := nx) (⟨f, dip, ep, false, false, now⟩ : Ent) ho267
                obtain ⟨A272, c273, rfl, hle274⟩ := own_form ho275
                refine WL.sem (Builtin.append_ #[44, 44] 44 #[.slice A7 n7 c7, .slice (some ⟨g257, 0, none⟩) 1 1]) 164 (.slice A272 (n7 + 1) c273) (by kernel_rfl) hr266 ?_
                have ho276 := own_fr ho262 hF268 (hC260.disj 0 1 rfl rfl (by decide))
                refine WL.runs 1 [(22, .slice A272 (n7 + 1) c273)] (fun _ => by kernel_rfl) ?_
                refine WL.done rfl ?_
                refine QX.then_normal (hK256 _ _ ?_)
                refine WC.region ?_
                refine WL.runs 1 [(23, .bool true)] (fun _ => by kernel_rfl) ?_
                refine WL.done rfl ?_
                refine QX.then_normal (hK233 _ _ ?_)
                refine WC.region ?_
                refine WL.runs 4 [(168, .pointer (some ⟨p, 0, none⟩)), (167, .pointer (some ⟨p, 0, none⟩)), (166, .pointer (some ⟨p, 0, none⟩)), (165, .slice A272 (n7 + 1) c273)] (fun _ => by kernel_rfl) ?_
                refine WL.load 44 (.pointer (some ⟨p, 0, none⟩)) (.slice A3 n3 c3) 169 (by kernel_rfl) (run_ld (hC269.get 0 rfl) rfl) ?_
                refine WL.runs 1 [(170, .int .i64 (k : Int))] (fun _ => by kernel_rfl) ?_
                refine WL.index A3 n3 c3 171 .i64 (k : Int) b245 0 k 10 (by kernel_rfl) hA246 (by omega) (by omega) (k * 10) (by first | (simp; done) | omega) ?_
                refine WL.load 34 (.pointer (some ⟨b245, k * 10, none⟩)) (.agg #[.int .i64 e243.flow.proto, .int .u32 e243.flow.src, .int .i64 e243.flow.sport, .int .u32 e243.flow.dst, .int .i64 e243.flow.dport, .int .u32 e243.dip, .int .i64 e243.epoch, .bool e243.trusted, .bool e243.closing, .int .i64 e243.last]) 172 (by kernel_rfl) (run_rdN (l := [.int .i64 e243.flow.proto, .int .u32 e243.flow.src, .int .i64 e243.flow.sport, .int .u32 e243.flow.dst, .int .i64 e243.flow.dport, .int .u32 e243.dip, .int .i64 e243.epoch, .bool e243.trusted, .bool e243.closing, .int .i64 e243.last]) rfl rfl (fun j u hu => by have hq_ := Rd.cell (own_rd ho276 cellsE_len (by decide)) hA246 he244 j u hu; simpa [Nat.add_assoc] using hq_)) ?_
                refine WL.newM hC269 (fun b => .slice (some ⟨b, 0, none⟩) 1 1) (.cells #[.int .i64 e243.flow.proto, .int .u32 e243.flow.src, .int .i64 e243.flow.sport, .int .u32 e243.flow.dst, .int .i64 e243.flow.dport, .int .u32 e243.dip, .int .i64 e243.epoch, .bool e243.trusted, .bool e243.closing, .int .i64 e243.last] 34) 173 (fun _ => by kernel_rfl) (fun g281 w282 hb285 hF283 hC284 => ?_)
                have ho286 := own_fr ho276 hF283 (by simp)
                have ho287 := own_fr ho275 hF283 (by simp)
                obtain ⟨v288, w289, hr290, ho291, hF292, hC293, hnil294, hsub295⟩ := app_run Try.prog hC284 1 (v := .slice A272 (n7 + 1) c273) rfl 44 44 34 10 72 (n7 + 1) 1 1 (some ⟨g281, 0, none⟩) rfl ho287 [.int .i64 e243.flow.proto, .int .u32 e243.flow.src, .int .i64 e243.flow.sport, .int .u32 e243.flow.dst, .int .i64 e243.flow.dport, .int .u32 e243.dip, .int .i64 e243.epoch, .bool e243.trusted, .bool e243.closing, .int .i64 e243.last] rfl (srcOk.blk 1 (hC284.get 7 rfl)) rfl (by simp only [maxLen]; omega) (by omega)
                have ho299 := own_snoc (enc := cellsE) (ys := nx ++ [(⟨f, dip, ep, false, false, now⟩ : Ent)]) e243 ho291
                obtain ⟨A296, c297, rfl, hle298⟩ := own_form ho299
                refine WL.sem (Builtin.append_ #[44, 44] 44 #[.slice A272 (n7 + 1) c273, .slice (some ⟨g281, 0, none⟩) 1 1]) 174 (.slice A296 (n7 + 1 + 1) c297) (by kernel_rfl) hr290 ?_
                have ho300 := own_fr ho286 hF292 (hC284.disj 0 1 rfl rfl (by decide))
                refine WL.runs 1 [(22, .slice A296 (n7 + 1 + 1) c297)] (fun _ => by kernel_rfl) ?_
                refine WL.done rfl ?_
                refine QX.block_normal ?_
                refine QX.then_normal (hK231 _ _ ?_)
                refine WC.region ?_
                refine WL.runs 2 [(146, .int .i64 (IntKind.i64.wrap ((k : Int) + 1))), (145, .int .i64 (k : Int))] (fun _ => by kernel_rfl) ?_
                refine WL.recast (show (.int .i64 (IntKind.i64.wrap ((k : Int) + 1)) : Value) = .int .i64 ((k : Int) + 1) from by rw [wrap_in_i64 ((k : Int) + 1) (by omega) (by omega)]) ?_
                refine WL.runs 1 [(25, .int .i64 ((k : Int) + 1))] (fun _ => by kernel_rfl) ?_
                refine WL.done rfl ?_
                refine QX.then_normal ?_
                have hC301 := hC293.pick [0, 1, 2, 3, 4, 5] [0, 1] rfl rfl
                refine fun a_ ha_ => hK220 _ _ _ ?_ ⟨k + 1, true, A296, n7 + 1 + 1, c297, nx ++ [(⟨f, dip, ep, false, false, now⟩ : Ent)] ++ [e243], rfl, rfl, hC301, ho300, ho299, by omega, ins_hit hins t242 he244 t254b⟩ a_ (ha_.weaken (sub_of ⟨rfl, rfl, rfl, rfl, rfl, rfl, rfl, rfl, rfl, rfl, rfl, rfl, rfl, rfl, rfl, rfl, trivial⟩))
                omega
              · -- (lessF f e243.flow) = true: false
                refine WC.cond_false rfl ?_
                refine WC.skip ?_
                refine QX.then_normal (hK233 _ _ ?_)
                refine WC.region ?_
                refine WL.runs 4 [(168, .pointer (some ⟨p, 0, none⟩)), (167, .pointer (some ⟨p, 0, none⟩)), (166, .pointer (some ⟨p, 0, none⟩)), (165, .slice A7 n7 c7)] (fun _ => by kernel_rfl) ?_
                refine WL.load 44 (.pointer (some ⟨p, 0, none⟩)) (.slice A3 n3 c3) 169 (by kernel_rfl) (run_ld (hC250.get 0 rfl) rfl) ?_
                refine WL.runs 1 [(170, .int .i64 (k : Int))] (fun _ => by kernel_rfl) ?_
                refine WL.index A3 n3 c3 171 .i64 (k : Int) b245 0 k 10 (by kernel_rfl) hA246 (by omega) (by omega) (k * 10) (by first | (simp; done) | omega) ?_
                refine WL.load 34 (.pointer (some ⟨b245, k * 10, none⟩)) (.agg #[.int .i64 e243.flow.proto, .int .u32 e243.flow.src, .int .i64 e243.flow.sport, .int .u32 e243.flow.dst, .int .i64 e243.flow.dport, .int .u32 e243.dip, .int .i64 e243.epoch, .bool e243.trusted, .bool e243.closing, .int .i64 e243.last]) 172 (by kernel_rfl) (run_rdN (l := [.int .i64 e243.flow.proto, .int .u32 e243.flow.src, .int .i64 e243.flow.sport, .int .u32 e243.flow.dst, .int .i64 e243.flow.dport, .int .u32 e243.dip, .int .i64 e243.epoch, .bool e243.trusted, .bool e243.closing, .int .i64 e243.last]) rfl rfl (fun j u hu => by have hq_ := Rd.cell (own_rd ho252 cellsE_len (by decide)) hA246 he244 j u hu; simpa [Nat.add_assoc] using hq_)) ?_
                refine WL.newM hC250 (fun b => .slice (some ⟨b, 0, none⟩) 1 1) (.cells #[.int .i64 e243.flow.proto, .int .u32 e243.flow.src, .int .i64 e243.flow.sport, .int .u32 e243.flow.dst, .int .i64 e243.flow.dport, .int .u32 e243.dip, .int .i64 e243.epoch, .bool e243.trusted, .bool e243.closing, .int .i64 e243.last] 34) 173 (fun _ => by kernel_rfl) (fun g306 w307 hb310 hF308 hC309 => ?_)
                have ho311 := own_fr ho252 hF308 (by simp)
                have ho312 := own_fr ho253 hF308 (by simp)
                obtain ⟨v313, w314, hr315, ho316, hF317, hC318, hnil319, hsub320⟩ := app_run Try.prog hC309 1 (v := .slice A7 n7 c7) rfl 44 44 34 10 72 n7 1 1 (some ⟨g306, 0, none⟩) rfl ho312 [.int .i64 e243.flow.proto, .int .u32 e243.flow.src, .int .i64 e243.flow.sport, .int .u32 e243.flow.dst, .int .i64 e243.flow.dport, .int .u32 e243.dip, .int .i64 e243.epoch, .bool e243.trusted, .bool e243.closing, .int .i64 e243.last] rfl (srcOk.blk 1 (hC309.get 6 rfl)) rfl (by simp only [maxLen]; omega) (by omega)
                have ho324 := own_snoc (enc := cellsE) (ys := nx) e243 ho316
                obtain ⟨A321, c322, rfl, hle323⟩ := own_form ho324
                refine WL.sem (Builtin.append_ #[44, 44] 44 #[.slice A7 n7 c7, .slice (some ⟨g306, 0, none⟩) 1 1]) 174 (.slice A321 (n7 + 1) c322) (by kernel_rfl) hr315 ?_
                have ho325 := own_fr ho311 hF317 (hC309.disj 0 1 rfl rfl (by decide))
                refine WL.runs 1 [(22, .slice A321 (n7 + 1) c322)] (fun _ => by kernel_rfl) ?_
                refine WL.done rfl ?_
                refine QX.block_normal ?_
                refine QX.then_normal (hK231 _ _ ?_)
                refine WC.region ?_
                refine WL.runs 2 [(146, .int .i64 (IntKind.i64.wrap ((k : Int) + 1))), (145, .int .i64 (k : Int))] (fun _ => by kernel_rfl) ?_
                refine WL.recast (show (.int .i64 (IntKind.i64.wrap ((k : Int) + 1)) : Value) = .int .i64 ((k : Int) + 1) from by rw [wrap_in_i64 ((k : Int) + 1) (by omega) (by omega)]) ?_
                refine WL.runs 1 [(25, .int .i64 ((k : Int) + 1))] (fun _ => by kernel_rfl) ?_
                refine WL.done rfl ?_
                refine QX.then_normal ?_
                have hC326 := hC318.pick [0, 1, 2, 3, 4, 5] [0, 1] rfl rfl
                refine fun a_ ha_ => hK220 _ _ _ ?_ ⟨k + 1, dn, A321, n7 + 1, c322, nx ++ [e243], rfl, rfl, hC326, ho325, ho324, by omega, ins_miss hins t242 he244 t254b⟩ a_ (ha_.weaken (sub_of ⟨rfl, rfl, rfl, rfl, rfl, rfl, rfl, rfl, rfl, rfl, rfl, rfl, rfl, rfl, rfl, rfl, trivial⟩))
                omega
            · -- !dn = true: false
              have t242 : dn = true := by first | (simpa only [Bool.not_eq_true', Bool.not_eq_false'] using t242b) | simpa using t242b
              refine WD.pure (NoPanic.then (NoPanic.then (NoPanic.block (NoPanic.then (NoPanic.then (NoPanic.block (NoPanic.then hN))))))) 3 150 (undef) (by kernel_rfl) (fun _ => by kernel_rfl) hS239 ?_
              refine WD.pure (NoPanic.then (NoPanic.then (NoPanic.block (NoPanic.then (NoPanic.then (NoPanic.block (NoPanic.then hN))))))) 4 151 (undef) (by kernel_rfl) (fun _ => by kernel_rfl) hS239 ?_
              refine WD.pure (NoPanic.then (NoPanic.then (NoPanic.block (NoPanic.then (NoPanic.then (NoPanic.block (NoPanic.then hN))))))) 5 152 (undef) (by kernel_rfl) (fun _ => by kernel_rfl) hS239 ?_
              refine WD.pure (NoPanic.then (NoPanic.then (NoPanic.block (NoPanic.then (NoPanic.then (NoPanic.block (NoPanic.then hN))))))) 6 153 (undef) (by kernel_rfl) (fun _ => by kernel_rfl) hS239 ?_
              refine WD.pure (NoPanic.then (NoPanic.then (NoPanic.block (NoPanic.then (NoPanic.then (NoPanic.block (NoPanic.then hN))))))) 7 154 (undef) (by kernel_rfl) (fun _ => by kernel_rfl) hS239 ?_
              refine WD.pure (NoPanic.then (NoPanic.then (NoPanic.block (NoPanic.then (NoPanic.then (NoPanic.block (NoPanic.then hN))))))) 8 155 (undef) (by kernel_rfl) (fun _ => by kernel_rfl) hS239 ?_
              refine WD.pure (NoPanic.then (NoPanic.then (NoPanic.block (NoPanic.then (NoPanic.then (NoPanic.block (NoPanic.then hN))))))) 9 156 (undef) (by kernel_rfl) (fun _ => by kernel_rfl) hS239 ?_
              refine WD.pure (NoPanic.then (NoPanic.then (NoPanic.block (NoPanic.then (NoPanic.then (NoPanic.block (NoPanic.then hN))))))) 10 157 (undef) (by kernel_rfl) (fun _ => by kernel_rfl) hS239 ?_
              refine WD.pure (NoPanic.then (NoPanic.then (NoPanic.block (NoPanic.then (NoPanic.then (NoPanic.block (NoPanic.then hN))))))) 11 158 (undef) (by kernel_rfl) (fun _ => by kernel_rfl) hS239 ?_
              refine WD.pure (NoPanic.then (NoPanic.then (NoPanic.block (NoPanic.then (NoPanic.then (NoPanic.block (NoPanic.then hN))))))) 12 159 (undef) (by kernel_rfl) (fun _ => by kernel_rfl) hS239 ?_
              refine WD.pure (NoPanic.then (NoPanic.then (NoPanic.block (NoPanic.then (NoPanic.then (NoPanic.block (NoPanic.then hN))))))) 13 160 (.bool false) (by kernel_rfl) (fun _ => by kernel_rfl) hS239 ?_
              refine WD.done (by kernel_rfl) ?_
              refine QX.then_normal (hK235 _ _ ?_)
              refine WC.cond_false rfl ?_
              refine WC.skip ?_
              refine QX.then_normal (hK233 _ _ ?_)
              refine WC.region ?_
              refine WL.runs 4 [(168, .pointer (some ⟨p, 0, none⟩)), (167, .pointer (some ⟨p, 0, none⟩)), (166, .pointer (some ⟨p, 0, none⟩)), (165, .slice A7 n7 c7)] (fun _ => by kernel_rfl) ?_
              refine WL.load 44 (.pointer (some ⟨p, 0, none⟩)) (.slice A3 n3 c3) 169 (by kernel_rfl) (run_ld (hC238.get 0 rfl) rfl) ?_
              refine WL.runs 1 [(170, .int .i64 (k : Int))] (fun _ => by kernel_rfl) ?_
              have hn331 := own_count cellsE_len (by decide) ho240
              obtain ⟨e327, he328⟩ := get_some (xs := L3) (i := k) (by omega)
              obtain ⟨b329, hA330⟩ := own_addr (by decide) cellsE_len ho240 he328
              refine WL.index A3 n3 c3 171 .i64 (k : Int) b329 0 k 10 (by kernel_rfl) hA330 (by omega) (by omega) (k * 10) (by first | (simp; done) | omega) ?_
              refine WL.load 34 (.pointer (some ⟨b329, k * 10, none⟩)) (.agg #[.int .i64 e327.flow.proto, .int .u32 e327.flow.src, .int .i64 e327.flow.sport, .int .u32 e327.flow.dst, .int .i64 e327.flow.dport, .int .u32 e327.dip, .int .i64 e327.epoch, .bool e327.trusted, .bool e327.closing, .int .i64 e327.last]) 172 (by kernel_rfl) (run_rdN (l := [.int .i64 e327.flow.proto, .int .u32 e327.flow.src, .int .i64 e327.flow.sport, .int .u32 e327.flow.dst, .int .i64 e327.flow.dport, .int .u32 e327.dip, .int .i64 e327.epoch, .bool e327.trusted, .bool e327.closing, .int .i64 e327.last]) rfl rfl (fun j u hu => by have hq_ := Rd.cell (own_rd ho240 cellsE_len (by decide)) hA330 he328 j u hu; simpa [Nat.add_assoc] using hq_)) ?_
              refine WL.newM hC238 (fun b => .slice (some ⟨b, 0, none⟩) 1 1) (.cells #[.int .i64 e327.flow.proto, .int .u32 e327.flow.src, .int .i64 e327.flow.sport, .int .u32 e327.flow.dst, .int .i64 e327.flow.dport, .int .u32 e327.dip, .int .i64 e327.epoch, .bool e327.trusted, .bool e327.closing, .int .i64 e327.last] 34) 173 (fun _ => by kernel_rfl) (fun g332 w333 hb336 hF334 hC335 => ?_)
              have ho337 := own_fr ho240 hF334 (by simp)
              have ho338 := own_fr ho241 hF334 (by simp)
              obtain ⟨v339, w340, hr341, ho342, hF343, hC344, hnil345, hsub346⟩ := app_run Try.prog hC335 1 (v := .slice A7 n7 c7) rfl 44 44 34 10 72 n7 1 1 (some ⟨g332, 0, none⟩) rfl ho338 [.int .i64 e327.flow.proto, .int .u32 e327.flow.src, .int .i64 e327.flow.sport, .int .u32 e327.flow.dst, .int .i64 e327.flow.dport, .int .u32 e327.dip, .int .i64 e327.epoch, .bool e327.trusted, .bool e327.closing, .int .i64 e327.last] rfl (srcOk.blk 1 (hC335.get 6 rfl)) rfl (by simp only [maxLen]; omega) (by omega)
              have ho350 := own_snoc (enc := cellsE) (ys := nx) e327 ho342
              obtain ⟨A347, c348, rfl, hle349⟩ := own_form ho350
              refine WL.sem (Builtin.append_ #[44, 44] 44 #[.slice A7 n7 c7, .slice (some ⟨g332, 0, none⟩) 1 1]) 174 (.slice A347 (n7 + 1) c348) (by kernel_rfl) hr341 ?_
              have ho351 := own_fr ho337 hF343 (hC335.disj 0 1 rfl rfl (by decide))
              refine WL.runs 1 [(22, .slice A347 (n7 + 1) c348)] (fun _ => by kernel_rfl) ?_
              refine WL.done rfl ?_
              refine QX.block_normal ?_
              refine QX.then_normal (hK231 _ _ ?_)
              refine WC.region ?_
              refine WL.runs 2 [(146, .int .i64 (IntKind.i64.wrap ((k : Int) + 1))), (145, .int .i64 (k : Int))] (fun _ => by kernel_rfl) ?_
              refine WL.recast (show (.int .i64 (IntKind.i64.wrap ((k : Int) + 1)) : Value) = .int .i64 ((k : Int) + 1) from by rw [wrap_in_i64 ((k : Int) + 1) (by omega) (by omega)]) ?_
              refine WL.runs 1 [(25, .int .i64 ((k : Int) + 1))] (fun _ => by kernel_rfl) ?_
              refine WL.done rfl ?_
              refine QX.then_normal ?_
              have hC352 := hC344.pick [0, 1, 2, 3, 4, 5] [0, 1] rfl rfl
              refine fun a_ ha_ => hK220 _ _ _ ?_ ⟨k + 1, dn, A347, n7 + 1, c348, nx ++ [e327], rfl, rfl, hC352, ho351, ho350, by omega, ins_done hins t242 he328⟩ a_ (ha_.weaken (sub_of ⟨rfl, rfl, rfl, rfl, rfl, rfl, rfl, rfl, rfl, rfl, rfl, rfl, rfl, rfl, rfl, rfl, trivial⟩))
              omega
          · -- (k : Int) < (n3 : Int): false
            have t229 : (n3 : Int) ≤ (k : Int) := by have q_ := of_decide_eq_false t229b; omega
            refine WC.cond_false rfl ?_
            refine WC.exit ?_
            refine QX.then_exit ?_
            refine QX.then_exit ?_
            refine QX.block_hit ?_
            refine QX.then_normal (hK215 _ _ ?_)
            refine WC.seq (fun K353 hK354 => ?_)
            refine WC.seq (fun K355 hK356 => ?_)
            refine WC.region ?_
            refine WL.runs 2 [(176, .bool !dn), (175, .bool dn)] (fun _ => by kernel_rfl) ?_
            refine WL.done rfl ?_
            refine QX.then_normal (hK356 _ _ ?_)
            refine WC.test_at 176 (!dn) rfl (fun t357b => ?_) (fun t357b => ?_)
            · -- !dn = true: true
              have t357 : dn = false := by first | (simpa only [Bool.not_eq_true', Bool.not_eq_false'] using t357b) | simpa using t357b
              refine WC.cond_true rfl ?_
              refine WC.region ?_
              refine WL.runs 1 [(177, .slice A7 n7 c7)] (fun _ => by kernel_rfl) ?_
              refine WL.load 34 (.pointer (some ⟨g203, 0, none⟩)) (.agg #[.int .i64 f.proto, .int .u32 f.src, .int .i64 f.sport, .int .u32 f.dst, .int .i64 f.dport, .int .u32 dip, .int .i64 ep, .bool false, .bool false, .int .i64 now]) 178 (by kernel_rfl) (run_ld (hC224.get 5 rfl) rfl) ?_
              refine WL.newM hC224 (fun b => .slice (some ⟨b, 0, none⟩) 1 1) (.cells #[.int .i64 f.proto, .int .u32 f.src, .int .i64 f.sport, .int .u32 f.dst, .int .i64 f.dport, .int .u32 dip, .int .i64 ep, .bool false, .bool false, .int .i64 now] 34) 179 (fun _ => by kernel_rfl) (fun g358 w359 hb362 hF360 hC361 => ?_)
              have ho363 := own_fr row_m222 hF360 (by simp)
              have ho364 := own_fr hnx7 hF360 (by simp)
              obtain ⟨v365, w366, hr367, ho368, hF369, hC370, hnil371, hsub372⟩ := app_run Try.prog hC361 1 (v := .slice A7 n7 c7) rfl 44 44 34 10 72 n7 1 1 (some ⟨g358, 0, none⟩) rfl ho364 [.int .i64 f.proto, .int .u32 f.src, .int .i64 f.sport, .int .u32 f.dst, .int .i64 f.dport, .int .u32 dip, .int .i64 ep, .bool false, .bool false, .int .i64 now] rfl (srcOk.blk 1 (hC361.get 6 rfl)) rfl (by simp only [maxLen]; omega) (by omega)
              have ho376 := own_snoc (enc := cellsE) (ys := nx) (⟨f, dip, ep, false, false, now⟩ : Ent) ho368
              obtain ⟨A373, c374, rfl, hle375⟩ := own_form ho376
              refine WL.sem (Builtin.append_ #[44, 44] 44 #[.slice A7 n7 c7, .slice (some ⟨g358, 0, none⟩) 1 1]) 180 (.slice A373 (n7 + 1) c374) (by kernel_rfl) hr367 ?_
              have ho377 := own_fr ho363 hF369 (hC361.disj 0 1 rfl rfl (by decide))
              refine WL.runs 1 [(22, .slice A373 (n7 + 1) c374)] (fun _ => by kernel_rfl) ?_
              refine WL.done rfl ?_
              refine QX.then_normal (hK354 _ _ ?_)
              refine WC.seq (fun K378 hK379 => ?_)
              refine WC.region ?_
              refine WL.runs 4 [(184, .pointer (some ⟨p, 0, none⟩)), (183, .pointer (some ⟨p, 0, none⟩)), (182, .slice A373 (n7 + 1) c374), (181, .pointer (some ⟨p, 0, none⟩))] (fun _ => by kernel_rfl) ?_
              refine WL.storeM (c' := #[.slice A373 (n7 + 1) c374, .int .i64 tr, .int .i64 un]) hC370 0 44 p 0 (.slice A373 (n7 + 1) c374) (by kernel_rfl) rfl (by kernel_rfl) (fun w380 hF382 hC383 => ?_)
              have ho384 := own_fr ho377 hF382 (hC370.apartM 0 0 rfl rfl)
              have ho385 := own_fr ho376 hF382 (hC370.apartM 1 0 rfl rfl)
              refine WL.done rfl ?_
              refine QX.then_normal (hK379 _ _ ?_)
              refine WC.seq (fun K386 hK387 => ?_)
              refine WC.region ?_
              refine WL.load 34 (.pointer (some ⟨g101, 0, none⟩)) (.agg #[.int .i64 o3.flow.proto, .int .u32 o3.flow.src, .int .i64 o3.flow.sport, .int .u32 o3.flow.dst, .int .i64 o3.flow.dport, .int .u32 o3.dip, .int .i64 o3.epoch, .bool o3.trusted, .bool o3.closing, .int .i64 o3.last]) 185 (by kernel_rfl) (run_ld (hC383.get 4 rfl) rfl) ?_
              refine WL.runs 1 [(186, .bool fl)] (fun _ => by kernel_rfl) ?_
              refine WL.storeM (c' := #[.int .i64 o3.flow.proto, .int .u32 o3.flow.src, .int .i64 o3.flow.sport, .int .u32 o3.flow.dst, .int .i64 o3.flow.dport, .int .u32 o3.dip, .int .i64 o3.epoch, .bool o3.trusted, .bool o3.closing, .int .i64 o3.last]) hC383 2 34 g10 0 (.agg #[.int .i64 o3.flow.proto, .int .u32 o3.flow.src, .int .i64 o3.flow.sport, .int .u32 o3.flow.dst, .int .i64 o3.flow.dport, .int .u32 o3.dip, .int .i64 o3.epoch, .bool o3.trusted, .bool o3.closing, .int .i64 o3.last]) (by kernel_rfl) rfl (by kernel_rfl) (fun w388 hF390 hC391 => ?_)
              have ho392 := own_fr ho384 hF390 (hC383.apartM 0 2 rfl rfl)
              have ho393 := own_fr ho385 hF390 (hC383.apartM 1 2 rfl rfl)
              refine WL.runs 2 [(12, .int .i64 0), (11, .bool fl)] (fun _ => by kernel_rfl) ?_
              refine WL.done rfl ?_
              refine QX.then_normal (hK387 _ _ ?_)
              refine WC.ret ?_
              refine (hret' _ _ (.tuple #[.agg #[.int .i64 o3.flow.proto, .int .u32 o3.flow.src, .int .i64 o3.flow.sport, .int .u32 o3.flow.dst, .int .i64 o3.flow.dport, .int .u32 o3.dip, .int .i64 o3.epoch, .bool o3.trusted, .bool o3.closing, .int .i64 o3.last], .bool fl, .int .i64 0]) (fun a ha => ?_) ?_).1
              · exact res_run ha ((ResR.cell rfl (run_ld (hC391.get 2 rfl) rfl) (ResR.tmp rfl (ResR.tmp rfl ResR.nil)))) rfl
              clear hN hret hret' hK387 hK379 hK356 hK354 hK228 hK226 hK217 hK215 hK202 hK200 hK198 hK113 hK100 hK94 hK84 hK82 hK80 hK78 hK64 hK50 hK48 hK34 hK32 hK18 hK2
              have hie_ := ins_end hins (by omega)
              rw [if_neg (by rw [t357]; decide)] at hie_
              have hown_ := ho393
              rw [← hie_] at hown_
              exact ⟨_, o3, fl, 0, _, rfl, hC391.fr, df_mk hC391 0 1 rfl rfl hown_, fun x_ hx_ => (List.mem_cons.1 hx_).elim (fun e_ => by subst e_; exact .inl List.mem_cons_self) (fun h_ => hC391.ownF _ (List.mem_of_getElem? (show _[1]? = some (blk (.slice A373 (n7 + 1) c374)) from rfl)) x_ h_), .new L3 o3 fl t39 t55 hnn70 (by simpa using t85b) hle3⟩
            · -- !dn = true: false
              have t357 : dn = true := by first | (simpa only [Bool.not_eq_true', Bool.not_eq_false'] using t357b) | simpa using t357b
              refine WC.cond_false rfl ?_
              refine WC.skip ?_
              refine QX.then_normal (hK354 _ _ ?_)
              refine WC.seq (fun K394 hK395 => ?_)
              refine WC.region ?_
              refine WL.runs 4 [(184, .pointer (some ⟨p, 0, none⟩)), (183, .pointer (some ⟨p, 0, none⟩)), (182, .slice A7 n7 c7), (181, .pointer (some ⟨p, 0, none⟩))] (fun _ => by kernel_rfl) ?_
              refine WL.storeM (c' := #[.slice A7 n7 c7, .int .i64 tr, .int .i64 un]) hC224 0 44 p 0 (.slice A7 n7 c7) (by kernel_rfl) rfl (by kernel_rfl) (fun w396 hF398 hC399 => ?_)
              have ho400 := own_fr row_m222 hF398 (hC224.apartM 0 0 rfl rfl)
              have ho401 := own_fr hnx7 hF398 (hC224.apartM 1 0 rfl rfl)
              refine WL.done rfl ?_
              refine QX.then_normal (hK395 _ _ ?_)
              refine WC.seq (fun K402 hK403 => ?_)
              refine WC.region ?_
              refine WL.load 34 (.pointer (some ⟨g101, 0, none⟩)) (.agg #[.int .i64 o3.flow.proto, .int .u32 o3.flow.src, .int .i64 o3.flow.sport, .int .u32 o3.flow.dst, .int .i64 o3.flow.dport, .int .u32 o3.dip, .int .i64 o3.epoch, .bool o3.trusted, .bool o3.closing, .int .i64 o3.last]) 185 (by kernel_rfl) (run_ld (hC399.get 4 rfl) rfl) ?_
              refine WL.runs 1 [(186, .bool fl)] (fun _ => by kernel_rfl) ?_
              refine WL.storeM (c' := #[.int .i64 o3.flow.proto, .int .u32 o3.flow.src, .int .i64 o3.flow.sport, .int .u32 o3.flow.dst, .int .i64 o3.flow.dport, .int .u32 o3.dip, .int .i64 o3.epoch, .bool o3.trusted, .bool o3.closing, .int .i64 o3.last]) hC399 2 34 g10 0 (.agg #[.int .i64 o3.flow.proto, .int .u32 o3.flow.src, .int .i64 o3.flow.sport, .int .u32 o3.flow.dst, .int .i64 o3.flow.dport, .int .u32 o3.dip, .int .i64 o3.epoch, .bool o3.trusted, .bool o3.closing, .int .i64 o3.last]) (by kernel_rfl) rfl (by kernel_rfl) (fun w404 hF406 hC407 => ?_)
              have ho408 := own_fr ho400 hF406 (hC399.apartM 0 2 rfl rfl)
              have ho409 := own_fr ho401 hF406 (hC399.apartM 1 2 rfl rfl)
              refine WL.runs 2 [(12, .int .i64 0), (11, .bool fl)] (fun _ => by kernel_rfl) ?_
              refine WL.done rfl ?_
              refine QX.then_normal (hK403 _ _ ?_)
              refine WC.ret ?_
              refine (hret' _ _ (.tuple #[.agg #[.int .i64 o3.flow.proto, .int .u32 o3.flow.src, .int .i64 o3.flow.sport, .int .u32 o3.flow.dst, .int .i64 o3.flow.dport, .int .u32 o3.dip, .int .i64 o3.epoch, .bool o3.trusted, .bool o3.closing, .int .i64 o3.last], .bool fl, .int .i64 0]) (fun a ha => ?_) ?_).1
              · exact res_run ha ((ResR.cell rfl (run_ld (hC407.get 2 rfl) rfl) (ResR.tmp rfl (ResR.tmp rfl ResR.nil)))) rfl
              clear hN hret hret' hK403 hK395 hK356 hK354 hK228 hK226 hK217 hK215 hK202 hK200 hK198 hK113 hK100 hK94 hK84 hK82 hK80 hK78 hK64 hK50 hK48 hK34 hK32 hK18 hK2
              have hie_ := ins_end hins (by omega)
              rw [if_pos t357] at hie_
              have hown_ := ho409
              rw [← hie_] at hown_
              exact ⟨_, o3, fl, 0, _, rfl, hC407.fr, df_mk hC407 0 1 rfl rfl hown_, fun x_ hx_ => (List.mem_cons.1 hx_).elim (fun e_ => by subst e_; exact .inl List.mem_cons_self) (fun h_ => hC407.ownF _ (List.mem_of_getElem? (show _[1]? = some (blk (.slice A7 n7 c7)) from rfl)) x_ h_), .new L3 o3 fl t39 t55 hnn70 (by simpa using t85b) hle3⟩
      · -- found: True
        have hil_ := (List.getElem?_eq_some_iff.1 hx67).1
        refine ⟨_, rfl, ?_⟩
        refine WL.runs 1 [(14, .int .i64 (i65 : Int))] (fun _ => by kernel_rfl) ?_
        refine WL.done rfl ?_
        refine QX.then_normal (hK64 _ _ ?_)
        refine WC.seq (fun K410 hK411 => ?_)
        refine WC.seq (fun K412 hK413 => ?_)
        refine WC.region ?_
        refine WL.runs 2 [(39, .bool (decide ((i65 : Int) ≥ 0))), (38, .int .i64 (i65 : Int))] (fun _ => by kernel_rfl) ?_
        refine WL.done rfl ?_
        refine QX.then_normal (hK413 _ _ ?_)
        refine WC.know 39 (.bool (decide ((i65 : Int) ≥ 0))) (.bool true) rfl (congrArg Value.bool (by exact decide_eq_true (by omega))) ?_
        refine WC.cond_true rfl ?_
        refine WC.seq (fun K414 hK415 => ?_)
        refine WC.region ?_
        refine WL.runs 3 [(42, .pointer (some ⟨p, 0, none⟩)), (41, .pointer (some ⟨p, 0, none⟩)), (40, .pointer (some ⟨p, 0, none⟩))] (fun _ => by kernel_rfl) ?_
        refine WL.load 44 (.pointer (some ⟨p, 0, none⟩)) (.slice A1 L.length c1) 43 (by kernel_rfl) (run_ld (hC74.get 0 rfl) rfl) ?_
        refine WL.runs 1 [(44, .int .i64 (i65 : Int))] (fun _ => by kernel_rfl) ?_
        have hn420 := own_count cellsE_len (by decide) ho76
        obtain ⟨e416, he417⟩ := get_some (xs := L) (i := i65) (by omega)
        obtain ⟨b418, hA419⟩ := own_addr (by decide) cellsE_len ho76 he417
        refine WL.index A1 L.length c1 45 .i64 (i65 : Int) b418 0 i65 10 (by kernel_rfl) hA419 (by omega) (by omega) (i65 * 10) (by first | (simp; done) | omega) ?_
        refine WL.load 34 (.pointer (some ⟨b418, i65 * 10, none⟩)) (.agg #[.int .i64 e416.flow.proto, .int .u32 e416.flow.src, .int .i64 e416.flow.sport, .int .u32 e416.flow.dst, .int .i64 e416.flow.dport, .int .u32 e416.dip, .int .i64 e416.epoch, .bool e416.trusted, .bool e416.closing, .int .i64 e416.last]) 46 (by kernel_rfl) (run_rdN (l := [.int .i64 e416.flow.proto, .int .u32 e416.flow.src, .int .i64 e416.flow.sport, .int .u32 e416.flow.dst, .int .i64 e416.flow.dport, .int .u32 e416.dip, .int .i64 e416.epoch, .bool e416.trusted, .bool e416.closing, .int .i64 e416.last]) rfl rfl (fun j u hu => by have hq_ := Rd.cell (own_rd ho76 cellsE_len (by decide)) hA419 he417 j u hu; simpa [Nat.add_assoc] using hq_)) ?_
        have hex_ := Option.some.inj (hx67.symm.trans he417)
        refine WL.newM hC74 (fun b => .pointer (some ⟨b, 0, none⟩)) (.cells #[.int .i64 0, .int .u32 0, .int .i64 0, .int .u32 0, .int .i64 0, .int .u32 0, .int .i64 0, .bool false, .bool false, .int .i64 0] 34) 15 (fun _ => by kernel_rfl) (fun g421 w422 hb425 hF423 hC424 => ?_)
        have ho426 := own_fr ho76 hF423 (by simp)
        refine WL.storeM (c' := #[.int .i64 e416.flow.proto, .int .u32 e416.flow.src, .int .i64 e416.flow.sport, .int .u32 e416.flow.dst, .int .i64 e416.flow.dport, .int .u32 e416.dip, .int .i64 e416.epoch, .bool e416.trusted, .bool e416.closing, .int .i64 e416.last]) hC424 4 34 g421 0 (.agg #[.int .i64 e416.flow.proto, .int .u32 e416.flow.src, .int .i64 e416.flow.sport, .int .u32 e416.flow.dst, .int .i64 e416.flow.dport, .int .u32 e416.dip, .int .i64 e416.epoch, .bool e416.trusted, .bool e416.closing, .int .i64 e416.last]) (by kernel_rfl) rfl (by kernel_rfl) (fun w427 hF429 hC430 => ?_)
        have ho431 := own_fr ho426 hF429 (hC424.apartM 0 4 rfl rfl)
        refine WL.done rfl ?_
        refine QX.then_normal (hK415 _ _ ?_)
        refine WC.seq (fun K432 hK433 => ?_)
        refine WC.region ?_
        refine WL.runs 2 [(48, .pointer (some ⟨g421, 5, none⟩)), (47, .int .u32 dip)] (fun _ => by kernel_rfl) ?_
        refine WL.storeM (c' := #[.int .i64 e416.flow.proto, .int .u32 e416.flow.src, .int .i64 e416.flow.sport, .int .u32 e416.flow.dst, .int .i64 e416.flow.dport, .int .u32 dip, .int .i64 e416.epoch, .bool e416.trusted, .bool e416.closing, .int .i64 e416.last]) hC430 4 30 g421 5 (.int .u32 dip) (by kernel_rfl) rfl (by kernel_rfl) (fun w434 hF436 hC437 => ?_)
        have ho438 := own_fr ho431 hF436 (hC430.apartM 0 4 rfl rfl)
        refine WL.done rfl ?_
        refine QX.then_normal (hK433 _ _ ?_)
        refine WC.seq (fun K439 hK440 => ?_)
        refine WC.region ?_
        refine WL.runs 2 [(50, .pointer (some ⟨g421, 6, none⟩)), (49, .int .i64 ep)] (fun _ => by kernel_rfl) ?_
        refine WL.storeM (c' := #[.int .i64 e416.flow.proto, .int .u32 e416.flow.src, .int .i64 e416.flow.sport, .int .u32 e416.flow.dst, .int .i64 e416.flow.dport, .int .u32 dip, .int .i64 ep, .bool e416.trusted, .bool e416.closing, .int .i64 e416.last]) hC437 4 3 g421 6 (.int .i64 ep) (by kernel_rfl) rfl (by kernel_rfl) (fun w441 hF443 hC444 => ?_)
        have ho445 := own_fr ho438 hF443 (hC437.apartM 0 4 rfl rfl)
        refine WL.done rfl ?_
        refine QX.then_normal (hK440 _ _ ?_)
        refine WC.seq (fun K446 hK447 => ?_)
        refine WC.region ?_
        refine WL.runs 2 [(52, .pointer (some ⟨g421, 9, none⟩)), (51, .int .i64 now)] (fun _ => by kernel_rfl) ?_
        refine WL.storeM (c' := #[.int .i64 e416.flow.proto, .int .u32 e416.flow.src, .int .i64 e416.flow.sport, .int .u32 e416.flow.dst, .int .i64 e416.flow.dport, .int .u32 dip, .int .i64 ep, .bool e416.trusted, .bool e416.closing, .int .i64 now]) hC444 4 3 g421 9 (.int .i64 now) (by kernel_rfl) rfl (by kernel_rfl) (fun w448 hF450 hC451 => ?_)
        have ho452 := own_fr ho445 hF450 (hC444.apartM 0 4 rfl rfl)
        refine WL.done rfl ?_
        refine QX.then_normal (hK447 _ _ ?_)
        refine WC.seq (fun K453 hK454 => ?_)
        refine WC.region ?_
        refine WL.runs 1 [(53, .pointer (some ⟨g421, 8, none⟩))] (fun _ => by kernel_rfl) ?_
        refine WL.storeM (c' := #[.int .i64 e416.flow.proto, .int .u32 e416.flow.src, .int .i64 e416.flow.sport, .int .u32 e416.flow.dst, .int .i64 e416.flow.dport, .int .u32 dip, .int .i64 ep, .bool e416.trusted, .bool false, .int .i64 now]) hC451 4 4 g421 8 (.bool false) (by kernel_rfl) rfl (by kernel_rfl) (fun w455 hF457 hC458 => ?_)
        have ho459 := own_fr ho452 hF457 (hC451.apartM 0 4 rfl rfl)
        refine WL.done rfl ?_
        refine QX.then_normal (hK454 _ _ ?_)
        refine WC.seq (fun K460 hK461 => ?_)
        refine WC.drawC hC458 (blk (.slice A1 L.length c1)) (by kernel_rfl) (fun w462 hF463 hC464 hS465 => ?_)
        have ho466 := own_fr ho459 hF463 (by simp)
        refine WD.pure (NoPanic.then (NoPanic.then hN)) 0 54 (.pointer (some ⟨p, 0, none⟩)) (by kernel_rfl) (fun _ => by kernel_rfl) hS465 ?_
        refine WD.pure (NoPanic.then (NoPanic.then hN)) 1 55 (.pointer (some ⟨p, 0, none⟩)) (by kernel_rfl) (fun _ => by kernel_rfl) hS465 ?_
        refine WD.pure (NoPanic.then (NoPanic.then hN)) 2 56 (.pointer (some ⟨p, 0, none⟩)) (by kernel_rfl) (fun _ => by kernel_rfl) hS465 ?_
        refine WD.pure (NoPanic.then (NoPanic.then hN)) 4 58 (.int .i64 (i65 : Int)) (by kernel_rfl) (fun _ => by kernel_rfl) hS465 ?_
        refine WD.load (NoPanic.then (NoPanic.then hN)) 3 44 (.pointer (some ⟨p, 0, none⟩)) (.slice A1 L.length c1) 57 (by kernel_rfl) (by kernel_rfl) (fun _ hS_ => run_ld (Fr.has hS_ (hC464.get 0 rfl) (hC464.notin 0 0 rfl rfl)) rfl) hS465 ?_
        refine WD.sem 5 (Instr.loadAt 34 (.pointer (some ⟨g421, 0, none⟩))) 59 (.agg #[.int .i64 e416.flow.proto, .int .u32 e416.flow.src, .int .i64 e416.flow.sport, .int .u32 e416.flow.dst, .int .i64 e416.flow.dport, .int .u32 dip, .int .i64 ep, .bool e416.trusted, .bool false, .int .i64 now]) (by kernel_rfl) (by kernel_rfl) (run_ld (hC464.get 4 rfl) rfl) hS465 ?_
        refine WD.index (NoPanic.then (NoPanic.then hN)) 6 A1 L.length c1 60 .i64 (i65 : Int) b418 0 i65 10 (by kernel_rfl) (by kernel_rfl) hA419 (by omega) (by omega) (i65 * 10) (by first | (simp; done) | omega) hS465 ?_
        obtain ⟨w471, hr472, hF473, ho475, hC474⟩ := stoE_run Try.prog cellsE_len hC464 0 hA419 rfl ho466 i65 0 (x := e416) he417 (⟨e416.flow, dip, ep, e416.trusted, false, now⟩ : Ent) [.int .i64 e416.flow.proto, .int .u32 e416.flow.src, .int .i64 e416.flow.sport, .int .u32 e416.flow.dst, .int .i64 e416.flow.dport, .int .u32 dip, .int .i64 ep, .bool e416.trusted, .bool false, .int .i64 now] rfl 34 (.agg #[.int .i64 e416.flow.proto, .int .u32 e416.flow.src, .int .i64 e416.flow.sport, .int .u32 e416.flow.dst, .int .i64 e416.flow.dport, .int .u32 dip, .int .i64 ep, .bool e416.trusted, .bool false, .int .i64 now]) (i65 * 10) rfl rfl rfl (by first | rfl | simp [Nat.add_assoc])
        have hS476 := hS465.trans hF473 (fun x_ hx_ => .inl hx_)
        refine WD.semU 7 (Instr.storeAt 34 (.pointer (some ⟨b418, i65 * 10, none⟩)) (.agg #[.int .i64 e416.flow.proto, .int .u32 e416.flow.src, .int .i64 e416.flow.sport, .int .u32 e416.flow.dst, .int .i64 e416.flow.dport, .int .u32 dip, .int .i64 ep, .bool e416.trusted, .bool false, .int .i64 now])) (by kernel_rfl) (by kernel_rfl) hr472 hS476 ?_
        refine WD.done (by kernel_rfl) ?_
        refine QX.then_normal (hK461 _ _ ?_)
        refine WC.seq (fun K477 hK478 => ?_)
        refine WC.region ?_
        refine WL.load 34 (.pointer (some ⟨g19, 0, none⟩)) (.agg #[.int .i64 0, .int .u32 0, .int .i64 0, .int .u32 0, .int .i64 0, .int .u32 0, .int .i64 0, .bool false, .bool false, .int .i64 0]) 61 (by kernel_rfl) (run_ld (hC474.get 3 rfl) rfl) ?_
        refine WL.storeM (c' := #[.int .i64 0, .int .u32 0, .int .i64 0, .int .u32 0, .int .i64 0, .int .u32 0, .int .i64 0, .bool false, .bool false, .int .i64 0]) hC474 2 34 g10 0 (.agg #[.int .i64 0, .int .u32 0, .int .i64 0, .int .u32 0, .int .i64 0, .int .u32 0, .int .i64 0, .bool false, .bool false, .int .i64 0]) (by kernel_rfl) rfl (by kernel_rfl) (fun w479 hF481 hC482 => ?_)
        have ho483 := own_fr ho475 hF481 (hC474.apartM 0 2 rfl rfl)
        refine WL.runs 2 [(12, .int .i64 0), (11, .bool false)] (fun _ => by kernel_rfl) ?_
        refine WL.done rfl ?_
        refine QX.then_normal (hK478 _ _ ?_)
        refine WC.ret ?_
        refine QX.then_ret ?_
        refine (hret' _ _ (.tuple #[.agg #[.int .i64 0, .int .u32 0, .int .i64 0, .int .u32 0, .int .i64 0, .int .u32 0, .int .i64 0, .bool false, .bool false, .int .i64 0], .bool false, .int .i64 0]) (fun a ha => ?_) ?_).1
        · exact res_run ha ((ResR.cell rfl (run_ld (hC482.get 2 rfl) rfl) (ResR.tmp rfl (ResR.tmp rfl ResR.nil)))) rfl
        clear hN hret hret' hK478 hK461 hK454 hK447 hK440 hK433 hK415 hK413 hK411 hK64 hK50 hK48 hK34 hK32 hK18 hK2
        exact ⟨_, zeroE, false, 0, _, rfl, hC482.fr, df_mk hC482 0 0 rfl rfl ho483, fun x_ hx_ => (List.mem_cons.1 hx_).elim (fun e_ => by subst e_; exact .inl List.mem_cons_self) (fun h_ => hC482.ownF _ (List.mem_of_getElem? (show _[0]? = some (blk (.slice A1 L.length c1)) from rfl)) x_ h_), .old _ _ t39 t55 he417 (by subst hex_; exact hfx68)⟩

end Go.Proofs.Ytimphmcoafapgaa
