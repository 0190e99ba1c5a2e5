/- Contracts of functions of the program, each proved by a walk through its code; conditions stand in the statements. -/
import Derived.Test.YtmahghppojbeoaaSeF
import Derived.Test.YtmahghppojbeoaaSeG
namespace Go.Proofs.Ytmahghppojbeoaa
set_option linter.unusedSimpArgs false
set_option linter.unusedVariables false
set_option linter.unusedSectionVars false
open Go Go.RowKit Go.Tw
set_option linter.unusedVariables false
set_option maxRecDepth 20000
theorem okIn_1 {f k now b : Int} (hm : muxB f = true) (hn : timB now = true) (hb : timB b = true) : okIn f k now [b] := ⟨hm, hn, by simp, hb, vok_nil, by simp, .inr rfl⟩
theorem recv_any1 {L' : Lm} {f now boot vip : Int} {a : Option Addr} {c : Nat} {V : List Int} {ans : Option (Int × Int)} (_hm : muxB f = true) (_hn : timB now = true) (_hb : timB boot = true) (hz : RecvR [(f, ⟨boot, now, a, c, V⟩)] f 12 now [boot, vip] L' ans) : ans = none ∧ ∃ a c V, L' = [(f, ⟨boot, now, a, c, V⟩)] := by
  by_cases h : okIn f 12 now [boot, vip]
  · obtain ⟨⟨a2, c2, e⟩, h2⟩ := recv_rts h (by rw [look1]; rfl) (by rw [one1]; rfl) hz
    rw [put1, one1] at e
    exact ⟨h2, _, _, _, e⟩
  · obtain ⟨e, h2⟩ := recv_bad h hz
    exact ⟨h2, _, _, _, e⟩
theorem recv_cls1 {L' : Lm} {f now b : Int} {o : One} {ans : Option (Int × Int)} (h : okIn f 12 now [b]) (hb : o.boot ≠ b) (hz : RecvR [(f, o)] f 12 now [b] L' ans) : L' = [(f, o)] ∧ ans = some (14, b) := recv_cls h (.inr (by rw [one1]; exact hb)) hz
set_option maxHeartbeats 2000000 in
theorem holds_ct (mux boot now wait vip : Int) (w : World) (hvip : 0 ≤ vip ∧ vip ≤ 4294967295) : Calls Try.prog 29 #[.int .i64 mux, .int .i64 boot, .int .i64 now, .int .i64 wait, .int .u32 vip] w fun e w' => e = .returned (.bool true) ∧ Fr w w' [] := by
 refine enterD (n := 141) Try.func29 rfl rfl (Nat.le_of_ble_eq_true rfl) ?_
 intro Q0 hN hret hret'
 obtain ⟨hv0_, hv1_⟩ := hvip
 have hC := Cx.start w
 refine WCs (fun K1 hK2 => ?_)
 refine WCg (WLq 1 [(10, .bool false)] (WLd rfl (QXn (hK2 _ _ ?_))))
 refine WCs (fun K3 hK4 => ?_)
 refine WCs (fun K5 hK6 => ?_)
 refine WCg ?_
 refine WLc rfl rfl rfl rfl rfl (by kernel_rfl) (alive_ct w) ?_
 rintro _ w8 ⟨rfl, hF7⟩
 refine ⟨_, rfl, ?_⟩
 have hC9 := hC.call hF7
 refine WLq 1 [(19, .bool false)] (WLd rfl (QXn (hK6 _ _ ?_)))
 refine WCf rfl (WC.skip (QXn (hK4 _ _ ?_)))
 refine WCs (fun dY b7 => ?_)
 refine WCg ?_
 obtain ⟨u1, hu1, b8⟩ : ∃ u : Int, IntKind.u64.wrap (mux) = u ∧ (0 ≤ u ∧ u ≤ 18446744073709551615) := ⟨_, rfl, wrap_u64_span _⟩
 refine WLq 2 [(21, .int .u64 (IntKind.u64.wrap (mux))), (20, .int .i64 mux)] ?_
 refine WLt (show (.int .u64 (IntKind.u64.wrap (mux)) : Value) = .int .u64 u1 from by rw [hu1]) ?_
 obtain ⟨d, hd, hd0⟩ : ∃ d : Int, Int.tmod u1 8 = d ∧ (0 ≤ d ∧ d < 8) := ⟨_, rfl, by rw [Int.tmod_eq_emod_of_nonneg b8.1]; omega⟩
 refine WLq 1 [(22, .int .u64 (Int.tmod u1 8))] ?_
 refine WLt (show (.int .u64 (Int.tmod u1 8) : Value) = .int .u64 d from by rw [hd]) ?_
 refine WLq 1 [(23, .int .i64 (IntKind.i64.wrap (d)))] ?_
 refine WLt (show (.int .i64 (IntKind.i64.wrap (d)) : Value) = .int .i64 d from by rw [wrap_in_i64 _ (by omega) (by omega)]) ?_
 refine WLq 1 [(24, .int .i64 (IntKind.i64.wrap (32 + d)))] ?_
 refine WLt (show (.int .i64 (IntKind.i64.wrap (32 + d)) : Value) = .int .i64 (32 + d) from by rw [wrap_in_i64 _ (by omega) (by omega)]) ?_
 refine WLq 1 [(0, .int .i64 (32 + d))] (WLd rfl (QXn (b7 _ _ ?_)))
 refine WCs (fun dZ b9 => ?_)
 refine WCs (fun d0 aD => ?_)
 refine WCg (WLq 3 [(27, .bool (decide (now < 0))), (26, .bool (decide (now < 0))), (25, .int .i64 now)] ?_)
 refine WLa 27 (decide (now < 0)) rfl (fun a5 => ?_) (fun a5 => ?_)
 ·
  have dc : now < 0 := by have q_ := of_decide_eq_true a5; omega
  refine WLq 11 [(38, .bool true), (37, undef), (36, undef), (35, .bool true), (34, .bool true), (33, undef), (32, undef), (31, .bool true), (30, .bool true), (29, undef), (28, undef)] (WLd rfl (QXn (aD _ _ ?_)))
  refine WCt rfl ?_
  refine WCs (fun d1 ca => ?_)
  refine WCg (WLq 1 [(10, .bool true)] (WLd rfl (QXn (ca _ _ ?_))))
  refine WC.ret ?_
  refine QXr ?_
  refine (hret _ _ _ rfl ?_).1
  exact ⟨rfl, hC9.fr⟩
 ·
  have dc : (0 : Int) ≤ now := by have q_ := of_decide_eq_false a5; omega
  refine WLq 4 [(31, .bool (decide (now > 549755813888))), (30, .bool (decide (now > 549755813888))), (29, .bool (decide (now > 549755813888))), (28, .int .i64 now)] ?_
  refine WLa 31 (decide (now > 549755813888)) rfl (fun a6 => ?_) (fun a6 => ?_)
  ·
   have dd : (549755813888 : Int) < now := by have q_ := of_decide_eq_true a6; omega
   refine WLq 7 [(38, .bool true), (37, undef), (36, undef), (35, .bool true), (34, .bool true), (33, undef), (32, undef)] (WLd rfl (QXn (aD _ _ ?_)))
   refine WCt rfl ?_
   refine WCs (fun d2 cb => ?_)
   refine WCg (WLq 1 [(10, .bool true)] (WLd rfl (QXn (cb _ _ ?_))))
   refine WC.ret ?_
   refine QXr ?_
   refine (hret _ _ _ rfl ?_).1
   exact ⟨rfl, hC9.fr⟩
  ·
   have dd : now ≤ 549755813888 := by have q_ := of_decide_eq_false a6; omega
   refine WLq 4 [(35, .bool (decide (boot < 1))), (34, .bool (decide (boot < 1))), (33, .bool (decide (boot < 1))), (32, .int .i64 boot)] ?_
   refine WLa 35 (decide (boot < 1)) rfl (fun a7 => ?_) (fun a7 => ?_)
   ·
    have de : boot < 1 := by have q_ := of_decide_eq_true a7; omega
    refine WLq 3 [(38, .bool true), (37, undef), (36, undef)] (WLd rfl (QXn (aD _ _ ?_)))
    refine WCt rfl ?_
    refine WCs (fun d3 cc => ?_)
    refine WCg (WLq 1 [(10, .bool true)] (WLd rfl (QXn (cc _ _ ?_))))
    refine WC.ret ?_
    refine QXr ?_
    refine (hret _ _ _ rfl ?_).1
    exact ⟨rfl, hC9.fr⟩
   ·
    have de : (1 : Int) ≤ boot := by have q_ := of_decide_eq_false a7; omega
    refine WLq 3 [(38, .bool (decide (boot > 549755813888))), (37, .bool (decide (boot > 549755813888))), (36, .int .i64 boot)] (WLd rfl (QXn (aD _ _ ?_)))
    refine WCa 38 (decide (boot > 549755813888)) rfl (fun a8 => ?_) (fun a8 => ?_)
    ·
     have df : (549755813888 : Int) < boot := by have q_ := of_decide_eq_true a8; omega
     refine WCt rfl ?_
     refine WCs (fun d4 cd => ?_)
     refine WCg (WLq 1 [(10, .bool true)] (WLd rfl (QXn (cd _ _ ?_))))
     refine WC.ret ?_
     refine QXr ?_
     refine (hret _ _ _ rfl ?_).1
     exact ⟨rfl, hC9.fr⟩
    ·
     have df : boot ≤ 549755813888 := by have q_ := of_decide_eq_false a8; omega
     refine WCf rfl (WC.skip (QXn (b9 _ _ ?_)))
     refine WCs (fun d5 ce => ?_)
     refine WCg ?_
     obtain ⟨u2, hu2, cf⟩ : ∃ u : Int, IntKind.u64.wrap (wait) = u ∧ (0 ≤ u ∧ u ≤ 18446744073709551615) := ⟨_, rfl, wrap_u64_span _⟩
     refine WLq 2 [(40, .int .u64 (IntKind.u64.wrap (wait))), (39, .int .i64 wait)] ?_
     refine WLt (show (.int .u64 (IntKind.u64.wrap (wait)) : Value) = .int .u64 u2 from by rw [hu2]) ?_
     obtain ⟨e, he, he0⟩ : ∃ d : Int, Int.tmod u2 40 = d ∧ (0 ≤ d ∧ d < 40) := ⟨_, rfl, by rw [Int.tmod_eq_emod_of_nonneg cf.1]; omega⟩
     refine WLq 1 [(41, .int .u64 (Int.tmod u2 40))] ?_
     refine WLt (show (.int .u64 (Int.tmod u2 40) : Value) = .int .u64 e from by rw [he]) ?_
     refine WLq 1 [(42, .int .i64 (IntKind.i64.wrap (e)))] ?_
     refine WLt (show (.int .i64 (IntKind.i64.wrap (e)) : Value) = .int .i64 e from by rw [wrap_in_i64 _ (by omega) (by omega)]) ?_
     refine WLq 1 [(3, .int .i64 e)] (WLd rfl (QXn (ce _ _ ?_)))
     refine WCs (fun d6 cg => ?_)
     refine WCg ?_
     refine WLc rfl rfl rfl rfl rfl (by kernel_rfl) (NewL_ct w8) ?_
     rintro _ d7 ⟨p32, F33, rfl, ch, aH, bh⟩
     have ci := hC9.callN ch bh (lsAt_lt aH)
     refine ⟨_, rfl, ?_⟩
     refine WLq 1 [(11, .pointer (some ⟨p32, 0, none⟩))] (WLd rfl (QXn (cg _ _ ?_)))
     refine WCs (fun d8 cj => ?_)
     refine WCg (WLq 3 [(47, .int .i64 boot), (46, .int .i64 (32 + d)), (45, .pointer (some ⟨p32, 0, none⟩))] ?_)
     refine WL.newM ci (fun b => .slice (some ⟨b, 0, none⟩) 1 1) (.cells #[.int .i64 boot] 3) 48 (fun _ => by kernel_rfl) (fun dg dh di ck bi => ?_)
     have cl := lsAt_fr aH ck (by simp)
     refine WLc rfl rfl rfl rfl rfl (by kernel_rfl) (Make_n 10 (some ⟨dg, 0, none⟩) 1 1 [boot] dh (Rd.blk (bi.get 0 rfl) (Go.Tw.encI_len _) rfl) rfl (by decide)) ?_
     rintro _ dj ⟨dk, dl, rfl, bj, a9⟩
     have cm := bi.callN bj (own_ge a9) (own_lt a9)
     refine ⟨_, rfl, ?_⟩
     have cn := lsAt_fr cl bj (by simp)
     have ba := own_base (b' := 0) a9 (fun _ _ => Nat.zero_le _)
     refine WLq 1 [(50, .int .i64 now)] ?_
     refine WLc rfl rfl rfl rfl rfl (by kernel_rfl) (Recv_n F33 p32 [] (32 + d) 10 now dk 1 dl [boot] none 0 0 dj cn ⟨by omega, by omega⟩ (own_rd ba (Go.Tw.encI_len _) (by decide)) (own_count (Go.Tw.encI_len _) (by decide) ba) (by first | omega | (simp; done)) (own_le ba)) ?_
     rintro _ d9 (⟨F56, L57, rfl, bk, aq, ar, bb⟩ | ⟨F56, L57, k64, b65, b4, b5, rfl, bk, aq, ar, bb, bc, bd⟩)
     ·
      have hmux_ : muxB (32 + d) = true := by unfold muxB; exact decide_eq_true (by omega)
      have htim_ : timB now = true := decide_eq_true (by omega)
      have hbt_ : timB boot = true := decide_eq_true (by omega)
      have hbu_ : timB (boot - 1) = true := decide_eq_true (by omega)
      obtain ⟨_, h_⟩ := recv_opn (okIn_1 hmux_ htim_ hbt_) bb
      cases h_
     ·
      have hmux_ : muxB (32 + d) = true := by unfold muxB; exact decide_eq_true (by omega)
      have htim_ : timB now = true := decide_eq_true (by omega)
      have hbt_ : timB boot = true := decide_eq_true (by omega)
      have hbu_ : timB (boot - 1) = true := decide_eq_true (by omega)
      obtain ⟨co, cp⟩ := recv_opn (okIn_1 hmux_ htim_ hbt_) bb
      obtain ⟨hk_, hb_⟩ := Prod.mk.inj (Option.some.inj cp)
      subst hk_
      obtain rfl : boot = b65 := hb_.symm
      have cq := cm.callFN 0 rfl bk ar (lsAt_lt aq) (own_ge bc) (own_lt bc) bd
      refine ⟨_, rfl, ?_⟩
      have dm := own_base (b' := 0) bc (fun _ _ => Nat.zero_le _)
      have bl := ls_open1 (b := boot) aq co rfl
      refine WLq 3 [(53, .bool true), (52, .agg #[.int .i64 11, .slice b4 1 b5, .slice none 0 0]), (44, .tuple #[.agg #[.int .i64 11, .slice b4 1 b5, .slice none 0 0], .bool true])] ?_
      refine WL.newM cq (fun b => .pointer (some ⟨b, 0, none⟩)) (.cells #[.int .i64 0, .slice none 0 0, .slice none 0 0] 40) 12 (fun _ => by kernel_rfl) (fun dn ea dp cr bm => ?_)
      have cs := lsAt_fr bl cr (by simp)
      refine WLs (c' := #[.int .i64 11, .slice b4 1 b5, .slice none 0 0]) bm 1 40 dn 0 (.agg #[.int .i64 11, .slice b4 1 b5, .slice none 0 0]) (by kernel_rfl) rfl (by kernel_rfl) (fun eb ct cu => ?_)
      have cv := lsAt_fr cs ct (bm.apartM 0 1 rfl rfl)
      refine WLq 1 [(13, .bool true)] (WLd rfl (QXn (cj _ _ ?_)))
      refine WCs (fun ec cw => ?_)
      refine WCg (WLq 5 [(58, .int .i64 (IntKind.i64.wrap (vip))), (57, .int .u32 vip), (56, .int .i64 boot), (55, .int .i64 (32 + d)), (54, .pointer (some ⟨p32, 0, none⟩))] ?_)
      refine WLt (show (.int .i64 (IntKind.i64.wrap (vip)) : Value) = .int .i64 vip from by rw [wrap_in_i64 _ (by omega) (by omega)]) ?_
      refine WL.newM cu (fun b => .slice (some ⟨b, 0, none⟩) 2 2) (.cells #[.int .i64 boot, .int .i64 vip] 3) 59 (fun _ => by kernel_rfl) (fun dq dr ds cx bn => ?_)
      have cy := lsAt_fr cv cx (by simp)
      refine WLc rfl rfl rfl rfl rfl (by kernel_rfl) (Make_n 12 (some ⟨dq, 0, none⟩) 2 2 [boot, vip] dr (Rd.blk (bn.get 2 rfl) (Go.Tw.encI_len _) rfl) rfl (by decide)) ?_
      rintro _ cz ⟨cA, cB, rfl, aI, au⟩
      have bo := bn.callN aI (own_ge au) (own_lt au)
      refine ⟨_, rfl, ?_⟩
      have bp := lsAt_fr cy aI (by simp)
      have av := own_base (b' := 0) au (fun _ _ => Nat.zero_le _)
      refine WLq 1 [(61, .int .i64 now)] ?_
      refine WLc rfl rfl rfl rfl rfl (by kernel_rfl) (Recv_n F56 p32 [(32 + d, (⟨boot, now, none, 0, []⟩ : One))] (32 + d) 12 now cA 2 cB [boot, vip] none 0 0 cz bp ⟨by omega, by omega⟩ (own_rd av (Go.Tw.encI_len _) (by decide)) (own_count (Go.Tw.encI_len _) (by decide) av) (by first | omega | (simp; done)) (own_le av)) ?_
      rintro _ cC (⟨F112, L113, rfl, aJ, ae, ai, aw⟩ | ⟨F112, L113, k120, b121, dt, du, rfl, aJ, ae, ai, aw, cX, b6⟩)
      ·
       obtain ⟨_, a129, aa, V131, bq⟩ := recv_any1 hmux_ htim_ hbt_ aw
       have br := bo.callF 0 rfl aJ ai (lsAt_lt ae)
       refine ⟨_, rfl, ?_⟩
       have af := ae
       rw [bq] at af
       refine WLd rfl (QXn (cw _ _ ?_))
       refine WCs (fun dv bs => ?_)
       refine WCg (WLq 2 [(64, .int .u32 vip), (63, .pointer (some ⟨p32, 0, none⟩))] ?_)
       refine WLc rfl rfl rfl rfl rfl (by kernel_rfl) (Muxes_e F112 p32 [(32 + d, (⟨boot, now, a129, aa, V131⟩ : One))] vip (muxesL [(32 + d, (⟨boot, now, a129, aa, V131⟩ : One))] vip) (rfl) cC af) ?_
       rintro _ dw ⟨v_, rfl, aK, aj⟩
       have bt := br.callN aK (own_ge aj) (own_lt aj)
       obtain ⟨dx, dy, rfl, cD⟩ := own_form aj
       have cY := own_base (b' := 0) aj (fun _ _ => Nat.zero_le _)
       refine ⟨_, rfl, ?_⟩
       have bu := lsAt_fr af aK (by simp)
       refine WLq 3 [(14, .bool (((muxesL [(32 + d, (⟨boot, now, a129, aa, V131⟩ : One))] vip).length : Int) == 1)), (67, .bool (((muxesL [(32 + d, (⟨boot, now, a129, aa, V131⟩ : One))] vip).length : Int) == 1)), (66, .int .i64 ((muxesL [(32 + d, (⟨boot, now, a129, aa, V131⟩ : One))] vip).length : Int))] (WLd rfl (QXn (bs _ _ ?_)))
       refine WCs (fun dz bv => ?_)
       refine WCg (WLq 4 [(72, .int .i64 (IntKind.i64.wrap (boot - 1))), (71, .int .i64 boot), (70, .int .i64 (32 + d)), (69, .pointer (some ⟨p32, 0, none⟩))] ?_)
       refine WLt (show (.int .i64 (IntKind.i64.wrap (boot - 1)) : Value) = .int .i64 (boot - 1) from by rw [wrap_in_i64 _ (by omega) (by omega)]) ?_
       refine WL.newM bt (fun b => .slice (some ⟨b, 0, none⟩) 1 1) (.cells #[.int .i64 (boot - 1)] 3) 73 (fun _ => by kernel_rfl) (fun cE cF cZ bw aL => ?_)
       have bx := lsAt_fr bu bw (by simp)
       refine WLc rfl rfl rfl rfl rfl (by kernel_rfl) (Make_n 12 (some ⟨cE, 0, none⟩) 1 1 [boot - 1] cF (Rd.blk (aL.get 3 rfl) (Go.Tw.encI_len _) rfl) rfl (by decide)) ?_
       rintro _ cG ⟨cH, cI, rfl, aM, ax⟩
       have bz := aL.callN aM (own_ge ax) (own_lt ax)
       refine ⟨_, rfl, ?_⟩
       have bA := lsAt_fr bx aM (by simp)
       have ay := own_base (b' := 0) ax (fun _ _ => Nat.zero_le _)
       refine WLq 1 [(75, .int .i64 now)] ?_
       refine WLc rfl rfl rfl rfl rfl (by kernel_rfl) (Recv_n F112 p32 [(32 + d, (⟨boot, now, a129, aa, V131⟩ : One))] (32 + d) 12 now cH 1 cI [boot - 1] none 0 0 cG bA ⟨by omega, by omega⟩ (own_rd ay (Go.Tw.encI_len _) (by decide)) (own_count (Go.Tw.encI_len _) (by decide) ay) (by first | omega | (simp; done)) (own_le ay)) ?_
       rintro _ dA (⟨F172, L173, rfl, aN, ag, ak, az⟩ | ⟨F172, L173, k180, b181, aE, aF, rfl, aN, ag, ak, az, aA, aG⟩)
       ·
        obtain ⟨_, h_⟩ := recv_cls1 (okIn_1 (k := 12) hmux_ htim_ hbu_) (by show boot ≠ boot - 1; omega) az
        cases h_
       ·
        obtain ⟨bB, bC⟩ := recv_cls1 (okIn_1 (k := 12) hmux_ htim_ hbu_) (by show boot ≠ boot - 1; omega) az
        obtain ⟨rfl, rfl⟩ := Prod.mk.inj (Option.some.inj bC)
        have bD := bz.callFN 0 rfl aN ak (lsAt_lt ag) (own_ge aA) (own_lt aA) aG
        refine ⟨_, rfl, ?_⟩
        have c0 := own_base (b' := 0) aA (fun _ _ => Nat.zero_le _)
        have aB := ag
        rw [bB] at aB
        refine WLq 3 [(78, .bool true), (77, .agg #[.int .i64 14, .slice aE 1 aF, .slice none 0 0]), (68, .tuple #[.agg #[.int .i64 14, .slice aE 1 aF, .slice none 0 0], .bool true])] ?_
        refine WL.newM bD (fun b => .pointer (some ⟨b, 0, none⟩)) (.cells #[.int .i64 0, .slice none 0 0, .slice none 0 0] 40) 15 (fun _ => by kernel_rfl) (fun be dB c1 bE aO => ?_)
        have bF := lsAt_fr aB bE (by simp)
        refine WLs (c' := #[.int .i64 14, .slice aE 1 aF, .slice none 0 0]) aO 4 40 be 0 (.agg #[.int .i64 14, .slice aE 1 aF, .slice none 0 0]) (by kernel_rfl) rfl (by kernel_rfl) (fun cJ bG aP => ?_)
        have aQ := lsAt_fr bF bG (aO.apartM 0 4 rfl rfl)
        refine WLq 1 [(16, .bool true)] (WLd rfl (QXn (bv _ _ ?_)))
        refine WCs (fun dC bH => ?_)
        refine WCs (fun dD bI => ?_)
        refine WCg (WLq 8 [(86, .pointer (some ⟨be, 0, none⟩)), (85, .bool false), (84, .bool false), (83, .bool false), (82, .bool true), (81, .bool false), (80, .bool false), (79, .bool true)] ?_)
        refine WLo 3 (.pointer (some ⟨be, 0, none⟩)) (.int .i64 14) 87 (run_ld (aP.get 4 rfl) rfl) ?_
        refine WLq 6 [(93, .int .u32 vip), (92, .pointer (some ⟨p32, 0, none⟩)), (91, .bool (((muxesL [(32 + d, (⟨boot, now, a129, aa, V131⟩ : One))] vip).length : Int) == 1)), (90, .bool false), (89, .bool false), (88, .bool false)] ?_
        refine WLc rfl rfl rfl rfl rfl (by kernel_rfl) (Muxes_e F172 p32 [(32 + d, (⟨boot, now, a129, aa, V131⟩ : One))] vip (muxesL [(32 + d, (⟨boot, now, a129, aa, V131⟩ : One))] vip) (rfl) cJ aQ) ?_
        rintro _ bJ ⟨v_, rfl, aR, al⟩
        have aS := aP.callN aR (own_ge al) (own_lt al)
        obtain ⟨dE, dF, rfl, cK⟩ := own_form al
        have c2 := own_base (b' := 0) al (fun _ _ => Nat.zero_le _)
        refine ⟨_, rfl, ?_⟩
        have aT := lsAt_fr aQ aR (by simp)
        refine WLq 4 [(98, .bool ((((muxesL [(32 + d, (⟨boot, now, a129, aa, V131⟩ : One))] vip).length : Int) == 1) != (((muxesL [(32 + d, (⟨boot, now, a129, aa, V131⟩ : One))] vip).length : Int) == 1))), (97, .bool ((((muxesL [(32 + d, (⟨boot, now, a129, aa, V131⟩ : One))] vip).length : Int) == 1) != (((muxesL [(32 + d, (⟨boot, now, a129, aa, V131⟩ : One))] vip).length : Int) == 1))), (96, .bool (((muxesL [(32 + d, (⟨boot, now, a129, aa, V131⟩ : One))] vip).length : Int) == 1)), (95, .int .i64 ((muxesL [(32 + d, (⟨boot, now, a129, aa, V131⟩ : One))] vip).length : Int))] (WLd rfl (QXn (bI _ _ ?_)))
        refine WC.know 98 (.bool ((((muxesL [(32 + d, (⟨boot, now, a129, aa, V131⟩ : One))] vip).length : Int) == 1) != (((muxesL [(32 + d, (⟨boot, now, a129, aa, V131⟩ : One))] vip).length : Int) == 1))) (.bool false) rfl (congrArg Value.bool (by simp)) ?_
        refine WCf rfl (WC.skip (QXn (bH _ _ ?_)))
        refine WCs (fun dG aU => ?_)
        refine WCg (WLq 4 [(102, .int .i64 (IntKind.i64.wrap (now + e))), (101, .int .i64 e), (100, .int .i64 now), (99, .pointer (some ⟨p32, 0, none⟩))] ?_)
        refine WLt (show (.int .i64 (IntKind.i64.wrap (now + e)) : Value) = .int .i64 (now + e) from by rw [wrap_in_i64 _ (by omega) (by omega)]) ?_
        by_cases hw_ : 12 < e
        ·
         refine WLc rfl rfl rfl rfl rfl (by kernel_rfl) (Tick_d F172 p32 [(32 + d, (⟨boot, now, a129, aa, V131⟩ : One))] (now + e) bJ aT) ?_
         rintro _ dH ⟨v_, rfl, bK, ah, ac, bL⟩
         rw [show (tickR [(32 + d, (⟨boot, now, a129, aa, V131⟩ : One))] (now + e)) = ([] : Lm) from by rw [tickR1 _ _ _ (decide_eq_true (by omega))]; exact if_pos (by show (12 < now + e - now); omega)] at ah
         rw [show (goneR [(32 + d, (⟨boot, now, a129, aa, V131⟩ : One))] (now + e)) = [32 + d] from by rw [goneR1 _ _ _ (decide_eq_true (by omega))]; exact if_pos (by show (12 < now + e - now); omega)] at ac
         have bM := aS.callFN 0 rfl bK (fun _ h_ => .inl h_) (lsAt_lt ah) (own_ge ac) (own_lt ac) bL
         obtain ⟨bf, bg, rfl, cL⟩ := own_form ac
         have bN := own_base (b' := 0) ac (fun _ _ => Nat.zero_le _)
         refine ⟨_, rfl, ?_⟩
         refine WLq 1 [(17, .slice bf ([32 + d].length) bg)] (WLd rfl (QXn (aU _ _ ?_)))
         refine WCs (fun dI bO => ?_)
         refine WCs (fun dJ bP => ?_)
         refine WCg (WLq 2 [(105, .bool (decide (e ≤ 12))), (104, .int .i64 e)] (WLd rfl (QXn (bP _ _ ?_))))
         refine WC.know 105 (.bool (decide (e ≤ 12))) (.bool false) rfl (congrArg Value.bool (by simp; omega)) ?_
         refine WCf rfl (WC.skip (QXn (bO _ _ ?_)))
         refine WCs (fun dK bQ => ?_)
         refine WCg (WLq 2 [(125, .int .i64 (32 + d)), (124, .slice bf ([32 + d].length) bg)] ?_)
         refine WL.newM bM (fun b => .slice (some ⟨b, 0, none⟩) 1 1) (.cells #[.int .i64 (32 + d)] 3) 126 (fun _ => by kernel_rfl) (fun cM cN c3 aV aW => ?_)
         have bR := lsAt_fr ah aV (by simp)
         have aC := own_fr bN aV (by simp)
         refine WLc rfl rfl rfl rfl rfl (by kernel_rfl) (Ints_n bf (some ⟨cM, 0, none⟩) ([32 + d].length) bg 1 1 [32 + d] [32 + d] cN (own_rd aC (Go.Tw.encI_len _) (by decide)) (own_count (Go.Tw.encI_len _) (by decide) aC) (Rd.blk (aW.get 5 rfl) (Go.Tw.encI_len _) rfl) rfl (own_max aC) (by first | omega | (simp; done))) ?_
         rintro _ cO ⟨rfl, aX⟩
         refine ⟨_, rfl, ?_⟩
         have bS := aW.call aX
         have aY := lsAt_fr bR aX (by simp)
         refine WLq 1 [(128, .bool (decide ([32 + d] = [32 + d])))] ?_
         refine WL.know 128 (.bool (decide ([32 + d] = [32 + d]))) (.bool true) rfl (congrArg Value.bool (by simp)) ?_
         refine WLq 2 [(130, .int .u32 vip), (129, .pointer (some ⟨p32, 0, none⟩))] ?_
         refine WLc rfl rfl rfl rfl rfl (by kernel_rfl) (Muxes_e F172 p32 ([] : Lm) vip ([] : List Int) (by simp [muxesL, sesL]) cO aY) ?_
         rintro _ cP ⟨v_, rfl, aZ, am⟩
         have bT := bS.callN aZ (own_ge am) (own_lt am)
         obtain ⟨dL, dM, rfl, cQ⟩ := own_form am
         have c4 := own_base (b' := 0) am (fun _ _ => Nat.zero_le _)
         refine ⟨_, rfl, ?_⟩
         have a0 := lsAt_fr aY aZ (by simp)
         refine WLq 4 [(135, .bool ((([] : List Int).length : Int) == 0)), (134, .bool ((([] : List Int).length : Int) == 0)), (133, .bool ((([] : List Int).length : Int) == 0)), (132, .int .i64 (([] : List Int).length : Int))] ?_
         refine WL.know 135 (.bool ((([] : List Int).length : Int) == 0)) (.bool true) rfl (congrArg Value.bool (by rfl)) ?_
         refine WLq 1 [(136, .pointer (some ⟨p32, 0, none⟩))] ?_
         refine WLc rfl rfl rfl rfl rfl (by kernel_rfl) (Sessions_ct F172 p32 ([] : Lm) cP a0) ?_
         rintro _ dN ⟨v_, rfl, a1, an⟩
         have bU := bT.callN a1 (own_ge an) (own_lt an)
         obtain ⟨dO, dP, rfl, cR⟩ := own_form an
         have c5 := own_base (b' := 0) an (fun _ _ => Nat.zero_le _)
         refine ⟨_, rfl, ?_⟩
         have c6 := lsAt_fr a0 a1 (by simp)
         refine WLq 4 [(10, .bool ((([] : Lm).length : Int) == 0)), (140, .bool ((([] : Lm).length : Int) == 0)), (139, .bool ((([] : Lm).length : Int) == 0)), (138, .int .i64 (([] : Lm).length : Int))] (WLd rfl (QXn (bQ _ _ ?_)))
         refine WC.ret ?_
         refine (hret _ _ _ rfl ?_).1
         exact ⟨rfl, bU.fr⟩
        ·
         refine WLc rfl rfl rfl rfl rfl (by kernel_rfl) (Tick_d F172 p32 [(32 + d, (⟨boot, now, a129, aa, V131⟩ : One))] (now + e) bJ aT) ?_
         rintro _ cS ⟨v_, rfl, bV, ab, ad, bW⟩
         rw [show (tickR [(32 + d, (⟨boot, now, a129, aa, V131⟩ : One))] (now + e)) = [(32 + d, (⟨boot, now, a129, aa, V131⟩ : One))] from by rw [tickR1 _ _ _ (decide_eq_true (by omega))]; exact if_neg (by show ¬ (12 < now + e - now); omega)] at ab
         rw [show (goneR [(32 + d, (⟨boot, now, a129, aa, V131⟩ : One))] (now + e)) = ([] : List Int) from by rw [goneR1 _ _ _ (decide_eq_true (by omega))]; exact if_neg (by show ¬ (12 < now + e - now); omega)] at ad
         have bX := aS.callFN 0 rfl bV (fun _ h_ => .inl h_) (lsAt_lt ab) (own_ge ad) (own_lt ad) bW
         obtain ⟨bY, bZ, rfl, cT⟩ := own_form ad
         have c7 := own_base (b' := 0) ad (fun _ _ => Nat.zero_le _)
         refine ⟨_, rfl, ?_⟩
         refine WLq 1 [(17, .slice bY (([] : List Int).length) bZ)] (WLd rfl (QXn (aU _ _ ?_)))
         refine WCs (fun dQ c8 => ?_)
         refine WCs (fun dR b0 => ?_)
         refine WCg (WLq 2 [(105, .bool (decide (e ≤ 12))), (104, .int .i64 e)] (WLd rfl (QXn (b0 _ _ ?_))))
         refine WC.know 105 (.bool (decide (e ≤ 12))) (.bool true) rfl (congrArg Value.bool (by simp; omega)) ?_
         refine WCt rfl ?_
         refine WCs (fun dS b1 => ?_)
         refine WCg (WLq 4 [(109, .bool ((([] : List Int).length : Int) == 0)), (108, .bool ((([] : List Int).length : Int) == 0)), (107, .int .i64 (([] : List Int).length : Int)), (106, .slice bY (([] : List Int).length) bZ)] ?_)
         refine WL.know 109 (.bool ((([] : List Int).length : Int) == 0)) (.bool true) rfl (congrArg Value.bool (by rfl)) ?_
         refine WLq 2 [(111, .int .u32 vip), (110, .pointer (some ⟨p32, 0, none⟩))] ?_
         refine WLc rfl rfl rfl rfl rfl (by kernel_rfl) (Muxes_e F172 p32 [(32 + d, (⟨boot, now, a129, aa, V131⟩ : One))] vip (muxesL [(32 + d, (⟨boot, now, a129, aa, V131⟩ : One))] vip) (rfl) cS ab) ?_
         rintro _ cU ⟨v_, rfl, a2, ao⟩
         have b2 := bX.callN a2 (own_ge ao) (own_lt ao)
         obtain ⟨dT, dU, rfl, cV⟩ := own_form ao
         have c9 := own_base (b' := 0) ao (fun _ _ => Nat.zero_le _)
         refine ⟨_, rfl, ?_⟩
         have a3 := lsAt_fr ab a2 (by simp)
         refine WLq 6 [(118, .bool ((((muxesL [(32 + d, (⟨boot, now, a129, aa, V131⟩ : One))] vip).length : Int) == 1) == (((muxesL [(32 + d, (⟨boot, now, a129, aa, V131⟩ : One))] vip).length : Int) == 1))), (117, .bool ((((muxesL [(32 + d, (⟨boot, now, a129, aa, V131⟩ : One))] vip).length : Int) == 1) == (((muxesL [(32 + d, (⟨boot, now, a129, aa, V131⟩ : One))] vip).length : Int) == 1))), (116, .bool ((((muxesL [(32 + d, (⟨boot, now, a129, aa, V131⟩ : One))] vip).length : Int) == 1) == (((muxesL [(32 + d, (⟨boot, now, a129, aa, V131⟩ : One))] vip).length : Int) == 1))), (115, .bool (((muxesL [(32 + d, (⟨boot, now, a129, aa, V131⟩ : One))] vip).length : Int) == 1)), (114, .bool (((muxesL [(32 + d, (⟨boot, now, a129, aa, V131⟩ : One))] vip).length : Int) == 1)), (113, .int .i64 ((muxesL [(32 + d, (⟨boot, now, a129, aa, V131⟩ : One))] vip).length : Int))] ?_
         refine WL.know 118 (.bool ((((muxesL [(32 + d, (⟨boot, now, a129, aa, V131⟩ : One))] vip).length : Int) == 1) == (((muxesL [(32 + d, (⟨boot, now, a129, aa, V131⟩ : One))] vip).length : Int) == 1))) (.bool true) rfl (congrArg Value.bool (by simp)) ?_
         refine WLq 1 [(119, .pointer (some ⟨p32, 0, none⟩))] ?_
         refine WLc rfl rfl rfl rfl rfl (by kernel_rfl) (Sessions_ct F172 p32 [(32 + d, (⟨boot, now, a129, aa, V131⟩ : One))] cU a3) ?_
         rintro _ dV ⟨v_, rfl, a4, ap⟩
         have b3 := b2.callN a4 (own_ge ap) (own_lt ap)
         obtain ⟨dW, dX, rfl, cW⟩ := own_form ap
         have da := own_base (b' := 0) ap (fun _ _ => Nat.zero_le _)
         refine ⟨_, rfl, ?_⟩
         have db := lsAt_fr a3 a4 (by simp)
         refine WLq 4 [(10, .bool (([(32 + d, (⟨boot, now, a129, aa, V131⟩ : One))].length : Int) == 1)), (123, .bool (([(32 + d, (⟨boot, now, a129, aa, V131⟩ : One))].length : Int) == 1)), (122, .bool (([(32 + d, (⟨boot, now, a129, aa, V131⟩ : One))].length : Int) == 1)), (121, .int .i64 ([(32 + d, (⟨boot, now, a129, aa, V131⟩ : One))].length : Int))] (WLd rfl (QXn (b1 _ _ ?_)))
         refine WC.ret ?_
         refine QXr ?_
         refine (hret _ _ _ rfl ?_).1
         exact ⟨rfl, b3.fr⟩
      ·
       cases (recv_any1 hmux_ htim_ hbt_ aw).1

theorem SessionKeeps_ct (mux boot now wait vip : Int) (w : World) (hvip : 0 ≤ vip ∧ vip ≤ 4294967295) : Calls Try.prog 5 #[.agg #[.int .i64 mux, .int .i64 boot, .int .i64 now, .int .i64 wait, .int .u32 vip]] w fun e w' => e = .returned (.bool true) ∧ Fr w w' [] := by
 refine enterD (n := 14) Try.func5 rfl rfl (Nat.le_of_ble_eq_true rfl) ?_
 intro Q0 hN hret hret'
 have hC := Cx.start w
 refine WCs (fun K1 hK2 => ?_)
 refine WCg ?_
 refine WL.newM hC (fun b => .pointer (some ⟨b, 0, none⟩)) (.cells #[.int .i64 mux, .int .i64 boot, .int .i64 now, .int .i64 wait, .int .u32 vip] 68) 1 (fun _ => by kernel_rfl) (fun g3 w4 hb7 hF5 hC6 => ?_)
 refine WLq 1 [(2, .bool false)] (WLd rfl (QXn (hK2 _ _ ?_)))
 refine WCs (fun K8 hK9 => ?_)
 refine WCg (WLq 1 [(3, .pointer (some ⟨g3, 0, none⟩))] ?_)
 refine WLo 3 (.pointer (some ⟨g3, 0, none⟩)) (.int .i64 mux) 4 (run_ld (hC6.get 0 rfl) rfl) ?_
 refine WLq 1 [(5, .pointer (some ⟨g3, 1, none⟩))] ?_
 refine WLo 3 (.pointer (some ⟨g3, 1, none⟩)) (.int .i64 boot) 6 (run_ld (hC6.get 0 rfl) rfl) ?_
 refine WLq 1 [(7, .pointer (some ⟨g3, 2, none⟩))] ?_
 refine WLo 3 (.pointer (some ⟨g3, 2, none⟩)) (.int .i64 now) 8 (run_ld (hC6.get 0 rfl) rfl) ?_
 refine WLq 1 [(9, .pointer (some ⟨g3, 3, none⟩))] ?_
 refine WLo 3 (.pointer (some ⟨g3, 3, none⟩)) (.int .i64 wait) 10 (run_ld (hC6.get 0 rfl) rfl) ?_
 refine WLq 1 [(11, .pointer (some ⟨g3, 4, none⟩))] ?_
 refine WLo 44 (.pointer (some ⟨g3, 4, none⟩)) (.int .u32 vip) 12 (run_ld (hC6.get 0 rfl) rfl) ?_
 refine WLc rfl rfl rfl rfl rfl (by kernel_rfl) (holds_ct mux boot now wait vip w4 ⟨by omega, by omega⟩) ?_
 rintro _ ac ⟨rfl, aa⟩
 refine ⟨_, rfl, ?_⟩
 have ab := hC6.call aa
 refine WLq 1 [(2, .bool true)] (WLd rfl (QXn (hK9 _ _ ?_)))
 refine WC.ret ?_
 refine (hret _ _ _ rfl ?_).1
 exact ⟨rfl, ab.fr⟩

end Go.Proofs.Ytmahghppojbeoaa
