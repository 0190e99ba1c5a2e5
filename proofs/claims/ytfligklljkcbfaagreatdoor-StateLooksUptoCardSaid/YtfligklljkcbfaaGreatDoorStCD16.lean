/- Contracts of functions of the program, each proved by a walk through its code; conditions stand in the statements. -/
import Derived.Test.YtfligklljkcbfaaGreatDoorStCC16
namespace Go.Proofs.YtfligklljkcbfaaGreatDoor
set_option linter.unusedSimpArgs false
set_option linter.unusedVariables false
set_option linter.unusedSectionVars false
open Go Go.RowKit Go.Tw
set_option linter.unusedVariables false
set_option maxRecDepth 20000
set_option maxHeartbeats 4000000 in
theorem StateLooks_ct (ce cn : Int) (AS : Option Addr) (cS : Nat) (xs : List Svc) (AN : Option Addr) (cN : Nat) (ns : List SnatV) (AK : Option Addr) (cK : Nat) (ks : List Int) (AL : Option Addr) (cL : Nat) (ls : List Lease) (fp : Int) (fs : Int) (fsp fd fdp : Int) (dip : Int) (w : World) (hqS : Rd w 4 cellsS AS xs) (hat : ∀ s ∈ xs, svcAt w s) (hqN : Rd w 2 cellsN AN ns) (hqK : Rd w 1 (Go.Tw.encI .u32) AK ks) (hqL : Rd w 4 encL AL ls) (hlS : xs.length ≤ 1099511627776) (hlN : ns.length ≤ 1099511627776) (hlK : ks.length ≤ 1099511627776) (hlL : ls.length ≤ 1099511627776) (htot : svT xs ≤ 1099511627776) (hvt : xs.length + (ns.length + ls.length) ≤ 1099511627776) (hg : Rd w 1 (encI .u8) (some ⟨0, 0, none⟩) dbTab) : Calls Tryz.prog 5 #[.agg #[I6 ce, I6 cn, .slice AS xs.length cS, .slice AN ns.length cN, .slice AK ks.length cK, .slice AL ls.length cL], .agg #[I6 fp, U4 fs, I6 fsp, U4 fd, I6 fdp], U4 dip] w fun e w' => e = .returned (.bool true) ∧ Fr w w' [] := by
 refine enterD (n := 187) Tryz.func5 rfl rfl (Nat.le_of_ble_eq_true rfl) ?_
 intro Q0 hN hret hret'
 have hC := Cx.start w
 refine WCs (fun K1 hK2 => WCg (WLb hC (.cells #[I6 ce, I6 cn, .slice AS xs.length cS, .slice AN ns.length cN, .slice AK ks.length cK, .slice AL ls.length cL] 31) 3 (fun g3 w4 hb7 hF5 hC6 => WLb hC6 (.cells #[I6 fp, U4 fs, I6 fsp, U4 fd, I6 fdp] 55) 4 (fun g8 w9 fR fS b8 => WLq 1 [(6, .bool false)] (WLd rfl (QXn (hK2 _ _ (WCs (fun gu eN => ?_)))))))))
 refine WCs (fun gv eO => WCg (WLk (alive_ct w9 (Rd.fr hg b8.fr)) ?_))
 rintro _ gw ⟨rfl, eP⟩
 refine ⟨_, rfl, ?_⟩
 have bd := b8.call eP
 refine WLq 1 [(25, .bool false)] (WLd rfl (QXn (eO _ _ (WCf rfl (WC.skip (QXn (eN _ _ (WCs (fun gx eQ => WCg (WLq 1 [(26, P0 g3 3)] (WLo 27 (P0 g3 3) (.slice AN ns.length cN) 27 (run_ld (bd.get 0 rfl) rfl) (WLq 2 [(29, P0 g3 4), (28, I6 (ns.length : Int))] ?_))))))))))))
 refine WLo 28 (P0 g3 4) (.slice AK ks.length cK) 30 (run_ld (bd.get 0 rfl) rfl) (WLz 2 [(32, I6 (IntKind.i64.wrap ((ns.length : Int) + (ks.length : Int))))] (WLt (show (I6 (IntKind.i64.wrap ((ns.length : Int) + (ks.length : Int))) : Value) = I6 ((ns.length + ks.length : Nat) : Int) from by rw [wrap_in_i64 _ (by omega) (by omega)] <;> first | rfl | (congr 1; done) | (congr 1; omega)) (WLq 1 [(33, P0 g3 5)] (WLo 29 (P0 g3 5) (.slice AL ls.length cL) 34 (run_ld (bd.get 0 rfl) rfl) (WLz 2 [(36, I6 (IntKind.i64.wrap (((ns.length + ks.length : Nat) : Int) + (ls.length : Int))))] ?_)))))
 refine WLt (show (I6 (IntKind.i64.wrap (((ns.length + ks.length : Nat) : Int) + (ls.length : Int))) : Value) = I6 ((ns.length + ks.length + ls.length : Nat) : Int) from by rw [wrap_in_i64 _ (by omega) (by omega)] <;> first | rfl | (congr 1; done) | (congr 1; omega)) (WLq 1 [(7, I6 ((ns.length + ks.length + ls.length : Nat) : Int))] (WLd rfl (QXn (eQ _ _ (WCs (fun gy eR => WCs (fun gz eS => WCg (WLq 1 [(37, P0 g3 2)] (WLo 26 (P0 g3 2) (.slice AS xs.length cS) 38 (run_ld (bd.get 0 rfl) rfl) ?_)))))))))
 refine WLq 2 [(40, I6 0), (39, I6 (xs.length : Int))] (WLd rfl (QXn (eS _ _ (WC.block (WC.loop (fun m_ E_ w_ => ∃ (i : Nat), m_ = xs.length - i ∧ E_ = [(2, U4 dip), (3, P0 g3 0), (4, P0 g8 0), (6, .bool false), (7, I6 ((ns.length + ks.length + ls.length + svT (xs.take i) : Nat) : Int)), (38, .slice AS xs.length cS), (39, I6 (xs.length : Int)), (40, I6 (i : Int))] ∧ Cx w [] w_ [(g3, .cells #[I6 ce, I6 cn, .slice AS xs.length cS, .slice AN ns.length cN, .slice AK ks.length cK, .slice AL ls.length cL] 31), (g8, .cells #[I6 fp, U4 fs, I6 fsp, U4 fd, I6 fdp] 55)] [] ∧ (i ≤ xs.length)) ⟨_, _, ⟨0, rfl, rfl, bd, Nat.zero_le _⟩, sub_of ⟨rfl, rfl, rfl, rfl, rfl, rfl, rfl, rfl, trivial⟩⟩ (fun m29 E_ fT gA eT eU => ?_))))))
 obtain ⟨i, rfl, rfl, aN, hi⟩ := eU
 have hst_ := svT_take xs i
 have hst1_ := svT_take xs (i + 1)
 refine WCs (fun gB eV => WCg (WLq 1 [(41, .bool (decide ((i : Int) < (xs.length : Int))))] (WLd rfl (QXn (eV _ _ (WCs (fun gC eW => WCa 41 (decide ((i : Int) < (xs.length : Int))) rfl (fun bX => ?_) (fun bX => ?_))))))))
 ·
  have fU : (i : Int) < (xs.length : Int) := by have q_ := of_decide_eq_true bX; omega
  refine WCt rfl (WC.skip (QXn (eW _ _ (WCs (fun gD eX => WC.block (WCs (fun gE eY => ?_)))))))
  refine WCg ?_
  obtain ⟨ao, bY⟩ := get_some (xs := xs) (i := i) (by omega)
  obtain ⟨b43, o45, eZ, e0⟩ := hqS.at_ _ _ bY
  have bv := hat _ (List.mem_of_getElem? bY)
  have eM := bv.lim
  refine WLi AS xs.length cS 42 .i64 (i : Int) b43 o45 i 4 (by kernel_rfl) eZ (by omega) (by omega) (o45 + i * 4) (by first | (simp; done) | omega) (WLo 43 (P0 b43 (o45 + i * 4)) (.agg #[U4 ao.v.vip, I6 ao.v.proto, I6 ao.v.port, .slice ao.a ao.v.ends.length ao.c]) 43 (run_rdN (l := [U4 ao.v.vip, I6 ao.v.proto, I6 ao.v.port, .slice ao.a ao.v.ends.length ao.c]) rfl rfl (fun j u hu => by have hq_ := aN.fr.cell (e0 j u hu) (by simp); simpa [Nat.add_assoc] using hq_)) (WLb aN (.cells #[U4 0, I6 0, I6 0, .slice none 0 0] 43) 9 (fun e1 gF fV fW e2 => WLv (c' := #[U4 ao.v.vip, I6 ao.v.proto, I6 ao.v.port, .slice ao.a ao.v.ends.length ao.c]) e2 2 43 e1 0 (.agg #[U4 ao.v.vip, I6 ao.v.proto, I6 ao.v.port, .slice ao.a ao.v.ends.length ao.c]) (fun gG fX b9 => WLd rfl (QXn (eY _ _ (WCg (WLq 2 [(45, P0 e1 3), (44, I6 ((ns.length + ks.length + ls.length + svT (xs.take i) : Nat) : Int))] ?_))))))))
  refine WLo 41 (P0 e1 3) (.slice ao.a ao.v.ends.length ao.c) 46 (run_ld (b9.get 2 rfl) rfl) (WLz 2 [(48, I6 (IntKind.i64.wrap (1 + (ao.v.ends.length : Int))))] (WLt (show (I6 (IntKind.i64.wrap (1 + (ao.v.ends.length : Int))) : Value) = I6 ((1 + ao.v.ends.length : Nat) : Int) from by rw [wrap_in_i64 _ (by omega) (by omega)] <;> first | rfl | (congr 1; done) | (congr 1; omega)) ?_))
  have hss_ := svT_step bY
  refine WLq 1 [(49, I6 (IntKind.i64.wrap (((ns.length + ks.length + ls.length + svT (xs.take i) : Nat) : Int) + ((1 + ao.v.ends.length : Nat) : Int))))] (WLt (show (I6 (IntKind.i64.wrap (((ns.length + ks.length + ls.length + svT (xs.take i) : Nat) : Int) + ((1 + ao.v.ends.length : Nat) : Int))) : Value) = I6 ((ns.length + ks.length + ls.length + svT (xs.take (i + 1)) : Nat) : Int) from by rw [wrap_in_i64 _ (by omega) (by omega)]; congr 1; omega) (WLq 1 [(7, I6 ((ns.length + ks.length + ls.length + svT (xs.take (i + 1)) : Nat) : Int))] (WLd rfl (QXb (QXn (eX _ _ ?_))))))
  refine WCg (WLq 1 [(50, I6 (IntKind.i64.wrap ((i : Int) + 1)))] (WLt (show (I6 (IntKind.i64.wrap ((i : Int) + 1)) : Value) = I6 ((i : Int) + 1) from by rw [wrap_in_i64 ((i : Int) + 1) (by omega) (by omega)]) (WLq 1 [(40, I6 ((i : Int) + 1))] (WLd rfl (QXn ?_)))))
  have e3 := b9.pick [0, 1] [] rfl rfl
  refine fun a_ ha_ => eT _ _ _ ?_ ⟨i + 1, rfl, rfl, e3, by omega⟩ a_ (ha_.weaken (sub_of ⟨rfl, rfl, rfl, rfl, rfl, rfl, rfl, rfl, trivial⟩))
  omega
 ·
  have fU : (xs.length : Int) ≤ (i : Int) := by have q_ := of_decide_eq_false bX; omega
  refine WCf rfl (WC.exit (QXe (QXe (QX.block_hit (QXn (eR _ _ ?_))))))
  refine WCs (fun gH e4 => WCs (fun gI e5 => WCg (WLz 2 [(52, .bool (decide (((ns.length + ks.length + ls.length + svT (xs.take i) : Nat) : Int) > 500)))] (WLd rfl (QXn (e5 _ _ (WCa 52 (decide (((ns.length + ks.length + ls.length + svT (xs.take i) : Nat) : Int) > 500)) rfl (fun bZ => ?_) (fun bZ => ?_))))))))
  ·
   have fY : (500 : Int) < ((ns.length + ks.length + ls.length + svT (xs.take i) : Nat) : Int) := by have q_ := of_decide_eq_true bZ; omega
   refine WCt rfl (WCs (fun gJ e6 => WCg (WLq 1 [(6, .bool true)] (WLd rfl (QXn (e6 _ _ (WC.ret (QXr ?_))))))))
   refine (hret _ _ _ rfl ?_).1
   exact ⟨rfl, aN.fr⟩
  ·
   have fY : ((ns.length + ks.length + ls.length + svT (xs.take i) : Nat) : Int) ≤ 500 := by have q_ := of_decide_eq_false bZ; omega
   refine WCf rfl (WC.skip (QXn (e4 _ _ (WCs (fun gK e7 => WCg (WLo 31 (P0 g3 0) (.agg #[I6 ce, I6 cn, .slice AS xs.length cS, .slice AN ns.length cN, .slice AK ks.length cK, .slice AL ls.length cL]) 53 (run_ld (aN.get 0 rfl) rfl) (WLk (Copy16_ct ce cn AS cS xs AN cN ns AK cK ks AL cL ls fT (Rd.fr hqS aN.fr) (fun s_ h_ => (hat s_ h_).fr aN.fr (fun _ _ => by simp)) (Rd.fr hqN aN.fr) (Rd.fr hqK aN.fr) (Rd.fr hqL aN.fr) hlS hlN hlK hlL) ?_)))))))
   rintro _ gL ⟨ae, af, aa, ag, ah, ai, aj, ak, al, ca, rfl, e8, ab, e9⟩
   have fa := aN.callN e8 e9 ab.lt
   refine ⟨_, rfl, ?_⟩
   have hxz_ : aa.length = xs.length := (by have q_ := congrArg List.length ab.vals; simp only [List.length_map] at q_; omega)
   refine WLb fa (.cells #[I6 0, I6 0, .slice none 0 0, .slice none 0 0, .slice none 0 0, .slice none 0 0] 31) 10 (fun bw gM fZ be a9 => ?_)
   have fb := own_fr ab.S be (by simp)
   have fc := own_fr ab.N be (by simp)
   have fe := own_fr ab.K be (by simp)
   have ff := own_fr ab.L be (by simp)
   have fg := svcsIn.fr ab.ins be (by simp)
   refine WLv (c' := #[I6 ce, I6 cn, .slice ae aa.length af, .slice ag ns.length ah, .slice ai ks.length aj, .slice ak ls.length al]) a9 2 31 bw 0 (.agg #[I6 ce, I6 cn, .slice ae aa.length af, .slice ag ns.length ah, .slice ai ks.length aj, .slice ak ls.length al]) (fun f0 bf bg => ?_)
   have b0 := own_fr fb bf (fun x_ hx_ => (a9.apartM 0 2 rfl rfl) x_ (ab.sS x_ hx_))
   have fh := own_fr fc bf (fun x_ hx_ => (a9.apartM 0 2 rfl rfl) x_ (ab.sN x_ hx_))
   have fi := own_fr fe bf (fun x_ hx_ => (a9.apartM 0 2 rfl rfl) x_ (ab.sK x_ hx_))
   have fj := own_fr ff bf (fun x_ hx_ => (a9.apartM 0 2 rfl rfl) x_ (ab.sL x_ hx_))
   have cb := svcsIn.fr fg bf (a9.apartM 0 2 rfl rfl)
   refine WLd rfl (QXn (e7 _ _ (WCs (fun gN fk => WCg (WLo 31 (P0 bw 0) (.agg #[I6 ce, I6 cn, .slice ae aa.length af, .slice ag ns.length ah, .slice ai ks.length aj, .slice ak ls.length al]) 56 (run_ld (bg.get 2 rfl) rfl) (WLq 1 [(57, P0 g8 3)] (WLo 40 (P0 g8 3) (U4 fd) 58 (run_ld (bg.get 1 rfl) rfl) ?_)))))))
   refine WLq 1 [(59, P0 g8 0)] (WLo 3 (P0 g8 0) (I6 fp) 60 (run_ld (bg.get 1 rfl) rfl) (WLq 1 [(61, P0 g8 4)] (WLo 3 (P0 g8 4) (I6 fdp) 62 (run_ld (bg.get 1 rfl) rfl) (WLk (Service_n ce cn ag ai ak ns.length ah ks.length aj ls.length al ae af aa fd fp fdp aa.length f0 (own_rd b0 cellsS_len (by decide)) cb.at_ (by omega) (own_count cellsS_len (by decide) b0)) ?_))))
   rintro _ gO ⟨ba, bb, rfl, bc, b1⟩
   have fl := bg.callN bc (own_ge b1) (own_lt b1)
   have fm := own_base (b' := 0) b1 (fun _ _ => Nat.zero_le _)
   refine ⟨_, rfl, ?_⟩
   have cc := own_fr b0 bc (by simp)
   have cd := own_fr fh bc (by simp)
   have cf := own_fr fi bc (by simp)
   have cg := own_fr fj bc (by simp)
   have ch := svcsIn.fr cb bc (by simp)
   refine WLz 3 [(65, .bool (hasS (aa.map Svc.v) (fd, fp, fdp))), (64, .agg #[U4 ((getS (aa.map Svc.v) (fd, fp, fdp)).vip), I6 ((getS (aa.map Svc.v) (fd, fp, fdp)).proto), I6 ((getS (aa.map Svc.v) (fd, fp, fdp)).port), .slice ba ((getS (aa.map Svc.v) (fd, fp, fdp)).ends.length) bb])] (WLb fl (.cells #[U4 0, I6 0, I6 0, .slice none 0 0] 43) 11 (fun an f1 fN aO aB => ?_))
   have ci := own_fr cc aO (by simp)
   have cj := own_fr cd aO (by simp)
   have ck := own_fr cf aO (by simp)
   have cl := own_fr cg aO (by simp)
   have cm := svcsIn.fr ch aO (by simp)
   have co := own_fr fm aO (by simp)
   refine WLv (c' := #[U4 ((getS (aa.map Svc.v) (fd, fp, fdp)).vip), I6 ((getS (aa.map Svc.v) (fd, fp, fdp)).proto), I6 ((getS (aa.map Svc.v) (fd, fp, fdp)).port), .slice ba ((getS (aa.map Svc.v) (fd, fp, fdp)).ends.length) bb]) aB 3 43 an 0 (.agg #[U4 ((getS (aa.map Svc.v) (fd, fp, fdp)).vip), I6 ((getS (aa.map Svc.v) (fd, fp, fdp)).proto), I6 ((getS (aa.map Svc.v) (fd, fp, fdp)).port), .slice ba ((getS (aa.map Svc.v) (fd, fp, fdp)).ends.length) bb]) (fun fn aP ap => ?_)
   have cp := own_fr ci aP (fun x_ hx_ => (aB.apartM 0 3 rfl rfl) x_ (ab.sS x_ hx_))
   have cq := own_fr cj aP (fun x_ hx_ => (aB.apartM 0 3 rfl rfl) x_ (ab.sN x_ hx_))
   have cr := own_fr ck aP (fun x_ hx_ => (aB.apartM 0 3 rfl rfl) x_ (ab.sK x_ hx_))
   have cs := own_fr cl aP (fun x_ hx_ => (aB.apartM 0 3 rfl rfl) x_ (ab.sL x_ hx_))
   have ct := svcsIn.fr cm aP (aB.apartM 0 3 rfl rfl)
   have cu := own_fr co aP (aB.apartM 1 3 rfl rfl)
   refine WLq 1 [(12, .bool (hasS (aa.map Svc.v) (fd, fp, fdp)))] (WLd rfl (QXn (fk _ _ (WCs (fun f2 cv => WCg (WLo 31 (P0 g3 0) (.agg #[I6 ce, I6 cn, .slice AS xs.length cS, .slice AN ns.length cN, .slice AK ks.length cK, .slice AL ls.length cL]) 67 (run_ld (ap.get 0 rfl) rfl) (WLq 1 [(68, P0 g8 3)] (WLo 40 (P0 g8 3) (U4 fd) 69 (run_ld (ap.get 1 rfl) rfl) ?_))))))))
   refine WLq 1 [(70, P0 g8 0)] (WLo 3 (P0 g8 0) (I6 fp) 71 (run_ld (ap.get 1 rfl) rfl) (WLq 1 [(72, P0 g8 4)] (WLo 3 (P0 g8 4) (I6 fdp) 73 (run_ld (ap.get 1 rfl) rfl) (WLk (RService_ct ce cn AS cS xs AN cN ns AK cK ks AL cL ls fd fp fdp fn (Rd.fr hqS ap.fr) (fun s_ h_ => (hat s_ h_).fr ap.fr (fun _ _ => by simp)) (Rd.fr hqN ap.fr) (Rd.fr hqK ap.fr) (Rd.fr hqL ap.fr) hlS hlN hlK hlL) ?_))))
   rintro _ f3 ⟨a3, a4, rfl, aC, bh⟩
   refine ⟨_, rfl, ?_⟩
   have cw := ap.call aC
   have cx := own_fr cp aC (by simp)
   have cy := own_fr cq aC (by simp)
   have cz := own_fr cr aC (by simp)
   have cA := own_fr cs aC (by simp)
   have cB := svcsIn.fr ct aC (by simp)
   have cC := own_fr cu aC (by simp)
   have hrt_ := (bh.rd hat).1
   have hge_ := (bh.rd hat).2
   have hgz_ : (getS (aa.map Svc.v) (fd, fp, fdp)).ends.length ≤ 1099511627776 := by rw [ab.vals]; exact hge_
   have hwz_ : (wellL ks (getS (aa.map Svc.v) (fd, fp, fdp)).ends).length ≤ 1099511627776 := Nat.le_trans (List.length_filter_le _ _) hgz_
   refine WLz 3 [(76, .bool (hasS (xs.map Svc.v) (fd, fp, fdp))), (75, .agg #[U4 ((getS (xs.map Svc.v) (fd, fp, fdp)).vip), I6 ((getS (xs.map Svc.v) (fd, fp, fdp)).proto), I6 ((getS (xs.map Svc.v) (fd, fp, fdp)).port), .slice a3 ((getS (xs.map Svc.v) (fd, fp, fdp)).ends.length) a4])] (WLb cw (.cells #[U4 0, I6 0, I6 0, .slice none 0 0] 43) 13 (fun aA f4 fO aQ aD => ?_))
   have cD := own_fr cx aQ (by simp)
   have cE := own_fr cy aQ (by simp)
   have cF := own_fr cz aQ (by simp)
   have cG := own_fr cA aQ (by simp)
   have cH := svcsIn.fr cB aQ (by simp)
   have cI := own_fr cC aQ (by simp)
   refine WLv (c' := #[U4 ((getS (xs.map Svc.v) (fd, fp, fdp)).vip), I6 ((getS (xs.map Svc.v) (fd, fp, fdp)).proto), I6 ((getS (xs.map Svc.v) (fd, fp, fdp)).port), .slice a3 ((getS (xs.map Svc.v) (fd, fp, fdp)).ends.length) a4]) aD 4 43 aA 0 (.agg #[U4 ((getS (xs.map Svc.v) (fd, fp, fdp)).vip), I6 ((getS (xs.map Svc.v) (fd, fp, fdp)).proto), I6 ((getS (xs.map Svc.v) (fd, fp, fdp)).port), .slice a3 ((getS (xs.map Svc.v) (fd, fp, fdp)).ends.length) a4]) (fun f5 aR cJ => ?_)
   have cM := own_fr cD aR (fun x_ hx_ => (aD.apartM 0 4 rfl rfl) x_ (ab.sS x_ hx_))
   have cO := own_fr cE aR (fun x_ hx_ => (aD.apartM 0 4 rfl rfl) x_ (ab.sN x_ hx_))
   have cP := own_fr cF aR (fun x_ hx_ => (aD.apartM 0 4 rfl rfl) x_ (ab.sK x_ hx_))
   have cQ := own_fr cG aR (fun x_ hx_ => (aD.apartM 0 4 rfl rfl) x_ (ab.sL x_ hx_))
   have cR := svcsIn.fr cH aR (aD.apartM 0 4 rfl rfl)
   have cT := own_fr cI aR (aD.apartM 1 4 rfl rfl)
   refine WLq 1 [(14, .bool (hasS (xs.map Svc.v) (fd, fp, fdp)))] (WLd rfl (QXn (cv _ _ (WCs (fun f6 cU => WCs (fun f7 cV => WC.drawC cJ [] (by kernel_rfl) (fun fo aS am ac => ?_)))))))
   have cW := own_fr cM aS (by simp)
   have cX := own_fr cO aS (by simp)
   have cY := own_fr cP aS (by simp)
   have cZ := own_fr cQ aS (by simp)
   have c0 := svcsIn.fr cR aS (by simp)
   have bi := own_fr cT aS (by simp)
   refine WDx 4 [(0, 77, .bool (hasS (aa.map Svc.v) (fd, fp, fdp))), (1, 78, .bool (hasS (xs.map Svc.v) (fd, fp, fdp))), (2, 79, .bool ((hasS (aa.map Svc.v) (fd, fp, fdp)) != (hasS (xs.map Svc.v) (fd, fp, fdp)))), (3, 80, .bool ((hasS (aa.map Svc.v) (fd, fp, fdp)) != (hasS (xs.map Svc.v) (fd, fp, fdp))))] ac (WD.know 80 (.bool ((hasS (aa.map Svc.v) (fd, fp, fdp)) != (hasS (xs.map Svc.v) (fd, fp, fdp)))) (.bool false) rfl (congrArg Value.bool (by rw [ab.vals]; simp)) (WDx 2 [(4, 81, P0 an 0), (6, 83, P0 aA 0)] ac (WDm 5 40 (P0 an 0) (U4 ((getS (aa.map Svc.v) (fd, fp, fdp)).vip)) 82 (fun _ hS_ => run_ld (Fr.has hS_ (am.get 3 rfl) (by simp)) rfl) ac (WDm 7 40 (P0 aA 0) (U4 ((getS (xs.map Svc.v) (fd, fp, fdp)).vip)) 84 (fun _ hS_ => run_ld (Fr.has hS_ (am.get 4 rfl) (by simp)) rfl) ac (WDx 3 [(8, 85, .bool (((getS (aa.map Svc.v) (fd, fp, fdp)).vip) != ((getS (xs.map Svc.v) (fd, fp, fdp)).vip))), (9, 86, .bool (((getS (aa.map Svc.v) (fd, fp, fdp)).vip) != ((getS (xs.map Svc.v) (fd, fp, fdp)).vip))), (10, 87, .bool (((getS (aa.map Svc.v) (fd, fp, fdp)).vip) != ((getS (xs.map Svc.v) (fd, fp, fdp)).vip)))] ac ?_)))))
   refine WD.know 87 (.bool (((getS (aa.map Svc.v) (fd, fp, fdp)).vip) != ((getS (xs.map Svc.v) (fd, fp, fdp)).vip))) (.bool false) rfl (congrArg Value.bool (by rw [ab.vals]; simp)) (WDx 2 [(11, 88, P0 an 1), (13, 90, P0 aA 1)] ac (WDm 12 3 (P0 an 1) (I6 ((getS (aa.map Svc.v) (fd, fp, fdp)).proto)) 89 (fun _ hS_ => run_ld (Fr.has hS_ (am.get 3 rfl) (by simp)) rfl) ac (WDm 14 3 (P0 aA 1) (I6 ((getS (xs.map Svc.v) (fd, fp, fdp)).proto)) 91 (fun _ hS_ => run_ld (Fr.has hS_ (am.get 4 rfl) (by simp)) rfl) ac (WDx 3 [(15, 92, .bool (((getS (aa.map Svc.v) (fd, fp, fdp)).proto) != ((getS (xs.map Svc.v) (fd, fp, fdp)).proto))), (16, 93, .bool (((getS (aa.map Svc.v) (fd, fp, fdp)).proto) != ((getS (xs.map Svc.v) (fd, fp, fdp)).proto))), (17, 94, .bool (((getS (aa.map Svc.v) (fd, fp, fdp)).proto) != ((getS (xs.map Svc.v) (fd, fp, fdp)).proto)))] ac (WD.know 94 (.bool (((getS (aa.map Svc.v) (fd, fp, fdp)).proto) != ((getS (xs.map Svc.v) (fd, fp, fdp)).proto))) (.bool false) rfl (congrArg Value.bool (by rw [ab.vals]; simp)) ?_)))))
   refine WDx 2 [(18, 95, P0 an 2), (20, 97, P0 aA 2)] ac (WDm 19 3 (P0 an 2) (I6 ((getS (aa.map Svc.v) (fd, fp, fdp)).port)) 96 (fun _ hS_ => run_ld (Fr.has hS_ (am.get 3 rfl) (by simp)) rfl) ac (WDm 21 3 (P0 aA 2) (I6 ((getS (xs.map Svc.v) (fd, fp, fdp)).port)) 98 (fun _ hS_ => run_ld (Fr.has hS_ (am.get 4 rfl) (by simp)) rfl) ac (WDx 3 [(22, 99, .bool (((getS (aa.map Svc.v) (fd, fp, fdp)).port) != ((getS (xs.map Svc.v) (fd, fp, fdp)).port))), (23, 100, .bool (((getS (aa.map Svc.v) (fd, fp, fdp)).port) != ((getS (xs.map Svc.v) (fd, fp, fdp)).port))), (24, 101, .bool (((getS (aa.map Svc.v) (fd, fp, fdp)).port) != ((getS (xs.map Svc.v) (fd, fp, fdp)).port)))] ac (WD.know 101 (.bool (((getS (aa.map Svc.v) (fd, fp, fdp)).port) != ((getS (xs.map Svc.v) (fd, fp, fdp)).port))) (.bool false) rfl (congrArg Value.bool (by rw [ab.vals]; simp)) (WDx 2 [(25, 102, P0 an 3), (27, 104, P0 aA 3)] ac ?_)))))
   refine WDm 26 41 (P0 an 3) (.slice ba ((getS (aa.map Svc.v) (fd, fp, fdp)).ends.length) bb) 103 (fun _ hS_ => run_ld (Fr.has hS_ (am.get 3 rfl) (by simp)) rfl) ac (WDm 28 41 (P0 aA 3) (.slice a3 ((getS (xs.map Svc.v) (fd, fp, fdp)).ends.length) a4) 105 (fun _ hS_ => run_ld (Fr.has hS_ (am.get 4 rfl) (by simp)) rfl) ac (WDc 29 (sameEnds_n ba a3 ((getS (aa.map Svc.v) (fd, fp, fdp)).ends.length) bb ((getS (xs.map Svc.v) (fd, fp, fdp)).ends.length) a4 ((getS (aa.map Svc.v) (fd, fp, fdp)).ends) ((getS (xs.map Svc.v) (fd, fp, fdp)).ends) fo (own_rd bi cellsE_len (by decide)) (Rd.fr hrt_ am.fr) (own_count cellsE_len (by decide) bi) (by first | rfl | assumption | (simp; done) | (simp; omega)) (by omega)) ?_))
   rintro _ fq ⟨rfl, av⟩
   have ar := ac.trans av (by simp)
   refine ⟨_, rfl, ar, ?_⟩
   have c1 := am.call av
   have c2 := own_fr cW av (by simp)
   have c3 := own_fr cX av (by simp)
   have bj := own_fr cY av (by simp)
   have c4 := own_fr cZ av (by simp)
   have c5 := svcsIn.fr c0 av (by simp)
   have bk := own_fr bi av (by simp)
   refine WDx 3 [(30, 107, .bool (!(decide (((getS (aa.map Svc.v) (fd, fp, fdp)).ends) = ((getS (xs.map Svc.v) (fd, fp, fdp)).ends))))), (31, 108, .bool (!(decide (((getS (aa.map Svc.v) (fd, fp, fdp)).ends) = ((getS (xs.map Svc.v) (fd, fp, fdp)).ends))))), (32, 109, .bool (!(decide (((getS (aa.map Svc.v) (fd, fp, fdp)).ends) = ((getS (xs.map Svc.v) (fd, fp, fdp)).ends)))))] ar (WD.know 109 (.bool (!(decide (((getS (aa.map Svc.v) (fd, fp, fdp)).ends) = ((getS (xs.map Svc.v) (fd, fp, fdp)).ends))))) (.bool false) rfl (congrArg Value.bool (by rw [ab.vals]; simp)) (WDm 33 31 (P0 bw 0) (.agg #[I6 ce, I6 cn, .slice ae aa.length af, .slice ag ns.length ah, .slice ai ks.length aj, .slice ak ls.length al]) 110 (fun _ hS_ => run_ld (Fr.has hS_ (am.get 2 rfl) (by simp)) rfl) ar (WDm 34 43 (P0 an 0) (.agg #[U4 ((getS (aa.map Svc.v) (fd, fp, fdp)).vip), I6 ((getS (aa.map Svc.v) (fd, fp, fdp)).proto), I6 ((getS (aa.map Svc.v) (fd, fp, fdp)).port), .slice ba ((getS (aa.map Svc.v) (fd, fp, fdp)).ends.length) bb]) 111 (fun _ hS_ => run_ld (Fr.has hS_ (am.get 3 rfl) (by simp)) rfl) ar (WDm 36 31 (P0 g3 0) (.agg #[I6 ce, I6 cn, .slice AS xs.length cS, .slice AN ns.length cN, .slice AK ks.length cK, .slice AL ls.length cL]) 113 (fun _ hS_ => run_ld (Fr.has hS_ (am.get 0 rfl) (by simp)) rfl) ar (WDm 37 43 (P0 aA 0) (.agg #[U4 ((getS (xs.map Svc.v) (fd, fp, fdp)).vip), I6 ((getS (xs.map Svc.v) (fd, fp, fdp)).proto), I6 ((getS (xs.map Svc.v) (fd, fp, fdp)).port), .slice a3 ((getS (xs.map Svc.v) (fd, fp, fdp)).ends.length) a4]) 114 (fun _ hS_ => run_ld (Fr.has hS_ (am.get 4 rfl) (by simp)) rfl) ar ?_)))))
   refine WDc 35 (Healthy_n ce cn ae ag ak aa.length af ns.length ah ls.length al ai aj ks ((getS (aa.map Svc.v) (fd, fp, fdp)).vip) ((getS (aa.map Svc.v) (fd, fp, fdp)).proto) ((getS (aa.map Svc.v) (fd, fp, fdp)).port) ba bb ((getS (aa.map Svc.v) (fd, fp, fdp)).ends) ks.length ((getS (aa.map Svc.v) (fd, fp, fdp)).ends.length) fq (own_rd bj (Go.Tw.encI_len _) (by decide)) (by omega) (own_rd bk cellsE_len (by decide)) (by first | omega | (simp; done)) (own_count (Go.Tw.encI_len _) (by decide) bj) (own_count cellsE_len (by decide) bk)) ?_
   rintro _ ft ⟨v_, rfl, aw, a5⟩
   have aE := c1.callN aw (own_ge a5) (own_lt a5)
   obtain ⟨b2, b3, rfl, fu⟩ := own_form a5
   have bl := own_base (b' := 0) a5 (fun _ _ => Nat.zero_le _)
   have bA := ar.trans aw (by simp)
   refine ⟨_, rfl, bA, ?_⟩
   have c6 := own_fr c2 aw (by simp)
   have c7 := own_fr c3 aw (by simp)
   have c8 := own_fr bj aw (by simp)
   have c9 := own_fr c4 aw (by simp)
   have bB := svcsIn.fr c5 aw (by simp)
   have da := own_fr bk aw (by simp)
   refine WDc 38 (RHealthy_n ce cn AS cS xs AN cN ns AK cK ks AL cL ls ((getS (xs.map Svc.v) (fd, fp, fdp)).vip) ((getS (xs.map Svc.v) (fd, fp, fdp)).proto) ((getS (xs.map Svc.v) (fd, fp, fdp)).port) a3 a4 ((getS (xs.map Svc.v) (fd, fp, fdp)).ends) ((getS (xs.map Svc.v) (fd, fp, fdp)).ends.length) ft (Rd.fr hqS aE.fr) (fun s_ h_ => (hat s_ h_).fr aE.fr (fun _ _ => by simp)) (Rd.fr hqN aE.fr) (Rd.fr hqK aE.fr) (Rd.fr hqL aE.fr) hlS hlN hlK hlL (Rd.fr hrt_ aE.fr) (by first | omega | (simp; done)) rfl) ?_
   rintro _ fv ⟨v_, rfl, au, a6⟩
   have db := aE.callN au (own_ge a6) (own_lt a6)
   obtain ⟨b4, b5, rfl, fw⟩ := own_form a6
   have bm := own_base (b' := 0) a6 (fun _ _ => Nat.zero_le _)
   have bC := bA.trans au (by simp)
   refine ⟨_, rfl, bC, ?_⟩
   have dc := own_fr c6 au (by simp)
   have dd := own_fr c7 au (by simp)
   have de := own_fr c8 au (by simp)
   have df := own_fr c9 au (by simp)
   refine WDc 39 (sameEnds_n b2 b4 ((wellL ks ((getS (aa.map Svc.v) (fd, fp, fdp)).ends)).length) b3 ((wellL ks ((getS (xs.map Svc.v) (fd, fp, fdp)).ends)).length) b5 (wellL ks ((getS (aa.map Svc.v) (fd, fp, fdp)).ends)) (wellL ks ((getS (xs.map Svc.v) (fd, fp, fdp)).ends)) fv (own_rd (own_fr bl au (by simp)) cellsE_len (by decide)) (own_rd bm cellsE_len (by decide)) (own_count cellsE_len (by decide) (own_fr bl au (by simp))) (own_count cellsE_len (by decide) bm) (by omega)) ?_
   rintro _ fx ⟨rfl, ax⟩
   have bn := bC.trans ax (by simp)
   refine ⟨_, rfl, bn, ?_⟩
   have bo := db.call ax
   have bD := au.trans ax (by simp)
   have bE := own_fr dc ax (by simp)
   have bF := own_fr dd ax (by simp)
   have bG := own_fr de ax (by simp)
   have bH := own_fr df ax (by simp)
   have dg := own_fr bm ax (by simp)
   refine WDx 2 [(40, 117, .bool (!(decide ((wellL ks ((getS (aa.map Svc.v) (fd, fp, fdp)).ends)) = (wellL ks ((getS (xs.map Svc.v) (fd, fp, fdp)).ends)))))), (41, 118, .bool (!(decide ((wellL ks ((getS (aa.map Svc.v) (fd, fp, fdp)).ends)) = (wellL ks ((getS (xs.map Svc.v) (fd, fp, fdp)).ends))))))] bn (WDd (QXn (cV _ _ (WC.know 118 (.bool (!(decide ((wellL ks ((getS (aa.map Svc.v) (fd, fp, fdp)).ends)) = (wellL ks ((getS (xs.map Svc.v) (fd, fp, fdp)).ends)))))) (.bool false) rfl (congrArg Value.bool (by rw [ab.vals]; simp)) (WCf rfl (WC.skip (QXn (cU _ _ (WCs (fun f8 dh => ?_))))))))))
   refine WCg (WLo 31 (P0 bw 0) (.agg #[I6 ce, I6 cn, .slice ae aa.length af, .slice ag ns.length ah, .slice ai ks.length aj, .slice ak ls.length al]) 120 (run_ld (bo.get 2 rfl) rfl) (WLo 55 (P0 g8 0) (.agg #[I6 fp, U4 fs, I6 fsp, U4 fd, I6 fdp]) 121 (run_ld (bo.get 1 rfl) rfl) (WLq 1 [(122, U4 dip)] (WLk (Allowed_ct ce cn ae af aa ag ah ns ai aj ks ak al ls fp fs fsp fd fdp dip fx (own_rd bE cellsS_len (by decide)) (svcsIn.fr bB bD (by simp)).at_ (own_rd bF cellsN_len (by decide)) (own_rd bG (Go.Tw.encI_len _) (by decide)) (own_rd bH encL_len (by decide)) (by have q_ := congrArg List.length ab.vals; simp only [List.length_map] at q_; omega) hlN hlK hlL) ?_))))
   rintro _ f9 ⟨rfl, aF⟩
   refine ⟨_, rfl, ?_⟩
   have di := bo.call aF
   have bI := bD.trans aF (by simp)
   have dj := own_fr bE aF (by simp)
   have dk := own_fr bF aF (by simp)
   have dl := own_fr bG aF (by simp)
   have dm := own_fr bH aF (by simp)
   have dn := own_fr dg aF (by simp)
   refine WLz 3 [(125, .bool (alwB (wellL ks (getS (aa.map Svc.v) (fd, fp, fdp)).ends) dip)), (124, .agg #[U4 ((alwE (wellL ks (getS (aa.map Svc.v) (fd, fp, fdp)).ends) dip).dip), I6 ((alwE (wellL ks (getS (aa.map Svc.v) (fd, fp, fdp)).ends) dip).port), I6 ((alwE (wellL ks (getS (aa.map Svc.v) (fd, fp, fdp)).ends) dip).weight)])] (WLb di (.cells #[U4 0, I6 0, I6 0] 47) 15 (fun bx ga dp aT aU => ?_))
   have dq := bI.trans aT (by simp)
   have dr := own_fr dj aT (by simp)
   have ds := own_fr dk aT (by simp)
   have dt := own_fr dl aT (by simp)
   have du := own_fr dm aT (by simp)
   have dv := own_fr dn aT (by simp)
   refine WLv (c' := #[U4 ((alwE (wellL ks (getS (aa.map Svc.v) (fd, fp, fdp)).ends) dip).dip), I6 ((alwE (wellL ks (getS (aa.map Svc.v) (fd, fp, fdp)).ends) dip).port), I6 ((alwE (wellL ks (getS (aa.map Svc.v) (fd, fp, fdp)).ends) dip).weight)]) aU 5 47 bx 0 (.agg #[U4 ((alwE (wellL ks (getS (aa.map Svc.v) (fd, fp, fdp)).ends) dip).dip), I6 ((alwE (wellL ks (getS (aa.map Svc.v) (fd, fp, fdp)).ends) dip).port), I6 ((alwE (wellL ks (getS (aa.map Svc.v) (fd, fp, fdp)).ends) dip).weight)]) (fun fy aV ay => ?_)
   have dw := dq.trans aV (fun x_ h_ => .inr (by rw [List.mem_singleton] at h_; subst h_; exact (Nat.le_trans bI.size dp)))
   have dx := own_fr dr aV (fun x_ hx_ => (aU.apartM 0 5 rfl rfl) x_ (ab.sS x_ hx_))
   have dy := own_fr ds aV (fun x_ hx_ => (aU.apartM 0 5 rfl rfl) x_ (ab.sN x_ hx_))
   have dz := own_fr dt aV (fun x_ hx_ => (aU.apartM 0 5 rfl rfl) x_ (ab.sK x_ hx_))
   have dA := own_fr du aV (fun x_ hx_ => (aU.apartM 0 5 rfl rfl) x_ (ab.sL x_ hx_))
   have dB := own_fr dv aV (aU.apartM 3 5 rfl rfl)
   refine WLq 1 [(16, .bool (alwB (wellL ks (getS (aa.map Svc.v) (fd, fp, fdp)).ends) dip))] (WLd rfl (QXn (dh _ _ (WCs (fun gb dC => WCg (WLo 31 (P0 g3 0) (.agg #[I6 ce, I6 cn, .slice AS xs.length cS, .slice AN ns.length cN, .slice AK ks.length cK, .slice AL ls.length cL]) 127 (run_ld (ay.get 0 rfl) rfl) (WLo 55 (P0 g8 0) (.agg #[I6 fp, U4 fs, I6 fsp, U4 fd, I6 fdp]) 128 (run_ld (ay.get 1 rfl) rfl) (WLq 1 [(129, U4 dip)] ?_))))))))
   refine WLk (RAllowed_ct ce cn AS cS xs AN cN ns AK cK ks AL cL ls fp fs fsp fd fdp dip fy (Rd.fr hqS ay.fr) (fun s_ h_ => (hat s_ h_).fr ay.fr (fun _ _ => by simp)) (Rd.fr hqN ay.fr) (Rd.fr hqK ay.fr) (Rd.fr hqL ay.fr) hlS hlN hlK hlL) ?_
   rintro _ gc ⟨rfl, aG⟩
   refine ⟨_, rfl, ?_⟩
   have dD := ay.call aG
   have bJ := dw.trans aG (by simp)
   have dE := own_fr dx aG (by simp)
   have dF := own_fr dy aG (by simp)
   have dG := own_fr dz aG (by simp)
   have dH := own_fr dA aG (by simp)
   have dI := own_fr dB aG (by simp)
   refine WLz 3 [(132, .bool (alwB (wellL ks (getS (xs.map Svc.v) (fd, fp, fdp)).ends) dip)), (131, .agg #[U4 ((alwE (wellL ks (getS (xs.map Svc.v) (fd, fp, fdp)).ends) dip).dip), I6 ((alwE (wellL ks (getS (xs.map Svc.v) (fd, fp, fdp)).ends) dip).port), I6 ((alwE (wellL ks (getS (xs.map Svc.v) (fd, fp, fdp)).ends) dip).weight)])] (WLb dD (.cells #[U4 0, I6 0, I6 0] 47) 17 (fun bz gd dJ aW aX => ?_))
   have dK := bJ.trans aW (by simp)
   have dL := own_fr dE aW (by simp)
   have dM := own_fr dF aW (by simp)
   have dN := own_fr dG aW (by simp)
   have dO := own_fr dH aW (by simp)
   have dP := own_fr dI aW (by simp)
   refine WLv (c' := #[U4 ((alwE (wellL ks (getS (xs.map Svc.v) (fd, fp, fdp)).ends) dip).dip), I6 ((alwE (wellL ks (getS (xs.map Svc.v) (fd, fp, fdp)).ends) dip).port), I6 ((alwE (wellL ks (getS (xs.map Svc.v) (fd, fp, fdp)).ends) dip).weight)]) aX 6 47 bz 0 (.agg #[U4 ((alwE (wellL ks (getS (xs.map Svc.v) (fd, fp, fdp)).ends) dip).dip), I6 ((alwE (wellL ks (getS (xs.map Svc.v) (fd, fp, fdp)).ends) dip).port), I6 ((alwE (wellL ks (getS (xs.map Svc.v) (fd, fp, fdp)).ends) dip).weight)]) (fun fz aY bK => ?_)
   have dQ := dK.trans aY (fun x_ h_ => .inr (by rw [List.mem_singleton] at h_; subst h_; exact (Nat.le_trans bJ.size dJ)))
   have dR := own_fr dL aY (fun x_ hx_ => (aX.apartM 0 6 rfl rfl) x_ (ab.sS x_ hx_))
   have bp := own_fr dM aY (fun x_ hx_ => (aX.apartM 0 6 rfl rfl) x_ (ab.sN x_ hx_))
   have dS := own_fr dN aY (fun x_ hx_ => (aX.apartM 0 6 rfl rfl) x_ (ab.sK x_ hx_))
   have dT := own_fr dO aY (fun x_ hx_ => (aX.apartM 0 6 rfl rfl) x_ (ab.sL x_ hx_))
   have dU := own_fr dP aY (aX.apartM 3 6 rfl rfl)
   refine WLq 1 [(18, .bool (alwB (wellL ks (getS (xs.map Svc.v) (fd, fp, fdp)).ends) dip))] (WLd rfl (QXn (dC _ _ (WCs (fun gf dV => WCg (WLo 31 (P0 bw 0) (.agg #[I6 ce, I6 cn, .slice ae aa.length af, .slice ag ns.length ah, .slice ai ks.length aj, .slice ak ls.length al]) 134 (run_ld (bK.get 2 rfl) rfl) (WLq 1 [(135, U4 dip)] (WLk (Outside_n ce cn ae ai ak aa.length af ks.length aj ls.length al ag ns.length ah ns dip fz (own_rd bp cellsN_len (by decide)) (own_count cellsN_len (by decide) bp) (by first | omega | (simp; done))) ?_))))))))
   rintro _ fA ⟨rfl, aH⟩
   refine ⟨_, rfl, ?_⟩
   have bq := bK.call aH
   have dW := dQ.trans aH (by simp)
   have dX := own_fr dR aH (by simp)
   have dY := own_fr bp aH (by simp)
   have dZ := own_fr dS aH (by simp)
   have d0 := own_fr dT aH (by simp)
   have d1 := own_fr dU aH (by simp)
   refine WLz 5 [(20, .bool (outB ns dip)), (19, U4 (outV ns dip))] (WLd rfl (QXn (dV _ _ (WCs (fun gg d2 => WCg (WLo 31 (P0 g3 0) (.agg #[I6 ce, I6 cn, .slice AS xs.length cS, .slice AN ns.length cN, .slice AK ks.length cK, .slice AL ls.length cL]) 140 (run_ld (bq.get 0 rfl) rfl) (WLq 1 [(141, U4 dip)] (WLk (ROutside_ct ce cn AS cS xs AN cN ns AK cK ks AL cL ls dip fA (Rd.fr hqN bq.fr) hlN) ?_))))))))
   rintro _ gh ⟨rfl, aI⟩
   refine ⟨_, rfl, ?_⟩
   have bL := bq.call aI
   have br := dW.trans aI (by simp)
   have d3 := own_fr dX aI (by simp)
   have d4 := own_fr dY aI (by simp)
   have d5 := own_fr dZ aI (by simp)
   have d6 := own_fr d0 aI (by simp)
   have d7 := own_fr d1 aI (by simp)
   refine WLz 5 [(22, .bool (outB ns dip)), (21, U4 (outV ns dip))] (WLd rfl (QXn (d2 _ _ (WCs (fun gi d8 => WCs (fun gj d9 => WCg (WLq 1 [(145, P0 an 3)] (WLo 41 (P0 an 3) (.slice ba ((getS (aa.map Svc.v) (fd, fp, fdp)).ends.length) bb) 146 (run_ld (bL.get 3 rfl) rfl) (WLq 2 [(148, I6 0), (147, I6 ((getS (aa.map Svc.v) (fd, fp, fdp)).ends.length : Int))] (WLd rfl (QXn (d9 _ _ ?_))))))))))))
   refine WC.block (WC.loop (fun m_ E_ w_ => ∃ (j : Nat) (L : List EndV), m_ = (getS (aa.map Svc.v) (fd, fp, fdp)).ends.length - j ∧ E_ = [(2, U4 dip), (3, P0 g3 0), (4, P0 g8 0), (6, .bool false), (10, P0 bw 0), (11, P0 an 0), (13, P0 aA 0), (15, P0 bx 0), (16, .bool (alwB (wellL ks (getS (aa.map Svc.v) (fd, fp, fdp)).ends) dip)), (17, P0 bz 0), (18, .bool (alwB (wellL ks (getS (xs.map Svc.v) (fd, fp, fdp)).ends) dip)), (19, U4 (outV ns dip)), (20, .bool (outB ns dip)), (21, U4 (outV ns dip)), (22, .bool (outB ns dip)), (147, I6 ((getS (aa.map Svc.v) (fd, fp, fdp)).ends.length : Int)), (148, I6 (j : Int))] ∧ Cx w [] w_ [(g3, .cells #[I6 ce, I6 cn, .slice AS xs.length cS, .slice AN ns.length cN, .slice AK ks.length cK, .slice AL ls.length cL] 31), (g8, .cells #[I6 fp, U4 fs, I6 fsp, U4 fd, I6 fdp] 55), (bw, .cells #[I6 ce, I6 cn, .slice ae aa.length af, .slice ag ns.length ah, .slice ai ks.length aj, .slice ak ls.length al] 31), (an, .cells #[U4 ((getS (aa.map Svc.v) (fd, fp, fdp)).vip), I6 ((getS (aa.map Svc.v) (fd, fp, fdp)).proto), I6 ((getS (aa.map Svc.v) (fd, fp, fdp)).port), .slice ba ((getS (aa.map Svc.v) (fd, fp, fdp)).ends.length) bb] 43), (aA, .cells #[U4 ((getS (xs.map Svc.v) (fd, fp, fdp)).vip), I6 ((getS (xs.map Svc.v) (fd, fp, fdp)).proto), I6 ((getS (xs.map Svc.v) (fd, fp, fdp)).port), .slice a3 ((getS (xs.map Svc.v) (fd, fp, fdp)).ends.length) a4] 43), (bx, .cells #[U4 ((alwE (wellL ks (getS (aa.map Svc.v) (fd, fp, fdp)).ends) dip).dip), I6 ((alwE (wellL ks (getS (aa.map Svc.v) (fd, fp, fdp)).ends) dip).port), I6 ((alwE (wellL ks (getS (aa.map Svc.v) (fd, fp, fdp)).ends) dip).weight)] 47), (bz, .cells #[U4 ((alwE (wellL ks (getS (xs.map Svc.v) (fd, fp, fdp)).ends) dip).dip), I6 ((alwE (wellL ks (getS (xs.map Svc.v) (fd, fp, fdp)).ends) dip).port), I6 ((alwE (wellL ks (getS (xs.map Svc.v) (fd, fp, fdp)).ends) dip).weight)] 47)] [ca, blk (.slice ba ((getS (aa.map Svc.v) (fd, fp, fdp)).ends.length) bb), blk (.slice b2 ((wellL ks ((getS (aa.map Svc.v) (fd, fp, fdp)).ends)).length) b3), blk (.slice b4 ((wellL ks ((getS (xs.map Svc.v) (fd, fp, fdp)).ends)).length) b5)] ∧ World.ownsRow w_ 0 43 4 (.slice ae aa.length af) aa.length (aa.flatMap cellsS) ∧ World.ownsRow w_ 0 79 2 (.slice ag ns.length ah) ns.length (ns.flatMap cellsN) ∧ World.ownsRow w_ 0 40 1 (.slice ai ks.length aj) ks.length (ks.flatMap (Go.Tw.encI .u32)) ∧ World.ownsRow w_ 0 50 4 (.slice ak ls.length al) ls.length (ls.flatMap encL) ∧ svcsIn w_ ca aa ∧ World.ownsRow w_ 0 47 3 (.slice b2 ((wellL ks ((getS (aa.map Svc.v) (fd, fp, fdp)).ends)).length) b3) ((wellL ks ((getS (aa.map Svc.v) (fd, fp, fdp)).ends)).length) ((wellL ks ((getS (aa.map Svc.v) (fd, fp, fdp)).ends)).flatMap cellsE) ∧ World.ownsRow w_ 0 47 3 (.slice b4 ((wellL ks ((getS (xs.map Svc.v) (fd, fp, fdp)).ends)).length) b5) ((wellL ks ((getS (xs.map Svc.v) (fd, fp, fdp)).ends)).length) ((wellL ks ((getS (xs.map Svc.v) (fd, fp, fdp)).ends)).flatMap cellsE) ∧ World.ownsRow w_ 0 47 3 (.slice ba ((getS (aa.map Svc.v) (fd, fp, fdp)).ends.length) bb) ((getS (aa.map Svc.v) (fd, fp, fdp)).ends.length) (L.flatMap cellsE) ∧ (j ≤ (getS (aa.map Svc.v) (fd, fp, fdp)).ends.length ∧ L.length = (getS (aa.map Svc.v) (fd, fp, fdp)).ends.length)) ⟨_, _, ⟨0, (getS (aa.map Svc.v) (fd, fp, fdp)).ends, rfl, rfl, bL, d3, d4, d5, d6, (svcsIn.fr bB br (by simp)), (own_fr bl br (by simp)), d7, (own_fr da br (by simp)), Nat.zero_le _, rfl⟩, sub_of ⟨rfl, rfl, rfl, rfl, rfl, rfl, rfl, rfl, rfl, rfl, rfl, rfl, rfl, rfl, rfl, rfl, rfl, trivial⟩⟩ (fun m321 E_ gk gl ea eb => ?_))
   obtain ⟨j, L, rfl, rfl, aq, Sz71_m321, Nz71_m321, Kz71_m321, Lz71_m321, inz71_m321, row202_m321, row217_m321, hrowL, hj, hL⟩ := eb
   refine WCs (fun gm ec => WCg (WLq 1 [(149, .bool (decide ((j : Int) < ((getS (aa.map Svc.v) (fd, fp, fdp)).ends.length : Int))))] (WLd rfl (QXn (ec _ _ (WCs (fun gn ed => WCa 149 (decide ((j : Int) < ((getS (aa.map Svc.v) (fd, fp, fdp)).ends.length : Int))) rfl (fun bs => ?_) (fun bs => ?_))))))))
   ·
    have fB : (j : Int) < ((getS (aa.map Svc.v) (fd, fp, fdp)).ends.length : Int) := by have q_ := of_decide_eq_true bs; omega
    refine WCt rfl (WC.skip (QXn (ed _ _ (WCs (fun go ee => WC.block (WCs (fun gp ef => ?_)))))))
    refine WCg (WLz 2 [(23, I6 (j : Int))] (WLd rfl (QXn (ef _ _ (WCg (WLq 1 [(151, P0 an 3)] (WLo 41 (P0 an 3) (.slice ba ((getS (aa.map Svc.v) (fd, fp, fdp)).ends.length) bb) 152 (run_ld (aq.get 3 rfl) rfl) (WLq 2 [(154, .agg #[U4 0, I6 0, I6 0]), (153, I6 (j : Int))] ?_))))))))
    have fP := own_count cellsE_len (by decide) hrowL
    obtain ⟨fC, bM⟩ := get_some (xs := L) (i := j) (by omega)
    obtain ⟨b335, bN⟩ := own_addr (by decide) cellsE_len hrowL bM
    refine WLi ba ((getS (aa.map Svc.v) (fd, fp, fdp)).ends.length) bb 155 .i64 (j : Int) b335 0 j 3 (by kernel_rfl) bN (by omega) (by omega) (j * 3) (by first | (simp; done) | omega) ?_
    obtain ⟨gq, eg, aJ, eh, ei⟩ := stoE_run Tryz.prog cellsE_len aq 1 bN rfl hrowL j 0 (x := fC) bM (⟨0, 0, 0⟩ : EndV) [U4 0, I6 0, I6 0] rfl 47 (.agg #[U4 0, I6 0, I6 0]) (j * 3) rfl rfl rfl (by first | rfl | simp [Nat.add_assoc])
    refine WLU eg ?_
    have ej := own_fr Sz71_m321 aJ (fun x_ hx_ => (aq.disj 0 1 rfl rfl (by decide)) x_ (ab.sS x_ hx_))
    have ek := own_fr Nz71_m321 aJ (fun x_ hx_ => (aq.disj 0 1 rfl rfl (by decide)) x_ (ab.sN x_ hx_))
    have em := own_fr Kz71_m321 aJ (fun x_ hx_ => (aq.disj 0 1 rfl rfl (by decide)) x_ (ab.sK x_ hx_))
    have en := own_fr Lz71_m321 aJ (fun x_ hx_ => (aq.disj 0 1 rfl rfl (by decide)) x_ (ab.sL x_ hx_))
    have eo := svcsIn.fr inz71_m321 aJ (aq.disj 0 1 rfl rfl (by decide))
    have ep := own_fr row202_m321 aJ (aq.disj 2 1 rfl rfl (by decide))
    have er := own_fr row217_m321 aJ (aq.disj 3 1 rfl rfl (by decide))
    refine WLd rfl (QXb (QXn (ee _ _ (WCg (WLq 1 [(156, I6 (IntKind.i64.wrap ((j : Int) + 1)))] (WLt (show (I6 (IntKind.i64.wrap ((j : Int) + 1)) : Value) = I6 ((j : Int) + 1) from by rw [wrap_in_i64 ((j : Int) + 1) (by omega) (by omega)]) (WLq 1 [(148, I6 ((j : Int) + 1))] ?_)))))))
    refine WLd rfl (QXn ?_)
    have es := ei.pick [0, 1, 2, 3, 4, 5, 6] [0, 1, 2, 3] rfl rfl
    refine fun a_ ha_ => ea _ _ _ ?_ ⟨j + 1, (L.set j (⟨0, 0, 0⟩ : EndV)), rfl, rfl, es, ej, ek, em, en, eo, ep, er, eh, by omega, by rw [List.length_set]; exact hL⟩ a_ (ha_.weaken (sub_of ⟨rfl, rfl, rfl, rfl, rfl, rfl, rfl, rfl, rfl, rfl, rfl, rfl, rfl, rfl, rfl, rfl, rfl, trivial⟩))
    omega
   ·
    have fB : ((getS (aa.map Svc.v) (fd, fp, fdp)).ends.length : Int) ≤ (j : Int) := by have q_ := of_decide_eq_false bs; omega
    refine WCf rfl (WC.exit (QXe (QXe (QX.block_hit (QXn (d8 _ _ ?_))))))
    refine WCs (fun gr et => WC.drawC aq [] (by kernel_rfl) (fun fD aZ aK ad => ?_))
    have bO := own_fr Sz71_m321 aZ (by simp)
    have bP := own_fr Nz71_m321 aZ (by simp)
    have bQ := own_fr Kz71_m321 aZ (by simp)
    have bR := own_fr Lz71_m321 aZ (by simp)
    refine WDm 0 47 (P0 bx 0) (.agg #[U4 ((alwE (wellL ks (getS (aa.map Svc.v) (fd, fp, fdp)).ends) dip).dip), I6 ((alwE (wellL ks (getS (aa.map Svc.v) (fd, fp, fdp)).ends) dip).port), I6 ((alwE (wellL ks (getS (aa.map Svc.v) (fd, fp, fdp)).ends) dip).weight)]) 157 (fun _ hS_ => run_ld (Fr.has hS_ (aK.get 5 rfl) (by simp)) rfl) ad (WDm 1 47 (P0 bz 0) (.agg #[U4 ((alwE (wellL ks (getS (xs.map Svc.v) (fd, fp, fdp)).ends) dip).dip), I6 ((alwE (wellL ks (getS (xs.map Svc.v) (fd, fp, fdp)).ends) dip).port), I6 ((alwE (wellL ks (getS (xs.map Svc.v) (fd, fp, fdp)).ends) dip).weight)]) 158 (fun _ hS_ => run_ld (Fr.has hS_ (aK.get 6 rfl) (by simp)) rfl) ad ?_)
    have eu : ∀ w_, Sem.run Tryz.prog (do eqGuard .eql 47 (Operand.tmp 157) (Operand.tmp 158) (.agg #[U4 ((alwE (wellL ks (getS (aa.map Svc.v) (fd, fp, fdp)).ends) dip).dip), I6 ((alwE (wellL ks (getS (aa.map Svc.v) (fd, fp, fdp)).ends) dip).port), I6 ((alwE (wellL ks (getS (aa.map Svc.v) (fd, fp, fdp)).ends) dip).weight)]) (.agg #[U4 ((alwE (wellL ks (getS (xs.map Svc.v) (fd, fp, fdp)).ends) dip).dip), I6 ((alwE (wellL ks (getS (xs.map Svc.v) (fd, fp, fdp)).ends) dip).port), I6 ((alwE (wellL ks (getS (xs.map Svc.v) (fd, fp, fdp)).ends) dip).weight)]); binOp .eql 47 (.agg #[U4 ((alwE (wellL ks (getS (aa.map Svc.v) (fd, fp, fdp)).ends) dip).dip), I6 ((alwE (wellL ks (getS (aa.map Svc.v) (fd, fp, fdp)).ends) dip).port), I6 ((alwE (wellL ks (getS (aa.map Svc.v) (fd, fp, fdp)).ends) dip).weight)]) (.agg #[U4 ((alwE (wellL ks (getS (xs.map Svc.v) (fd, fp, fdp)).ends) dip).dip), I6 ((alwE (wellL ks (getS (xs.map Svc.v) (fd, fp, fdp)).ends) dip).port), I6 ((alwE (wellL ks (getS (xs.map Svc.v) (fd, fp, fdp)).ends) dip).weight)])) w_ = .ok (.bool (((alwE (wellL ks (getS (aa.map Svc.v) (fd, fp, fdp)).ends) dip).dip) == ((alwE (wellL ks (getS (xs.map Svc.v) (fd, fp, fdp)).ends) dip).dip) && (((alwE (wellL ks (getS (aa.map Svc.v) (fd, fp, fdp)).ends) dip).port) == ((alwE (wellL ks (getS (xs.map Svc.v) (fd, fp, fdp)).ends) dip).port) && (((alwE (wellL ks (getS (aa.map Svc.v) (fd, fp, fdp)).ends) dip).weight) == ((alwE (wellL ks (getS (xs.map Svc.v) (fd, fp, fdp)).ends) dip).weight) && true)))) w_ := fun w_ => (run_eql_S (by kernel_rfl))
    refine WD.semP (NPt hN) 2 (do eqGuard .eql 47 (Operand.tmp 157) (Operand.tmp 158) (.agg #[U4 ((alwE (wellL ks (getS (aa.map Svc.v) (fd, fp, fdp)).ends) dip).dip), I6 ((alwE (wellL ks (getS (aa.map Svc.v) (fd, fp, fdp)).ends) dip).port), I6 ((alwE (wellL ks (getS (aa.map Svc.v) (fd, fp, fdp)).ends) dip).weight)]) (.agg #[U4 ((alwE (wellL ks (getS (xs.map Svc.v) (fd, fp, fdp)).ends) dip).dip), I6 ((alwE (wellL ks (getS (xs.map Svc.v) (fd, fp, fdp)).ends) dip).port), I6 ((alwE (wellL ks (getS (xs.map Svc.v) (fd, fp, fdp)).ends) dip).weight)]); binOp .eql 47 (.agg #[U4 ((alwE (wellL ks (getS (aa.map Svc.v) (fd, fp, fdp)).ends) dip).dip), I6 ((alwE (wellL ks (getS (aa.map Svc.v) (fd, fp, fdp)).ends) dip).port), I6 ((alwE (wellL ks (getS (aa.map Svc.v) (fd, fp, fdp)).ends) dip).weight)]) (.agg #[U4 ((alwE (wellL ks (getS (xs.map Svc.v) (fd, fp, fdp)).ends) dip).dip), I6 ((alwE (wellL ks (getS (xs.map Svc.v) (fd, fp, fdp)).ends) dip).port), I6 ((alwE (wellL ks (getS (xs.map Svc.v) (fd, fp, fdp)).ends) dip).weight)])) 159 (.bool (((alwE (wellL ks (getS (aa.map Svc.v) (fd, fp, fdp)).ends) dip).dip) == ((alwE (wellL ks (getS (xs.map Svc.v) (fd, fp, fdp)).ends) dip).dip) && (((alwE (wellL ks (getS (aa.map Svc.v) (fd, fp, fdp)).ends) dip).port) == ((alwE (wellL ks (getS (xs.map Svc.v) (fd, fp, fdp)).ends) dip).port) && (((alwE (wellL ks (getS (aa.map Svc.v) (fd, fp, fdp)).ends) dip).weight) == ((alwE (wellL ks (getS (xs.map Svc.v) (fd, fp, fdp)).ends) dip).weight) && true)))) (by kernel_rfl) (by kernel_rfl) (fun _ _ => eu _) ad (WDq 3 160 (.bool (((alwE (wellL ks (getS (aa.map Svc.v) (fd, fp, fdp)).ends) dip).dip) == ((alwE (wellL ks (getS (xs.map Svc.v) (fd, fp, fdp)).ends) dip).dip) && (((alwE (wellL ks (getS (aa.map Svc.v) (fd, fp, fdp)).ends) dip).port) == ((alwE (wellL ks (getS (xs.map Svc.v) (fd, fp, fdp)).ends) dip).port) && (((alwE (wellL ks (getS (aa.map Svc.v) (fd, fp, fdp)).ends) dip).weight) == ((alwE (wellL ks (getS (xs.map Svc.v) (fd, fp, fdp)).ends) dip).weight) && true)))) ad (WD.know 160 (.bool (((alwE (wellL ks (getS (aa.map Svc.v) (fd, fp, fdp)).ends) dip).dip) == ((alwE (wellL ks (getS (xs.map Svc.v) (fd, fp, fdp)).ends) dip).dip) && (((alwE (wellL ks (getS (aa.map Svc.v) (fd, fp, fdp)).ends) dip).port) == ((alwE (wellL ks (getS (xs.map Svc.v) (fd, fp, fdp)).ends) dip).port) && (((alwE (wellL ks (getS (aa.map Svc.v) (fd, fp, fdp)).ends) dip).weight) == ((alwE (wellL ks (getS (xs.map Svc.v) (fd, fp, fdp)).ends) dip).weight) && true)))) (.bool true) rfl (congrArg Value.bool (by rw [ab.vals]; simp)) (WDx 5 [(4, 161, .bool (alwB (wellL ks (getS (aa.map Svc.v) (fd, fp, fdp)).ends) dip)), (5, 162, .bool (alwB (wellL ks (getS (xs.map Svc.v) (fd, fp, fdp)).ends) dip)), (6, 163, .bool ((alwB (wellL ks (getS (aa.map Svc.v) (fd, fp, fdp)).ends) dip) == (alwB (wellL ks (getS (xs.map Svc.v) (fd, fp, fdp)).ends) dip))), (7, 164, .bool ((alwB (wellL ks (getS (aa.map Svc.v) (fd, fp, fdp)).ends) dip) == (alwB (wellL ks (getS (xs.map Svc.v) (fd, fp, fdp)).ends) dip))), (8, 165, .bool ((alwB (wellL ks (getS (aa.map Svc.v) (fd, fp, fdp)).ends) dip) == (alwB (wellL ks (getS (xs.map Svc.v) (fd, fp, fdp)).ends) dip)))] ad (WD.know 165 (.bool ((alwB (wellL ks (getS (aa.map Svc.v) (fd, fp, fdp)).ends) dip) == (alwB (wellL ks (getS (xs.map Svc.v) (fd, fp, fdp)).ends) dip))) (.bool true) rfl (congrArg Value.bool (by rw [ab.vals]; simp)) (WDx 5 [(9, 166, U4 (outV ns dip)), (10, 167, U4 (outV ns dip)), (11, 168, .bool ((outV ns dip) == (outV ns dip))), (12, 169, .bool ((outV ns dip) == (outV ns dip))), (13, 170, .bool ((outV ns dip) == (outV ns dip)))] ad ?_)))))
    refine WD.know 170 (.bool ((outV ns dip) == (outV ns dip))) (.bool true) rfl (congrArg Value.bool (by simp)) (WDx 5 [(14, 171, .bool (outB ns dip)), (15, 172, .bool (outB ns dip)), (16, 173, .bool ((outB ns dip) == (outB ns dip))), (17, 174, .bool ((outB ns dip) == (outB ns dip))), (18, 175, .bool ((outB ns dip) == (outB ns dip)))] ad (WD.know 175 (.bool ((outB ns dip) == (outB ns dip))) (.bool true) rfl (congrArg Value.bool (by simp)) (WDm 19 31 (P0 bw 0) (.agg #[I6 ce, I6 cn, .slice ae aa.length af, .slice ag ns.length ah, .slice ai ks.length aj, .slice ak ls.length al]) 176 (fun _ hS_ => run_ld (Fr.has hS_ (aK.get 2 rfl) (by simp)) rfl) ad (WDm 21 31 (P0 g3 0) (.agg #[I6 ce, I6 cn, .slice AS xs.length cS, .slice AN ns.length cN, .slice AK ks.length cK, .slice AL ls.length cL]) 178 (fun _ hS_ => run_ld (Fr.has hS_ (aK.get 0 rfl) (by simp)) rfl) ad ?_))))
    have b6 := (vipF_spec (vL aa ns ls)).2.2
    rw [vL_len] at b6
    refine WDc 20 (Vips_ct ce cn ae af aa ag ah ns ai aj ks ak al ls fD (own_rd bO cellsS_len (by decide)) (svcsIn.fr inz71_m321 aZ (by simp)).at_ (own_rd bP cellsN_len (by decide)) (own_rd bQ (Go.Tw.encI_len _) (by decide)) (own_rd bR encL_len (by decide)) (by have q_ := congrArg List.length ab.vals; simp only [List.length_map] at q_; omega) hlN hlK hlL (by have q_ := congrArg List.length ab.vals; simp only [List.length_map] at q_; omega)) ?_
    rintro _ fE ⟨v_, rfl, aL, a7⟩
    have a0 := aK.callN aL (own_ge a7) (own_lt a7)
    obtain ⟨fF, fG, rfl, fH⟩ := own_form a7
    have ev := own_base (b' := 0) a7 (fun _ _ => Nat.zero_le _)
    have bS := ad.trans aL (by simp)
    refine ⟨_, rfl, bS, ?_⟩
    have ew := aZ.trans aL (by simp)
    have ex := own_fr bO aL (by simp)
    have ey := own_fr bP aL (by simp)
    have ez := own_fr bQ aL (by simp)
    have eA := own_fr bR aL (by simp)
    have b7 := (vipF_spec (vL xs ns ls)).2.2
    rw [vL_len] at b7
    refine WDc 22 (RVips_ct ce cn AS cS xs AN cN ns AK cK ks AL cL ls fE (Rd.fr hqS a0.fr) (fun s_ h_ => (hat s_ h_).fr a0.fr (fun _ _ => by simp)) (Rd.fr hqN a0.fr) (Rd.fr hqK a0.fr) (Rd.fr hqL a0.fr) hlS hlN hlK hlL hvt) ?_
    rintro _ fI ⟨v_, rfl, az, a8⟩
    have eB := a0.callN az (own_ge a8) (own_lt a8)
    obtain ⟨fJ, fK, rfl, fL⟩ := own_form a8
    have bT := own_base (b' := 0) a8 (fun _ _ => Nat.zero_le _)
    have bU := bS.trans az (by simp)
    refine ⟨_, rfl, bU, ?_⟩
    have eC := ew.trans az (by simp)
    have eD := own_fr ex az (by simp)
    have eE := own_fr ey az (by simp)
    have eF := own_fr ez az (by simp)
    have eG := own_fr eA az (by simp)
    have bV := own_fr ev az (by simp)
    refine WDc 23 (sameAddrs_n fF fJ ((vipF (vL aa ns ls)).length) fG ((vipF (vL xs ns ls)).length) fK (vipF (vL aa ns ls)) (vipF (vL xs ns ls)) fI (own_rd bV (Go.Tw.encI_len _) (by decide)) (own_rd bT (Go.Tw.encI_len _) (by decide)) (own_count (Go.Tw.encI_len _) (by decide) bV) (own_count (Go.Tw.encI_len _) (by decide) bT) (by omega)) ?_
    rintro _ fM ⟨rfl, aM⟩
    have a1 := bU.trans aM (by simp)
    refine ⟨_, rfl, a1, ?_⟩
    have a2 := eB.call aM
    have bW := eC.trans aM (by simp)
    have eH := own_fr eD aM (by simp)
    have eI := own_fr eE aM (by simp)
    have eJ := own_fr eF aM (by simp)
    have eK := own_fr eG aM (by simp)
    refine WDx 2 [(24, 181, .bool (decide ((vipF (vL aa ns ls)) = (vipF (vL xs ns ls))))), (25, 182, .bool (decide ((vipF (vL aa ns ls)) = (vipF (vL xs ns ls)))))] a1 (WD.know 182 (.bool (decide ((vipF (vL aa ns ls)) = (vipF (vL xs ns ls))))) (.bool true) rfl (congrArg Value.bool (by rw [vL_eq ab.vals]; simp)) (WDm 26 31 (P0 bw 0) (.agg #[I6 ce, I6 cn, .slice ae aa.length af, .slice ag ns.length ah, .slice ai ks.length aj, .slice ak ls.length al]) 183 (fun _ hS_ => run_ld (Fr.has hS_ (aK.get 2 rfl) (by simp)) rfl) a1 (WDm 27 31 (P0 g3 0) (.agg #[I6 ce, I6 cn, .slice AS xs.length cS, .slice AN ns.length cN, .slice AK ks.length cK, .slice AL ls.length cL]) 184 (fun _ hS_ => run_ld (Fr.has hS_ (aK.get 0 rfl) (by simp)) rfl) a1 (WDc 28 (RSame_ct ce cn ae af aa ag ah ns ai aj ks ak al ls ce cn AS cS xs AN cN ns AK cK ks AL cL ls fM (own_rd eH cellsS_len (by decide)) (svcsIn.fr inz71_m321 bW (by simp)).at_ (own_rd eI cellsN_len (by decide)) (own_rd eJ (Go.Tw.encI_len _) (by decide)) (own_rd eK encL_len (by decide)) (by have q_ := congrArg List.length ab.vals; simp only [List.length_map] at q_; omega) hlN hlK hlL (Rd.fr hqS a2.fr) (fun s_ h_ => (hat s_ h_).fr a2.fr (fun _ _ => by simp)) (Rd.fr hqN a2.fr) (Rd.fr hqK a2.fr) (Rd.fr hqL a2.fr) hlS hlN hlK hlL) ?_))))
    rintro _ gs ⟨rfl, bt⟩
    have bu := a1.trans bt (by simp)
    refine ⟨_, rfl, bu, ?_⟩
    have eL := a2.call bt
    have fQ := bW.trans bt (by simp)
    refine WDx 2 [(29, 186, .bool (decide ((⟨ce, cn, aa.map Svc.v, ns, ks, ls⟩ : CfgV) = (⟨ce, cn, xs.map Svc.v, ns, ks, ls⟩ : CfgV)))), (30, 6, .bool (decide ((⟨ce, cn, aa.map Svc.v, ns, ks, ls⟩ : CfgV) = (⟨ce, cn, xs.map Svc.v, ns, ks, ls⟩ : CfgV))))] bu (WDd (QXn (et _ _ (WC.ret ?_))))
    refine (hret _ _ _ rfl ?_).1
    exact ⟨congrArg (fun b_ => Ending.returned (Value.bool b_)) (show ((decide ((⟨ce, cn, aa.map Svc.v, ns, ks, ls⟩ : CfgV) = (⟨ce, cn, xs.map Svc.v, ns, ks, ls⟩ : CfgV)))) = true from by rw [ab.vals]; simp), eL.fr⟩

end Go.Proofs.YtfligklljkcbfaaGreatDoor
