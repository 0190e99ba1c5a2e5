/- Contracts of functions of the program, each proved by a walk through its code; conditions stand in the statements. -/
import Derived.Test.YtmahghppojbeoaaSeF
namespace Go.Proofs.Ytmahghppojbeoaa
set_option linter.unusedSimpArgs false
set_option linter.unusedVariables false
set_option linter.unusedSectionVars false
open Go Go.RowKit Go.Tw
set_option linter.unusedVariables false
set_option maxRecDepth 20000
set_option maxHeartbeats 2000000 in
theorem alive_ct  (w : World) : Calls Try.prog 8 #[] w fun e w' => e = .returned (.bool true) ∧ Fr w w' [] := by
 refine enterD (n := 83) Try.func8 rfl rfl (Nat.le_of_ble_eq_true rfl) ?_
 intro Q0 hN hret hret'
 have hC := Cx.start w
 refine WCs (fun K1 hK2 => ?_)
 refine WCg (WLq 1 [(0, .bool false)] (WLd rfl (QXn (hK2 _ _ ?_))))
 refine WCs (fun K3 hK4 => ?_)
 refine WCg ?_
 refine WLc rfl rfl rfl rfl rfl (by kernel_rfl) (NewS_ct 32 0 w ⟨by decide, by decide⟩ rfl rfl) ?_
 rintro _ w7 ⟨p5, rfl, hF6, be, hp9⟩
 have hC8 := hC.callB hF6 be hp9
 refine ⟨_, rfl, ?_⟩
 refine WLq 5 [(2, .nilIface), (1, .pointer (some ⟨p5, 0, none⟩)), (11, .nilIface), (10, .pointer (some ⟨p5, 0, none⟩)), (8, .tuple #[.pointer (some ⟨p5, 0, none⟩), .nilIface])] (WLd rfl (QXn (hK4 _ _ ?_)))
 refine WCs (fun dk b5 => ?_)
 refine WCg ?_
 refine WLc rfl rfl rfl rfl rfl (by kernel_rfl) (NewL_ct w7) ?_
 rintro _ dl ⟨p13, F14, rfl, b6, aL, bf⟩
 have b7 := hC8.callN b6 bf (lsAt_lt aL)
 refine ⟨_, rfl, ?_⟩
 refine WLq 1 [(3, .pointer (some ⟨p13, 0, none⟩))] (WLd rfl (QXn (b5 _ _ ?_)))
 refine WCs (fun dm b8 => ?_)
 refine WCs (fun dn b9 => ?_)
 refine WCg (WLq 10 [(22, .bool false), (21, .bool false), (20, .pointer (some ⟨p13, 0, none⟩)), (19, .bool false), (18, .bool false), (17, .bool false), (16, .pointer (some ⟨p5, 0, none⟩)), (15, .bool false), (14, .bool false), (13, .nilIface)] (WLd rfl (QXn (b9 _ _ ?_))))
 refine WCf rfl (WC.skip (QXn (b8 _ _ ?_)))
 refine WCs (fun dp ca => ?_)
 refine WCg (WLq 1 [(23, .pointer (some ⟨p5, 0, none⟩))] ?_)
 refine WL.newM b7 (fun b => .slice (some ⟨b, 0, none⟩) 1 1) (.cells #[.int .u32 16843009] 44) 24 (fun _ => by kernel_rfl) (fun cW cX cY cb aG => ?_)
 have cc := lsAt_fr aL cb (by simp)
 refine WLc rfl rfl rfl rfl rfl (by kernel_rfl) (Announce1_ct p5 0 16843009 (some ⟨cW, 0, none⟩) 1 cX (aG.get 0 rfl) (Rd.blk (xs := [16843009]) (aG.get 1 rfl) (Go.Tw.encI_len _) rfl) ⟨by decide, by decide, by decide⟩) ?_
 rintro _ cZ ⟨rfl, bg, bh, bi, cd, aZ⟩
 have aH := Cx.callMN aG 0 rfl bg cd (own_ge aZ) (own_lt aZ)
 have ce := own_base (b' := 0) aZ (fun _ _ => Nat.zero_le _)
 refine ⟨_, rfl, ?_⟩
 have cf := lsAt_fr cc bg (aG.apartM 0 0 rfl rfl)
 refine WLd rfl (QXn (ca _ _ ?_))
 refine WCs (fun dq cg => ?_)
 refine WCg (WLq 1 [(26, .pointer (some ⟨p5, 0, none⟩))] ?_)
 refine WLc rfl rfl rfl rfl rfl (by kernel_rfl) (TickO_ct p5 0 (.slice bh 1 bi) cZ (aH.get 0 rfl)) ?_
 rintro _ c0 ⟨rfl, a0, bj, bk, a1, a2, ch, a3, a4, ci⟩
 have am := Cx.callMN2 aH 0 rfl a0 ch (own_ge a3) (own_lt a3) (own_ge a4) (own_lt a4) ci
 refine ⟨_, rfl, ?_⟩
 have cj := lsAt_fr cf a0 (aH.apartM 0 0 rfl rfl)
 have ck := own_fr ce a0 (aH.apartM 1 0 rfl rfl)
 have cl := own_base (b' := 0) a3 (fun _ _ => Nat.zero_le _)
 have cm := own_base (b' := 0) a4 (fun _ _ => Nat.zero_le _)
 refine WLd rfl (QXn (cg _ _ ?_))
 refine WCs (fun dr cn => ?_)
 refine WCg (WLq 1 [(28, .pointer (some ⟨p5, 0, none⟩))] ?_)
 refine WLc rfl rfl rfl rfl rfl (by kernel_rfl) (Out_ct p5 (.int .i64 0) (.bool false) (.slice bh 1 bi) a1 1 a2 c0 (am.get 0 rfl)) ?_
 rintro _ c1 ⟨rfl, an, co⟩
 have bl := am.callM 0 rfl an co
 refine ⟨_, rfl, ?_⟩
 have cp := lsAt_fr cj an (am.apartM 0 0 rfl rfl)
 have cq := own_fr ck an (am.apartM 1 0 rfl rfl)
 have aI := own_fr cl an (am.apartM 2 0 rfl rfl)
 have a5 := own_fr cm an (am.apartM 3 0 rfl rfl)
 refine WLq 1 [(4, .slice a1 1 a2)] (WLd rfl (QXn (cn _ _ ?_)))
 refine WCs (fun ds cr => ?_)
 refine WCs (fun dt cs => ?_)
 refine WCg (WLq 5 [(34, .slice a1 1 a2), (33, .bool false), (32, .bool false), (31, .int .i64 1), (30, .slice a1 1 a2)] ?_)
 have c2 := own_count cellsM_len (by decide) aI
 obtain ⟨c3, aJ⟩ := get_some (xs := [(⟨10, bj, bk, (0 :: [])⟩ : Mg)]) (i := 0) (by omega)
 obtain ⟨b75, aK⟩ := own_addr (by decide) cellsM_len aI aJ
 refine WLi a1 1 a2 35 .i64 0 b75 0 0 3 (by kernel_rfl) aK (by omega) (by omega) 0 (by first | (simp; done) | omega) ?_
 obtain rfl : (⟨10, bj, bk, (0 :: [])⟩ : Mg) = c3 := by simpa using aJ
 refine WLq 1 [(36, .pointer (some ⟨b75, 0, none⟩))] ?_
 refine WLo 3 (.pointer (some ⟨b75, 0, none⟩)) (.int .i64 10) 37 (run_load1 rfl (by simpa [Nat.add_assoc] using Rd.cell (own_rd aI cellsM_len (by decide)) aK aJ 0 _ rfl)) ?_
 refine WLq 2 [(39, .bool false), (38, .bool false)] (WLd rfl (QXn (cs _ _ ?_)))
 refine WCf rfl (WC.skip (QXn (cr _ _ ?_)))
 refine WCs (fun du ct => ?_)
 refine WCg (WLq 2 [(42, .slice a1 1 a2), (41, .pointer (some ⟨p13, 0, none⟩))] ?_)
 refine WLi a1 1 a2 43 .i64 0 b75 0 0 3 (by kernel_rfl) aK (by omega) (by omega) 0 (by first | (simp; done) | omega) ?_
 refine WLo 40 (.pointer (some ⟨b75, 0, none⟩)) (.agg #[.int .i64 10, .slice bj ((0 :: []).length) bk, .slice none 0 0]) 44 (run_rdN (l := [.int .i64 10, .slice bj ((0 :: []).length) bk, .slice none 0 0]) rfl rfl (fun j u hu => by have hq_ := Rd.cell (own_rd aI cellsM_len (by decide)) aK aJ j u hu; simpa [Nat.add_assoc] using hq_)) ?_
 refine WLc rfl rfl rfl rfl rfl (by kernel_rfl) (Recv_n F14 p13 [] 32 10 4 bj ((0 :: []).length) bk (0 :: []) none 0 0 c1 cp ⟨by decide, by decide⟩ (own_rd a5 (Go.Tw.encI_len _) (by decide)) (own_count (Go.Tw.encI_len _) (by decide) a5) (by first | omega | (simp; done)) (own_le a5)) ?_
 rintro _ dv (⟨F84, L85, rfl, a6, ao, ap, a7⟩ | ⟨F84, L85, k92, b93, bc, bd, rfl, a6, ao, ap, a7, a8, a9⟩)
 ·
  obtain ⟨_, h_⟩ := recv_opn okIn_a1 a7
  cases h_
 ·
  obtain ⟨bm, bn⟩ := recv_opn okIn_a1 a7
  obtain ⟨rfl, rfl⟩ := Prod.mk.inj (Option.some.inj bn)
  have cu := bl.callFN 0 rfl a6 ap (lsAt_lt ao) (own_ge a8) (own_lt a8) a9
  refine ⟨_, rfl, ?_⟩
  have cv := own_base (b' := 0) a8 (fun _ _ => Nat.zero_le _)
  have bo := own_fr cq a6 (bl.disj 1 0 rfl rfl (by decide))
  have ba := ls_open1 (b := 0) ao bm rfl
  refine WLq 3 [(47, .bool true), (46, .agg #[.int .i64 11, .slice bc 1 bd, .slice none 0 0]), (40, .tuple #[.agg #[.int .i64 11, .slice bc 1 bd, .slice none 0 0], .bool true])] ?_
  refine WL.newM cu (fun b => .pointer (some ⟨b, 0, none⟩)) (.cells #[.int .i64 0, .slice none 0 0, .slice none 0 0] 40) 5 (fun _ => by kernel_rfl) (fun bp c4 cP aq ai => ?_)
  have bq := lsAt_fr ba aq (by simp)
  have br := own_fr bo aq (by simp)
  have bs := own_fr cv aq (by simp)
  refine WLs (c' := #[.int .i64 11, .slice bc 1 bd, .slice none 0 0]) ai 2 40 bp 0 (.agg #[.int .i64 11, .slice bc 1 bd, .slice none 0 0]) (by kernel_rfl) rfl (by kernel_rfl) (fun cw ar aa => ?_)
  have bt := lsAt_fr bq ar (ai.apartM 0 2 rfl rfl)
  have bu := own_fr br ar (ai.apartM 1 2 rfl rfl)
  have bv := own_fr bs ar (ai.apartM 4 2 rfl rfl)
  refine WLq 1 [(6, .bool true)] (WLd rfl (QXn (ct _ _ ?_)))
  refine WCs (fun c5 bw => ?_)
  refine WCs (fun c6 bx => ?_)
  refine WCg (WLq 2 [(49, .bool false), (48, .bool true)] (WLd rfl (QXn (bx _ _ ?_))))
  refine WCf rfl (WC.skip (QXn (bw _ _ ?_)))
  refine WCs (fun c7 bz => ?_)
  refine WCg (WLq 1 [(50, .pointer (some ⟨p5, 0, none⟩))] ?_)
  refine WLo 40 (.pointer (some ⟨bp, 0, none⟩)) (.agg #[.int .i64 11, .slice bc 1 bd, .slice none 0 0]) 51 (run_ld (aa.get 2 rfl) rfl) ?_
  refine WLc rfl rfl rfl rfl rfl (by kernel_rfl) (RecvO_ct p5 0 bh bi [16843009] bc bd cw (aa.get 0 rfl) (own_rd bu (Go.Tw.encI_len _) (by decide)) (by decide) (fun _ b_ off_ e_ h_ => aa.notin 1 0 rfl rfl (by rw [← h_]; exact blk_one e_)) (by intro x_ h_; simp only [List.mem_cons, List.not_mem_nil, or_false] at h_; subst h_; decide) (own_rd bv (Go.Tw.encI_len _) (by decide)) (fun b_ off_ e_ h_ => aa.notin 4 0 rfl rfl (by rw [← h_]; exact blk_one e_))) ?_
  rintro _ cx ⟨rfl, aM, au, av, aw, ax, bA, ay, az, bB⟩
  have ab := Cx.callMN2 aa 0 rfl aM bA (own_ge ay) (own_lt ay) (own_ge az) (own_lt az) bB
  refine ⟨_, rfl, ?_⟩
  have bC := lsAt_fr bt aM (aa.apartM 0 0 rfl rfl)
  have bD := own_base (b' := 0) ay (fun _ _ => Nat.zero_le _)
  have bE := own_base (b' := 0) az (fun _ _ => Nat.zero_le _)
  refine WLd rfl (QXn (bz _ _ ?_))
  refine WCs (fun c8 bF => ?_)
  refine WCg (WLq 1 [(53, .pointer (some ⟨p5, 0, none⟩))] ?_)
  refine WLc rfl rfl rfl rfl rfl (by kernel_rfl) (Out_ct p5 (.int .i64 0) (.bool true) (.slice bh 1 bi) aw 1 ax cx (ab.get 0 rfl)) ?_
  rintro _ cy ⟨rfl, aj, bG⟩
  have bH := ab.callM 0 rfl aj bG
  refine ⟨_, rfl, ?_⟩
  have bI := lsAt_fr bC aj (ab.apartM 0 0 rfl rfl)
  have aA := own_fr bD aj (ab.apartM 5 0 rfl rfl)
  have aB := own_fr bE aj (ab.apartM 6 0 rfl rfl)
  refine WLq 1 [(7, .slice aw 1 ax)] (WLd rfl (QXn (bF _ _ ?_)))
  refine WCs (fun c9 bJ => ?_)
  refine WCs (fun da bK => ?_)
  refine WCg (WLq 3 [(57, .bool false), (56, .int .i64 1), (55, .slice aw 1 ax)] (WLd rfl (QXn (bK _ _ ?_))))
  refine WCf rfl (WC.skip (QXn (bJ _ _ ?_)))
  refine WCs (fun db bL => ?_)
  refine WCg (WLq 2 [(59, .slice aw 1 ax), (58, .pointer (some ⟨p13, 0, none⟩))] ?_)
  have cQ := own_count cellsM_len (by decide) aA
  obtain ⟨cz, aC⟩ := get_some (xs := [(⟨12, au, av, (0 :: [16843009])⟩ : Mg)]) (i := 0) (by omega)
  obtain ⟨b167, aN⟩ := own_addr (by decide) cellsM_len aA aC
  refine WLi aw 1 ax 60 .i64 0 b167 0 0 3 (by kernel_rfl) aN (by omega) (by omega) 0 (by first | (simp; done) | omega) ?_
  obtain rfl : (⟨12, au, av, (0 :: [16843009])⟩ : Mg) = cz := by simpa using aC
  refine WLo 40 (.pointer (some ⟨b167, 0, none⟩)) (.agg #[.int .i64 12, .slice au ((0 :: [16843009]).length) av, .slice none 0 0]) 61 (run_rdN (l := [.int .i64 12, .slice au ((0 :: [16843009]).length) av, .slice none 0 0]) rfl rfl (fun j u hu => by have hq_ := Rd.cell (own_rd aA cellsM_len (by decide)) aN aC j u hu; simpa [Nat.add_assoc] using hq_)) ?_
  refine WLc rfl rfl rfl rfl rfl (by kernel_rfl) (Recv_n F84 p13 [(32, (⟨0, 4, none, 0, []⟩ : One))] 32 12 5 au ((0 :: [16843009]).length) av (0 :: [16843009]) none 0 0 cy bI ⟨by decide, by decide⟩ (own_rd aB (Go.Tw.encI_len _) (by decide)) (own_count (Go.Tw.encI_len _) (by decide) aB) (by first | omega | (simp; done)) (own_le aB)) ?_
  rintro _ cA (⟨F170, L171, rfl, aO, af, ak, aD⟩ | ⟨F170, L171, k178, b179, dc, dd, rfl, aO, af, ak, aD, cR, b4⟩)
  ·
   obtain ⟨⟨a187, ac, bM⟩, _⟩ := recv_rts okIn_a2 rfl rfl aD
   have aP := bH.callF 0 rfl aO ak (lsAt_lt af)
   refine ⟨_, rfl, ?_⟩
   have bb := ls_rts1 af bM
   refine WLd rfl (QXn (bL _ _ ?_))
   refine WCs (fun de bN => ?_)
   refine WCg (WLq 1 [(63, .pointer (some ⟨p5, 0, none⟩))] ?_)
   refine WLc rfl rfl rfl rfl rfl (by kernel_rfl) (Open_ct p5 (.int .i64 0) (.slice bh 1 bi) (.slice none 0 0) true cA (aP.get 0 rfl)) ?_
   rintro _ cB ⟨rfl, aQ⟩
   refine ⟨_, rfl, ?_⟩
   have bO := aP.call aQ
   have aR := lsAt_fr bb aQ (by simp)
   refine WLq 2 [(66, .pointer (some ⟨p13, 0, none⟩)), (65, .bool true)] ?_
   refine WLc rfl rfl rfl rfl rfl (by kernel_rfl) (Muxes_e F170 p13 [(32, (⟨0, 5, a187, ac, [16843009]⟩ : One))] 16843009 [32] (by rw [mux1]; rfl) cB aR) ?_
   rintro _ df ⟨v_, rfl, aS, al⟩
   have bP := bO.callN aS (own_ge al) (own_lt al)
   obtain ⟨cC, cD, rfl, cE⟩ := own_form al
   have bQ := own_base (b' := 0) al (fun _ _ => Nat.zero_le _)
   refine ⟨_, rfl, ?_⟩
   have bR := lsAt_fr aR aS (by simp)
   refine WL.newM bP (fun b => .slice (some ⟨b, 0, none⟩) 1 1) (.cells #[.int .i64 32] 3) 68 (fun _ => by kernel_rfl) (fun cF cG cS aT aU => ?_)
   have bS := lsAt_fr bR aT (by simp)
   have aE := own_fr bQ aT (by simp)
   refine WLc rfl rfl rfl rfl rfl (by kernel_rfl) (Ints_n cC (some ⟨cF, 0, none⟩) ([32].length) cD 1 1 [32] [32] cG (own_rd aE (Go.Tw.encI_len _) (by decide)) (own_count (Go.Tw.encI_len _) (by decide) aE) (Rd.blk (aU.get 3 rfl) (Go.Tw.encI_len _) rfl) rfl (own_max aE) (by first | omega | (simp; done))) ?_
   rintro _ cH ⟨rfl, aV⟩
   refine ⟨_, rfl, ?_⟩
   have bT := aU.call aV
   have bU := lsAt_fr bS aV (by simp)
   refine WLq 2 [(71, .bool (decide ([32] = [32]))), (70, .bool (decide ([32] = [32])))] ?_
   refine WL.know 71 (.bool (decide ([32] = [32]))) (.bool true) rfl (congrArg Value.bool (by simp)) ?_
   refine WLq 1 [(72, .pointer (some ⟨p13, 0, none⟩))] ?_
   refine WLc rfl rfl rfl rfl rfl (by kernel_rfl) (Tick_d F170 p13 [(32, (⟨0, 5, a187, ac, [16843009]⟩ : One))] 17 cH bU) ?_
   rintro _ cI ⟨v_, rfl, bV, ag, ad, bW⟩
   rw [show (tickR [(32, (⟨0, 5, a187, ac, [16843009]⟩ : One))] 17) = [(32, (⟨0, 5, a187, ac, [16843009]⟩ : One))] from by rw [tickR1 _ _ _ rfl]; rfl] at ag
   rw [show (goneR [(32, (⟨0, 5, a187, ac, [16843009]⟩ : One))] 17) = ([] : List Int) from by rw [goneR1 _ _ _ rfl]; rfl] at ad
   have bX := bT.callFN 0 rfl bV (fun _ h_ => .inl h_) (lsAt_lt ag) (own_ge ad) (own_lt ad) bW
   obtain ⟨dg, dh, rfl, cJ⟩ := own_form ad
   have cT := own_base (b' := 0) ad (fun _ _ => Nat.zero_le _)
   refine ⟨_, rfl, ?_⟩
   refine WLq 4 [(77, .bool ((([] : List Int).length : Int) == 0)), (76, .bool ((([] : List Int).length : Int) == 0)), (75, .bool ((([] : List Int).length : Int) == 0)), (74, .int .i64 (([] : List Int).length : Int))] ?_
   refine WL.know 77 (.bool ((([] : List Int).length : Int) == 0)) (.bool true) rfl (congrArg Value.bool (by rfl)) ?_
   refine WLq 1 [(78, .pointer (some ⟨p13, 0, none⟩))] ?_
   refine WLc rfl rfl rfl rfl rfl (by kernel_rfl) (Tick_d F170 p13 [(32, (⟨0, 5, a187, ac, [16843009]⟩ : One))] 18 cI ag) ?_
   rintro _ di ⟨v_, rfl, bY, ah, ae, bZ⟩
   rw [show (tickR [(32, (⟨0, 5, a187, ac, [16843009]⟩ : One))] 18) = ([] : Lm) from by rw [tickR1 _ _ _ rfl]; rfl] at ah
   rw [show (goneR [(32, (⟨0, 5, a187, ac, [16843009]⟩ : One))] 18) = [32] from by rw [goneR1 _ _ _ rfl]; rfl] at ae
   have b0 := bX.callFN 0 rfl bY (fun _ h_ => .inl h_) (lsAt_lt ah) (own_ge ae) (own_lt ae) bZ
   obtain ⟨cK, cL, rfl, cM⟩ := own_form ae
   have b1 := own_base (b' := 0) ae (fun _ _ => Nat.zero_le _)
   refine ⟨_, rfl, ?_⟩
   refine WL.newM b0 (fun b => .slice (some ⟨b, 0, none⟩) 1 1) (.cells #[.int .i64 32] 3) 80 (fun _ => by kernel_rfl) (fun cN cO cU aW aX => ?_)
   have b2 := lsAt_fr ah aW (by simp)
   have aF := own_fr b1 aW (by simp)
   refine WLc rfl rfl rfl rfl rfl (by kernel_rfl) (Ints_n cK (some ⟨cN, 0, none⟩) ([32].length) cL 1 1 [32] [32] cO (own_rd aF (Go.Tw.encI_len _) (by decide)) (own_count (Go.Tw.encI_len _) (by decide) aF) (Rd.blk (aX.get 4 rfl) (Go.Tw.encI_len _) rfl) rfl (own_max aF) (by first | omega | (simp; done))) ?_
   rintro _ dj ⟨rfl, aY⟩
   refine ⟨_, rfl, ?_⟩
   have b3 := aX.call aY
   have cV := lsAt_fr b2 aY (by simp)
   refine WLq 2 [(0, .bool (decide ([32] = [32]))), (82, .bool (decide ([32] = [32])))] (WLd rfl (QXn (bN _ _ ?_)))
   refine WC.ret ?_
   refine (hret _ _ _ rfl ?_).1
   exact ⟨rfl, b3.fr⟩
  ·
   obtain ⟨_, h_⟩ := recv_rts okIn_a2 rfl rfl aD
   cases h_

end Go.Proofs.Ytmahghppojbeoaa
