/- Contracts of functions of the program, each proved by a walk through its code; conditions stand in the statements. -/
import Derived.Test.YtlpmmepbfafpfaaRdH15
namespace Go.Proofs.Ytlpmmepbfafpfaa
set_option linter.unusedSimpArgs false
set_option linter.unusedVariables false
set_option linter.unusedSectionVars false
open Go Go.RowKit Go.Tw
set_option linter.unusedVariables false
set_option maxRecDepth 20000
theorem RoundFull_ct (k seq : Int) (w : World) : Calls Try.prog 4 #[.int .i64 k, .int .i64 seq] w fun e w' => e = .returned (.bool true) ∧ Fr w w' [] := by
  refine enterD (n := 128) Try.func4 rfl rfl (Nat.le_of_ble_eq_true rfl) ?_
  intro Q0 hN hret hret'
  have hC := Cx.start w
  refine WC.seq (fun K1 hK2 => ?_)
  refine WC.region ?_
  refine WL.runs 1 [(4, .bool false)] (fun _ => by kernel_rfl) ?_
  refine WL.done rfl ?_
  refine QX.then_normal (hK2 _ _ ?_)
  refine WC.seq (fun K3 hK4 => ?_)
  refine WC.seq (fun K5 hK6 => ?_)
  refine WC.region ?_
  refine WL.call rfl rfl rfl rfl rfl (by kernel_rfl) (alive_ct w) ?_
  rintro _ w8 ⟨rfl, hF7⟩
  refine ⟨_, rfl, ?_⟩
  have hC9 := hC.call hF7
  refine WL.runs 1 [(18, .bool false)] (fun _ => by kernel_rfl) ?_
  refine WL.done rfl ?_
  refine QX.then_normal (hK6 _ _ ?_)
  refine WC.cond_false rfl ?_
  refine WC.skip ?_
  refine QX.then_normal (hK4 _ _ ?_)
  refine WC.seq (fun K10 hK11 => ?_)
  refine WC.region ?_
  refine WL.newM hC9 (fun b => .slice (some ⟨b, 0, none⟩) 0 0) (.cells #[] 44) 19 (fun _ => by kernel_rfl) (fun g12 w13 hb16 hF14 hC15 => ?_)
  refine WL.runs 1 [(5, .slice (some ⟨g12, 0, none⟩) 0 0)] (fun _ => by kernel_rfl) ?_
  refine WL.done rfl ?_
  refine QX.then_normal (hK11 _ _ ?_)
  refine WC.seq (fun K17 hK18 => ?_)
  refine WC.seq (fun K19 hK20 => ?_)
  refine WC.region ?_
  refine WL.runs 1 [(6, .int .i64 0)] (fun _ => by kernel_rfl) ?_
  refine WL.done rfl ?_
  refine QX.then_normal (hK20 _ _ ?_)
  refine WC.block ?_
  have ho22 : World.ownsRow w13 0 44 12 (.slice (some ⟨g12, 0, none⟩) 0 0) 0 [] := own_of_blk (Nat.zero_le _) (hC15.get 0 rfl) (Nat.le_refl _) (Nat.zero_le _) (by simp) rfl
  have hC21 := hC15.toF 0 rfl
  refine WC.loop (fun m_ E_ w_ => ∃ (i : Nat) (A5 : Option Addr) (n5 c5 : Nat) (L5 : List Cm), m_ = 256 - i ∧ E_ = [(0, .int .i64 k), (1, .int .i64 seq), (4, .bool false), (5, .slice A5 n5 c5), (6, .int .i64 (i : Int))] ∧ Cx w [] w_ [] [blk (.slice A5 n5 c5)] ∧ World.ownsRow w_ 0 44 12 (.slice A5 n5 c5) n5 (L5.flatMap cellsC) ∧ (i ≤ 256 ∧ L5 = logK i)) ⟨_, _, ⟨0, some ⟨g12, 0, none⟩, 0, 0, [], rfl, rfl, hC21, ho22, by omega, rfl⟩, sub_of ⟨rfl, rfl, rfl, rfl, rfl, trivial⟩⟩ (fun m26 E_ w27 K23 hK24 hI25 => ?_)
  obtain ⟨i, A5, n5, c5, L5, rfl, rfl, hC28, hlog5, hi, hL5⟩ := hI25
  have hcn_ := own_count cellsC_len (by decide) hlog5
  have hl5_ : L5.length = i := by rw [hL5, logK_len]
  refine WC.seq (fun K29 hK30 => ?_)
  refine WC.seq (fun K31 hK32 => ?_)
  refine WC.region ?_
  refine WL.runs 2 [(21, .bool (decide ((i : Int) < 256))), (20, .int .i64 (i : Int))] (fun _ => by kernel_rfl) ?_
  refine WL.done rfl ?_
  refine QX.then_normal (hK32 _ _ ?_)
  refine WC.test_at 21 (decide ((i : Int) < 256)) rfl (fun t33b => ?_) (fun t33b => ?_)
  · -- (i : Int) < 256: true
    have t33 : (i : Int) < 256 := by have q_ := of_decide_eq_true t33b; omega
    refine WC.cond_true rfl ?_
    refine WC.skip ?_
    refine QX.then_normal (hK30 _ _ ?_)
    refine WC.seq (fun K34 hK35 => ?_)
    refine WC.block ?_
    refine WC.region ?_
    refine WL.runs 3 [(26, .int .i64 (Int.tmod (i : Int) 8)), (25, .int .i64 (i : Int)), (24, .slice A5 n5 c5)] (fun _ => by kernel_rfl) ?_
    refine WL.recast (show (.int .i64 (Int.tmod (i : Int) 8) : Value) = .int .i64 ((i : Int) % 8) from congrArg (Value.int .i64) (Int.tmod_eq_emod_of_nonneg (by omega))) ?_
    refine WL.runs 1 [(27, .int .i64 (IntKind.i64.wrap (16 + ((i : Int) % 8))))] (fun _ => by kernel_rfl) ?_
    refine WL.recast (show (.int .i64 (IntKind.i64.wrap (16 + ((i : Int) % 8))) : Value) = .int .i64 (16 + ((i : Int) % 8)) from by rw [wrap_in_i64 (16 + ((i : Int) % 8)) (by omega) (by omega)]) ?_
    refine WL.runs 1 [(28, .int .i64 (i : Int))] (fun _ => by kernel_rfl) ?_
    refine WL.call rfl rfl rfl rfl rfl (by kernel_rfl) (health_ct (16 + ((i : Int) % 8)) (i : Int) w27) ?_
    rintro _ w37 ⟨rfl, hF36⟩
    refine ⟨_, rfl, ?_⟩
    have hC38 := hC28.call hF36
    have ho39 := own_fr hlog5 hF36 (by simp)
    refine WL.newM hC38 (fun b => .slice (some ⟨b, 0, none⟩) 1 1) (.cells #[.int .i64 (16 + ((i : Int) % 8)), .int .i64 0, .int .i64 (i : Int), .int .i64 0, .int .i64 3, .int .u32 0, .int .i64 0, .int .i64 0, .slice none 0 0, .int .u32 167837697, .int .u32 0, .bool true] 44) 30 (fun _ => by kernel_rfl) (fun g40 w41 hb44 hF42 hC43 => ?_)
    have ho45 := own_fr ho39 hF42 (by simp)
    obtain ⟨v46, w47, hr48, ho49, hF50, hC51, hnil52, hsub53⟩ := app_run Try.prog hC43 0 (v := .slice A5 n5 c5) rfl 35 35 44 12 104 n5 1 1 (some ⟨g40, 0, none⟩) rfl ho45 [.int .i64 (16 + ((i : Int) % 8)), .int .i64 0, .int .i64 (i : Int), .int .i64 0, .int .i64 3, .int .u32 0, .int .i64 0, .int .i64 0, .slice none 0 0, .int .u32 167837697, .int .u32 0, .bool true] rfl (srcOk.blk 1 (hC43.get 0 rfl)) rfl (by simp only [maxLen]; omega) (by omega)
    have ho57 := own_snoc (enc := cellsC) (ys := L5) (⟨16 + ((i : Int) % 8), 0, (i : Int), 0, 3, 167837697, 0, true⟩ : Cm) ho49
    obtain ⟨A54, c55, rfl, hle56⟩ := own_form ho57
    refine WL.sem (Builtin.append_ #[35, 35] 35 #[.slice A5 n5 c5, .slice (some ⟨g40, 0, none⟩) 1 1]) 31 (.slice A54 (n5 + 1) c55) (by kernel_rfl) hr48 ?_
    refine WL.runs 1 [(5, .slice A54 (n5 + 1) c55)] (fun _ => by kernel_rfl) ?_
    refine WL.done rfl ?_
    refine QX.block_normal ?_
    refine QX.then_normal (hK35 _ _ ?_)
    refine WC.region ?_
    refine WL.runs 2 [(23, .int .i64 (IntKind.i64.wrap ((i : Int) + 1))), (22, .int .i64 (i : Int))] (fun _ => by kernel_rfl) ?_
    refine WL.recast (show (.int .i64 (IntKind.i64.wrap ((i : Int) + 1)) : Value) = .int .i64 ((i : Int) + 1) from by rw [wrap_in_i64 ((i : Int) + 1) (by omega) (by omega)]) ?_
    refine WL.runs 1 [(6, .int .i64 ((i : Int) + 1))] (fun _ => by kernel_rfl) ?_
    refine WL.done rfl ?_
    refine QX.then_normal ?_
    have hC58 := hC51.pick [] [0] rfl rfl
    refine fun a_ ha_ => hK24 _ _ _ ?_ ⟨i + 1, A54, n5 + 1, c55, L5 ++ [(⟨16 + ((i : Int) % 8), 0, (i : Int), 0, 3, 167837697, 0, true⟩ : Cm)], rfl, rfl, hC58, ho57, by omega, by rw [logK_succ, hL5]; rfl⟩ a_ (ha_.weaken (sub_of ⟨rfl, rfl, rfl, rfl, rfl, trivial⟩))
    omega
  · -- (i : Int) < 256: false
    have t33 : (256 : Int) ≤ (i : Int) := by have q_ := of_decide_eq_false t33b; omega
    refine WC.cond_false rfl ?_
    have hie_ : i = 256 := by omega
    have hok5 : okL L5 := by rw [hL5, hie_]; exact logK_ok (by omega)
    have hbt5 : ∀ d ∈ L5, d.boot = 0 := by rw [hL5]; exact logK_boot
    have hll5 : L5.length = 256 := by rw [hl5_, hie_]
    clear hL5
    refine WC.exit ?_
    refine QX.then_exit ?_
    refine QX.then_exit ?_
    refine QX.block_hit ?_
    refine QX.then_normal (hK18 _ _ ?_)
    refine WC.seq (fun K59 hK60 => ?_)
    refine WC.region ?_
    obtain ⟨kk, hkk_, lkk_⟩ := umod_nat k 256 (by decide) (by decide)
    refine WL.runs 4 [(35, .int .i64 (IntKind.i64.wrap (Int.tmod (IntKind.u64.wrap (k)) 256))), (34, .int .u64 (Int.tmod (IntKind.u64.wrap (k)) 256)), (33, .int .u64 (IntKind.u64.wrap (k))), (32, .int .i64 k)] (fun _ => by kernel_rfl) ?_
    refine WL.recast (show (.int .i64 (IntKind.i64.wrap (Int.tmod (IntKind.u64.wrap (k)) 256)) : Value) = .int .i64 (kk : Int) from congrArg (Value.int .i64) hkk_) ?_
    refine WL.runs 1 [(0, .int .i64 (kk : Int))] (fun _ => by kernel_rfl) ?_
    refine WL.done rfl ?_
    refine QX.then_normal (hK60 _ _ ?_)
    refine WC.seq (fun K61 hK62 => ?_)
    refine WC.region ?_
    refine WL.runs 1 [(36, .agg #[.int .i64 3, .int .i64 16])] (fun _ => by kernel_rfl) ?_
    refine WL.newM hC28 (fun b => .pointer (some ⟨b, 0, none⟩)) (.cells #[.int .i64 0, .int .i64 0] 31) 7 (fun _ => by kernel_rfl) (fun g63 w64 hb67 hF65 hC66 => ?_)
    have ho68 := own_fr hlog5 hF65 (by simp)
    refine WL.storeM (c' := #[.int .i64 3, .int .i64 16]) hC66 0 31 g63 0 (.agg #[.int .i64 3, .int .i64 16]) (by kernel_rfl) rfl (by kernel_rfl) (fun w69 hF71 hC72 => ?_)
    have ho73 := own_fr ho68 hF71 (hC66.apartM 0 0 rfl rfl)
    refine WL.done rfl ?_
    refine QX.then_normal (hK62 _ _ ?_)
    refine WC.seq (fun K74 hK75 => ?_)
    refine WC.seq (fun K76 hK77 => ?_)
    refine WC.region ?_
    refine WL.runs 3 [(39, .bool (decide (seq < 0))), (38, .bool (decide (seq < 0))), (37, .int .i64 seq)] (fun _ => by kernel_rfl) ?_
    refine WL.test_at 39 (decide (seq < 0)) rfl (fun t78b => ?_) (fun t78b => ?_)
    · -- seq < 0: true
      have t78 : seq < 0 := by have q_ := of_decide_eq_true t78b; omega
      refine WL.runs 3 [(42, .bool true), (41, undef), (40, undef)] (fun _ => by kernel_rfl) ?_
      refine WL.done rfl ?_
      refine QX.then_normal (hK77 _ _ ?_)
      refine WC.cond_true rfl ?_
      refine WC.seq (fun K79 hK80 => ?_)
      refine WC.region ?_
      refine WL.runs 1 [(4, .bool true)] (fun _ => by kernel_rfl) ?_
      refine WL.done rfl ?_
      refine QX.then_normal (hK80 _ _ ?_)
      refine WC.ret ?_
      refine QX.then_ret ?_
      refine (hret _ _ _ rfl ?_).1
      clear hN hret hret' hK80 hK77 hK75 hK62 hK60 hK32 hK30 hK20 hK18 hK11 hK6 hK4 hK2
      exact ⟨congrArg Ending.returned (congrArg Value.bool (by simp [*])), hC72.fr⟩
    · -- seq < 0: false
      have t78 : (0 : Int) ≤ seq := by have q_ := of_decide_eq_false t78b; omega
      refine WL.runs 3 [(42, .bool (decide (seq > 1099511627776))), (41, .bool (decide (seq > 1099511627776))), (40, .int .i64 seq)] (fun _ => by kernel_rfl) ?_
      refine WL.done rfl ?_
      refine QX.then_normal (hK77 _ _ ?_)
      refine WC.test_at 42 (decide (seq > 1099511627776)) rfl (fun t81b => ?_) (fun t81b => ?_)
      · -- seq > 1099511627776: true
        have t81 : (1099511627776 : Int) < seq := by have q_ := of_decide_eq_true t81b; omega
        refine WC.cond_true rfl ?_
        refine WC.seq (fun K82 hK83 => ?_)
        refine WC.region ?_
        refine WL.runs 1 [(4, .bool true)] (fun _ => by kernel_rfl) ?_
        refine WL.done rfl ?_
        refine QX.then_normal (hK83 _ _ ?_)
        refine WC.ret ?_
        refine QX.then_ret ?_
        refine (hret _ _ _ rfl ?_).1
        clear hN hret hret' hK83 hK77 hK75 hK62 hK60 hK32 hK30 hK20 hK18 hK11 hK6 hK4 hK2
        exact ⟨congrArg Ending.returned (congrArg Value.bool (by simp [*])), hC72.fr⟩
      · -- seq > 1099511627776: false
        have t81 : seq ≤ 1099511627776 := by have q_ := of_decide_eq_false t81b; omega
        refine WC.cond_false rfl ?_
        refine WC.skip ?_
        refine QX.then_normal (hK75 _ _ ?_)
        refine WC.seq (fun K84 hK85 => ?_)
        refine WC.region ?_
        refine WL.load 31 (.pointer (some ⟨g63, 0, none⟩)) (.agg #[.int .i64 3, .int .i64 16]) 44 (by kernel_rfl) (run_ld (hC72.get 0 rfl) rfl) ?_
        refine WL.runs 2 [(46, .agg #[.int .i64 17, .int .i64 1, .int .i64 seq, .int .i64 0, .int .i64 4, .int .u32 0, .int .i64 0, .int .i64 0, .slice none 0 0, .int .u32 167837696, .int .u32 0, .bool false]), (45, .int .i64 seq)] (fun _ => by kernel_rfl) ?_
        refine WL.newM hC72 (fun b => .slice (some ⟨b, 0, none⟩) 1 1) (.cells #[.int .i64 17, .int .i64 1, .int .i64 seq, .int .i64 0, .int .i64 4, .int .u32 0, .int .i64 0, .int .i64 0, .slice none 0 0, .int .u32 167837696, .int .u32 0, .bool false] 44) 47 (fun _ => by kernel_rfl) (fun g86 w87 hb90 hF88 hC89 => ?_)
        have ho91 := own_fr ho73 hF88 (by simp)
        refine WL.call rfl rfl rfl rfl rfl (by kernel_rfl) (New_n 1 (3, 16) (some ⟨g86, 0, none⟩) 1 1 [(⟨17, 1, seq, 0, 4, 167837696, 0, false⟩ : Cm)] w87 (by omega) (by omega) (Rd.blk (hC89.get 1 rfl) cellsC_len rfl) (okL_one ⟨⟨show (16 : Int) ≤ 17 by decide, show (17 : Int) ≤ 23 by decide⟩, ⟨show (0 : Int) ≤ 1 by decide, show (1 : Int) ≤ 1099511627776 by decide⟩, ⟨by dsimp only; omega, by dsimp only; omega⟩, ⟨show (0 : Int) ≤ 0 by decide, show (0 : Int) ≤ 1099511627776 by decide⟩, (by decide +kernel : isHome 167837696 = true), ⟨show (0 : Int) ≤ 167837696 by decide, show (167837696 : Int) ≤ 4294967295 by decide⟩, rfl, .inr ⟨rfl, rfl⟩⟩) (by simp) rfl) ?_
        rintro _ w100 ⟨p92, F93, rfl, hF99, hT97, hge98⟩
        have hC101 := hC89.callN hF99 hge98 (rdAt_lt hT97)
        refine ⟨_, rfl, ?_⟩
        have ho102 := own_fr ho91 hF99 (by simp)
        refine WL.runs 5 [(9, .nilIface), (8, .pointer (some ⟨p92, 0, none⟩)), (50, .nilIface), (49, .pointer (some ⟨p92, 0, none⟩)), (43, .tuple #[.pointer (some ⟨p92, 0, none⟩), .nilIface])] (fun _ => by kernel_rfl) ?_
        refine WL.done rfl ?_
        refine QX.then_normal (hK85 _ _ ?_)
        refine WC.seq (fun K104 hK105 => ?_)
        refine WC.drawC hC101 [] (by kernel_rfl) (fun w106 hF107 hC108 hS109 => ?_)
        have ho110 := own_fr ho102 hF107 (by simp)
        have hf111 := rdAt_fr hT97 hF107 (by simp)
        refine WD.pure (NoPanic.then hN) 1 53 (.slice A5 n5 c5) (by kernel_rfl) (fun _ => by kernel_rfl) hS109 ?_
        refine WD.pure (NoPanic.then hN) 2 54 (.int .i64 (kk : Int)) (by kernel_rfl) (fun _ => by kernel_rfl) hS109 ?_
        have hn116 := own_count cellsC_len (by decide) ho110
        obtain ⟨e112, he113⟩ := get_some (xs := L5) (i := kk) (by omega)
        obtain ⟨b114, hA115⟩ := own_addr (by decide) cellsC_len ho110 he113
        refine WD.index (NoPanic.then hN) 3 A5 n5 c5 55 .i64 (kk : Int) b114 0 kk 12 (by kernel_rfl) (by kernel_rfl) hA115 (by omega) (by omega) (kk * 12) (by first | (simp; done) | omega) hS109 ?_
        refine WD.load (NoPanic.then hN) 0 31 (.pointer (some ⟨g63, 0, none⟩)) (.agg #[.int .i64 3, .int .i64 16]) 52 (by kernel_rfl) (by kernel_rfl) (fun _ hS_ => run_ld (Fr.has hS_ (hC108.get 0 rfl) (by simp)) rfl) hS109 ?_
        refine WD.load (NoPanic.then hN) 4 44 (.pointer (some ⟨b114, kk * 12, none⟩)) (.agg #[.int .i64 e112.node, .int .i64 e112.boot, .int .i64 e112.seq, .int .i64 e112.time, .int .i64 e112.kind, .int .u32 0, .int .i64 0, .int .i64 0, .slice none 0 0, .int .u32 e112.dip, .int .u32 e112.vip, .bool e112.up]) 56 (by kernel_rfl) (by kernel_rfl) (fun _ hS_ => run_rdN (l := [.int .i64 e112.node, .int .i64 e112.boot, .int .i64 e112.seq, .int .i64 e112.time, .int .i64 e112.kind, .int .u32 0, .int .i64 0, .int .i64 0, .slice none 0 0, .int .u32 e112.dip, .int .u32 e112.vip, .bool e112.up]) rfl rfl (fun j u hu => by have hq_ := Rd.cell (own_rd (own_fr ho110 hS_ (by simp)) cellsC_len (by decide)) hA115 he113 j u hu; simpa [Nat.add_assoc] using hq_)) hS109 ?_
        refine WD.new 5 (fun b => .slice (some ⟨b, 0, none⟩) 1 1) (.cells #[.int .i64 e112.node, .int .i64 e112.boot, .int .i64 e112.seq, .int .i64 e112.time, .int .i64 e112.kind, .int .u32 0, .int .i64 0, .int .i64 0, .slice none 0 0, .int .u32 e112.dip, .int .u32 e112.vip, .bool e112.up] 44) (by kernel_rfl) rfl rfl rfl rfl rfl (fun _ => by kernel_rfl) (fun g117 w118 hb121 hl122 hF119 ho123 => ?_)
        have hC120 := hC108.callB hF119 hb121 ho123
        have hS124 := hS109.trans hF119 (by simp)
        refine ⟨hS124, ?_⟩
        have ho125 := own_fr ho110 hF119 (by simp)
        have hf126 := rdAt_fr hf111 hF119 (by simp)
        refine WD.call 6 (by kernel_rfl) rfl rfl rfl rfl rfl (by kernel_rfl) (New_n 1 (3, 16) (some ⟨g117, 0, none⟩) 1 1 [e112] w118 (by omega) (by omega) (Rd.blk (hC120.get 2 rfl) cellsC_len rfl) (okL_one (hok5.1 _ (List.mem_of_getElem? he113))) (by simp) rfl) ?_
        rintro _ w135 ⟨p127, F128, rfl, hF134, hT132, hge133⟩
        have hC136 := hC120.callN hF134 hge133 (rdAt_lt hT132)
        have hS137 := hS124.trans hF134 (by simp)
        refine ⟨_, rfl, hS137, ?_⟩
        have ho138 := own_fr ho125 hF134 (by simp)
        have hf139 := rdAt_fr hf126 hF134 (by simp)
        refine WD.pure (NoPanic.then hN) 7 51 (.tuple #[.pointer (some ⟨p127, 0, none⟩), .nilIface]) (by kernel_rfl) (fun _ => by kernel_rfl) hS137 ?_
        refine WD.pure (NoPanic.then hN) 8 59 (.pointer (some ⟨p127, 0, none⟩)) (by kernel_rfl) (fun _ => by kernel_rfl) hS137 ?_
        refine WD.pure (NoPanic.then hN) 9 60 (.nilIface) (by kernel_rfl) (fun _ => by kernel_rfl) hS137 ?_
        refine WD.pure (NoPanic.then hN) 10 10 (.pointer (some ⟨p127, 0, none⟩)) (by kernel_rfl) (fun _ => by kernel_rfl) hS137 ?_
        refine WD.pure (NoPanic.then hN) 11 11 (.nilIface) (by kernel_rfl) (fun _ => by kernel_rfl) hS137 ?_
        refine WD.done (by kernel_rfl) ?_
        refine QX.then_normal (hK105 _ _ ?_)
        refine WC.seq (fun K141 hK142 => ?_)
        refine WC.region ?_
        refine WL.load 31 (.pointer (some ⟨g63, 0, none⟩)) (.agg #[.int .i64 3, .int .i64 16]) 62 (by kernel_rfl) (run_ld (hC136.get 0 rfl) rfl) ?_
        refine WL.call rfl rfl rfl rfl rfl (by kernel_rfl) (New_n 1 (3, 16) none 0 0 [] w135 (by omega) (by omega) (Rd.nil _ _ _ _) okL_nil (by simp) rfl) ?_
        rintro _ w151 ⟨p143, F144, rfl, hF150, hT148, hge149⟩
        have hC152 := hC136.callN hF150 hge149 (rdAt_lt hT148)
        refine ⟨_, rfl, ?_⟩
        have ho153 := own_fr ho138 hF150 (by simp)
        have hf154 := rdAt_fr hf139 hF150 (by simp)
        have hf155 := rdAt_fr hT132 hF150 (by simp)
        refine WL.runs 5 [(13, .nilIface), (12, .pointer (some ⟨p143, 0, none⟩)), (65, .nilIface), (64, .pointer (some ⟨p143, 0, none⟩)), (61, .tuple #[.pointer (some ⟨p143, 0, none⟩), .nilIface])] (fun _ => by kernel_rfl) ?_
        refine WL.done rfl ?_
        refine QX.then_normal (hK142 _ _ ?_)
        refine WC.seq (fun K157 hK158 => ?_)
        refine WC.seq (fun K159 hK160 => ?_)
        refine WC.region ?_
        refine WL.runs 10 [(75, .bool false), (74, .bool false), (73, .nilIface), (72, .bool false), (71, .bool false), (70, .bool false), (69, .nilIface), (68, .bool false), (67, .bool false), (66, .nilIface)] (fun _ => by kernel_rfl) ?_
        refine WL.done rfl ?_
        refine QX.then_normal (hK160 _ _ ?_)
        refine WC.cond_false rfl ?_
        refine WC.skip ?_
        refine QX.then_normal (hK158 _ _ ?_)
        refine WC.seq (fun K161 hK162 => ?_)
        refine WC.region ?_
        refine WL.runs 3 [(78, .slice A5 n5 c5), (77, .agg #[.int .i64 1, .int .i64 16]), (76, .pointer (some ⟨p92, 0, none⟩))] (fun _ => by kernel_rfl) ?_
        refine WL.call rfl rfl rfl rfl rfl (by kernel_rfl) (Promise_to F93 p92 (⟨1, [], 3, 16, [(⟨17, 1, seq, 0, 4, 167837696, 0, false⟩ : Cm)], 1, 0, 0, []⟩ : Rn) 16 1 16 A5 n5 c5 L5 w151 (⟨1, [], 3, 16, [(⟨17, 1, seq, 0, 4, 167837696, 0, false⟩ : Cm)], 4, 1, 16, L5 ++ [(⟨17, 1, seq, 0, 4, 167837696, 0, false⟩ : Cm)]⟩ : Rn) 4 (full_new hll5 (place_off (fun d_ hd_ => by rw [hbt5 d_ hd_]; exact (by decide : (0 : Int) ≠ 1)))) (rfl) hf154 (by first | decide | (simp; done) | (simp; omega) | omega) (by first | decide | (simp; done) | (simp; omega) | omega) (by first | decide | (simp; done) | (simp; omega) | omega) (by first | decide | (simp; done) | (simp; omega) | omega) (by first | decide | (simp; done) | (simp; omega) | omega) (own_rd ho153 cellsC_len (by decide)) hok5 (own_count cellsC_len (by decide) ho153) (fun b_ off_ h_ hx_ => hC152.disj 0 1 rfl rfl (by decide) b_ (blk_in h_) hx_)) ?_
        rintro _ w164 ⟨F167, rfl, hF163, hT166, hsub168⟩
        have hC165 := hC152.callF 1 rfl hF163 hsub168 (rdAt_lt hT166)
        refine ⟨_, rfl, ?_⟩
        have ho169 := own_fr ho153 hF163 (hC152.disj 0 1 rfl rfl (by decide))
        have hf170 := rdAt_fr hf155 hF163 (hC152.disj 2 1 rfl rfl (by decide))
        have hf171 := rdAt_fr hT148 hF163 (hC152.disj 3 1 rfl rfl (by decide))
        refine WL.runs 1 [(14, .int .i64 4)] (fun _ => by kernel_rfl) ?_
        refine WL.done rfl ?_
        refine QX.then_normal (hK162 _ _ ?_)
        refine WC.seq (fun K172 hK173 => ?_)
        refine WC.region ?_
        refine WL.runs 3 [(82, .slice A5 n5 c5), (81, .agg #[.int .i64 1, .int .i64 16]), (80, .pointer (some ⟨p127, 0, none⟩))] (fun _ => by kernel_rfl) ?_
        refine WL.call rfl rfl rfl rfl rfl (by kernel_rfl) (Promise_to F128 p127 (⟨1, [], 3, 16, [e112], 1, 0, 0, []⟩ : Rn) 16 1 16 A5 n5 c5 L5 w164 (⟨1, [], 3, 16, [e112], 2, 1, 16, L5⟩ : Rn) 2 (full_old hll5 (by rw [place_at hok5.2.1 he113]; omega)) (rfl) hf170 (by first | decide | (simp; done) | (simp; omega) | omega) (by first | decide | (simp; done) | (simp; omega) | omega) (by first | decide | (simp; done) | (simp; omega) | omega) (by first | decide | (simp; done) | (simp; omega) | omega) (by first | decide | (simp; done) | (simp; omega) | omega) (own_rd ho169 cellsC_len (by decide)) hok5 (own_count cellsC_len (by decide) ho169) (fun b_ off_ h_ hx_ => hC165.disj 0 2 rfl rfl (by decide) b_ (blk_in h_) hx_)) ?_
        rintro _ w175 ⟨F178, rfl, hF174, hT177, hsub179⟩
        have hC176 := hC165.callF 2 rfl hF174 hsub179 (rdAt_lt hT177)
        refine ⟨_, rfl, ?_⟩
        have ho180 := own_fr ho169 hF174 (hC165.disj 0 2 rfl rfl (by decide))
        have hf181 := rdAt_fr hT166 hF174 (hC165.disj 1 2 rfl rfl (by decide))
        have hf182 := rdAt_fr hf171 hF174 (hC165.disj 3 2 rfl rfl (by decide))
        refine WL.runs 1 [(15, .int .i64 2)] (fun _ => by kernel_rfl) ?_
        refine WL.done rfl ?_
        refine QX.then_normal (hK173 _ _ ?_)
        refine WC.seq (fun K183 hK184 => ?_)
        refine WC.region ?_
        refine WL.runs 3 [(86, .slice A5 n5 c5), (85, .agg #[.int .i64 1, .int .i64 16]), (84, .pointer (some ⟨p143, 0, none⟩))] (fun _ => by kernel_rfl) ?_
        refine WL.call rfl rfl rfl rfl rfl (by kernel_rfl) (Promise_to F144 p143 (⟨1, [], 3, 16, [], 1, 0, 0, []⟩ : Rn) 16 1 16 A5 n5 c5 L5 w175 (⟨1, [], 3, 16, [], 2, 1, 16, L5⟩ : Rn) 2 (full_none hll5) (rfl) hf182 (by first | decide | (simp; done) | (simp; omega) | omega) (by first | decide | (simp; done) | (simp; omega) | omega) (by first | decide | (simp; done) | (simp; omega) | omega) (by first | decide | (simp; done) | (simp; omega) | omega) (by first | decide | (simp; done) | (simp; omega) | omega) (own_rd ho180 cellsC_len (by decide)) hok5 (own_count cellsC_len (by decide) ho180) (fun b_ off_ h_ hx_ => hC176.disj 0 3 rfl rfl (by decide) b_ (blk_in h_) hx_)) ?_
        rintro _ w186 ⟨F189, rfl, hF185, hT188, hsub190⟩
        have hC187 := hC176.callF 3 rfl hF185 hsub190 (rdAt_lt hT188)
        refine ⟨_, rfl, ?_⟩
        have ho191 := own_fr ho180 hF185 (hC176.disj 0 3 rfl rfl (by decide))
        have hf192 := rdAt_fr hf181 hF185 (hC176.disj 1 3 rfl rfl (by decide))
        have hf193 := rdAt_fr hT177 hF185 (hC176.disj 2 3 rfl rfl (by decide))
        refine WL.runs 1 [(16, .int .i64 2)] (fun _ => by kernel_rfl) ?_
        refine WL.done rfl ?_
        refine QX.then_normal (hK184 _ _ ?_)
        refine WC.seq (fun K194 hK195 => ?_)
        refine WC.region ?_
        refine WL.runs 4 [(91, .pointer (some ⟨p92, 0, none⟩)), (90, .bool true), (89, .bool true), (88, .int .i64 4)] (fun _ => by kernel_rfl) ?_
        refine WL.call rfl rfl rfl rfl rfl (by kernel_rfl) (Log_to F167 p92 (⟨1, [], 3, 16, [(⟨17, 1, seq, 0, 4, 167837696, 0, false⟩ : Cm)], 4, 1, 16, L5 ++ [(⟨17, 1, seq, 0, 4, 167837696, 0, false⟩ : Cm)]⟩ : Rn) w186 ([] : List Cm) (logOf_no (show (4 : Int) ≠ 2 by decide) (show (4 : Int) ≠ 3 by decide)) hf192 (by simp only [List.length_append, List.length_cons, List.length_nil]; omega)) ?_
        rintro _ w198 ⟨v_, rfl, hF197, ho196⟩
        have hC199 := hC187.callN hF197 (own_ge ho196) (own_lt ho196)
        obtain ⟨A200, c201, rfl, hle202⟩ := own_form ho196
        have ho204 := own_base (b' := 0) ho196 (fun _ _ => Nat.zero_le _)
        refine ⟨_, rfl, ?_⟩
        have ho205 := own_fr ho191 hF197 (by simp)
        have hf206 := rdAt_fr hf192 hF197 (by simp)
        have hf207 := rdAt_fr hf193 hF197 (by simp)
        have hf208 := rdAt_fr hT188 hF197 (by simp)
        refine WL.runs 4 [(96, .bool ((([] : List Cm).length : Int) == 0)), (95, .bool ((([] : List Cm).length : Int) == 0)), (94, .bool ((([] : List Cm).length : Int) == 0)), (93, .int .i64 (([] : List Cm).length : Int))] (fun _ => by kernel_rfl) ?_
        refine WL.know 96 (.bool ((([] : List Cm).length : Int) == 0)) (.bool true) rfl (congrArg Value.bool (by simp)) ?_
        refine WL.runs 5 [(101, .pointer (some ⟨p127, 0, none⟩)), (100, .bool true), (99, .bool true), (98, .bool true), (97, .int .i64 2)] (fun _ => by kernel_rfl) ?_
        refine WL.call rfl rfl rfl rfl rfl (by kernel_rfl) (Place_to F178 p127 (⟨1, [], 3, 16, [e112], 2, 1, 16, L5⟩ : Rn) w198 ((kk : Int) + 1) (full_place hok5 he113) hf207 (by simp only [List.length_append, List.length_cons, List.length_nil]; omega)) ?_
        rintro _ w211 ⟨rfl, hF210⟩
        refine ⟨_, rfl, ?_⟩
        have hC212 := hC199.call hF210
        have ho213 := own_fr ho205 hF210 (by simp)
        have hf214 := rdAt_fr hf206 hF210 (by simp)
        have hf215 := rdAt_fr hf207 hF210 (by simp)
        have hf216 := rdAt_fr hf208 hF210 (by simp)
        have ho217 := own_fr ho204 hF210 (by simp)
        refine WL.runs 2 [(104, .int .i64 (IntKind.i64.wrap ((kk : Int) + 1))), (103, .int .i64 (kk : Int))] (fun _ => by kernel_rfl) ?_
        refine WL.recast (show (.int .i64 (IntKind.i64.wrap ((kk : Int) + 1)) : Value) = .int .i64 ((kk : Int) + 1) from by rw [wrap_in_i64 ((kk : Int) + 1) (by omega) (by omega)]) ?_
        refine WL.runs 3 [(107, .bool (((kk : Int) + 1) == ((kk : Int) + 1))), (106, .bool (((kk : Int) + 1) == ((kk : Int) + 1))), (105, .bool (((kk : Int) + 1) == ((kk : Int) + 1)))] (fun _ => by kernel_rfl) ?_
        refine WL.know 107 (.bool (((kk : Int) + 1) == ((kk : Int) + 1))) (.bool true) rfl (congrArg Value.bool (by simp)) ?_
        refine WL.runs 5 [(112, .pointer (some ⟨p143, 0, none⟩)), (111, .bool true), (110, .bool true), (109, .bool true), (108, .int .i64 2)] (fun _ => by kernel_rfl) ?_
        refine WL.call rfl rfl rfl rfl rfl (by kernel_rfl) (Log_to F189 p143 (⟨1, [], 3, 16, [], 2, 1, 16, L5⟩ : Rn) w211 L5 (logOf_yes (.inl rfl)) hf216 (by simp only [List.length_append, List.length_cons, List.length_nil]; omega)) ?_
        rintro _ w220 ⟨v_, rfl, hF219, ho218⟩
        have hC221 := hC212.callN hF219 (own_ge ho218) (own_lt ho218)
        obtain ⟨A222, c223, rfl, hle224⟩ := own_form ho218
        have ho226 := own_base (b' := 0) ho218 (fun _ _ => Nat.zero_le _)
        refine ⟨_, rfl, ?_⟩
        have ho227 := own_fr ho213 hF219 (by simp)
        have hf228 := rdAt_fr hf214 hF219 (by simp)
        have hf229 := rdAt_fr hf215 hF219 (by simp)
        have hf230 := rdAt_fr hf216 hF219 (by simp)
        have ho231 := own_fr ho217 hF219 (by simp)
        refine WL.runs 4 [(117, .bool ((L5.length : Int) == 256)), (116, .bool ((L5.length : Int) == 256)), (115, .bool ((L5.length : Int) == 256)), (114, .int .i64 (L5.length : Int))] (fun _ => by kernel_rfl) ?_
        refine WL.know 117 (.bool ((L5.length : Int) == 256)) (.bool true) rfl (congrArg Value.bool (by simp; omega)) ?_
        refine WL.runs 1 [(118, .pointer (some ⟨p92, 0, none⟩))] (fun _ => by kernel_rfl) ?_
        refine WL.call rfl rfl rfl rfl rfl (by kernel_rfl) (Accepted_to F167 p92 (⟨1, [], 3, 16, [(⟨17, 1, seq, 0, 4, 167837696, 0, false⟩ : Cm)], 4, 1, 16, L5 ++ [(⟨17, 1, seq, 0, 4, 167837696, 0, false⟩ : Cm)]⟩ : Rn) 16 w220 (⟨1, [], 3, 16, [(⟨17, 1, seq, 0, 4, 167837696, 0, false⟩ : Cm)], 4, 1, 16, L5 ++ [(⟨17, 1, seq, 0, 4, 167837696, 0, false⟩ : Cm)]⟩ : Rn) 4 (full_still _ _) (rfl) hf228 (by first | decide | (simp; done) | (simp; omega) | omega) (by first | decide | (simp; done) | (simp; omega) | omega) (by first | decide | (simp; done) | (simp; omega) | omega) (by first | decide | (simp; done) | (simp; omega) | omega) (by first | decide | (simp; done) | (simp; omega) | omega)) ?_
        rintro _ w234 ⟨F237, rfl, hF233, hT236, hsub238⟩
        have hC235 := hC221.callF 1 rfl hF233 hsub238 (rdAt_lt hT236)
        refine ⟨_, rfl, ?_⟩
        have ho239 := own_fr ho227 hF233 (hC221.disj 0 1 rfl rfl (by decide))
        have hf240 := rdAt_fr hf229 hF233 (hC221.disj 2 1 rfl rfl (by decide))
        have hf241 := rdAt_fr hf230 hF233 (hC221.disj 3 1 rfl rfl (by decide))
        have ho242 := own_fr ho231 hF233 (hC221.disj 4 1 rfl rfl (by decide))
        have ho243 := own_fr ho226 hF233 (hC221.disj 5 1 rfl rfl (by decide))
        refine WL.runs 4 [(123, .pointer (some ⟨p92, 0, none⟩)), (122, .bool true), (121, .bool true), (120, .bool true)] (fun _ => by kernel_rfl) ?_
        refine WL.call rfl rfl rfl rfl rfl (by kernel_rfl) (Missing_to F237 p92 (⟨1, [], 3, 16, [(⟨17, 1, seq, 0, 4, 167837696, 0, false⟩ : Cm)], 4, 1, 16, L5 ++ [(⟨17, 1, seq, 0, 4, 167837696, 0, false⟩ : Cm)]⟩ : Rn) w234 ([] : List Int) (misOf_no (show (4 : Int) ≠ 1 by decide) (show (4 : Int) ≠ 2 by decide)) hT236 rfl (by first | decide | (simp; done) | (simp; omega) | omega) (by first | decide | (simp; done) | (simp; omega) | omega)) ?_
        rintro _ w246 ⟨v_, rfl, hF245, ho244⟩
        have hC247 := hC235.callN hF245 (own_ge ho244) (own_lt ho244)
        obtain ⟨A248, c249, rfl, hle250⟩ := own_form ho244
        have ho252 := own_base (b' := 0) ho244 (fun _ _ => Nat.zero_le _)
        refine ⟨_, rfl, ?_⟩
        have ho253 := own_fr ho239 hF245 (by simp)
        have hf254 := rdAt_fr hT236 hF245 (by simp)
        have hf255 := rdAt_fr hf240 hF245 (by simp)
        have hf256 := rdAt_fr hf241 hF245 (by simp)
        have ho257 := own_fr ho242 hF245 (by simp)
        have ho258 := own_fr ho243 hF245 (by simp)
        refine WL.runs 4 [(4, .bool ((([] : List Int).length : Int) == 0)), (127, .bool ((([] : List Int).length : Int) == 0)), (126, .bool ((([] : List Int).length : Int) == 0)), (125, .int .i64 (([] : List Int).length : Int))] (fun _ => by kernel_rfl) ?_
        refine WL.done rfl ?_
        refine QX.then_normal (hK195 _ _ ?_)
        refine WC.ret ?_
        refine (hret _ _ _ rfl ?_).1
        clear hN hret hret' hK195 hK184 hK173 hK162 hK160 hK158 hK142 hK105 hK85 hK77 hK75 hK62 hK60 hK32 hK30 hK20 hK18 hK11 hK6 hK4 hK2
        exact ⟨congrArg Ending.returned (congrArg Value.bool (by simp [*])), hC247.fr⟩

end Go.Proofs.Ytlpmmepbfafpfaa
