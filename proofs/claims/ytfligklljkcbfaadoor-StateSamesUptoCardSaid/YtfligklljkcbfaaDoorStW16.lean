/- Contracts of functions of the program, each proved by a walk through its code; conditions stand in the statements. -/
import Derived.Test.YtfligklljkcbfaaDoorStV16
namespace Go.Proofs.YtfligklljkcbfaaDoor
set_option linter.unusedSimpArgs false
set_option linter.unusedVariables false
set_option linter.unusedSectionVars false
open Go Go.RowKit Go.Tw
set_option linter.unusedVariables false
set_option maxRecDepth 20000
theorem svcsIn.snoc {w : World} {R : List Nat} {xs : List Svc} {x : Svc} (h : svcsIn w R xs) (hx : svcAt w x) : svcsIn w (R ++ svcB x) (xs ++ [x]) := by
  refine ⟨fun y hy => ?_, fun y hy z hz => ?_⟩
  · rcases List.mem_append.1 hy with h1 | h1
    · exact h.at_ y h1
    · rw [List.mem_singleton] at h1; subst h1; exact hx
  · rcases List.mem_append.1 hy with h1 | h1
    · exact List.mem_append.2 (.inl (h.sub y h1 z hz))
    · rw [List.mem_singleton] at h1; subst h1; exact List.mem_append.2 (.inr hz)
theorem vals_snocS {xs ys : List Svc} {i : Nat} {e : Svc} {A : Option Addr} {c : Nat} (h : ys.map (·.v) = (xs.take i).map (·.v)) (he : xs[i]? = some e) : (ys ++ [(⟨e.v, A, c⟩ : Svc)]).map (·.v) = (xs.take (i + 1)).map (·.v) := by
  obtain ⟨hi, rfl⟩ := List.getElem?_eq_some_iff.1 he
  rw [List.take_succ_eq_append_getElem hi, List.map_append, List.map_append, h]; rfl
theorem copy_pack {w w0 : World} {M : List (Nat × Obj)} {V : CfgV} {AS : Option Addr} {cS : Nat} {xs : List Svc} {AN : Option Addr} {cN : Nat} {AK : Option Addr} {cK : Nat} {AL : Option Addr} {cL : Nat} {R : List Nat}
    (h : Cx w0 [] w M [blk (.slice AS xs.length cS), R, blk (.slice AN V.snats.length cN), blk (.slice AK V.sick.length cK), blk (.slice AL V.leases.length cL)])
    (hS : w.ownsRow 0 52 4 (.slice AS xs.length cS) xs.length (xs.flatMap cellsS)) (hN : w.ownsRow 0 54 2 (.slice AN V.snats.length cN) V.snats.length (V.snats.flatMap cellsN))
    (hK : w.ownsRow 0 41 1 (.slice AK V.sick.length cK) V.sick.length (V.sick.flatMap (Go.Tw.encI .u32))) (hL : w.ownsRow 0 43 4 (.slice AL V.leases.length cL) V.leases.length (V.leases.flatMap encL))
    (hi : svcsIn w R xs) (hv : xs.map (·.v) = V.svcs) :
    ∃ G : List Nat, FoldR w G V [] AS cS xs AN cN AK cK AL cL none 0 ∧ ∀ x ∈ G, w0.heap.size ≤ x := by
  refine ⟨blk (.slice AS xs.length cS) ++ (R ++ (blk (.slice AN V.snats.length cN) ++ (blk (.slice AK V.sick.length cK) ++ blk (.slice AL V.leases.length cL)))), ⟨hS, hN, hK, hL, own_nil _ _ _ _, ⟨hi.at_, fun s hs x hx => ?_⟩, hv, fun x hx => ?_, fun x hx => ?_, fun x hx => ?_, fun x hx => ?_, fun x hx => (nomatch hx), fun x hx => ?_⟩, fun x hx => ?_⟩
  · have := hi.sub s hs x hx; simp only [List.mem_append]; exact .inr (.inl this)
  · simp only [List.mem_append]; exact .inl hx
  · simp only [List.mem_append]; exact .inr (.inr (.inl hx))
  · simp only [List.mem_append]; exact .inr (.inr (.inr (.inl hx)))
  · simp only [List.mem_append]; exact .inr (.inr (.inr (.inr hx)))
  · simp only [List.mem_append] at hx
    rcases hx with hx | hx | hx | hx | hx
    · exact h.bound _ (by simp) x hx
    · exact h.bound R (by simp) x hx
    · exact h.bound _ (by simp) x hx
    · exact h.bound _ (by simp) x hx
    · exact h.bound _ (by simp) x hx
  · simp only [List.mem_append] at hx
    have key : ∀ F ∈ [blk (.slice AS xs.length cS), R, blk (.slice AN V.snats.length cN), blk (.slice AK V.sick.length cK), blk (.slice AL V.leases.length cL)], x ∈ F → w0.heap.size ≤ x := fun F hF hxF => (h.ownF F hF x hxF).resolve_left (fun q => nomatch q)
    rcases hx with hx | hx | hx | hx | hx
    · exact key _ (by simp) hx
    · exact key R (by simp) hx
    · exact key _ (by simp) hx
    · exact key _ (by simp) hx
    · exact key _ (by simp) hx
set_option maxHeartbeats 2000000 in
theorem Copy16_ct (ce cn : Int) (AS : Option Addr) (cS : Nat) (xs : List Svc) (AN : Option Addr) (cN : Nat) (ns : List SnatV) (AK : Option Addr) (cK : Nat) (ks : List Int) (AL : Option Addr) (cL : Nat) (ls : List Lease) (w : World) (hqS : Rd w 4 cellsS AS xs) (hat : ∀ s ∈ xs, svcAt w s) (hqN : Rd w 2 cellsN AN ns) (hqK : Rd w 1 (Go.Tw.encI .u32) AK ks) (hqL : Rd w 4 encL AL ls) (hlS : xs.length ≤ 1099511627776) (hlN : ns.length ≤ 1099511627776) (hlK : ks.length ≤ 1099511627776) (hlL : ls.length ≤ 1099511627776) : Calls Tryd.prog 15 #[.agg #[.int .i64 ce, .int .i64 cn, .slice AS xs.length cS, .slice AN ns.length cN, .slice AK ks.length cK, .slice AL ls.length cL]] w fun e w' => ∃ (AS2 : Option Addr) (cS2 : Nat) (xs2 : List Svc) (AN2 : Option Addr) (cN2 : Nat) (AK2 : Option Addr) (cK2 : Nat) (AL2 : Option Addr) (cL2 : Nat) (G : List Nat), e = .returned (.agg #[.int .i64 ce, .int .i64 cn, .slice AS2 xs2.length cS2, .slice AN2 ns.length cN2, .slice AK2 ks.length cK2, .slice AL2 ls.length cL2]) ∧ Fr w w' [] ∧ FoldR w' G (⟨ce, cn, xs.map (·.v), ns, ks, ls⟩ : CfgV) [] AS2 cS2 xs2 AN2 cN2 AK2 cK2 AL2 cL2 none 0 ∧ ∀ x ∈ G, w.heap.size ≤ x := by
 refine enterD (n := 46) Tryd.func15 rfl rfl (Nat.le_of_ble_eq_true rfl) ?_
 intro Q0 hN hret hret'
 have hC := Cx.start w
 refine WCs (fun K1 hK2 => ?_)
 refine WCg ?_
 refine WL.newM hC (fun b => .pointer (some ⟨b, 0, none⟩)) (.cells #[.int .i64 ce, .int .i64 cn, .slice AS xs.length cS, .slice AN ns.length cN, .slice AK ks.length cK, .slice AL ls.length cL] 31) 1 (fun _ => by kernel_rfl) (fun g3 w4 hb7 hF5 hC6 => ?_)
 refine WL.newM hC6 (fun b => .pointer (some ⟨b, 0, none⟩)) (.cells #[.int .i64 0, .int .i64 0, .slice none 0 0, .slice none 0 0, .slice none 0 0, .slice none 0 0] 31) 2 (fun _ => by kernel_rfl) (fun g8 w9 hb12 hF10 hC11 => ?_)
 refine WLd rfl (QXn (hK2 _ _ ?_))
 refine WCs (fun K13 hK14 => ?_)
 refine WCg (WLr 1 [(6, .pointer (some ⟨g3, 2, none⟩))] (fun _ => by kernel_rfl) ?_)
 refine WL.load 26 (.pointer (some ⟨g3, 2, none⟩)) (.slice AS xs.length cS) 7 (by kernel_rfl) (run_ld (hC11.get 0 rfl) rfl) ?_
 refine WLr 1 [(3, .slice AS xs.length cS)] (fun _ => by kernel_rfl) (WLd rfl (QXn (hK14 _ _ ?_)))
 refine WCs (fun K15 hK16 => ?_)
 refine WCg (WLr 1 [(8, .pointer (some ⟨g3, 2, none⟩))] (fun _ => by kernel_rfl) ?_)
 refine WLs (c' := #[.int .i64 ce, .int .i64 cn, .slice none 0 0, .slice AN ns.length cN, .slice AK ks.length cK, .slice AL ls.length cL]) hC11 0 26 g3 2 (.slice none 0 0) (by kernel_rfl) rfl (by kernel_rfl) (fun w17 hF19 hC20 => ?_)
 refine WLd rfl (QXn (hK16 _ _ ?_))
 refine WCs (fun K21 hK22 => ?_)
 refine WCs (fun K23 hK24 => ?_)
 refine WCg (WLr 1 [(4, .int .i64 0)] (fun _ => by kernel_rfl) (WLd rfl (QXn (hK24 _ _ ?_))))
 refine WC.block ?_
 have hC25 := hC20.addNil.addNil
 refine WC.loop (fun m_ E_ w_ => ∃ (i : Nat) (A5 : Option Addr) (n5 c5 : Nat) (xs5 : List Svc) (R5 : List Nat), m_ = xs.length - i ∧ E_ = [(1, .pointer (some ⟨g3, 0, none⟩)), (2, .pointer (some ⟨g8, 0, none⟩)), (3, .slice AS xs.length cS), (4, .int .i64 (i : Int))] ∧ Cx w [] w_ [(g3, .cells #[.int .i64 ce, .int .i64 cn, .slice A5 n5 c5, .slice AN ns.length cN, .slice AK ks.length cK, .slice AL ls.length cL] 31), (g8, .cells #[.int .i64 0, .int .i64 0, .slice none 0 0, .slice none 0 0, .slice none 0 0, .slice none 0 0] 31)] [blk (.slice A5 n5 c5), R5] ∧ World.ownsRow w_ 0 52 4 (.slice A5 n5 c5) n5 (xs5.flatMap cellsS) ∧ svcsIn w_ R5 xs5 ∧ (i ≤ xs.length ∧ xs5.map (·.v) = (xs.take i).map (·.v))) ⟨_, _, ⟨0, none, 0, 0, [], (blk (.slice none 0 0)), rfl, rfl, hC25, own_nil _ _ _ _, svcsIn.nil _ _, Nat.zero_le _, rfl⟩, sub_of ⟨rfl, rfl, rfl, rfl, trivial⟩⟩ (fun m29 E_ w30 K26 hK27 hI28 => ?_)
 obtain ⟨i, A5, n5, c5, xs5, R5, rfl, rfl, hC31, hns5, hin5, hi, hv5⟩ := hI28
 have hnx_ := own_count cellsS_len (by decide) hns5
 have hxl_ : xs5.length = i := by have q_ := congrArg List.length hv5; simpa [Nat.min_eq_left hi] using q_
 refine WCs (fun K32 hK33 => ?_)
 refine WCs (fun K34 hK35 => ?_)
 refine WCg (WLr 4 [(12, .bool (decide ((i : Int) < (xs.length : Int)))), (11, .int .i64 (xs.length : Int)), (10, .slice AS xs.length cS), (9, .int .i64 (i : Int))] (fun _ => by kernel_rfl) (WLd rfl (QXn (hK35 _ _ ?_))))
 refine WCa 12 (decide ((i : Int) < (xs.length : Int))) rfl (fun t36b => ?_) (fun t36b => ?_)
 ·
  have t36 : (i : Int) < (xs.length : Int) := by have q_ := of_decide_eq_true t36b; omega
  refine WCt rfl ?_
  refine WC.skip ?_
  refine QXn (hK33 _ _ ?_)
  refine WCs (fun K37 hK38 => ?_)
  refine WC.block ?_
  refine WCs (fun K39 hK40 => ?_)
  refine WCg (WLr 2 [(16, .int .i64 (i : Int)), (15, .slice AS xs.length cS)] (fun _ => by kernel_rfl) ?_)
  obtain ⟨e41, he42⟩ := get_some (xs := xs) (i := i) (by omega)
  obtain ⟨b43, o45, hA44, hc46⟩ := hqS.at_ _ _ he42
  have hat_e41 := hat _ (List.mem_of_getElem? he42)
  have hal_e41 := hat_e41.lim
  refine WLi AS xs.length cS 17 .i64 (i : Int) b43 o45 i 4 (by kernel_rfl) hA44 (by omega) (by omega) (o45 + i * 4) (by first | (simp; done) | omega) ?_
  refine WL.load 52 (.pointer (some ⟨b43, o45 + i * 4, none⟩)) (.agg #[.int .u32 e41.v.vip, .int .i64 e41.v.proto, .int .i64 e41.v.port, .slice e41.a e41.v.ends.length e41.c]) 18 (by kernel_rfl) (run_rdN (l := [.int .u32 e41.v.vip, .int .i64 e41.v.proto, .int .i64 e41.v.port, .slice e41.a e41.v.ends.length e41.c]) rfl rfl (fun j u hu => by have hq_ := hC31.fr.cell (hc46 j u hu) (by simp); simpa [Nat.add_assoc] using hq_)) ?_
  refine WL.newM hC31 (fun b => .pointer (some ⟨b, 0, none⟩)) (.cells #[.int .u32 0, .int .i64 0, .int .i64 0, .slice none 0 0] 52) 5 (fun _ => by kernel_rfl) (fun g47 w48 hb51 hF49 hC50 => ?_)
  have ho52 := own_fr hns5 hF49 (by simp)
  have hf53 := svcsIn.fr hin5 hF49 (by simp)
  refine WLs (c' := #[.int .u32 e41.v.vip, .int .i64 e41.v.proto, .int .i64 e41.v.port, .slice e41.a e41.v.ends.length e41.c]) hC50 2 52 g47 0 (.agg #[.int .u32 e41.v.vip, .int .i64 e41.v.proto, .int .i64 e41.v.port, .slice e41.a e41.v.ends.length e41.c]) (by kernel_rfl) rfl (by kernel_rfl) (fun w54 hF56 hC57 => ?_)
  have ho58 := own_fr ho52 hF56 (hC50.apartM 0 2 rfl rfl)
  have hf59 := svcsIn.fr hf53 hF56 (hC50.apartM 1 2 rfl rfl)
  refine WLd rfl (QXn (hK40 _ _ ?_))
  refine WCs (fun K60 hK61 => ?_)
  refine WCg ?_
  refine WL.newM hC57 (fun b => .slice (some ⟨b, 0, none⟩) 0 0) (.cells #[] 64) 19 (fun _ => by kernel_rfl) (fun g62 w63 hb66 hF64 hC65 => ?_)
  have ho67 := own_fr ho58 hF64 (by simp)
  have hf68 := svcsIn.fr hf59 hF64 (by simp)
  refine WLr 1 [(20, .pointer (some ⟨g47, 3, none⟩))] (fun _ => by kernel_rfl) ?_
  refine WL.load 50 (.pointer (some ⟨g47, 3, none⟩)) (.slice e41.a e41.v.ends.length e41.c) 21 (by kernel_rfl) (run_ld (hC65.get 2 rfl) rfl) ?_
  have ho70 : World.ownsRow w63 0 64 3 (.slice (some ⟨g62, 0, none⟩) 0 0) 0 [] := own_of_blk (Nat.zero_le _) (hC65.get 3 rfl) (Nat.le_refl _) (Nat.zero_le _) (by simp) rfl
  have hC69 := hC65.toF 3 rfl
  obtain ⟨v72, w73, hr74, ho75, hF76, hC77, hnil78, hsub79⟩ := app_run Tryd.prog hC69 2 (v := .slice (some ⟨g62, 0, none⟩) 0 0) rfl 50 50 64 3 24 0 e41.v.ends.length e41.c e41.a rfl ho70 (e41.v.ends.flatMap cellsE) (flat_len_n cellsE_len (by first | rfl | assumption | (simp; done) | (simp; omega))) (Rd.src_n (Rd.fr hat_e41.rd hC69.fr) cellsE_len (by decide) (by first | rfl | assumption | (simp; done) | (simp; omega))) (flat_one cellsE_one _) (by simp only [maxLen]; omega) (by omega)
  have ho83 := own_app (enc := cellsE) (ys := []) (zs := e41.v.ends) ho75
  obtain ⟨A80, c81, rfl, hle82⟩ := own_form ho83
  refine WL.sem (Builtin.append_ #[50, 50] 50 #[.slice (some ⟨g62, 0, none⟩) 0 0, .slice e41.a e41.v.ends.length e41.c]) 22 (.slice A80 (0 + e41.v.ends.length) c81) (by kernel_rfl) hr74 ?_
  have ho84 := own_fr ho67 hF76 (hC69.disj 0 2 rfl rfl (by decide))
  have hf85 := svcsIn.fr hf68 hF76 (hC69.disj 1 2 rfl rfl (by decide))
  have ho86 := ho83
  rw [show (0 + e41.v.ends.length : Nat) = e41.v.ends.length from by omega, show ([] : List EndV) ++ e41.v.ends = e41.v.ends from rfl] at ho86
  refine WLt (show (.slice A80 (0 + e41.v.ends.length) c81 : Value) = .slice A80 e41.v.ends.length c81 from by rw [Nat.zero_add]) ?_
  have hC87 := hC77
  rw [blk_n A80 (0 + e41.v.ends.length) c81 e41.v.ends.length c81] at hC87
  refine WLr 1 [(23, .pointer (some ⟨g47, 3, none⟩))] (fun _ => by kernel_rfl) ?_
  refine WLs (c' := #[.int .u32 e41.v.vip, .int .i64 e41.v.proto, .int .i64 e41.v.port, .slice A80 e41.v.ends.length c81]) hC87 2 50 g47 3 (.slice A80 e41.v.ends.length c81) (by kernel_rfl) rfl (by kernel_rfl) (fun w88 hF90 hC91 => ?_)
  have ho92 := own_fr ho84 hF90 (hC87.apartM 0 2 rfl rfl)
  have hf93 := svcsIn.fr hf85 hF90 (hC87.apartM 1 2 rfl rfl)
  have ho94 := own_fr ho86 hF90 (hC87.apartM 2 2 rfl rfl)
  refine WLd rfl (QXn (hK61 _ _ ?_))
  refine WCg (WLr 1 [(24, .pointer (some ⟨g3, 2, none⟩))] (fun _ => by kernel_rfl) ?_)
  refine WL.load 26 (.pointer (some ⟨g3, 2, none⟩)) (.slice A5 n5 c5) 25 (by kernel_rfl) (run_ld (hC91.get 0 rfl) rfl) ?_
  refine WL.load 52 (.pointer (some ⟨g47, 0, none⟩)) (.agg #[.int .u32 e41.v.vip, .int .i64 e41.v.proto, .int .i64 e41.v.port, .slice A80 e41.v.ends.length c81]) 26 (by kernel_rfl) (run_ld (hC91.get 2 rfl) rfl) ?_
  refine WL.newM hC91 (fun b => .slice (some ⟨b, 0, none⟩) 1 1) (.cells #[.int .u32 e41.v.vip, .int .i64 e41.v.proto, .int .i64 e41.v.port, .slice A80 e41.v.ends.length c81] 52) 27 (fun _ => by kernel_rfl) (fun g95 w96 hb99 hF97 hC98 => ?_)
  have ho100 := own_fr ho92 hF97 (by simp)
  have hf101 := svcsIn.fr hf93 hF97 (by simp)
  have ho102 := own_fr ho94 hF97 (by simp)
  obtain ⟨v103, w104, hr105, ho106, hF107, hC108, hnil109, hsub110⟩ := app_run Tryd.prog hC98 0 (v := .slice A5 n5 c5) rfl 26 26 52 4 48 n5 1 1 (some ⟨g95, 0, none⟩) rfl ho100 [.int .u32 e41.v.vip, .int .i64 e41.v.proto, .int .i64 e41.v.port, .slice A80 e41.v.ends.length c81] rfl (srcOk.blk 1 (hC98.get 3 rfl)) rfl (by simp only [maxLen]; omega) (by omega)
  have ho114 := own_snoc (enc := cellsS) (ys := xs5) (⟨e41.v, A80, c81⟩ : Svc) ho106
  obtain ⟨A111, c112, rfl, hle113⟩ := own_form ho114
  refine WL.sem (Builtin.append_ #[26, 26] 26 #[.slice A5 n5 c5, .slice (some ⟨g95, 0, none⟩) 1 1]) 28 (.slice A111 (n5 + 1) c112) (by kernel_rfl) hr105 ?_
  have hf115 := svcsIn.fr hf101 hF107 (hC98.disj 1 0 rfl rfl (by decide))
  have ho116 := own_fr ho102 hF107 (hC98.disj 2 0 rfl rfl (by decide))
  refine WLr 1 [(29, .pointer (some ⟨g3, 2, none⟩))] (fun _ => by kernel_rfl) ?_
  refine WLs (c' := #[.int .i64 ce, .int .i64 cn, .slice A111 (n5 + 1) c112, .slice AN ns.length cN, .slice AK ks.length cK, .slice AL ls.length cL]) hC108 0 26 g3 2 (.slice A111 (n5 + 1) c112) (by kernel_rfl) rfl (by kernel_rfl) (fun w117 hF119 hC120 => ?_)
  have ho121 := own_fr ho114 hF119 (hC108.apartM 0 0 rfl rfl)
  have hf122 := svcsIn.fr hf115 hF119 (hC108.apartM 1 0 rfl rfl)
  have ho123 := own_fr ho116 hF119 (hC108.apartM 2 0 rfl rfl)
  refine WLd rfl ?_
  refine QXb ?_
  refine QXn (hK38 _ _ ?_)
  refine WCg (WLr 2 [(14, .int .i64 (IntKind.i64.wrap ((i : Int) + 1))), (13, .int .i64 (i : Int))] (fun _ => by kernel_rfl) ?_)
  refine WLt (show (.int .i64 (IntKind.i64.wrap ((i : Int) + 1)) : Value) = .int .i64 ((i : Int) + 1) from by rw [wrap_in_i64 ((i : Int) + 1) (by omega) (by omega)]) ?_
  refine WLr 1 [(4, .int .i64 ((i : Int) + 1))] (fun _ => by kernel_rfl) ?_
  refine WLd rfl ?_
  refine QXn ?_
  have hC124 := Cx_join hC120 1 2 rfl rfl (by decide)
  have hsv125 : svcAt w117 (⟨e41.v, A80, c81⟩ : Svc) := ⟨own_rd ho123 cellsE_len (by decide), hat_e41.wfe, hat_e41.vip, hat_e41.proto, hat_e41.port, hat_e41.lim, own_le ho123⟩
  have hC126 := hC124.pick [0, 1] [0, 1] rfl rfl
  refine fun a_ ha_ => hK27 _ _ _ ?_ ⟨i + 1, A111, n5 + 1, c112, (xs5 ++ [(⟨e41.v, A80, c81⟩ : Svc)]), (R5 ++ svcB (⟨e41.v, A80, c81⟩ : Svc)), rfl, rfl, hC126, ho121, (hf122.snoc hsv125), by omega, vals_snocS hv5 he42⟩ a_ (ha_.weaken (sub_of ⟨rfl, rfl, rfl, rfl, trivial⟩))
  omega
 ·
  have t36 : (xs.length : Int) ≤ (i : Int) := by have q_ := of_decide_eq_false t36b; omega
  refine WCf rfl ?_
  refine WC.exit ?_
  refine QXe ?_
  refine QXe ?_
  refine QX.block_hit ?_
  refine QXn (hK22 _ _ ?_)
  refine WCs (fun K127 hK128 => ?_)
  refine WCg ?_
  refine WL.newM hC31 (fun b => .slice (some ⟨b, 0, none⟩) 0 0) (.cells #[] 54) 30 (fun _ => by kernel_rfl) (fun g129 w130 hb133 hF131 hC132 => ?_)
  have ho134 := own_fr hns5 hF131 (by simp)
  have hf135 := svcsIn.fr hin5 hF131 (by simp)
  refine WLr 1 [(31, .pointer (some ⟨g3, 3, none⟩))] (fun _ => by kernel_rfl) ?_
  refine WL.load 27 (.pointer (some ⟨g3, 3, none⟩)) (.slice AN ns.length cN) 32 (by kernel_rfl) (run_ld (hC132.get 0 rfl) rfl) ?_
  have ho137 : World.ownsRow w130 0 54 2 (.slice (some ⟨g129, 0, none⟩) 0 0) 0 [] := own_of_blk (Nat.zero_le _) (hC132.get 2 rfl) (Nat.le_refl _) (Nat.zero_le _) (by simp) rfl
  have hC136 := hC132.toF 2 rfl
  obtain ⟨v139, w140, hr141, ho142, hF143, hC144, hnil145, hsub146⟩ := app_run Tryd.prog hC136 2 (v := .slice (some ⟨g129, 0, none⟩) 0 0) rfl 27 27 54 2 8 0 ns.length cN AN rfl ho137 (ns.flatMap cellsN) (flat_len_n cellsN_len (by first | rfl | assumption | (simp; done) | (simp; omega))) (Rd.src_n (Rd.fr hqN hC136.fr) cellsN_len (by decide) (by first | rfl | assumption | (simp; done) | (simp; omega))) (flat_one cellsN_one _) (by simp only [maxLen]; omega) (by omega)
  have ho150 := own_app (enc := cellsN) (ys := []) (zs := ns) ho142
  obtain ⟨A147, c148, rfl, hle149⟩ := own_form ho150
  refine WL.sem (Builtin.append_ #[27, 27] 27 #[.slice (some ⟨g129, 0, none⟩) 0 0, .slice AN ns.length cN]) 33 (.slice A147 (0 + ns.length) c148) (by kernel_rfl) hr141 ?_
  have ho151 := own_fr ho134 hF143 (hC136.disj 0 2 rfl rfl (by decide))
  have hf152 := svcsIn.fr hf135 hF143 (hC136.disj 1 2 rfl rfl (by decide))
  refine WLr 1 [(34, .pointer (some ⟨g3, 3, none⟩))] (fun _ => by kernel_rfl) ?_
  refine WLs (c' := #[.int .i64 ce, .int .i64 cn, .slice A5 n5 c5, .slice A147 (0 + ns.length) c148, .slice AK ks.length cK, .slice AL ls.length cL]) hC144 0 27 g3 3 (.slice A147 (0 + ns.length) c148) (by kernel_rfl) rfl (by kernel_rfl) (fun w153 hF155 hC156 => ?_)
  have ho157 := own_fr ho151 hF155 (hC144.apartM 0 0 rfl rfl)
  have hf158 := svcsIn.fr hf152 hF155 (hC144.apartM 1 0 rfl rfl)
  have ho159 := own_fr ho150 hF155 (hC144.apartM 2 0 rfl rfl)
  refine WLd rfl (QXn (hK128 _ _ ?_))
  refine WCs (fun K160 hK161 => ?_)
  refine WCg ?_
  refine WL.newM hC156 (fun b => .slice (some ⟨b, 0, none⟩) 0 0) (.cells #[] 41) 35 (fun _ => by kernel_rfl) (fun g162 w163 hb166 hF164 hC165 => ?_)
  have ho167 := own_fr ho157 hF164 (by simp)
  have hf168 := svcsIn.fr hf158 hF164 (by simp)
  have ho169 := own_fr ho159 hF164 (by simp)
  refine WLr 1 [(36, .pointer (some ⟨g3, 4, none⟩))] (fun _ => by kernel_rfl) ?_
  refine WL.load 28 (.pointer (some ⟨g3, 4, none⟩)) (.slice AK ks.length cK) 37 (by kernel_rfl) (run_ld (hC165.get 0 rfl) rfl) ?_
  have ho171 : World.ownsRow w163 0 41 1 (.slice (some ⟨g162, 0, none⟩) 0 0) 0 [] := own_of_blk (Nat.zero_le _) (hC165.get 2 rfl) (Nat.le_refl _) (Nat.zero_le _) (by simp) rfl
  have hC170 := hC165.toF 2 rfl
  obtain ⟨v173, w174, hr175, ho176, hF177, hC178, hnil179, hsub180⟩ := app_run Tryd.prog hC170 3 (v := .slice (some ⟨g162, 0, none⟩) 0 0) rfl 28 28 41 1 4 0 ks.length cK AK rfl ho171 (ks.flatMap (Go.Tw.encI .u32)) (flat_len_n (Go.Tw.encI_len _) (by first | rfl | assumption | (simp; done) | (simp; omega))) (Rd.src_n (Rd.fr hqK hC170.fr) (Go.Tw.encI_len _) (by decide) (by first | rfl | assumption | (simp; done) | (simp; omega))) (flat_one (Go.Tw.encI_one _) _) (by simp only [maxLen]; omega) (by omega)
  have ho184 := own_app (enc := (Go.Tw.encI .u32)) (ys := []) (zs := ks) ho176
  obtain ⟨A181, c182, rfl, hle183⟩ := own_form ho184
  refine WL.sem (Builtin.append_ #[28, 28] 28 #[.slice (some ⟨g162, 0, none⟩) 0 0, .slice AK ks.length cK]) 38 (.slice A181 (0 + ks.length) c182) (by kernel_rfl) hr175 ?_
  have ho185 := own_fr ho167 hF177 (hC170.disj 0 3 rfl rfl (by decide))
  have hf186 := svcsIn.fr hf168 hF177 (hC170.disj 1 3 rfl rfl (by decide))
  have ho187 := own_fr ho169 hF177 (hC170.disj 2 3 rfl rfl (by decide))
  refine WLr 1 [(39, .pointer (some ⟨g3, 4, none⟩))] (fun _ => by kernel_rfl) ?_
  refine WLs (c' := #[.int .i64 ce, .int .i64 cn, .slice A5 n5 c5, .slice A147 (0 + ns.length) c148, .slice A181 (0 + ks.length) c182, .slice AL ls.length cL]) hC178 0 28 g3 4 (.slice A181 (0 + ks.length) c182) (by kernel_rfl) rfl (by kernel_rfl) (fun w188 hF190 hC191 => ?_)
  have ho192 := own_fr ho185 hF190 (hC178.apartM 0 0 rfl rfl)
  have hf193 := svcsIn.fr hf186 hF190 (hC178.apartM 1 0 rfl rfl)
  have ho194 := own_fr ho187 hF190 (hC178.apartM 2 0 rfl rfl)
  have ho195 := own_fr ho184 hF190 (hC178.apartM 3 0 rfl rfl)
  refine WLd rfl (QXn (hK161 _ _ ?_))
  refine WCs (fun K196 hK197 => ?_)
  refine WCg ?_
  refine WL.newM hC191 (fun b => .slice (some ⟨b, 0, none⟩) 0 0) (.cells #[] 43) 40 (fun _ => by kernel_rfl) (fun g198 w199 hb202 hF200 hC201 => ?_)
  have ho203 := own_fr ho192 hF200 (by simp)
  have hf204 := svcsIn.fr hf193 hF200 (by simp)
  have ho205 := own_fr ho194 hF200 (by simp)
  have ho206 := own_fr ho195 hF200 (by simp)
  refine WLr 1 [(41, .pointer (some ⟨g3, 5, none⟩))] (fun _ => by kernel_rfl) ?_
  refine WL.load 29 (.pointer (some ⟨g3, 5, none⟩)) (.slice AL ls.length cL) 42 (by kernel_rfl) (run_ld (hC201.get 0 rfl) rfl) ?_
  have ho208 : World.ownsRow w199 0 43 4 (.slice (some ⟨g198, 0, none⟩) 0 0) 0 [] := own_of_blk (Nat.zero_le _) (hC201.get 2 rfl) (Nat.le_refl _) (Nat.zero_le _) (by simp) rfl
  have hC207 := hC201.toF 2 rfl
  obtain ⟨v210, w211, hr212, ho213, hF214, hC215, hnil216, hsub217⟩ := app_run Tryd.prog hC207 4 (v := .slice (some ⟨g198, 0, none⟩) 0 0) rfl 29 29 43 4 32 0 ls.length cL AL rfl ho208 (ls.flatMap encL) (flat_len_n encL_len (by first | rfl | assumption | (simp; done) | (simp; omega))) (Rd.src_n (Rd.fr hqL hC207.fr) encL_len (by decide) (by first | rfl | assumption | (simp; done) | (simp; omega))) (flat_one encL_one _) (by simp only [maxLen]; omega) (by omega)
  have ho221 := own_app (enc := encL) (ys := []) (zs := ls) ho213
  obtain ⟨A218, c219, rfl, hle220⟩ := own_form ho221
  refine WL.sem (Builtin.append_ #[29, 29] 29 #[.slice (some ⟨g198, 0, none⟩) 0 0, .slice AL ls.length cL]) 43 (.slice A218 (0 + ls.length) c219) (by kernel_rfl) hr212 ?_
  have ho222 := own_fr ho203 hF214 (hC207.disj 0 4 rfl rfl (by decide))
  have hf223 := svcsIn.fr hf204 hF214 (hC207.disj 1 4 rfl rfl (by decide))
  have ho224 := own_fr ho205 hF214 (hC207.disj 2 4 rfl rfl (by decide))
  have ho225 := own_fr ho206 hF214 (hC207.disj 3 4 rfl rfl (by decide))
  refine WLr 1 [(44, .pointer (some ⟨g3, 5, none⟩))] (fun _ => by kernel_rfl) ?_
  refine WLs (c' := #[.int .i64 ce, .int .i64 cn, .slice A5 n5 c5, .slice A147 (0 + ns.length) c148, .slice A181 (0 + ks.length) c182, .slice A218 (0 + ls.length) c219]) hC215 0 29 g3 5 (.slice A218 (0 + ls.length) c219) (by kernel_rfl) rfl (by kernel_rfl) (fun w226 hF228 hC229 => ?_)
  have ho230 := own_fr ho222 hF228 (hC215.apartM 0 0 rfl rfl)
  have hf231 := svcsIn.fr hf223 hF228 (hC215.apartM 1 0 rfl rfl)
  have ho232 := own_fr ho224 hF228 (hC215.apartM 2 0 rfl rfl)
  have ho233 := own_fr ho225 hF228 (hC215.apartM 3 0 rfl rfl)
  have ho234 := own_fr ho221 hF228 (hC215.apartM 4 0 rfl rfl)
  refine WLd rfl (QXn (hK197 _ _ ?_))
  refine WCs (fun K235 hK236 => ?_)
  refine WCg ?_
  refine WL.load 31 (.pointer (some ⟨g3, 0, none⟩)) (.agg #[.int .i64 ce, .int .i64 cn, .slice A5 n5 c5, .slice A147 (0 + ns.length) c148, .slice A181 (0 + ks.length) c182, .slice A218 (0 + ls.length) c219]) 45 (by kernel_rfl) (run_ld (hC229.get 0 rfl) rfl) ?_
  refine WLs (c' := #[.int .i64 ce, .int .i64 cn, .slice A5 n5 c5, .slice A147 (0 + ns.length) c148, .slice A181 (0 + ks.length) c182, .slice A218 (0 + ls.length) c219]) hC229 1 31 g8 0 (.agg #[.int .i64 ce, .int .i64 cn, .slice A5 n5 c5, .slice A147 (0 + ns.length) c148, .slice A181 (0 + ks.length) c182, .slice A218 (0 + ls.length) c219]) (by kernel_rfl) rfl (by kernel_rfl) (fun w237 hF239 hC240 => ?_)
  have ho241 := own_fr ho230 hF239 (hC229.apartM 0 1 rfl rfl)
  have hf242 := svcsIn.fr hf231 hF239 (hC229.apartM 1 1 rfl rfl)
  have ho243 := own_fr ho232 hF239 (hC229.apartM 2 1 rfl rfl)
  have ho244 := own_fr ho233 hF239 (hC229.apartM 3 1 rfl rfl)
  have ho245 := own_fr ho234 hF239 (hC229.apartM 4 1 rfl rfl)
  refine WLd rfl (QXn (hK236 _ _ ?_))
  refine WC.ret ?_
  refine (hret' _ _ (.agg #[.int .i64 ce, .int .i64 cn, .slice A5 n5 c5, .slice A147 (0 + ns.length) c148, .slice A181 (0 + ks.length) c182, .slice A218 (0 + ls.length) c219]) (fun a ha => ?_) ?_).1
  ·
   exact res_run ha ((ResR.cell rfl (run_ld (hC240.get 1 rfl) rfl) ResR.nil)) rfl
  clear hN hret hret' hK236 hK197 hK161 hK128 hK35 hK33 hK24 hK22 hK16 hK14 hK2
  have hie_ : i = xs.length := by omega
  rw [hie_, List.take_length] at hv5
  have hC246 := Cx.pickM hC240 [] [0, 1, 2, 3, 4] (by decide) rfl rfl
  subst hnx_
  rw [show (0 + ns.length : Nat) = ns.length from Nat.zero_add _, show (0 + ks.length : Nat) = ks.length from Nat.zero_add _, show (0 + ls.length : Nat) = ls.length from Nat.zero_add _] at *
  obtain ⟨G_, hG1_, hG2_⟩ := copy_pack (V := (⟨ce, cn, xs.map (·.v), ns, ks, ls⟩ : CfgV)) hC246 ho241 ho243 ho244 ho245 hf242 (by simpa using hv5)
  exact ⟨_, _, xs5, _, _, _, _, _, _, G_, rfl, hC240.fr, hG1_, hG2_⟩

end Go.Proofs.YtfligklljkcbfaaDoor
