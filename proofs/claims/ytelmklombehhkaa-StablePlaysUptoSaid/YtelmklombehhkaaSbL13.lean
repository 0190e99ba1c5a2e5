/- Contracts of functions of the program, each proved by a walk through its code; conditions stand in the statements. -/
import Derived.Test.YtelmklombehhkaaSbJ13
namespace Go.Proofs.Ytelmklombehhkaa
set_option linter.unusedSimpArgs false
set_option linter.unusedVariables false
set_option linter.unusedSectionVars false
open Go Go.RowKit Go.Tw
set_option linter.unusedVariables false
set_option maxRecDepth 20000
theorem stAt_used {w : World} {F : List Nat} {p : Nat} {N Y : Ct} {size : Int} (h : stAt w F p N Y size) : usedL N ≤ 67108864 ∧ usedL Y ≤ 67108864 ∧ N.length ≤ 67108864 ∧ (∀ q ∈ N, q.2.length ≤ 67108864) := by
  obtain ⟨b1, b2, m1, m2, _, h1, h2, rfl, rfl, _⟩ := h
  refine ⟨h1.used, h2.used, Nat.le_trans (len_used h1.keys) h1.used, fun q hq => ?_⟩
  obtain ⟨y, hy, rfl⟩ := List.mem_map.1 hq
  have := mem_used h1 hy
  have := (h1.rows y hy).len
  dsimp only; omega
set_option maxHeartbeats 2000000 in
theorem same_ct (F : List Nat) (p : Nat) (N Y : Ct) (size : Int) (A : Option Addr) (c : Nat) (ps : Mt) (R : List Nat) (w : World) (ht : stAt w F p N Y size) (hrd : Rd w 2 cellP A ps) (hps : rowsIn w R ps) (hct : ct ps = listL N) : Calls Try.prog 30 #[.pointer (some ⟨p, 0, none⟩), .slice A ps.length c] w fun e w' => e = .returned (.bool true) ∧ Fr w w' [] := by
  refine enterD (n := 60) Try.func30 rfl rfl (Nat.le_of_ble_eq_true rfl) ?_
  intro Q0 hN hret hret'
  have hC := Cx.start w
  have hkk_ : (keysL N).length = ps.length := by have q_ := congrArg List.length hct; rw [listL_len] at q_; rw [keysL_len]; simpa [ct] using q_.symm
  have hus_ : usedL (ct ps) = usedL N := by rw [hct, listL_used (stAt_nodup ht).1]
  have hub_ := stAt_used ht
  obtain ⟨hub1_, hub2_, hub3_, hub4_⟩ := hub_
  have hkl_ := keysL_len N
  refine WC.seq (fun K1 hK2 => ?_)
  refine WC.region ?_
  refine WL.runs 1 [(4, .bool false)] (fun _ => by kernel_rfl) ?_
  refine WL.done rfl ?_
  refine QX.then_normal (hK2 _ _ ?_)
  refine WC.seq (fun K3 hK4 => ?_)
  refine WC.region ?_
  refine WL.runs 1 [(10, .pointer (some ⟨p, 0, none⟩))] (fun _ => by kernel_rfl) ?_
  refine WL.call rfl rfl rfl rfl rfl (by kernel_rfl) (Keys_ct F p N Y size w ht) ?_
  rintro _ w7 ⟨v_, rfl, hF6, ho5⟩
  have hC8 := hC.callN hF6 (own_ge ho5) (own_lt ho5)
  obtain ⟨A9, c10, rfl, hle11⟩ := own_form ho5
  have ho13 := own_base (b' := 0) ho5 (fun _ _ => Nat.zero_le _)
  refine ⟨_, rfl, ?_⟩
  have hf14 := stAt_fr ht hF6 (by simp)
  refine WL.runs 1 [(5, .slice A9 ((keysL N).length) c10)] (fun _ => by kernel_rfl) ?_
  refine WL.done rfl ?_
  refine QX.then_normal (hK4 _ _ ?_)
  refine WC.seq (fun K16 hK17 => ?_)
  refine WC.seq (fun K18 hK19 => ?_)
  refine WC.region ?_
  refine WL.runs 6 [(17, .bool (((keysL N).length : Int) != (ps.length : Int))), (16, .bool (((keysL N).length : Int) != (ps.length : Int))), (15, .int .i64 (ps.length : Int)), (14, .slice A ps.length c), (13, .int .i64 ((keysL N).length : Int)), (12, .slice A9 ((keysL N).length) c10)] (fun _ => by kernel_rfl) ?_
  refine WL.know 17 (.bool (((keysL N).length : Int) != (ps.length : Int))) (.bool false) rfl (congrArg Value.bool (by simp [hkk_])) ?_
  refine WL.runs 1 [(18, .pointer (some ⟨p, 0, none⟩))] (fun _ => by kernel_rfl) ?_
  refine WL.call rfl rfl rfl rfl rfl (by kernel_rfl) (Used_ct F p N Y size w7 hf14) ?_
  rintro _ w21 ⟨rfl, hF20⟩
  refine ⟨_, rfl, ?_⟩
  have hC22 := hC8.call hF20
  have hf23 := stAt_fr hf14 hF20 (by simp)
  have ho24 := own_fr ho13 hF20 (by simp)
  refine WL.runs 1 [(20, .slice A ps.length c)] (fun _ => by kernel_rfl) ?_
  refine WL.call rfl rfl rfl rfl rfl (by kernel_rfl) (RUsed_ct A c ps _ w21 (Rd.fr hrd hC22.fr) (rowsIn_fr hps hC22.fr (by simp)) (by omega) (by omega)) ?_
  rintro _ w26 ⟨rfl, hF25⟩
  refine ⟨_, rfl, ?_⟩
  have hC27 := hC22.call hF25
  have hf28 := stAt_fr hf23 hF25 (by simp)
  have ho29 := own_fr ho24 hF25 (by simp)
  refine WL.runs 2 [(23, .bool ((usedL N : Int) != (usedL (ct ps) : Int))), (22, .bool ((usedL N : Int) != (usedL (ct ps) : Int)))] (fun _ => by kernel_rfl) ?_
  refine WL.done rfl ?_
  refine QX.then_normal (hK19 _ _ ?_)
  refine WC.know 23 (.bool ((usedL N : Int) != (usedL (ct ps) : Int))) (.bool false) rfl (congrArg Value.bool (by simp [hus_])) ?_
  refine WC.cond_false rfl ?_
  refine WC.skip ?_
  refine QX.then_normal (hK17 _ _ ?_)
  refine WC.seq (fun K30 hK31 => ?_)
  refine WC.seq (fun K32 hK33 => ?_)
  refine WC.region ?_
  refine WL.runs 3 [(26, .int .i64 0), (25, .int .i64 (ps.length : Int)), (24, .slice A ps.length c)] (fun _ => by kernel_rfl) ?_
  refine WL.done rfl ?_
  refine QX.then_normal (hK33 _ _ ?_)
  refine WC.block ?_
  refine WC.loop (fun m_ E_ w_ => ∃ (i : Nat), m_ = ps.length - i ∧ E_ = [(0, .pointer (some ⟨p, 0, none⟩)), (1, .slice A ps.length c), (5, .slice A9 ((keysL N).length) c10), (24, .slice A ps.length c), (25, .int .i64 (ps.length : Int)), (26, .int .i64 (i : Int))] ∧ Cx w [] w_ [] [blk (.slice A9 ((keysL N).length) c10)] ∧ stAt w_ F p N Y size ∧ World.ownsRow w_ 0 9 1 (.slice A9 ((keysL N).length) c10) ((keysL N).length) ((keysL N).flatMap Go.Tw.encS) ∧ (i ≤ ps.length)) ⟨_, _, ⟨0, rfl, rfl, hC27, hf28, ho29, Nat.zero_le _⟩, sub_of ⟨rfl, rfl, rfl, rfl, rfl, rfl, trivial⟩⟩ (fun m37 E_ w38 K34 hK35 hI36 => ?_)
  obtain ⟨i, rfl, rfl, hC39, sto_m37, row15_m37, hi⟩ := hI36
  skip
  refine WC.seq (fun K40 hK41 => ?_)
  refine WC.region ?_
  refine WL.runs 1 [(27, .bool (decide ((i : Int) < (ps.length : Int))))] (fun _ => by kernel_rfl) ?_
  refine WL.done rfl ?_
  refine QX.then_normal (hK41 _ _ ?_)
  refine WC.seq (fun K42 hK43 => ?_)
  refine WC.test_at 27 (decide ((i : Int) < (ps.length : Int))) rfl (fun t44b => ?_) (fun t44b => ?_)
  · -- (i : Int) < (ps.length : Int): true
    have t44 : (i : Int) < (ps.length : Int) := by have q_ := of_decide_eq_true t44b; omega
    refine WC.cond_true rfl ?_
    refine WC.skip ?_
    refine QX.then_normal (hK43 _ _ ?_)
    refine WC.seq (fun K45 hK46 => ?_)
    refine WC.block ?_
    refine WC.seq (fun K47 hK48 => ?_)
    refine WC.region ?_
    refine WL.runs 1 [(28, .int .i64 (i : Int))] (fun _ => by kernel_rfl) ?_
    obtain ⟨e49, he50⟩ := get_some (xs := ps) (i := i) (by omega)
    obtain ⟨b51, o53, hA52, hc54⟩ := hrd.at_ _ _ he50
    have hpr_ := hps.1 _ (List.mem_of_getElem? he50)
    have hpl_ := hpr_.len
    obtain ⟨hk_, hlk_⟩ := same_at hct he50
    have hxl_ := hub4_ _ (look_mem hlk_)
    dsimp only at hxl_
    refine WL.index A ps.length c 29 .i64 (i : Int) b51 o53 i 2 (by kernel_rfl) hA52 (by omega) (by omega) (o53 + i * 2) (by first | (simp; done) | omega) ?_
    refine WL.load 65 (.pointer (some ⟨b51, o53 + i * 2, none⟩)) (.agg #[.string e49.1, .slice e49.2.a e49.2.n e49.2.c]) 30 (by kernel_rfl) (run_rdN (l := [.string e49.1, .slice e49.2.a e49.2.n e49.2.c]) rfl rfl (fun j u hu => by have hq_ := hC39.fr.cell (hc54 j u hu) (by simp); simpa [Nat.add_assoc] using hq_)) ?_
    refine WL.newM hC39 (fun b => .pointer (some ⟨b, 0, none⟩)) (.cells #[.string ⟨#[]⟩, .slice none 0 0] 65) 7 (fun _ => by kernel_rfl) (fun g55 w56 hb59 hF57 hC58 => ?_)
    have hf60 := stAt_fr sto_m37 hF57 (by simp)
    have ho61 := own_fr row15_m37 hF57 (by simp)
    refine WL.runs 1 [(6, .int .i64 (i : Int))] (fun _ => by kernel_rfl) ?_
    refine WL.storeM (c' := #[.string e49.1, .slice e49.2.a e49.2.n e49.2.c]) hC58 0 65 g55 0 (.agg #[.string e49.1, .slice e49.2.a e49.2.n e49.2.c]) (by kernel_rfl) rfl (by kernel_rfl) (fun w62 hF64 hC65 => ?_)
    have hf66 := stAt_fr hf60 hF64 (fun x_ hx_ h_ => by obtain rfl := List.mem_singleton.1 h_; exact absurd ((hC58.new_ge 0 rfl).resolve_left (fun q_ => nomatch q_)) (Nat.not_le.2 (stAt_lt ht _ hx_)))
    have ho67 := own_fr ho61 hF64 (hC58.apartM 0 0 rfl rfl)
    refine WL.done rfl ?_
    refine QX.then_normal (hK48 _ _ ?_)
    refine WC.seq (fun K68 hK69 => ?_)
    refine WC.region ?_
    refine WL.runs 2 [(33, .pointer (some ⟨g55, 0, none⟩)), (32, .pointer (some ⟨p, 0, none⟩))] (fun _ => by kernel_rfl) ?_
    refine WL.load 9 (.pointer (some ⟨g55, 0, none⟩)) (.string e49.1) 34 (by kernel_rfl) (run_ld (hC65.get 0 rfl) rfl) ?_
    refine WL.call rfl rfl rfl rfl rfl (by kernel_rfl) (Get_yes F p N Y size e49.1 e49.2.xs w62 hf66 (hlk_)) ?_
    rintro _ w72 ⟨v_, rfl, hF71, ho70⟩
    have hC73 := hC65.callN hF71 (own_ge ho70) (own_lt ho70)
    obtain ⟨A74, c75, rfl, hle76⟩ := own_form ho70
    have ho78 := own_base (b' := 0) ho70 (fun _ _ => Nat.zero_le _)
    refine ⟨_, rfl, ?_⟩
    have hf79 := stAt_fr hf66 hF71 (by simp)
    have ho80 := own_fr ho67 hF71 (by simp)
    refine WL.runs 5 [(9, .nilIface), (8, .slice A74 e49.2.xs.length c75), (37, .nilIface), (36, .slice A74 e49.2.xs.length c75), (31, .tuple #[.slice A74 e49.2.xs.length c75, .nilIface])] (fun _ => by kernel_rfl) ?_
    refine WL.done rfl ?_
    refine QX.then_normal (hK69 _ _ ?_)
    refine WC.seq (fun K82 hK83 => ?_)
    refine WC.seq (fun K84 hK85 => ?_)
    refine WC.drawC hC73 [] (by kernel_rfl) (fun w86 hF87 hC88 hS89 => ?_)
    have hf90 := stAt_fr hf79 hF87 (by simp)
    have ho91 := own_fr ho80 hF87 (by simp)
    have ho92 := own_fr ho78 hF87 (by simp)
    refine WD.pure (NoPanic.then (NoPanic.then (NoPanic.block (NoPanic.then (NoPanic.then (NoPanic.block (NoPanic.then hN))))))) 0 38 (.slice A9 ((keysL N).length) c10) (by kernel_rfl) (fun _ => by kernel_rfl) hS89 ?_
    refine WD.pure (NoPanic.then (NoPanic.then (NoPanic.block (NoPanic.then (NoPanic.then (NoPanic.block (NoPanic.then hN))))))) 1 39 (.int .i64 (i : Int)) (by kernel_rfl) (fun _ => by kernel_rfl) hS89 ?_
    have hn97 := own_count Go.Tw.encS_len (by decide) ho91
    obtain ⟨e93, he94⟩ := get_some (xs := (keysL N)) (i := i) (by omega)
    obtain ⟨b95, hA96⟩ := own_addr (by decide) Go.Tw.encS_len ho91 he94
    refine WD.index (NoPanic.then (NoPanic.then (NoPanic.block (NoPanic.then (NoPanic.then (NoPanic.block (NoPanic.then hN))))))) 2 A9 ((keysL N).length) c10 40 .i64 (i : Int) b95 0 i 1 (by kernel_rfl) (by kernel_rfl) hA96 (by omega) (by omega) i (by first | (simp; done) | omega) hS89 ?_
    refine WD.pure (NoPanic.then (NoPanic.then (NoPanic.block (NoPanic.then (NoPanic.then (NoPanic.block (NoPanic.then hN))))))) 4 42 (.pointer (some ⟨g55, 0, none⟩)) (by kernel_rfl) (fun _ => by kernel_rfl) hS89 ?_
    refine WD.load (NoPanic.then (NoPanic.then (NoPanic.block (NoPanic.then (NoPanic.then (NoPanic.block (NoPanic.then hN))))))) 3 9 (.pointer (some ⟨b95, i, none⟩)) (.string e93) 41 (by kernel_rfl) (by kernel_rfl) (fun _ hS_ => run_load1 rfl (by simpa [Nat.add_assoc] using Rd.cell (own_rd (own_fr ho91 hS_ (by simp)) Go.Tw.encS_len (by decide)) hA96 he94 0 _ rfl)) hS89 ?_
    refine WD.load (NoPanic.then (NoPanic.then (NoPanic.block (NoPanic.then (NoPanic.then (NoPanic.block (NoPanic.then hN))))))) 5 9 (.pointer (some ⟨g55, 0, none⟩)) (.string e49.1) 43 (by kernel_rfl) (by kernel_rfl) (fun _ hS_ => run_ld (Fr.has hS_ (hC88.get 0 rfl) (by simp)) rfl) hS89 ?_
    refine WD.pure (NoPanic.then (NoPanic.then (NoPanic.block (NoPanic.then (NoPanic.then (NoPanic.block (NoPanic.then hN))))))) 6 44 (.bool (!(e93.toList == e49.1.toList))) (by kernel_rfl) (fun _ => by kernel_rfl) hS89 ?_
    refine WD.recast (show (.bool (!(e93.toList == e49.1.toList)) : Value) = .bool (!decide (e93 = e49.1)) from by rw [str_eql]) ?_
    refine WD.pure (NoPanic.then (NoPanic.then (NoPanic.block (NoPanic.then (NoPanic.then (NoPanic.block (NoPanic.then hN))))))) 7 45 (.bool (!decide (e93 = e49.1))) (by kernel_rfl) (fun _ => by kernel_rfl) hS89 ?_
    refine WD.know 45 (.bool (!decide (e93 = e49.1))) (.bool false) rfl (congrArg Value.bool (by have q_ := he94; rw [hk_] at q_; simp [Option.some.inj q_])) ?_
    refine WD.pure (NoPanic.then (NoPanic.then (NoPanic.block (NoPanic.then (NoPanic.then (NoPanic.block (NoPanic.then hN))))))) 8 46 (.nilIface) (by kernel_rfl) (fun _ => by kernel_rfl) hS89 ?_
    refine WD.pure (NoPanic.then (NoPanic.then (NoPanic.block (NoPanic.then (NoPanic.then (NoPanic.block (NoPanic.then hN))))))) 9 47 (.bool false) (by kernel_rfl) (fun _ => by kernel_rfl) hS89 ?_
    refine WD.pure (NoPanic.then (NoPanic.then (NoPanic.block (NoPanic.then (NoPanic.then (NoPanic.block (NoPanic.then hN))))))) 10 48 (.bool false) (by kernel_rfl) (fun _ => by kernel_rfl) hS89 ?_
    refine WD.pure (NoPanic.then (NoPanic.then (NoPanic.block (NoPanic.then (NoPanic.then (NoPanic.block (NoPanic.then hN))))))) 11 49 (.bool false) (by kernel_rfl) (fun _ => by kernel_rfl) hS89 ?_
    refine WD.pure (NoPanic.then (NoPanic.then (NoPanic.block (NoPanic.then (NoPanic.then (NoPanic.block (NoPanic.then hN))))))) 12 50 (.slice A74 e49.2.xs.length c75) (by kernel_rfl) (fun _ => by kernel_rfl) hS89 ?_
    refine WD.semP (NoPanic.then (NoPanic.then (NoPanic.block (NoPanic.then (NoPanic.then (NoPanic.block (NoPanic.then hN))))))) 13 (convert 22 9 (.slice A74 e49.2.xs.length c75)) 51 (.string (strOfNums e49.2.xs)) (by kernel_rfl) (by kernel_rfl) (fun w_ hS_ => run_bytes_str rfl rfl rfl (Rd.fr (own_rd ho92 (Go.Tw.encI_len _) (by decide)) hS_) (own_count (Go.Tw.encI_len _) (by decide) ho92)) hS89 ?_
    refine WD.pure (NoPanic.then (NoPanic.then (NoPanic.block (NoPanic.then (NoPanic.then (NoPanic.block (NoPanic.then hN))))))) 14 52 (.pointer (some ⟨g55, 1, none⟩)) (by kernel_rfl) (fun _ => by kernel_rfl) hS89 ?_
    refine WD.load (NoPanic.then (NoPanic.then (NoPanic.block (NoPanic.then (NoPanic.then (NoPanic.block (NoPanic.then hN))))))) 15 22 (.pointer (some ⟨g55, 1, none⟩)) (.slice e49.2.a e49.2.n e49.2.c) 53 (by kernel_rfl) (by kernel_rfl) (fun _ hS_ => run_ld (Fr.has hS_ (hC88.get 0 rfl) (by simp)) rfl) hS89 ?_
    refine WD.semP (NoPanic.then (NoPanic.then (NoPanic.block (NoPanic.then (NoPanic.then (NoPanic.block (NoPanic.then hN))))))) 16 (convert 22 9 (.slice e49.2.a e49.2.n e49.2.c)) 54 (.string (strOfNums e49.2.xs)) (by kernel_rfl) (by kernel_rfl) (fun w_ hS_ => run_bytes_str rfl rfl rfl (Rd.fr (Rd.fr hpr_.rd hC88.fr) hS_) (by first | rfl | assumption | (simp; done))) hS89 ?_
    refine WD.pure (NoPanic.then (NoPanic.then (NoPanic.block (NoPanic.then (NoPanic.then (NoPanic.block (NoPanic.then hN))))))) 17 55 (.bool (!((strOfNums e49.2.xs).toList == (strOfNums e49.2.xs).toList))) (by kernel_rfl) (fun _ => by kernel_rfl) hS89 ?_
    refine WD.recast (show (.bool (!((strOfNums e49.2.xs).toList == (strOfNums e49.2.xs).toList)) : Value) = .bool (!decide ((strOfNums e49.2.xs) = (strOfNums e49.2.xs))) from by rw [str_eql]) ?_
    refine WD.pure (NoPanic.then (NoPanic.then (NoPanic.block (NoPanic.then (NoPanic.then (NoPanic.block (NoPanic.then hN))))))) 18 56 (.bool (!decide ((strOfNums e49.2.xs) = (strOfNums e49.2.xs)))) (by kernel_rfl) (fun _ => by kernel_rfl) hS89 ?_
    refine WD.done (by kernel_rfl) ?_
    refine QX.then_normal (hK85 _ _ ?_)
    refine WC.know 56 (.bool (!decide ((strOfNums e49.2.xs) = (strOfNums e49.2.xs)))) (.bool false) rfl (congrArg Value.bool (by simp)) ?_
    refine WC.cond_false rfl ?_
    refine WC.skip ?_
    refine QX.then_normal (hK83 _ _ ?_)
    refine WC.region ?_
    refine WL.runs 1 [(57, .slice A74 e49.2.xs.length c75)] (fun _ => by kernel_rfl) ?_
    have hle_ := own_le ho92
    refine WL.call rfl rfl rfl rfl rfl (by kernel_rfl) (Over_ct A74 e49.2.xs.length c75 e49.2.xs w86 ho92 (by omega)) ?_
    rintro _ w100 ⟨ys98, rfl, hF99, ho102, hyl103⟩
    refine ⟨_, rfl, ?_⟩
    have hC101 := hC88.callF 1 rfl hF99 (fun _ hx_ => .inl hx_) (own_lt ho102)
    have hf104 := stAt_fr hf90 hF99 (fun x_ hx_ h_ => absurd (newF_of hC88 1 rfl (fun _ q_ => nomatch q_) (fun _ q_ => nomatch q_) x_ h_) (Nat.not_le.2 (stAt_lt ht x_ hx_)))
    have ho105 := own_fr ho91 hF99 (hC88.disj 0 1 rfl rfl (by decide))
    refine WL.done rfl ?_
    refine QX.block_normal ?_
    refine QX.then_normal (hK46 _ _ ?_)
    refine WC.region ?_
    refine WL.runs 1 [(59, .int .i64 (IntKind.i64.wrap ((i : Int) + 1)))] (fun _ => by kernel_rfl) ?_
    refine WL.recast (show (.int .i64 (IntKind.i64.wrap ((i : Int) + 1)) : Value) = .int .i64 ((i : Int) + 1) from by rw [wrap_in_i64 ((i : Int) + 1) (by omega) (by omega)]) ?_
    refine WL.runs 1 [(26, .int .i64 ((i : Int) + 1))] (fun _ => by kernel_rfl) ?_
    refine WL.done rfl ?_
    refine QX.then_normal ?_
    have hC106 := hC101.pick [] [0] rfl rfl
    refine fun a_ ha_ => hK35 _ _ _ ?_ ⟨i + 1, rfl, rfl, hC106, hf104, ho105, by omega⟩ a_ (ha_.weaken (sub_of ⟨rfl, rfl, rfl, rfl, rfl, rfl, trivial⟩))
    omega
  · -- (i : Int) < (ps.length : Int): false
    have t44 : (ps.length : Int) ≤ (i : Int) := by have q_ := of_decide_eq_false t44b; omega
    refine WC.cond_false rfl ?_
    refine WC.exit ?_
    refine QX.then_exit ?_
    refine QX.then_exit ?_
    refine QX.block_hit ?_
    refine QX.then_normal (hK31 _ _ ?_)
    refine WC.seq (fun K107 hK108 => ?_)
    refine WC.region ?_
    refine WL.runs 1 [(4, .bool true)] (fun _ => by kernel_rfl) ?_
    refine WL.done rfl ?_
    refine QX.then_normal (hK108 _ _ ?_)
    refine WC.ret ?_
    refine (hret _ _ _ rfl ?_).1
    clear hN hret hret' hK108 hK43 hK41 hK33 hK31 hK19 hK17 hK4 hK2
    exact ⟨rfl, hC39.fr⟩

end Go.Proofs.Ytelmklombehhkaa
