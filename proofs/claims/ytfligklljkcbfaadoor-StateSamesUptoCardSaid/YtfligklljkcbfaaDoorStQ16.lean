/- Contracts of functions of the program, each proved by a walk through its code; conditions stand in the statements. -/
import Derived.Test.YtfligklljkcbfaaDoorStP16
namespace Go.Proofs.YtfligklljkcbfaaDoor
set_option linter.unusedSimpArgs false
set_option linter.unusedVariables false
set_option linter.unusedSectionVars false
open Go Go.RowKit Go.Tw
set_option linter.unusedVariables false
set_option maxRecDepth 20000
structure FoldR (w : World) (G : List Nat) (V : CfgV) (rs : List ResV) (AS : Option Addr) (cS : Nat) (xs : List Svc) (AN : Option Addr) (cN : Nat) (AK : Option Addr) (cK : Nat) (AL : Option Addr) (cL : Nat) (AR : Option Addr) (cR : Nat) : Prop where
  S : w.ownsRow 0 52 4 (.slice AS xs.length cS) xs.length (xs.flatMap cellsS)
  N : w.ownsRow 0 54 2 (.slice AN V.snats.length cN) V.snats.length (V.snats.flatMap cellsN)
  K : w.ownsRow 0 41 1 (.slice AK V.sick.length cK) V.sick.length (V.sick.flatMap (Go.Tw.encI .u32))
  L : w.ownsRow 0 43 4 (.slice AL V.leases.length cL) V.leases.length (V.leases.flatMap encL)
  R : w.ownsRow 0 47 5 (.slice AR rs.length cR) rs.length (rs.flatMap cellsR)
  ins : svcsIn w G xs
  vals : xs.map (·.v) = V.svcs
  sS : ∀ x ∈ blk (.slice AS xs.length cS), x ∈ G
  sN : ∀ x ∈ blk (.slice AN V.snats.length cN), x ∈ G
  sK : ∀ x ∈ blk (.slice AK V.sick.length cK), x ∈ G
  sL : ∀ x ∈ blk (.slice AL V.leases.length cL), x ∈ G
  sR : ∀ x ∈ blk (.slice AR rs.length cR), x ∈ G
  lt : ∀ x ∈ G, x < w.heap.size
theorem FoldR.fr {w w' : World} {G H : List Nat} {V : CfgV} {rs : List ResV} {AS : Option Addr} {cS : Nat} {xs : List Svc} {AN : Option Addr} {cN : Nat} {AK : Option Addr} {cK : Nat} {AL : Option Addr} {cL : Nat} {AR : Option Addr} {cR : Nat} (h : FoldR w G V rs AS cS xs AN cN AK cK AL cL AR cR) (hf : Fr w w' H) (hd : ∀ x ∈ G, x ∉ H) : FoldR w' G V rs AS cS xs AN cN AK cK AL cL AR cR :=
  ⟨own_fr h.S hf (fun x hx => hd x (h.sS x hx)), own_fr h.N hf (fun x hx => hd x (h.sN x hx)), own_fr h.K hf (fun x hx => hd x (h.sK x hx)), own_fr h.L hf (fun x hx => hd x (h.sL x hx)), own_fr h.R hf (fun x hx => hd x (h.sR x hx)), h.ins.fr hf hd, h.vals, h.sS, h.sN, h.sK, h.sL, h.sR, fun x hx => Nat.lt_of_lt_of_le (h.lt x hx) hf.size⟩
theorem fold_pack {w : World} {F : List Nat} {p : Nat} {V : CfgV} {rs : List ResV} {AR : Option Addr} {cR : Nat} (h : cfgAt w F p V) (hR : w.ownsRow 0 47 5 (.slice AR rs.length cR) rs.length (rs.flatMap cellsR)) :
    ∃ (AS : Option Addr) (cS : Nat) (xs : List Svc) (AN : Option Addr) (cN : Nat) (AK : Option Addr) (cK : Nat) (AL : Option Addr) (cL : Nat), w.heap[p]? = some (.cells #[.int .i64 V.epoch, .int .i64 V.now, .slice AS xs.length cS, .slice AN V.snats.length cN, .slice AK V.sick.length cK, .slice AL V.leases.length cL] 69 (0, 0)) ∧
      FoldR w (F ++ blk (.slice AR rs.length cR)) V rs AS cS xs AN cN AK cK AL cL AR cR := by
  obtain ⟨AS, cS, xs, AN, cN, AK, cK, AL, cL, R, hC, rfl, h1, h2, h3, h4, h5, h6⟩ := h
  refine ⟨AS, cS, xs, AN, cN, AK, cK, AL, cL, hC.get 0 rfl, h1, h2, h3, h4, hR, ⟨h5.at_, fun s hs x hx => ?_⟩, h6, fun x hx => ?_, fun x hx => ?_, fun x hx => ?_, fun x hx => ?_, fun x hx => List.mem_append.2 (.inr hx), fun x hx => ?_⟩
  · have := h5.sub s hs x hx; simp only [List.mem_append, List.mem_cons]; exact .inl (.inr (.inr (.inr (.inr (.inr this)))))
  · simp only [List.mem_append, List.mem_cons]; exact .inl (.inr (.inl hx))
  · simp only [List.mem_append, List.mem_cons]; exact .inl (.inr (.inr (.inl hx)))
  · simp only [List.mem_append, List.mem_cons]; exact .inl (.inr (.inr (.inr (.inl hx))))
  · simp only [List.mem_append, List.mem_cons]; exact .inl (.inr (.inr (.inr (.inr (.inl hx)))))
  · rcases List.mem_append.1 hx with hx | hx
    · exact Cx.lts5 hC x hx
    · exact own_lt hR x hx
theorem wfs_vals {w : World} {L : List Cmd} (h : ∀ m ∈ L, cmdAt w m) (i : Nat) : wfs (vals (L.take i)) := by
  intro c hc
  obtain ⟨m, hm, rfl⟩ := List.mem_map.1 hc
  have := (h m (List.mem_of_mem_take hm)).wf
  exact ⟨this.dip, this.vip⟩
theorem wf_at {w : World} {L : List Cmd} (h : ∀ m ∈ L, cmdAt w m) {i : Nat} (hi : i ≤ L.length) : wfCfg (foldC (vals (L.take i))) i := by
  have := wf_fold (wfs_vals h i)
  rwa [vals_len, List.length_take, Nat.min_eq_left hi] at this
set_option maxHeartbeats 2000000 in
theorem Fold_ct (A : Option Addr) (c : Nat) (L : List Cmd) (w : World) (hr : Rd w 12 cellsC A L) (hL : ∀ m ∈ L, cmdAt w m) (hll : L.length ≤ 10000000000) (hg : Rd w 1 (encI .u8) (some ⟨0, 0, none⟩) dbTab) : Calls Tryd.prog 9 #[.slice A L.length c] w fun e w' => ∃ (AS : Option Addr) (cS : Nat) (xs : List Svc) (AN : Option Addr) (cN : Nat) (AK : Option Addr) (cK : Nat) (AL : Option Addr) (cL : Nat) (AR : Option Addr) (cR : Nat) (G : List Nat), e = .returned (.tuple #[.agg #[.int .i64 ((foldC (vals L)).epoch), .int .i64 ((foldC (vals L)).now), .slice AS xs.length cS, .slice AN ((foldC (vals L)).snats.length) cN, .slice AK ((foldC (vals L)).sick.length) cK, .slice AL ((foldC (vals L)).leases.length) cL], .slice AR ((resC (vals L)).length) cR]) ∧ Fr w w' [] ∧ FoldR w' G (foldC (vals L)) (resC (vals L)) AS cS xs AN cN AK cK AL cL AR cR ∧ ∀ x ∈ G, w.heap.size ≤ x := by
 refine enterD (n := 28) Tryd.func9 rfl rfl (Nat.le_of_ble_eq_true rfl) ?_
 intro Q0 hN hret hret'
 have hC := Cx.start w
 refine WCs (fun K1 hK2 => ?_)
 refine WCg ?_
 refine WL.newM hC (fun b => .pointer (some ⟨b, 0, none⟩)) (.cells #[.int .i64 0, .int .i64 0, .slice none 0 0, .slice none 0 0, .slice none 0 0, .slice none 0 0] 31) 2 (fun _ => by kernel_rfl) (fun g3 w4 hb7 hF5 hC6 => ?_)
 refine WLr 1 [(3, .slice none 0 0)] (fun _ => by kernel_rfl) (WLd rfl (QXn (hK2 _ _ ?_)))
 refine WCs (fun K8 hK9 => ?_)
 refine WCg (WLr 1 [(8, .agg #[.int .i64 0, .int .i64 0, .slice none 0 0, .slice none 0 0, .slice none 0 0, .slice none 0 0])] (fun _ => by kernel_rfl) ?_)
 refine WL.newM hC6 (fun b => .pointer (some ⟨b, 0, none⟩)) (.cells #[.int .i64 0, .int .i64 0, .slice none 0 0, .slice none 0 0, .slice none 0 0, .slice none 0 0] 69) 9 (fun _ => by kernel_rfl) (fun g10 w11 hb14 hF12 hC13 => ?_)
 refine WLr 1 [(4, .pointer (some ⟨g10, 0, none⟩))] (fun _ => by kernel_rfl) (WLd rfl (QXn (hK9 _ _ ?_)))
 refine WCs (fun K15 hK16 => ?_)
 refine WCg (WLr 1 [(5, .slice none 0 0)] (fun _ => by kernel_rfl) (WLd rfl (QXn (hK16 _ _ ?_))))
 refine WCs (fun K17 hK18 => ?_)
 refine WCs (fun K19 hK20 => ?_)
 refine WCg (WLr 3 [(12, .int .i64 0), (11, .int .i64 (L.length : Int)), (10, .slice A L.length c)] (fun _ => by kernel_rfl) (WLd rfl (QXn (hK20 _ _ ?_))))
 refine WC.block ?_
 have hT21 := cfg_new (hC13.get 1 rfl)
 have hC22 := hC13.toF 1 rfl
 have hC23 := hC22.addNil
 refine WC.loop (fun m_ E_ w_ => ∃ (i : Nat) (F5 : List Nat) (A5 : Option Addr) (n5 c5 : Nat), m_ = L.length - i ∧ E_ = [(0, .slice A L.length c), (2, .pointer (some ⟨g3, 0, none⟩)), (3, .slice none 0 0), (4, .pointer (some ⟨g10, 0, none⟩)), (5, .slice A5 n5 c5), (10, .slice A L.length c), (11, .int .i64 (L.length : Int)), (12, .int .i64 (i : Int))] ∧ Cx w [] w_ [(g3, .cells #[.int .i64 0, .int .i64 0, .slice none 0 0, .slice none 0 0, .slice none 0 0, .slice none 0 0] 31)] [F5, blk (.slice A5 n5 c5)] ∧ cfgAt w_ F5 g10 (foldC (vals (L.take i))) ∧ World.ownsRow w_ 0 47 5 (.slice A5 n5 c5) n5 ((resC (vals (L.take i))).flatMap cellsR) ∧ (i ≤ L.length)) ⟨_, _, ⟨0, [g10], none, 0, 0, rfl, rfl, hC23, hT21, own_nil _ _ _ _, Nat.zero_le _⟩, sub_of ⟨rfl, rfl, rfl, rfl, rfl, rfl, rfl, rfl, trivial⟩⟩ (fun m27 E_ w28 K24 hK25 hI26 => ?_)
 obtain ⟨i, F5, A5, n5, c5, rfl, rfl, hC29, hT5, hout, hi⟩ := hI26
 have hwfi_ := wf_at hL hi
 have hon_ := own_count cellsR_len (by decide) hout
 have hrl_ : (resC (vals (L.take i))).length = i := by unfold resC; rw [resFrom_len, vals_len, List.length_take, Nat.min_eq_left hi]
 have hown5_ := hC29.ownF F5 (List.mem_of_getElem? (show _[0]? = some F5 from rfl))
 simp only [List.not_mem_nil, false_or] at hown5_
 have h0F_ : 0 ∉ F5 := fun hx_ => by have q_ := hown5_ 0 hx_; have q2_ := dbTab_size hg; omega
 refine WCs (fun K30 hK31 => ?_)
 refine WCg (WLr 1 [(13, .bool (decide ((i : Int) < (L.length : Int))))] (fun _ => by kernel_rfl) (WLd rfl (QXn (hK31 _ _ ?_))))
 refine WCs (fun K32 hK33 => ?_)
 refine WCa 13 (decide ((i : Int) < (L.length : Int))) rfl (fun t34b => ?_) (fun t34b => ?_)
 ·
  have t34 : (i : Int) < (L.length : Int) := by have q_ := of_decide_eq_true t34b; omega
  refine WCt rfl ?_
  refine WC.skip ?_
  refine QXn (hK33 _ _ ?_)
  refine WCs (fun K35 hK36 => ?_)
  refine WC.block ?_
  refine WCs (fun K37 hK38 => ?_)
  refine WCg ?_
  obtain ⟨e39, he40⟩ := get_some (xs := L) (i := i) (by omega)
  obtain ⟨b41, o43, hA42, hc44⟩ := hr.at_ _ _ he40
  have hc_e39 := hL _ (List.mem_of_getElem? he40)
  refine WLi A L.length c 14 .i64 (i : Int) b41 o43 i 12 (by kernel_rfl) hA42 (by omega) (by omega) (o43 + i * 12) (by first | (simp; done) | omega) ?_
  refine WL.load 56 (.pointer (some ⟨b41, o43 + i * 12, none⟩)) (.agg #[.int .i64 e39.v.node, .int .i64 e39.v.boot, .int .i64 e39.v.seq, .int .i64 e39.v.time, .int .i64 e39.v.kind, .int .u32 e39.v.svip, .int .i64 e39.v.sproto, .int .i64 e39.v.sport, .slice e39.a e39.v.ends.length e39.c, .int .u32 e39.v.dip, .int .u32 e39.v.vip, .bool e39.v.up]) 15 (by kernel_rfl) (run_rdN (l := [.int .i64 e39.v.node, .int .i64 e39.v.boot, .int .i64 e39.v.seq, .int .i64 e39.v.time, .int .i64 e39.v.kind, .int .u32 e39.v.svip, .int .i64 e39.v.sproto, .int .i64 e39.v.sport, .slice e39.a e39.v.ends.length e39.c, .int .u32 e39.v.dip, .int .u32 e39.v.vip, .bool e39.v.up]) rfl rfl (fun j u hu => by have hq_ := hC29.fr.cell (hc44 j u hu) (by simp); simpa [Nat.add_assoc] using hq_)) ?_
  refine WL.newM hC29 (fun b => .pointer (some ⟨b, 0, none⟩)) (.cells #[.int .i64 0, .int .i64 0, .int .i64 0, .int .i64 0, .int .i64 0, .int .u32 0, .int .i64 0, .int .i64 0, .slice none 0 0, .int .u32 0, .int .u32 0, .bool false] 56) 7 (fun _ => by kernel_rfl) (fun g45 w46 hb49 hF47 hC48 => ?_)
  have hf50 := cfgAt.fr hT5 hF47 (by simp)
  have ho51 := own_fr hout hF47 (by simp)
  refine WLs (c' := #[.int .i64 e39.v.node, .int .i64 e39.v.boot, .int .i64 e39.v.seq, .int .i64 e39.v.time, .int .i64 e39.v.kind, .int .u32 e39.v.svip, .int .i64 e39.v.sproto, .int .i64 e39.v.sport, .slice e39.a e39.v.ends.length e39.c, .int .u32 e39.v.dip, .int .u32 e39.v.vip, .bool e39.v.up]) hC48 1 56 g45 0 (.agg #[.int .i64 e39.v.node, .int .i64 e39.v.boot, .int .i64 e39.v.seq, .int .i64 e39.v.time, .int .i64 e39.v.kind, .int .u32 e39.v.svip, .int .i64 e39.v.sproto, .int .i64 e39.v.sport, .slice e39.a e39.v.ends.length e39.c, .int .u32 e39.v.dip, .int .u32 e39.v.vip, .bool e39.v.up]) (by kernel_rfl) rfl (by kernel_rfl) (fun w52 hF54 hC55 => ?_)
  have hf56 := cfgAt.fr hf50 hF54 (hC48.apartM 0 1 rfl rfl)
  have ho57 := own_fr ho51 hF54 (hC48.apartM 1 1 rfl rfl)
  refine WLd rfl (QXn (hK38 _ _ ?_))
  refine WCg (WLr 2 [(17, .pointer (some ⟨g10, 0, none⟩)), (16, .slice A5 n5 c5)] (fun _ => by kernel_rfl) ?_)
  refine WL.load 56 (.pointer (some ⟨g45, 0, none⟩)) (.agg #[.int .i64 e39.v.node, .int .i64 e39.v.boot, .int .i64 e39.v.seq, .int .i64 e39.v.time, .int .i64 e39.v.kind, .int .u32 e39.v.svip, .int .i64 e39.v.sproto, .int .i64 e39.v.sport, .slice e39.a e39.v.ends.length e39.c, .int .u32 e39.v.dip, .int .u32 e39.v.vip, .bool e39.v.up]) 18 (by kernel_rfl) (run_ld (hC55.get 1 rfl) rfl) ?_
  refine WLc rfl rfl rfl rfl rfl (by kernel_rfl) (apply_ct F5 g10 (foldC (vals (L.take i))) i e39 w52 hf56 hwfi_ (by omega) (cmdAt.fr0 hc_e39 hC55.fr) (fun hne_ b_ off_ hA_ hx_ => by have q_ := hown5_ b_ hx_; have q2_ := cmd_size hc_e39 hne_ hA_; omega) h0F_ (Rd.fr hg hC55.fr)) ?_
  rintro _ w59 ⟨F58, rfl, hF60, hT61, hsub62⟩
  have hC63 := hC55.callF 0 rfl hF60 hsub62 (cfgAt_lt hT61)
  refine ⟨_, rfl, ?_⟩
  have ho64 := own_fr ho57 hF60 (hC55.disj 1 0 rfl rfl (by decide))
  refine WL.newM hC63 (fun b => .slice (some ⟨b, 0, none⟩) 1 1) (.cells #[.int .i64 ((applyR (foldC (vals (L.take i))) e39.v).err), .int .u32 ((applyR (foldC (vals (L.take i))) e39.v).lease.vip), .int .i64 ((applyR (foldC (vals (L.take i))) e39.v).lease.first), .int .u32 ((applyR (foldC (vals (L.take i))) e39.v).lease.dip), .int .i64 ((applyR (foldC (vals (L.take i))) e39.v).lease.exp)] 47) 20 (fun _ => by kernel_rfl) (fun g65 w66 hb69 hF67 hC68 => ?_)
  have hf70 := cfgAt.fr hT61 hF67 (by simp)
  have ho71 := own_fr ho64 hF67 (by simp)
  obtain ⟨v72, w73, hr74, ho75, hF76, hC77, hnil78, hsub79⟩ := app_run Tryd.prog hC68 1 (v := .slice A5 n5 c5) rfl 32 32 47 5 40 n5 1 1 (some ⟨g65, 0, none⟩) rfl ho71 [.int .i64 ((applyR (foldC (vals (L.take i))) e39.v).err), .int .u32 ((applyR (foldC (vals (L.take i))) e39.v).lease.vip), .int .i64 ((applyR (foldC (vals (L.take i))) e39.v).lease.first), .int .u32 ((applyR (foldC (vals (L.take i))) e39.v).lease.dip), .int .i64 ((applyR (foldC (vals (L.take i))) e39.v).lease.exp)] rfl (srcOk.blk 1 (hC68.get 2 rfl)) rfl (by simp only [maxLen]; omega) (by omega)
  have ho83 := own_snoc (enc := cellsR) (ys := (resC (vals (L.take i)))) (applyR (foldC (vals (L.take i))) e39.v) ho75
  obtain ⟨A80, c81, rfl, hle82⟩ := own_form ho83
  refine WL.sem (Builtin.append_ #[32, 32] 32 #[.slice A5 n5 c5, .slice (some ⟨g65, 0, none⟩) 1 1]) 21 (.slice A80 (n5 + 1) c81) (by kernel_rfl) hr74 ?_
  have hf84 := cfgAt.fr hf70 hF76 (hC68.disj 0 1 rfl rfl (by decide))
  refine WLr 1 [(5, .slice A80 (n5 + 1) c81)] (fun _ => by kernel_rfl) ?_
  refine WLd rfl ?_
  refine QXb ?_
  refine QXn (hK36 _ _ ?_)
  refine WCg (WLr 1 [(22, .int .i64 (IntKind.i64.wrap ((i : Int) + 1)))] (fun _ => by kernel_rfl) ?_)
  refine WLt (show (.int .i64 (IntKind.i64.wrap ((i : Int) + 1)) : Value) = .int .i64 ((i : Int) + 1) from by rw [wrap_in_i64 ((i : Int) + 1) (by omega) (by omega)]) ?_
  refine WLr 1 [(12, .int .i64 ((i : Int) + 1))] (fun _ => by kernel_rfl) ?_
  refine WLd rfl ?_
  refine QXn ?_
  have hC85 := hC77.pick [0] [0, 1] rfl rfl
  refine fun a_ ha_ => hK25 _ _ _ ?_ ⟨i + 1, F58, A80, n5 + 1, c81, rfl, rfl, hC85, (by rw [fold_step he40]; exact hf84), by rw [res_step he40]; exact ho83, by omega⟩ a_ (ha_.weaken (sub_of ⟨rfl, rfl, rfl, rfl, rfl, rfl, rfl, rfl, trivial⟩))
  omega
 ·
  have t34 : (L.length : Int) ≤ (i : Int) := by have q_ := of_decide_eq_false t34b; omega
  refine WCf rfl ?_
  refine WC.exit ?_
  refine QXe ?_
  refine QXe ?_
  refine QX.block_hit ?_
  refine QXn (hK18 _ _ ?_)
  refine WCs (fun K86 hK87 => ?_)
  refine WCg (WLr 3 [(25, .pointer (some ⟨g10, 0, none⟩)), (24, .pointer (some ⟨g10, 0, none⟩)), (23, .pointer (some ⟨g10, 0, none⟩))] (fun _ => by kernel_rfl) ?_)
  have hie_ : i = L.length := by omega
  have hT6 := hT5
  have ho6 := hout
  rw [hie_, List.take_length] at hT6 ho6 hrl_ hon_
  have hn6_ : n5 = (resC (vals L)).length := hon_.symm
  subst hn6_
  obtain ⟨AS, cS, xs, AN, cN, AK, cK, AL, cL, hp6, hR6⟩ := fold_pack hT6 ho6
  refine WL.load 31 (.pointer (some ⟨g10, 0, none⟩)) (.agg #[.int .i64 ((foldC (vals L)).epoch), .int .i64 ((foldC (vals L)).now), .slice AS xs.length cS, .slice AN ((foldC (vals L)).snats.length) cN, .slice AK ((foldC (vals L)).sick.length) cK, .slice AL ((foldC (vals L)).leases.length) cL]) 26 (by kernel_rfl) (run_ld hp6 rfl) ?_
  have hC88 := Cx_join hC29 0 1 rfl rfl (by decide)
  refine WLr 1 [(27, .slice A5 ((resC (vals L)).length) c5)] (fun _ => by kernel_rfl) ?_
  refine WLs (c' := #[.int .i64 ((foldC (vals L)).epoch), .int .i64 ((foldC (vals L)).now), .slice AS xs.length cS, .slice AN ((foldC (vals L)).snats.length) cN, .slice AK ((foldC (vals L)).sick.length) cK, .slice AL ((foldC (vals L)).leases.length) cL]) hC88 0 31 g3 0 (.agg #[.int .i64 ((foldC (vals L)).epoch), .int .i64 ((foldC (vals L)).now), .slice AS xs.length cS, .slice AN ((foldC (vals L)).snats.length) cN, .slice AK ((foldC (vals L)).sick.length) cK, .slice AL ((foldC (vals L)).leases.length) cL]) (by kernel_rfl) rfl (by kernel_rfl) (fun w89 hF91 hC92 => ?_)
  have hf93 := FoldR.fr hR6 hF91 (hC88.apartM 0 0 rfl rfl)
  refine WLr 1 [(3, .slice A5 ((resC (vals L)).length) c5)] (fun _ => by kernel_rfl) (WLd rfl (QXn (hK87 _ _ ?_)))
  refine WC.ret ?_
  refine (hret' _ _ (.tuple #[.agg #[.int .i64 ((foldC (vals L)).epoch), .int .i64 ((foldC (vals L)).now), .slice AS xs.length cS, .slice AN ((foldC (vals L)).snats.length) cN, .slice AK ((foldC (vals L)).sick.length) cK, .slice AL ((foldC (vals L)).leases.length) cL], .slice A5 ((resC (vals L)).length) c5]) (fun a ha => ?_) ?_).1
  ·
   exact res_run ha ((ResR.cell rfl (run_ld (hC92.get 0 rfl) rfl) (ResR.tmp rfl ResR.nil))) rfl
  exact ⟨AS, cS, xs, AN, cN, AK, cK, AL, cL, A5, c5, _, rfl, hC92.fr, hf93, fun x_ h_ => by have q_ := hC92.ownF _ (List.mem_of_getElem? (show _[0]? = some (F5 ++ blk (.slice A5 (resC (vals L)).length c5)) from rfl)) x_ h_; simpa using q_⟩

end Go.Proofs.YtfligklljkcbfaaDoor
