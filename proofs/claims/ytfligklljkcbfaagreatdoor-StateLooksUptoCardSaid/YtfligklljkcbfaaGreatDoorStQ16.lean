/- Contracts of functions of the program, each proved by a walk through its code; conditions stand in the statements. -/
import Derived.Test.YtfligklljkcbfaaGreatDoorStP16
namespace Go.Proofs.YtfligklljkcbfaaGreatDoor
set_option linter.unusedSimpArgs false
set_option linter.unusedVariables false
set_option linter.unusedSectionVars false
open Go Go.RowKit Go.Tw
set_option linter.unusedVariables false
set_option maxRecDepth 20000
structure FoldR (w : World) (G : List Nat) (V : CfgV) (rs : List ResV) (AS : Option Addr) (cS : Nat) (xs : List Svc) (AN : Option Addr) (cN : Nat) (AK : Option Addr) (cK : Nat) (AL : Option Addr) (cL : Nat) (AR : Option Addr) (cR : Nat) : Prop where
  S : w.ownsRow 0 43 4 (.slice AS xs.length cS) xs.length (xs.flatMap cellsS)
  N : w.ownsRow 0 79 2 (.slice AN V.snats.length cN) V.snats.length (V.snats.flatMap cellsN)
  K : w.ownsRow 0 40 1 (.slice AK V.sick.length cK) V.sick.length (V.sick.flatMap (Go.Tw.encI .u32))
  L : w.ownsRow 0 50 4 (.slice AL V.leases.length cL) V.leases.length (V.leases.flatMap encL)
  R : w.ownsRow 0 52 5 (.slice AR rs.length cR) rs.length (rs.flatMap cellsR)
  ins : svcsIn w G xs
  vals : xs.map (·.v) = V.svcs
  sS : ∀ x ∈ blk (.slice AS xs.length cS), x ∈ G
  sN : ∀ x ∈ blk (.slice AN V.snats.length cN), x ∈ G
  sK : ∀ x ∈ blk (.slice AK V.sick.length cK), x ∈ G
  sL : ∀ x ∈ blk (.slice AL V.leases.length cL), x ∈ G
  sR : ∀ x ∈ blk (.slice AR rs.length cR), x ∈ G
  lt : ∀ x ∈ G, x < w.heap.size
theorem FoldR.fr {w w' : World} {G H : List Nat} {V : CfgV} {rs : List ResV} {AS : Option Addr} {cS : Nat} {xs : List Svc} {AN : Option Addr} {cN : Nat} {AK : Option Addr} {cK : Nat} {AL : Option Addr} {cL : Nat} {AR : Option Addr} {cR : Nat} (h : FoldR w G V rs AS cS xs AN cN AK cK AL cL AR cR) (hf : Fr w w' H) (hd : ∀ x ∈ G, x ∉ H) : FoldR w' G V rs AS cS xs AN cN AK cK AL cL AR cR :=
  ⟨own_fr h.S hf (fun x hx => hd x (h.sS x hx)), own_fr h.N hf (fun x hx => hd x (h.sN x hx)), own_fr h.K hf (fun x hx => hd x (h.sK x hx)), own_fr h.L hf (fun x hx => hd x (h.sL x hx)), own_fr h.R hf (fun x hx => hd x (h.sR x hx)), h.ins.fr hf hd, h.vals, h.sS, h.sN, h.sK, h.sL, h.sR, fun x hx => Nat.lt_of_lt_of_le (h.lt x hx) hf.size⟩
theorem fold_pack {w : World} {F : List Nat} {p : Nat} {V : CfgV} {rs : List ResV} {AR : Option Addr} {cR : Nat} (h : cfgAt w F p V) (hR : w.ownsRow 0 52 5 (.slice AR rs.length cR) rs.length (rs.flatMap cellsR)) :
    ∃ (AS : Option Addr) (cS : Nat) (xs : List Svc) (AN : Option Addr) (cN : Nat) (AK : Option Addr) (cK : Nat) (AL : Option Addr) (cL : Nat), w.heap[p]? = some (.cells #[.int .i64 V.epoch, .int .i64 V.now, .slice AS xs.length cS, .slice AN V.snats.length cN, .slice AK V.sick.length cK, .slice AL V.leases.length cL] 72 (0, 0)) ∧
      FoldR w (F ++ blk (.slice AR rs.length cR)) V rs AS cS xs AN cN AK cK AL cL AR cR := by
  obtain ⟨AS, cS, xs, AN, cN, AK, cK, AL, cL, R, hC, rfl, h1, h2, h3, h4, h5, h6⟩ := h
  refine ⟨AS, cS, xs, AN, cN, AK, cK, AL, cL, hC.get 0 rfl, h1, h2, h3, h4, hR, ⟨h5.at_, fun s hs x hx => ?_⟩, h6, fun x hx => ?_, fun x hx => ?_, fun x hx => ?_, fun x hx => ?_, fun x hx => List.mem_append.2 (.inr hx), fun x hx => ?_⟩
  · have := h5.sub s hs x hx; simp only [List.mem_append, List.mem_cons]; exact .inl (.inr (.inr (.inr (.inr (.inr this)))))
  · simp only [List.mem_append, List.mem_cons]; exact .inl (.inr (.inl hx))
  · simp only [List.mem_append, List.mem_cons]; exact .inl (.inr (.inr (.inl hx)))
  · simp only [List.mem_append, List.mem_cons]; exact .inl (.inr (.inr (.inr (.inl hx))))
  · simp only [List.mem_append, List.mem_cons]; exact .inl (.inr (.inr (.inr (.inr (.inl hx)))))
  · rcases List.mem_append.1 hx with hx | hx
    · exact Cx.lts5 hC x hx
    · exact own_lt hR x hx
theorem wfs_vals {w : World} {L : List Cmd} (h : ∀ m ∈ L, cmdAt w m) (i : Nat) : wfs (vals (L.take i)) := by
  intro c hc
  obtain ⟨m, hm, rfl⟩ := List.mem_map.1 hc
  have := (h m (List.mem_of_mem_take hm)).wf
  exact ⟨this.dip, this.vip⟩
theorem wf_at {w : World} {L : List Cmd} (h : ∀ m ∈ L, cmdAt w m) {i : Nat} (hi : i ≤ L.length) : wfCfg (foldC (vals (L.take i))) i := by
  have := wf_fold (wfs_vals h i)
  rwa [vals_len, List.length_take, Nat.min_eq_left hi] at this
set_option maxHeartbeats 2000000 in
theorem Fold_ct (A : Option Addr) (c : Nat) (L : List Cmd) (w : World) (hr : Rd w 12 cellsC A L) (hL : ∀ m ∈ L, cmdAt w m) (hll : L.length ≤ 10000000000) (hg : Rd w 1 (encI .u8) (some ⟨0, 0, none⟩) dbTab) : Calls Tryz.prog 9 #[.slice A L.length c] w fun e w' => ∃ (AS : Option Addr) (cS : Nat) (xs : List Svc) (AN : Option Addr) (cN : Nat) (AK : Option Addr) (cK : Nat) (AL : Option Addr) (cL : Nat) (AR : Option Addr) (cR : Nat) (G : List Nat), e = .returned (.tuple #[.agg #[I6 ((foldC (vals L)).epoch), I6 ((foldC (vals L)).now), .slice AS xs.length cS, .slice AN ((foldC (vals L)).snats.length) cN, .slice AK ((foldC (vals L)).sick.length) cK, .slice AL ((foldC (vals L)).leases.length) cL], .slice AR ((resC (vals L)).length) cR]) ∧ Fr w w' [] ∧ FoldR w' G (foldC (vals L)) (resC (vals L)) AS cS xs AN cN AK cK AL cL AR cR ∧ ∀ x ∈ G, w.heap.size ≤ x := by
 refine enterD (n := 28) Tryz.func9 rfl rfl (Nat.le_of_ble_eq_true rfl) ?_
 intro Q0 hN hret hret'
 have hC := Cx.start w
 refine WCs (fun K1 hK2 => WCg (WLb hC (.cells #[I6 0, I6 0, .slice none 0 0, .slice none 0 0, .slice none 0 0, .slice none 0 0] 31) 2 (fun g3 w4 hb7 hF5 hC6 => WLq 1 [(3, .slice none 0 0)] (WLd rfl (QXn (hK2 _ _ (WCs (fun K8 hK9 => WCg (WLq 1 [(8, .agg #[I6 0, I6 0, .slice none 0 0, .slice none 0 0, .slice none 0 0, .slice none 0 0])] ?_)))))))))
 refine WLb hC6 (.cells #[I6 0, I6 0, .slice none 0 0, .slice none 0 0, .slice none 0 0, .slice none 0 0] 72) 9 (fun af bd a7 a8 al => WLq 1 [(4, P0 af 0)] (WLd rfl (QXn (hK9 _ _ (WCs (fun be av => WCg (WLq 1 [(5, .slice none 0 0)] (WLd rfl (QXn (av _ _ (WCs (fun bf aw => WCs (fun bg ax => ?_)))))))))))))
 refine WCg (WLq 3 [(12, I6 0), (11, I6 (L.length : Int)), (10, .slice A L.length c)] (WLd rfl (QXn (ax _ _ (WC.block ?_)))))
 have ay := cfg_new (al.get 1 rfl)
 have az := al.toF 1 rfl
 have aA := az.addNil
 refine WC.loop (fun m_ E_ w_ => ∃ (i : Nat) (F5 : List Nat) (A5 : Option Addr) (n5 c5 : Nat), m_ = L.length - i ∧ E_ = [(0, .slice A L.length c), (2, P0 g3 0), (3, .slice none 0 0), (4, P0 af 0), (5, .slice A5 n5 c5), (10, .slice A L.length c), (11, I6 (L.length : Int)), (12, I6 (i : Int))] ∧ Cx w [] w_ [(g3, .cells #[I6 0, I6 0, .slice none 0 0, .slice none 0 0, .slice none 0 0, .slice none 0 0] 31)] [F5, blk (.slice A5 n5 c5)] ∧ cfgAt w_ F5 af (foldC (vals (L.take i))) ∧ World.ownsRow w_ 0 52 5 (.slice A5 n5 c5) n5 ((resC (vals (L.take i))).flatMap cellsR) ∧ (i ≤ L.length)) ⟨_, _, ⟨0, [af], none, 0, 0, rfl, rfl, aA, ay, own_nil _ _ _ _, Nat.zero_le _⟩, sub_of ⟨rfl, rfl, rfl, rfl, rfl, rfl, rfl, rfl, trivial⟩⟩ (fun m27 E_ bh bi aB aC => ?_)
 obtain ⟨i, F5, A5, n5, c5, rfl, rfl, ad, hT5, hout, hi⟩ := aC
 have hwfi_ := wf_at hL hi
 have hon_ := own_count cellsR_len (by decide) hout
 have hrl_ : (resC (vals (L.take i))).length = i := by unfold resC; rw [resFrom_len, vals_len, List.length_take, Nat.min_eq_left hi]
 have hown5_ := ad.ownF F5 (List.mem_of_getElem? (show _[0]? = some F5 from rfl))
 simp only [List.not_mem_nil, false_or] at hown5_
 have h0F_ : 0 ∉ F5 := fun hx_ => by have q_ := hown5_ 0 hx_; have q2_ := dbTab_size hg; omega
 refine WCs (fun bj aD => WCg (WLq 1 [(13, .bool (decide ((i : Int) < (L.length : Int))))] (WLd rfl (QXn (aD _ _ (WCs (fun bk aE => WCa 13 (decide ((i : Int) < (L.length : Int))) rfl (fun ag => ?_) (fun ag => ?_))))))))
 ·
  have a9 : (i : Int) < (L.length : Int) := by have q_ := of_decide_eq_true ag; omega
  refine WCt rfl (WC.skip (QXn (aE _ _ (WCs (fun bl aF => WC.block (WCs (fun bm aG => ?_)))))))
  refine WCg ?_
  obtain ⟨aa, ae⟩ := get_some (xs := L) (i := i) (by omega)
  obtain ⟨b41, o43, aH, aI⟩ := hr.at_ _ _ ae
  have ab := hL _ (List.mem_of_getElem? ae)
  refine WLi A L.length c 14 .i64 (i : Int) b41 o43 i 12 (by kernel_rfl) aH (by omega) (by omega) (o43 + i * 12) (by first | (simp; done) | omega) (WLo 45 (P0 b41 (o43 + i * 12)) (.agg #[I6 aa.v.node, I6 aa.v.boot, I6 aa.v.seq, I6 aa.v.time, I6 aa.v.kind, U4 aa.v.svip, I6 aa.v.sproto, I6 aa.v.sport, .slice aa.a aa.v.ends.length aa.c, U4 aa.v.dip, U4 aa.v.vip, .bool aa.v.up]) 15 (run_rdN (l := [I6 aa.v.node, I6 aa.v.boot, I6 aa.v.seq, I6 aa.v.time, I6 aa.v.kind, U4 aa.v.svip, I6 aa.v.sproto, I6 aa.v.sport, .slice aa.a aa.v.ends.length aa.c, U4 aa.v.dip, U4 aa.v.vip, .bool aa.v.up]) rfl rfl (fun j u hu => by have hq_ := ad.fr.cell (aI j u hu) (by simp); simpa [Nat.add_assoc] using hq_)) (WLb ad (.cells #[I6 0, I6 0, I6 0, I6 0, I6 0, U4 0, I6 0, I6 0, .slice none 0 0, U4 0, U4 0, .bool false] 45) 7 (fun a4 bn ba am ah => ?_)))
  have aJ := cfgAt.fr hT5 am (by simp)
  have aK := own_fr hout am (by simp)
  refine WLv (c' := #[I6 aa.v.node, I6 aa.v.boot, I6 aa.v.seq, I6 aa.v.time, I6 aa.v.kind, U4 aa.v.svip, I6 aa.v.sproto, I6 aa.v.sport, .slice aa.a aa.v.ends.length aa.c, U4 aa.v.dip, U4 aa.v.vip, .bool aa.v.up]) ah 1 45 a4 0 (.agg #[I6 aa.v.node, I6 aa.v.boot, I6 aa.v.seq, I6 aa.v.time, I6 aa.v.kind, U4 aa.v.svip, I6 aa.v.sproto, I6 aa.v.sport, .slice aa.a aa.v.ends.length aa.c, U4 aa.v.dip, U4 aa.v.vip, .bool aa.v.up]) (fun bb an ac => ?_)
  have aL := cfgAt.fr aJ an (ah.apartM 0 1 rfl rfl)
  have aM := own_fr aK an (ah.apartM 1 1 rfl rfl)
  refine WLd rfl (QXn (aG _ _ (WCg (WLq 2 [(17, P0 af 0), (16, .slice A5 n5 c5)] (WLo 45 (P0 a4 0) (.agg #[I6 aa.v.node, I6 aa.v.boot, I6 aa.v.seq, I6 aa.v.time, I6 aa.v.kind, U4 aa.v.svip, I6 aa.v.sproto, I6 aa.v.sport, .slice aa.a aa.v.ends.length aa.c, U4 aa.v.dip, U4 aa.v.vip, .bool aa.v.up]) 18 (run_ld (ac.get 1 rfl) rfl) (WLk (apply_ct F5 af (foldC (vals (L.take i))) i aa bb aL hwfi_ (by omega) (cmdAt.fr0 ab ac.fr) (fun hne_ b_ off_ hA_ hx_ => by have q_ := hown5_ b_ hx_; have q2_ := cmd_size ab hne_ hA_; omega) h0F_ (Rd.fr hg ac.fr)) ?_))))))
  rintro _ bo ⟨F58, rfl, ao, ap, ai⟩
  have aN := ac.callF 0 rfl ao ai (cfgAt_lt ap)
  refine ⟨_, rfl, ?_⟩
  have aO := own_fr aM ao (ac.disj 1 0 rfl rfl (by decide))
  refine WL.newM aN (fun b => .slice (some ⟨b, 0, none⟩) 1 1) (.cells #[I6 ((applyR (foldC (vals (L.take i))) aa.v).err), U4 ((applyR (foldC (vals (L.take i))) aa.v).lease.vip), I6 ((applyR (foldC (vals (L.take i))) aa.v).lease.first), U4 ((applyR (foldC (vals (L.take i))) aa.v).lease.dip), I6 ((applyR (foldC (vals (L.take i))) aa.v).lease.exp)] 52) 20 (fun _ => by kernel_rfl) (fun a5 bp bc aq aj => ?_)
  have aP := cfgAt.fr ap aq (by simp)
  have aQ := own_fr aO aq (by simp)
  obtain ⟨bq, br, aR, aS, aT, aU, aV, aW⟩ := app_run Tryz.prog aj 1 (v := .slice A5 n5 c5) rfl 32 32 52 5 40 n5 1 1 (some ⟨a5, 0, none⟩) rfl aQ [I6 ((applyR (foldC (vals (L.take i))) aa.v).err), U4 ((applyR (foldC (vals (L.take i))) aa.v).lease.vip), I6 ((applyR (foldC (vals (L.take i))) aa.v).lease.first), U4 ((applyR (foldC (vals (L.take i))) aa.v).lease.dip), I6 ((applyR (foldC (vals (L.take i))) aa.v).lease.exp)] rfl (srcOk.blk 1 (aj.get 2 rfl)) rfl (by simp only [maxLen]; omega) (by omega)
  have ar := own_snoc (enc := cellsR) (ys := (resC (vals (L.take i)))) (applyR (foldC (vals (L.take i))) aa.v) aS
  obtain ⟨aX, aY, rfl, a6⟩ := own_form ar
  refine WLS 21 aR ?_
  have aZ := cfgAt.fr aP aT (aj.disj 0 1 rfl rfl (by decide))
  refine WLq 1 [(5, .slice aX (n5 + 1) aY)] (WLd rfl (QXb (QXn (aF _ _ (WCg (WLq 1 [(22, I6 (IntKind.i64.wrap ((i : Int) + 1)))] (WLt (show (I6 (IntKind.i64.wrap ((i : Int) + 1)) : Value) = I6 ((i : Int) + 1) from by rw [wrap_in_i64 ((i : Int) + 1) (by omega) (by omega)]) ?_)))))))
  refine WLq 1 [(12, I6 ((i : Int) + 1))] (WLd rfl (QXn ?_))
  have a0 := aU.pick [0] [0, 1] rfl rfl
  refine fun a_ ha_ => aB _ _ _ ?_ ⟨i + 1, F58, aX, n5 + 1, aY, rfl, rfl, a0, (by rw [fold_step ae]; exact aZ), by rw [res_step ae]; exact ar, by omega⟩ a_ (ha_.weaken (sub_of ⟨rfl, rfl, rfl, rfl, rfl, rfl, rfl, rfl, trivial⟩))
  omega
 ·
  have a9 : (L.length : Int) ≤ (i : Int) := by have q_ := of_decide_eq_false ag; omega
  refine WCf rfl (WC.exit (QXe (QXe (QX.block_hit (QXn (aw _ _ ?_))))))
  refine WCs (fun bs a1 => WCg (WLz 3 [(25, P0 af 0)] ?_))
  have hie_ : i = L.length := by omega
  have hT6 := hT5
  have ho6 := hout
  rw [hie_, List.take_length] at hT6 ho6 hrl_ hon_
  have hn6_ : n5 = (resC (vals L)).length := hon_.symm
  subst hn6_
  obtain ⟨AS, cS, xs, AN, cN, AK, cK, AL, cL, hp6, hR6⟩ := fold_pack hT6 ho6
  refine WLo 31 (P0 af 0) (.agg #[I6 ((foldC (vals L)).epoch), I6 ((foldC (vals L)).now), .slice AS xs.length cS, .slice AN ((foldC (vals L)).snats.length) cN, .slice AK ((foldC (vals L)).sick.length) cK, .slice AL ((foldC (vals L)).leases.length) cL]) 26 (run_ld hp6 rfl) ?_
  have au := Cx_join ad 0 1 rfl rfl (by decide)
  refine WLq 1 [(27, .slice A5 ((resC (vals L)).length) c5)] (WLv (c' := #[I6 ((foldC (vals L)).epoch), I6 ((foldC (vals L)).now), .slice AS xs.length cS, .slice AN ((foldC (vals L)).snats.length) cN, .slice AK ((foldC (vals L)).sick.length) cK, .slice AL ((foldC (vals L)).leases.length) cL]) au 0 31 g3 0 (.agg #[I6 ((foldC (vals L)).epoch), I6 ((foldC (vals L)).now), .slice AS xs.length cS, .slice AN ((foldC (vals L)).snats.length) cN, .slice AK ((foldC (vals L)).sick.length) cK, .slice AL ((foldC (vals L)).leases.length) cL]) (fun bt a2 ak => ?_))
  have a3 := FoldR.fr hR6 a2 (au.apartM 0 0 rfl rfl)
  refine WLq 1 [(3, .slice A5 ((resC (vals L)).length) c5)] (WLd rfl (QXn (a1 _ _ (WC.ret ?_))))
  refine (hret' _ _ (.tuple #[.agg #[I6 ((foldC (vals L)).epoch), I6 ((foldC (vals L)).now), .slice AS xs.length cS, .slice AN ((foldC (vals L)).snats.length) cN, .slice AK ((foldC (vals L)).sick.length) cK, .slice AL ((foldC (vals L)).leases.length) cL], .slice A5 ((resC (vals L)).length) c5]) (fun a ha => ?_) ?_).1
  ·
   exact res_run ha ((ResR.cell rfl (run_ld (ak.get 0 rfl) rfl) (ResR.tmp rfl ResR.nil))) rfl
  exact ⟨AS, cS, xs, AN, cN, AK, cK, AL, cL, A5, c5, _, rfl, ak.fr, a3, fun x_ h_ => by have q_ := ak.ownF _ (List.mem_of_getElem? (show _[0]? = some (F5 ++ blk (.slice A5 (resC (vals L)).length c5)) from rfl)) x_ h_; simpa using q_⟩

end Go.Proofs.YtfligklljkcbfaaGreatDoor
