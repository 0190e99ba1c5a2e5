/- Contracts of functions of the program, each proved by a walk through its code; conditions stand in the statements. -/
import Derived.Test.YtjacpjdikhlcoaaVtY14
namespace Go.Proofs.Ytjacpjdikhlcoaa
set_option linter.unusedSimpArgs false
set_option linter.unusedVariables false
set_option linter.unusedSectionVars false
open Go Go.RowKit Go.Tw
set_option linter.unusedVariables false
set_option maxRecDepth 20000
theorem kPV : ¬ (kP = kV) := by decide
theorem kVP : ¬ (kV = kP) := by decide
theorem lookX_put {α : Type} (N : Ct) (k j : ByteArray) (v : List Int) (d : α) (f : List Int → α) : lookX (putL N k v) j d f = if k = j then f v else lookX N j d f := by
  unfold lookX; rw [al_look_put]; by_cases h : k = j <;> simp [h]
theorem lookB_put (N : Ct) (k j : ByteArray) (v : List Int) (f : List Int → Bool) : lookB (putL N k v) j f = if k = j then f v else lookB N j f := by
  unfold lookB; rw [al_look_put]; by_cases h : k = j <;> simp [h]
theorem bal2 {n d : Int} (hn : isI64 n) (hd : isI64 d) : balR (bytesN [n, d]) = (n, d) ∧ balOk (bytesN [n, d]) = goodBal n d := by
  have h := balR_bytes hn hd []
  rw [List.append_nil] at h
  exact ⟨h.1, h.2.1⟩
theorem openV_prep {N : Ct} {node n d : Int} {V : Vo} (h : openV N node = V) (hg : goodBal n d = true) : openV (putL N kP (bytesN [n, d])) node = ⟨n, d, V.an, V.ad, V.log, V.node⟩ := by
  obtain ⟨hn, hd⟩ := goodBal_i64 hg
  subst h
  unfold openV
  simp only [lookX_put, if_neg kPV, if_true, (bal2 hn hd).1]
theorem openOk_prep {N : Ct} {n d : Int} (h : openOk N = true) (hg : goodBal n d = true) : openOk (putL N kP (bytesN [n, d])) = true := by
  obtain ⟨hn, hd⟩ := goodBal_i64 hg
  unfold openOk at *
  rw [Bool.and_eq_true] at h
  simp only [lookB_put, if_neg kPV, if_true, h.2, Bool.and_true]
  unfold proOk
  rw [(bal2 hn hd).2, hg, bytes2_len]; rfl
theorem openV_acc {N : Ct} {node n d : Int} {V : Vo} {Ls : List CmdV} (h : openV N node = V) (hg : goodBal n d = true) (hw : ∀ v ∈ Ls, wfC v) (hl : goodL Ls = true) : openV (putL (putL N kP (bytesN [n, d])) kV (bytesN [n, d] ++ bytesL Ls)) node = ⟨n, d, n, d, Ls, V.node⟩ := by
  obtain ⟨hn, hd⟩ := goodBal_i64 hg
  obtain ⟨b1, b2, b3⟩ := balR_bytes hn hd (bytesL Ls)
  subst h
  unfold openV
  simp only [lookX_put, if_neg kPV, if_neg kVP, if_true, (bal2 hn hd).1, b1, b3, readL_bytes hw hl]
theorem openOk_acc {N : Ct} {n d : Int} {Ls : List CmdV} (hg : goodBal n d = true) (hw : ∀ v ∈ Ls, wfC v) (hl : goodL Ls = true) : openOk (putL (putL N kP (bytesN [n, d])) kV (bytesN [n, d] ++ bytesL Ls)) = true := by
  obtain ⟨hn, hd⟩ := goodBal_i64 hg
  obtain ⟨b1, b2, b3⟩ := balR_bytes hn hd (bytesL Ls)
  have hr := (readOk_of hw hl rfl).1
  unfold openOk
  simp only [lookB_put, if_neg kPV, if_neg kVP, if_true]
  unfold proOk votOk
  rw [(bal2 hn hd).2, hg, bytes2_len, b2, b3, hg, hr]; rfl
theorem bytesL_lenT (L : List Cmd) : (bytesL (vals L)).length = 8 * (1 + totE L) := by
  unfold bytesL numsL
  rw [bytesN_len, List.length_cons, numsCs_len]; omega
theorem used_accL (N : Ct) (n d : Int) (L : List Cmd) : usedL (putL (putL N kP (bytesN [n, d])) kV (bytesN [n, d] ++ bytesL (vals L))) ≤ usedL N + 51 + 8 * totE L := by
  have h0 := used_prep N n d
  generalize putL N kP (bytesN [n, d]) = N1 at h0
  have h1 := used_put N1 kV (bytesN [n, d] ++ bytesL (vals L))
  have h2 := used_del_le N1 kV
  rw [List.length_append, bytes2_len, bytesL_lenT] at h1
  rw [h1, show kV.size = 4 from rfl]; omega
theorem room_accL {N : Ct} {s : Int} {L : List Cmd} (h : (usedL N : Int) + 51 + 8 * (totE L : Int) ≤ s) (n d : Int) : putE (putL N kP (bytesN [n, d])) s kV (bytesN [n, d] ++ bytesL (vals L)).length = 0 := by
  have h0 := used_prep N n d
  generalize putL N kP (bytesN [n, d]) = N1 at h0
  refine putE_yes (by decide) (by decide) ?_
  have h2 := used_del_le N1 kV
  rw [List.length_append, bytes2_len, bytesL_lenT, show kV.size = 4 from rfl]; omega
theorem Cx_grow2 {w0 w' : World} {F0 : List Nat} {M : List (Nat × Obj)} {Fs : List (List Nat)} (h : Cx w0 F0 w' M Fs) (b : Nat) (hb : ∀ F ∈ Fs, ∀ x ∈ F, x < b) (hm : ∀ p ∈ M, p.1 < b) (hw : w0.heap.size ≤ b) {G R : List Nat} (hg : ∀ x ∈ G, b ≤ x ∧ x < w'.heap.size) (hr : ∀ x ∈ R, b ≤ x ∧ x < w'.heap.size) (hd : ∀ x ∈ G, x ∉ R) : Cx w0 F0 w' M (Fs ++ [G, R]) := by
  refine ⟨h.fr, h.has, h.nodup, ?_, ?_, ?_, h.ownM, ?_⟩
  · rw [List.pairwise_append]
    refine ⟨h.sep, by simpa using hd, fun A hA B hB x hx hxB => ?_⟩
    have hlt := hb A hA x hx
    simp only [List.mem_cons, List.not_mem_nil, or_false] at hB
    rcases hB with rfl | rfl
    · have := (hg x hxB).1; omega
    · have := (hr x hxB).1; omega
  · intro A hA p hp hx
    rcases List.mem_append.1 hA with hA | hA
    · exact h.apart A hA p hp hx
    · simp only [List.mem_cons, List.not_mem_nil, or_false] at hA
      have hlt := hm p hp
      rcases hA with rfl | rfl
      · have := (hg _ hx).1; omega
      · have := (hr _ hx).1; omega
  · intro A hA x hx
    rcases List.mem_append.1 hA with hA | hA
    · exact h.bound A hA x hx
    · simp only [List.mem_cons, List.not_mem_nil, or_false] at hA
      rcases hA with rfl | rfl
      · exact (hg x hx).2
      · exact (hr x hx).2
  · intro A hA x hx
    rcases List.mem_append.1 hA with hA | hA
    · exact h.ownF A hA x hx
    · simp only [List.mem_cons, List.not_mem_nil, or_false] at hA
      rcases hA with rfl | rfl
      · exact .inr (Nat.le_trans hw (hg x hx).1)
      · exact .inr (Nat.le_trans hw (hr x hx).1)
theorem Cx_setlt {w0 w : World} {F0 : List Nat} {M : List (Nat × Obj)} {Fs : List (List Nat)} (h : Cx w0 F0 w M Fs) (k : Nat) {b : Nat} {o o' : Obj} (hk : M[k]? = some (b, o)) : ∀ p ∈ M.set k (b, o'), p.1 < w.heap.size := by
  intro p hp
  rcases List.mem_or_eq_of_mem_set hp with h1 | h1
  · exact h.lt h1
  · have h2 : b < w.heap.size := h.lt (List.mem_of_getElem? hk)
    rw [h1]; exact h2
structure OpV where
  kind : Int
  bn : Int
  bd : Int
  la : Option Addr
  lc : Nat
  L : List Cmd
  ba : Option Addr
  bc : Nat
  bs : List (Int × Int)
def cellsV (o : OpV) : List Value := [.int .i64 o.kind, .int .i64 o.bn, .int .i64 o.bd, .slice o.la o.L.length o.lc, .slice o.ba o.bs.length o.bc]
theorem cellsV_len (o : OpV) : (cellsV o).length = 5 := rfl
structure opvAt (w : World) (o : OpV) : Prop where
  rd : Rd w 12 cellsC o.la o.L
  at_ : ∀ m ∈ o.L, cmdAt w m
  lim : o.L.length ≤ 1099511627776
  rb : Rd w 2 encBal o.ba o.bs
  bi : ∀ b ∈ o.bs, isI64 b.1 ∧ isI64 b.2
  bl : o.bs.length ≤ 1099511627776
  bc : o.bs.length ≤ o.bc
  bd : isI64 o.bd
theorem opened_no (size node : Int) (w : World) (h0 : 0 ≤ size) (h1 : size ≤ 67108864) (hw : isI64 node) (hm : mgrB node = false) : Calls Try.prog 19 #[.int .i64 size, .int .i64 node] w fun e w' => e = .returned (.tuple #[.pointer none, .pointer none]) ∧ Fr w w' [] := by
 refine enterD (n := 30) Try.func19 rfl rfl (Nat.le_of_ble_eq_true rfl) ?_
 intro Q0 hN hret hret'
 have hC := Cx.start w
 refine WCs (fun K1 hK2 => ?_)
 refine WCg (WLr 2 [(5, .pointer none), (4, .pointer none)] (fun _ => by kernel_rfl) (WLd rfl (QXn (hK2 _ _ ?_))))
 refine WCs (fun K3 hK4 => ?_)
 refine WCg (WLr 1 [(10, .int .i64 size)] (fun _ => by kernel_rfl) ?_)
 refine WLc rfl rfl rfl rfl rfl (by kernel_rfl) (New_ct size w (by omega) (by omega)) ?_
 rintro _ w8 ⟨p5, F6, rfl, hF7, hT10, hge11⟩
 have hC9 := hC.callN hF7 hge11 (stAt_lt hT10)
 refine ⟨_, rfl, ?_⟩
 refine WLr 5 [(7, .nilIface), (6, .pointer (some ⟨p5, 0, none⟩)), (13, .nilIface), (12, .pointer (some ⟨p5, 0, none⟩)), (9, .tuple #[.pointer (some ⟨p5, 0, none⟩), .nilIface])] (fun _ => by kernel_rfl) (WLd rfl (QXn (hK4 _ _ ?_)))
 refine WCs (fun K13 hK14 => ?_)
 refine WCs (fun K15 hK16 => ?_)
 refine WCg (WLr 6 [(19, .bool false), (18, .bool false), (17, .pointer (some ⟨p5, 0, none⟩)), (16, .bool false), (15, .bool false), (14, .nilIface)] (fun _ => by kernel_rfl) (WLd rfl (QXn (hK16 _ _ ?_))))
 refine WCf rfl (WC.skip (QXn (hK14 _ _ ?_)))
 refine WCs (fun K17 hK18 => ?_)
 refine WCg (WLr 2 [(22, .int .i64 node), (21, .pointer (some ⟨p5, 0, none⟩))] (fun _ => by kernel_rfl) ?_)
 refine WLc rfl rfl rfl rfl rfl (by kernel_rfl) (Open_form p5 node w8 hw hm) ?_
 rintro _ w20 ⟨rfl, hF19⟩
 refine ⟨_, rfl, ?_⟩
 have hC21 := hC9.call hF19
 refine WLr 5 [(7, .iface 35 (.int .i64 9)), (8, .pointer none), (25, .iface 35 (.int .i64 9)), (24, .pointer none), (20, .tuple #[.pointer none, .iface 35 (.int .i64 9)])] (fun _ => by kernel_rfl) (WLd rfl (QXn (hK18 _ _ ?_)))
 refine WCs (fun K23 hK24 => ?_)
 refine WCs (fun K25 hK26 => ?_)
 refine WCg (WLr 2 [(27, .bool true), (26, .iface 35 (.int .i64 9))] (fun _ => by kernel_rfl) (WLd rfl (QXn (hK26 _ _ ?_))))
 refine WCt rfl ?_
 refine WCs (fun K27 hK28 => ?_)
 refine WCg (WLr 2 [(5, .pointer none), (4, .pointer none)] (fun _ => by kernel_rfl) (WLd rfl (QXn (hK28 _ _ ?_))))
 refine WC.ret ?_
 refine QXr ?_
 refine (hret _ _ _ rfl ?_).1
 exact ⟨rfl, hC21.fr⟩

theorem ClaimVX (FA : List Nat) (p : Nat) (V : Vo) (sp : Nat) (N Y : Ct) (size : Int) (w : World) (hv : vsAt w FA p V sp N Y size) (A : Option Addr) (n c : Nat) (bs : List (Int × Int)) (hr : Rd w 2 encBal A bs) (hn : bs.length = n) (hl : n ≤ 1099511627776) : Calls Try.prog 34 #[.pointer (some ⟨p, 0, none⟩), .slice A n c] w fun e w' => ∃ x, e = .returned (.agg #[.int .i64 x, .int .i64 V.node]) ∧ x = claimN V (bs.map (·.1)) ∧ Fr w w' [] :=
  (ClaimVS FA p V sp N Y size w hv A n c bs hr hn hl).mono fun _ _ ⟨h1, h2⟩ => ⟨_, h1, rfl, h2⟩
theorem RClaimX (p : Nat) (V : Vo) (Am : Option Addr) (nm cm : Nat) (A : Option Addr) (c : Nat) (bs : List (Int × Int)) (w : World) (hp : w.heap[p]? = some (.cells #[.int .i64 V.node, .int .i64 V.pn, .int .i64 V.pd, .int .i64 V.an, .int .i64 V.ad, .slice Am nm cm] 84 (0, 0))) (hr : Rd w 2 encBal A bs) (hbl : bs.length ≤ 1099511627776) (h0 : 0 ≤ V.pn) : Calls Try.prog 38 #[.pointer (some ⟨p, 0, none⟩), .slice A bs.length c] w fun e w' => ∃ x, e = .returned (.agg #[.int .i64 x, .int .i64 V.node]) ∧ x = claimN V (bs.map (·.1)) ∧ Fr w w' [] :=
  (RClaim_ct p V Am nm cm A c bs w hp hr hbl h0).mono fun _ _ ⟨h1, h2⟩ => ⟨_, h1, rfl, h2⟩
theorem good_pos {n d : Int} (h : goodBal n d = true) : (0 : Int) ≤ n := by
  unfold goodBal at h
  rw [Bool.and_eq_true] at h
  have := of_decide_eq_true h.1
  omega
set_option maxHeartbeats 8000000 in
theorem VotePlays_ct (node : Int) (A : Option Addr) (c : Nat) (ops : List OpV) (w : World) (hw : isI64 node) (hr : Rd w 5 cellsV A ops) (hok : ∀ o ∈ ops, opvAt w o) (hol : ops.length ≤ 9223372036854775807) : Calls Try.prog 9 #[.int .i64 node, .slice A ops.length c] w fun e w' => e = .returned (.bool true) ∧ Fr w w' [] := by
 refine enterD (n := 224) Try.func9 rfl rfl (Nat.le_of_ble_eq_true rfl) ?_
 intro Q0 hN hret hret'
 have hC := Cx.start w
 refine WCs (fun K1 hK2 => ?_)
 refine WCg (WLr 1 [(4, .bool false)] (fun _ => by kernel_rfl) (WLd rfl (QXn (hK2 _ _ ?_))))
 refine WCs (fun K3 hK4 => ?_)
 refine WCs (fun K5 hK6 => ?_)
 refine WCg ?_
 refine WLc rfl rfl rfl rfl rfl (by kernel_rfl) (alive_ct w) ?_
 rintro _ w8 ⟨rfl, hF7⟩
 refine ⟨_, rfl, ?_⟩
 have hC9 := hC.call hF7
 refine WLr 1 [(27, .bool false)] (fun _ => by kernel_rfl) (WLd rfl (QXn (hK6 _ _ ?_)))
 refine WCf rfl (WC.skip (QXn (hK4 _ _ ?_)))
 refine WCs (fun K10 hK11 => ?_)
 refine WCs (fun K12 hK13 => ?_)
 refine WCg (WLr 3 [(30, .bool (decide ((ops.length : Int) > 60))), (29, .int .i64 (ops.length : Int)), (28, .slice A ops.length c)] (fun _ => by kernel_rfl) (WLd rfl (QXn (hK13 _ _ ?_))))
 refine WCa 30 (decide ((ops.length : Int) > 60)) rfl (fun t14b => ?_) (fun t14b => ?_)
 ·
  have t14 : (60 : Int) < (ops.length : Int) := by have q_ := of_decide_eq_true t14b; omega
  refine WCt rfl ?_
  refine WCs (fun K15 hK16 => ?_)
  refine WCg (WLr 1 [(4, .bool true)] (fun _ => by kernel_rfl) (WLd rfl (QXn (hK16 _ _ ?_))))
  refine WC.ret ?_
  refine QXr ?_
  refine (hret _ _ _ rfl ?_).1
  exact ⟨rfl, hC9.fr⟩
 ·
  have t14 : (ops.length : Int) ≤ 60 := by have q_ := of_decide_eq_false t14b; omega
  refine WCf rfl (WC.skip (QXn (hK11 _ _ ?_)))
  refine WCs (fun K17 hK18 => ?_)
  refine WCg (WLr 1 [(32, .int .i64 node)] (fun _ => by kernel_rfl) ?_)
  cases hm_ : mgrB node
  ·
   refine WLc rfl rfl rfl rfl rfl (by kernel_rfl) (opened_no 4194304 node w8 (by decide) (by decide) hw hm_) ?_
   rintro _ w20 ⟨rfl, hF19⟩
   refine ⟨_, rfl, ?_⟩
   have hC21 := hC9.call hF19
   refine WLr 5 [(6, .pointer none), (5, .pointer none), (35, .pointer none), (34, .pointer none), (31, .tuple #[.pointer none, .pointer none])] (fun _ => by kernel_rfl) (WLd rfl (QXn (hK18 _ _ ?_)))
   refine WCs (fun K22 hK23 => ?_)
   refine WCs (fun K24 hK25 => ?_)
   refine WCg (WLr 1 [(36, .int .i64 node)] (fun _ => by kernel_rfl) ?_)
   refine WLc rfl rfl rfl rfl rfl (by kernel_rfl) (RMan_ct node w20) ?_
   rintro _ w27 ⟨rfl, hF26⟩
   refine ⟨_, rfl, ?_⟩
   have hC28 := hC21.call hF26
   refine WLr 1 [(38, .bool (!(mgrB node)))] (fun _ => by kernel_rfl) (WLd rfl (QXn (hK25 _ _ ?_)))
   refine WC.know 38 (.bool (!(mgrB node))) (.bool true) rfl (congrArg Value.bool (by rw [hm_]; rfl)) ?_
   refine WCt rfl ?_
   refine WCs (fun K29 hK30 => ?_)
   refine WCg (WLr 3 [(4, .bool true), (40, .bool true), (39, .pointer none)] (fun _ => by kernel_rfl) (WLd rfl (QXn (hK30 _ _ ?_))))
   refine WC.ret ?_
   refine QXr ?_
   refine (hret _ _ _ rfl ?_).1
   exact ⟨rfl, hC28.fr⟩
  ·
   refine WLc rfl rfl rfl rfl rfl (by kernel_rfl) (opened_ct 4194304 node w8 (by decide) (by decide) hw hm_) ?_
   rintro _ w35 ⟨sp31, p32, FA33, rfl, hF34, hvs37, hg38⟩
   have hC36 := hC9.callN hF34 hg38 (vsAt_lt hvs37)
   refine ⟨_, rfl, ?_⟩
   refine WLr 5 [(6, .pointer (some ⟨p32, 0, none⟩)), (5, .pointer (some ⟨sp31, 0, none⟩)), (35, .pointer (some ⟨p32, 0, none⟩)), (34, .pointer (some ⟨sp31, 0, none⟩)), (31, .tuple #[.pointer (some ⟨sp31, 0, none⟩), .pointer (some ⟨p32, 0, none⟩)])] (fun _ => by kernel_rfl) (WLd rfl (QXn (hK18 _ _ ?_)))
   refine WCs (fun K39 hK40 => ?_)
   refine WCs (fun K41 hK42 => ?_)
   refine WCg (WLr 1 [(36, .int .i64 node)] (fun _ => by kernel_rfl) ?_)
   refine WLc rfl rfl rfl rfl rfl (by kernel_rfl) (RMan_ct node w35) ?_
   rintro _ w44 ⟨rfl, hF43⟩
   refine ⟨_, rfl, ?_⟩
   have hC45 := hC36.call hF43
   have hvs46 := vsAt_fr hvs37 hF43 (by simp)
   refine WLr 1 [(38, .bool (!(mgrB node)))] (fun _ => by kernel_rfl) (WLd rfl (QXn (hK42 _ _ ?_)))
   refine WC.know 38 (.bool (!(mgrB node))) (.bool false) rfl (congrArg Value.bool (by rw [hm_]; rfl)) ?_
   refine WCf rfl (WC.skip (QXn (hK40 _ _ ?_)))
   refine WCs (fun K47 hK48 => ?_)
   refine WCs (fun K49 hK50 => ?_)
   refine WCg (WLr 6 [(46, .bool false), (45, .bool false), (44, .pointer (some ⟨p32, 0, none⟩)), (43, .bool false), (42, .bool false), (41, .pointer (some ⟨sp31, 0, none⟩))] (fun _ => by kernel_rfl) (WLd rfl (QXn (hK50 _ _ ?_))))
   refine WCf rfl (WC.skip (QXn (hK48 _ _ ?_)))
   refine WCs (fun K51 hK52 => ?_)
   refine WCg (WLr 2 [(48, .agg #[.int .i64 node, .int .i64 0, .int .i64 0, .int .i64 0, .int .i64 0, .slice none 0 0]), (47, .int .i64 node)] (fun _ => by kernel_rfl) ?_)
   refine WL.newM hC45 (fun b => .pointer (some ⟨b, 0, none⟩)) (.cells #[.int .i64 node, .int .i64 0, .int .i64 0, .int .i64 0, .int .i64 0, .slice none 0 0] 84) 49 (fun _ => by kernel_rfl) (fun g53 w54 hb57 hF55 hC56 => ?_)
   have hvs58 := vsAt_fr hvs46 hF55 (by simp)
   refine WLr 1 [(7, .pointer (some ⟨g53, 0, none⟩))] (fun _ => by kernel_rfl) (WLd rfl (QXn (hK52 _ _ ?_)))
   refine WCs (fun K59 hK60 => ?_)
   refine WCs (fun K61 hK62 => ?_)
   refine WCg (WLr 3 [(52, .int .i64 0), (51, .int .i64 (ops.length : Int)), (50, .slice A ops.length c)] (fun _ => by kernel_rfl) (WLd rfl (QXn (hK62 _ _ ?_))))
   refine WC.block ?_
   have hC63 := hC56.addNil
   have hC64 := hC63.addNil
   have hl65 : logIn w54 (blk (.slice none 0 0)) [] := logIn.nil _ _
   refine WC.loop (fun m_ E_ w_ => ∃ (i : Nat) (FA : List Nat) (V : Vo) (N : Ct) (pv : Nat) (Am : Option Addr) (nm cm : Nat) (Lm : List Cmd) (Rm : List Nat), m_ = ops.length - i ∧ E_ = [(0, .int .i64 node), (1, .slice A ops.length c), (5, .pointer (some ⟨sp31, 0, none⟩)), (6, .pointer (some ⟨pv, 0, none⟩)), (7, .pointer (some ⟨g53, 0, none⟩)), (50, .slice A ops.length c), (51, .int .i64 (ops.length : Int)), (52, .int .i64 (i : Int))] ∧ Cx w [] w_ [(g53, .cells #[.int .i64 V.node, .int .i64 V.pn, .int .i64 V.pd, .int .i64 V.an, .int .i64 V.ad, .slice Am nm cm] 84)] [FA, blk (.slice Am nm cm), Rm] ∧ vsAt w_ FA pv V sp31 N N 4194304 ∧ World.ownsRow w_ 0 61 12 (.slice Am nm cm) nm (Lm.flatMap cellsC) ∧ logIn w_ Rm Lm ∧ (i ≤ ops.length ∧ V.node = node ∧ openV N node = V ∧ openOk N = true ∧ usedL N ≤ 40000 * i ∧ 0 ≤ V.pn ∧ vals Lm = V.log ∧ Lm.length ≤ 1099511627776)) ⟨_, _, ⟨0, FA33, (⟨0, 0, 0, 0, [], node⟩ : Vo), [], p32, none, 0, 0, [], (blk (.slice none 0 0)), rfl, rfl, hC64, hvs58, own_nil _ _ _ _, hl65, Nat.zero_le _, rfl, rfl, (by decide), Nat.le_refl _, Int.le_refl _, rfl, Nat.zero_le _⟩, sub_of ⟨rfl, rfl, rfl, rfl, rfl, rfl, rfl, rfl, trivial⟩⟩ (fun m69 E_ w70 K66 hK67 hI68 => ?_)
   obtain ⟨i, FA, V, N, pv, Am, nm, cm, Lm, Rm, rfl, rfl, hC71, hvs, hmrow, hmlog, hi, hnode, hopV, hook, hus, hpn, hmv, hml⟩ := hI68
   refine WCs (fun K72 hK73 => ?_)
   refine WCg (WLr 1 [(53, .bool (decide ((i : Int) < (ops.length : Int))))] (fun _ => by kernel_rfl) (WLd rfl (QXn (hK73 _ _ ?_))))
   refine WCs (fun K74 hK75 => ?_)
   refine WCa 53 (decide ((i : Int) < (ops.length : Int))) rfl (fun t76b => ?_) (fun t76b => ?_)
   ·
    have t76 : (i : Int) < (ops.length : Int) := by have q_ := of_decide_eq_true t76b; omega
    refine WCt rfl ?_
    refine WC.skip ?_
    refine QXn (hK75 _ _ ?_)
    refine WCs (fun K77 hK78 => ?_)
    refine WC.block ?_
    refine WCs (fun K79 hK80 => ?_)
    refine WCg ?_
    obtain ⟨e81, he82⟩ := get_some (xs := ops) (i := i) (by omega)
    obtain ⟨b83, o85, hA84, hc86⟩ := hr.at_ _ _ he82
    have hok_e81 := hok _ (List.mem_of_getElem? he82)
    refine WLi A ops.length c 54 .i64 (i : Int) b83 o85 i 5 (by kernel_rfl) hA84 (by omega) (by omega) (o85 + i * 5) (by first | (simp; done) | omega) ?_
    refine WL.load 86 (.pointer (some ⟨b83, o85 + i * 5, none⟩)) (.agg #[.int .i64 e81.kind, .int .i64 e81.bn, .int .i64 e81.bd, .slice e81.la e81.L.length e81.lc, .slice e81.ba e81.bs.length e81.bc]) 55 (by kernel_rfl) (run_rdN (l := [.int .i64 e81.kind, .int .i64 e81.bn, .int .i64 e81.bd, .slice e81.la e81.L.length e81.lc, .slice e81.ba e81.bs.length e81.bc]) rfl rfl (fun j u hu => by have hq_ := hC71.fr.cell (hc86 j u hu) (by simp); simpa [Nat.add_assoc] using hq_)) ?_
    refine WL.newM hC71 (fun b => .pointer (some ⟨b, 0, none⟩)) (.cells #[.int .i64 0, .int .i64 0, .int .i64 0, .slice none 0 0, .slice none 0 0] 86) 9 (fun _ => by kernel_rfl) (fun g87 w88 hb91 hF89 hC90 => ?_)
    have hvs92 := vsAt_fr hvs hF89 (by simp)
    have ho93 := own_fr hmrow hF89 (by simp)
    have hl94 := logIn.fr hmlog hF89 (by simp)
    refine WLs (c' := #[.int .i64 e81.kind, .int .i64 e81.bn, .int .i64 e81.bd, .slice e81.la e81.L.length e81.lc, .slice e81.ba e81.bs.length e81.bc]) hC90 1 86 g87 0 (.agg #[.int .i64 e81.kind, .int .i64 e81.bn, .int .i64 e81.bd, .slice e81.la e81.L.length e81.lc, .slice e81.ba e81.bs.length e81.bc]) (by kernel_rfl) rfl (by kernel_rfl) (fun w95 hF97 hC98 => ?_)
    have hvs99 := vsAt_fr hvs92 hF97 (hC90.apartM 0 1 rfl rfl)
    have ho100 := own_fr ho93 hF97 (hC90.apartM 1 1 rfl rfl)
    have hl101 := logIn.fr hl94 hF97 (hC90.apartM 2 1 rfl rfl)
    refine WLd rfl (QXn (hK80 _ _ ?_))
    refine WCs (fun K102 hK103 => ?_)
    refine WCs (fun K104 hK105 => ?_)
    refine WCg (WLr 1 [(56, .pointer (some ⟨g87, 3, none⟩))] (fun _ => by kernel_rfl) ?_)
    refine WL.load 25 (.pointer (some ⟨g87, 3, none⟩)) (.slice e81.la e81.L.length e81.lc) 57 (by kernel_rfl) (run_ld (hC98.get 1 rfl) rfl) ?_
    refine WLc rfl rfl rfl rfl rfl (by kernel_rfl) (large_ct e81.la e81.lc e81.L w95 (Rd.fr hok_e81.rd hC98.fr) (fun m_ h_ => cmdAt.fr0 (hok_e81.at_ m_ h_) hC98.fr) (Nat.le_trans hok_e81.lim (by decide))) ?_
    rintro _ w109 ⟨lgb106, rfl, hF108, hlg107⟩
    refine ⟨_, rfl, ?_⟩
    have hC110 := hC98.call hF108
    have hvs111 := vsAt_fr hvs99 hF108 (by simp)
    have ho112 := own_fr ho100 hF108 (by simp)
    have hl113 := logIn.fr hl101 hF108 (by simp)
    refine WLr 1 [(59, .bool lgb106)] (fun _ => by kernel_rfl) ?_
    refine WLa 59 (lgb106) rfl (fun t114b => ?_) (fun t114b => ?_)
    ·
     refine WLr 5 [(64, .bool true), (63, undef), (62, undef), (61, undef), (60, undef)] (fun _ => by kernel_rfl) (WLd rfl (QXn (hK105 _ _ ?_)))
     refine WCt rfl ?_
     refine WCs (fun K115 hK116 => ?_)
     refine WCg (WLr 1 [(4, .bool true)] (fun _ => by kernel_rfl) (WLd rfl (QXn (hK116 _ _ ?_))))
     refine WC.ret ?_
     refine QXr ?_
     refine QXk ?_
     refine QXr ?_
     refine QXr ?_
     refine QXk ?_
     refine QXr ?_
     refine (hret _ _ _ rfl ?_).1
     exact ⟨rfl, hC110.fr⟩
    ·
     refine WLr 1 [(60, .pointer (some ⟨g87, 4, none⟩))] (fun _ => by kernel_rfl) ?_
     refine WL.load 43 (.pointer (some ⟨g87, 4, none⟩)) (.slice e81.ba e81.bs.length e81.bc) 61 (by kernel_rfl) (run_ld (hC110.get 1 rfl) rfl) ?_
     refine WLr 3 [(64, .bool (decide ((e81.bs.length : Int) > 100))), (63, .bool (decide ((e81.bs.length : Int) > 100))), (62, .int .i64 (e81.bs.length : Int))] (fun _ => by kernel_rfl) (WLd rfl (QXn (hK105 _ _ ?_)))
     refine WCa 64 (decide ((e81.bs.length : Int) > 100)) rfl (fun t117b => ?_) (fun t117b => ?_)
     ·
      have t117 : (100 : Int) < (e81.bs.length : Int) := by have q_ := of_decide_eq_true t117b; omega
      refine WCt rfl ?_
      refine WCs (fun K118 hK119 => ?_)
      refine WCg (WLr 1 [(4, .bool true)] (fun _ => by kernel_rfl) (WLd rfl (QXn (hK119 _ _ ?_))))
      refine WC.ret ?_
      refine QXr ?_
      refine QXk ?_
      refine QXr ?_
      refine QXr ?_
      refine QXk ?_
      refine QXr ?_
      refine (hret _ _ _ rfl ?_).1
      exact ⟨rfl, hC110.fr⟩
     ·
      have t117 : (e81.bs.length : Int) ≤ 100 := by have q_ := of_decide_eq_false t117b; omega
      have htb_ := hlg107 (by assumption)
      have htl_ := totE_len e81.L
      refine WCf rfl (WC.skip (QXn (hK103 _ _ ?_)))
      refine WCs (fun K120 hK121 => ?_)
      refine WCg (WLr 1 [(10, .bool false)] (fun _ => by kernel_rfl) (WLd rfl (QXn (hK121 _ _ ?_))))
      refine WCs (fun K122 hK123 => ?_)
      refine WCs (fun K124 hK125 => ?_)
      refine WCg (WLr 1 [(65, .pointer (some ⟨g87, 0, none⟩))] (fun _ => by kernel_rfl) ?_)
      refine WL.load 3 (.pointer (some ⟨g87, 0, none⟩)) (.int .i64 e81.kind) 66 (by kernel_rfl) (run_ld (hC110.get 1 rfl) rfl) ?_
      refine WLd rfl (QXn (hK125 _ _ ?_))
      refine WC.block ?_
      refine WCs (fun K126 hK127 => ?_)
      refine WCg (WLr 2 [(82, .bool (e81.kind == 0)), (83, .bool (e81.kind == 0))] (fun _ => by kernel_rfl) (WLd rfl (QXn (hK127 _ _ ?_))))
      refine WCa 82 (e81.kind == 0) rfl (fun t128b => ?_) (fun t128b => ?_)
      ·
       have t128 : e81.kind = 0 := by simpa using t128b
       refine WCt rfl ?_
       refine WCs (fun K129 hK130 => ?_)
       refine WCg (WLr 2 [(86, .pointer (some ⟨g87, 1, none⟩)), (85, .pointer (some ⟨pv, 0, none⟩))] (fun _ => by kernel_rfl) ?_)
       refine WL.load 50 (.pointer (some ⟨g87, 1, none⟩)) (.agg #[.int .i64 e81.bn, .int .i64 e81.bd]) 87 (by kernel_rfl) (run_ld (hC110.get 1 rfl) rfl) ?_
       rcases Classical.em (askedE V e81.bn e81.bd = 0) with hE131 | hE131
       ·
        refine WLc rfl rfl rfl rfl rfl (by kernel_rfl) (PrepVS_yes FA pv V sp31 N N 4194304 w109 hvs111 e81.bn e81.bd hok_e81.bd hE131 (room_prep (by omega))) ?_
        rintro _ w146 ⟨A132, c133, L134, R135, FA136, rfl, hF137, hvs138, hsub139, hdj140, ho141, hli142, hvv143, hRg144, hgr145⟩
        have hC147 := callFLog hC110 0 rfl hF137 hsub139 (vsAt_lt hvs138) (own_ge ho141) (own_lt ho141) hRg144 hgr145 hdj140
        refine ⟨_, rfl, ?_⟩
        have ho148 := own_fr ho112 hF137 (hC110.disj 1 0 rfl rfl (by decide))
        have hl149 := logIn.fr hl113 hF137 (hC110.disj 2 0 rfl rfl (by decide))
        have ho150 := own_base (b' := 0) ho141 (fun _ _ => Nat.zero_le _)
        have hvvN_L134 : vals L134 = (V.log : List CmdV) := hvv143
        have hll_L134 : L134.length = (V.log : List CmdV).length := by rw [← vals_len, hvvN_L134]
        have hvsN152 : vsAt w146 FA136 pv (⟨e81.bn, e81.bd, V.an, V.ad, V.log, V.node⟩ : Vo) sp31 (putL N kP (bytesN [e81.bn, e81.bd])) (putL N kP (bytesN [e81.bn, e81.bd])) 4194304 := hvs138
        refine WLr 4 [(91, .nilIface), (90, .slice A132 L134.length c133), (89, .agg #[.int .i64 V.an, .int .i64 V.ad]), (84, .tuple #[.agg #[.int .i64 V.an, .int .i64 V.ad], .slice A132 L134.length c133, .nilIface])] (fun _ => by kernel_rfl) ?_
        refine WL.newM hC147 (fun b => .pointer (some ⟨b, 0, none⟩)) (.cells #[.int .i64 0, .int .i64 0] 50) 11 (fun _ => by kernel_rfl) (fun g153 w154 hb157 hF155 hC156 => ?_)
        have hvs158 := vsAt_fr hvsN152 hF155 (by simp)
        have ho159 := own_fr ho148 hF155 (by simp)
        have hl160 := logIn.fr hl149 hF155 (by simp)
        have ho161 := own_fr ho150 hF155 (by simp)
        have hl162 := logIn.fr hli142 hF155 (by simp)
        refine WLs (c' := #[.int .i64 V.an, .int .i64 V.ad]) hC156 2 50 g153 0 (.agg #[.int .i64 V.an, .int .i64 V.ad]) (by kernel_rfl) rfl (by kernel_rfl) (fun w163 hF165 hC166 => ?_)
        have hvs167 := vsAt_fr hvs158 hF165 (hC156.apartM 0 2 rfl rfl)
        have ho168 := own_fr ho159 hF165 (hC156.apartM 1 2 rfl rfl)
        have hl169 := logIn.fr hl160 hF165 (hC156.apartM 2 2 rfl rfl)
        have ho170 := own_fr ho161 hF165 (hC156.apartM 3 2 rfl rfl)
        have hl171 := logIn.fr hl162 hF165 (hC156.apartM 4 2 rfl rfl)
        refine WLr 2 [(13, .nilIface), (12, .slice A132 L134.length c133)] (fun _ => by kernel_rfl) (WLd rfl (QXn (hK130 _ _ ?_)))
        refine WCs (fun K172 hK173 => ?_)
        refine WCg (WLr 2 [(94, .pointer (some ⟨g87, 1, none⟩)), (93, .pointer (some ⟨g53, 0, none⟩))] (fun _ => by kernel_rfl) ?_)
        refine WL.load 50 (.pointer (some ⟨g87, 1, none⟩)) (.agg #[.int .i64 e81.bn, .int .i64 e81.bd]) 95 (by kernel_rfl) (run_ld (hC166.get 1 rfl) rfl) ?_
        refine WLc rfl rfl rfl rfl rfl (by kernel_rfl) (RPrep_yes g53 V Am nm cm e81.bn e81.bd w163 (hC166.get 0 rfl) hE131) ?_
        rintro _ w175 ⟨rfl, hF174, hp176⟩
        have hC177 := hC166.callM 0 rfl hF174 hp176
        refine ⟨_, rfl, ?_⟩
        have hvs178 := vsAt_fr hvs167 hF174 (hC166.apartM 0 0 rfl rfl)
        have ho179 := own_fr ho168 hF174 (hC166.apartM 1 0 rfl rfl)
        have hl180 := logIn.fr hl169 hF174 (hC166.apartM 2 0 rfl rfl)
        have ho181 := own_fr ho170 hF174 (hC166.apartM 3 0 rfl rfl)
        have hl182 := logIn.fr hl171 hF174 (hC166.apartM 4 0 rfl rfl)
        refine WLr 4 [(99, .int .i64 0), (98, .slice Am nm cm), (97, .agg #[.int .i64 V.an, .int .i64 V.ad]), (92, .tuple #[.agg #[.int .i64 V.an, .int .i64 V.ad], .slice Am nm cm, .int .i64 0])] (fun _ => by kernel_rfl) ?_
        refine WL.newM hC177 (fun b => .pointer (some ⟨b, 0, none⟩)) (.cells #[.int .i64 0, .int .i64 0] 50) 14 (fun _ => by kernel_rfl) (fun g183 w184 hb187 hF185 hC186 => ?_)
        have hvs188 := vsAt_fr hvs178 hF185 (by simp)
        have ho189 := own_fr ho179 hF185 (by simp)
        have hl190 := logIn.fr hl180 hF185 (by simp)
        have ho191 := own_fr ho181 hF185 (by simp)
        have hl192 := logIn.fr hl182 hF185 (by simp)
        refine WLs (c' := #[.int .i64 V.an, .int .i64 V.ad]) hC186 3 50 g183 0 (.agg #[.int .i64 V.an, .int .i64 V.ad]) (by kernel_rfl) rfl (by kernel_rfl) (fun w193 hF195 hC196 => ?_)
        have hvs197 := vsAt_fr hvs188 hF195 (hC186.apartM 0 3 rfl rfl)
        have ho198 := own_fr ho189 hF195 (hC186.apartM 1 3 rfl rfl)
        have hl199 := logIn.fr hl190 hF195 (hC186.apartM 2 3 rfl rfl)
        have ho200 := own_fr ho191 hF195 (hC186.apartM 3 3 rfl rfl)
        have hl201 := logIn.fr hl192 hF195 (hC186.apartM 4 3 rfl rfl)
        refine WLr 2 [(16, .int .i64 0), (15, .slice Am nm cm)] (fun _ => by kernel_rfl) (WLd rfl (QXn (hK173 _ _ ?_)))
        refine WCs (fun K202 hK203 => ?_)
        refine WCg ?_
        refine WL.load 50 (.pointer (some ⟨g153, 0, none⟩)) (.agg #[.int .i64 V.an, .int .i64 V.ad]) 100 (by kernel_rfl) (run_ld (hC196.get 2 rfl) rfl) ?_
        refine WL.load 50 (.pointer (some ⟨g183, 0, none⟩)) (.agg #[.int .i64 V.an, .int .i64 V.ad]) 101 (by kernel_rfl) (run_ld (hC196.get 3 rfl) rfl) ?_
        have hr204 : ∀ w_, Sem.run Try.prog (do eqGuard .eql 50 (Operand.tmp 100) (Operand.tmp 101) (.agg #[.int .i64 V.an, .int .i64 V.ad]) (.agg #[.int .i64 V.an, .int .i64 V.ad]); binOp .eql 50 (.agg #[.int .i64 V.an, .int .i64 V.ad]) (.agg #[.int .i64 V.an, .int .i64 V.ad])) w_ = .ok (.bool (V.an == V.an && (V.ad == V.ad && true))) w_ := fun w_ => (run_eql_S (by kernel_rfl))
        refine WL.sem (do eqGuard .eql 50 (Operand.tmp 100) (Operand.tmp 101) (.agg #[.int .i64 V.an, .int .i64 V.ad]) (.agg #[.int .i64 V.an, .int .i64 V.ad]); binOp .eql 50 (.agg #[.int .i64 V.an, .int .i64 V.ad]) (.agg #[.int .i64 V.an, .int .i64 V.ad])) 102 (.bool (V.an == V.an && (V.ad == V.ad && true))) (by kernel_rfl) (hr204 _) ?_
        refine WLr 1 [(103, .bool (V.an == V.an && (V.ad == V.ad && true)))] (fun _ => by kernel_rfl) ?_
        refine WL.know 103 (.bool (V.an == V.an && (V.ad == V.ad && true))) (.bool true) rfl (congrArg Value.bool (by simp [hvvN_L134, hmv])) ?_
        refine WLr 2 [(105, .slice Am nm cm), (104, .slice A132 L134.length c133)] (fun _ => by kernel_rfl) ?_
        refine WLc rfl rfl rfl rfl rfl (by kernel_rfl) (RSame_n A132 Am L134.length c133 nm cm L134 Lm w193 (own_rd ho200 cellsC_len (by decide)) (own_rd ho198 cellsC_len (by decide)) rfl (own_count cellsC_len (by decide) ho198) (fun m_ h_ => hl201.at_ m_ h_) (fun m_ h_ => hl199.at_ m_ h_) (by have z_ := congrArg List.length (hvvN_L134); rw [vals_len] at z_; first | (have z2_ := vs_loglen hvs; omega) | (rw [vals_len] at z_; omega) | (simp only [vals_len] at z_; omega))) ?_
        rintro _ w206 ⟨rfl, hF205⟩
        refine ⟨_, rfl, ?_⟩
        have hC207 := hC196.call hF205
        have hvs208 := vsAt_fr hvs197 hF205 (by simp)
        have ho209 := own_fr ho198 hF205 (by simp)
        have hl210 := logIn.fr hl199 hF205 (by simp)
        have ho211 := own_fr ho200 hF205 (by simp)
        have hl212 := logIn.fr hl201 hF205 (by simp)
        refine WLr 2 [(108, .bool (decide (vals L134 = vals Lm))), (107, .bool (decide (vals L134 = vals Lm)))] (fun _ => by kernel_rfl) ?_
        refine WL.know 108 (.bool (decide (vals L134 = vals Lm))) (.bool true) rfl (congrArg Value.bool (by simp [hvvN_L134, hmv])) ?_
        refine WLr 1 [(109, .nilIface)] (fun _ => by kernel_rfl) ?_
        refine WLc rfl rfl rfl rfl rfl (by kernel_rfl) (Num_nil w206) ?_
        rintro _ w214 ⟨rfl, hF213⟩
        refine ⟨_, rfl, ?_⟩
        have hC215 := hC207.call hF213
        have hvs216 := vsAt_fr hvs208 hF213 (by simp)
        have ho217 := own_fr ho209 hF213 (by simp)
        have hl218 := logIn.fr hl210 hF213 (by simp)
        have ho219 := own_fr ho211 hF213 (by simp)
        have hl220 := logIn.fr hl212 hF213 (by simp)
        refine WLr 4 [(10, .bool true), (113, .bool true), (112, .bool true), (111, .int .i64 0)] (fun _ => by kernel_rfl) (WLd rfl (QXn (hK203 _ _ ?_)))
        refine WCs (fun K221 hK222 => ?_)
        refine WCg (WLr 3 [(116, .int .i64 0), (115, .int .i64 (L134.length : Int)), (114, .slice A132 L134.length c133)] (fun _ => by kernel_rfl) (WLd rfl (QXn (hK222 _ _ ?_))))
        refine WC.block ?_
        refine WC.loop (fun m_ E_ w_ => ∃ (kz : Nat) (Lz : List Cmd), m_ = L134.length - kz ∧ E_ = [(0, .int .i64 node), (1, .slice A ops.length c), (5, .pointer (some ⟨sp31, 0, none⟩)), (6, .pointer (some ⟨pv, 0, none⟩)), (7, .pointer (some ⟨g53, 0, none⟩)), (9, .pointer (some ⟨g87, 0, none⟩)), (10, .bool true), (11, .pointer (some ⟨g153, 0, none⟩)), (12, .slice A132 L134.length c133), (13, .nilIface), (14, .pointer (some ⟨g183, 0, none⟩)), (15, .slice Am nm cm), (16, .int .i64 0), (50, .slice A ops.length c), (51, .int .i64 (ops.length : Int)), (52, .int .i64 (i : Int)), (53, .bool true), (54, .pointer (some ⟨b83, o85 + i * 5, none⟩)), (55, .agg #[.int .i64 e81.kind, .int .i64 e81.bn, .int .i64 e81.bd, .slice e81.la e81.L.length e81.lc, .slice e81.ba e81.bs.length e81.bc]), (56, .pointer (some ⟨g87, 3, none⟩)), (57, .slice e81.la e81.L.length e81.lc), (58, .bool lgb106), (59, .bool false), (60, .pointer (some ⟨g87, 4, none⟩)), (61, .slice e81.ba e81.bs.length e81.bc), (62, .int .i64 (e81.bs.length : Int)), (63, .bool (decide ((e81.bs.length : Int) > 100))), (64, .bool false), (65, .pointer (some ⟨g87, 0, none⟩)), (66, .int .i64 e81.kind), (82, .bool true), (83, .bool (e81.kind == 0)), (84, .tuple #[.agg #[.int .i64 V.an, .int .i64 V.ad], .slice A132 L134.length c133, .nilIface]), (85, .pointer (some ⟨pv, 0, none⟩)), (86, .pointer (some ⟨g87, 1, none⟩)), (87, .agg #[.int .i64 e81.bn, .int .i64 e81.bd]), (88, .tuple #[.agg #[.int .i64 V.an, .int .i64 V.ad], .slice A132 L134.length c133, .nilIface]), (89, .agg #[.int .i64 V.an, .int .i64 V.ad]), (90, .slice A132 L134.length c133), (91, .nilIface), (92, .tuple #[.agg #[.int .i64 V.an, .int .i64 V.ad], .slice Am nm cm, .int .i64 0]), (93, .pointer (some ⟨g53, 0, none⟩)), (94, .pointer (some ⟨g87, 1, none⟩)), (95, .agg #[.int .i64 e81.bn, .int .i64 e81.bd]), (96, .tuple #[.agg #[.int .i64 V.an, .int .i64 V.ad], .slice Am nm cm, .int .i64 0]), (97, .agg #[.int .i64 V.an, .int .i64 V.ad]), (98, .slice Am nm cm), (99, .int .i64 0), (100, .agg #[.int .i64 V.an, .int .i64 V.ad]), (101, .agg #[.int .i64 V.an, .int .i64 V.ad]), (102, .bool (V.an == V.an && (V.ad == V.ad && true))), (103, .bool true), (104, .slice A132 L134.length c133), (105, .slice Am nm cm), (106, .bool (decide (vals L134 = vals Lm))), (107, .bool (decide (vals L134 = vals Lm))), (108, .bool true), (109, .nilIface), (110, .int .i64 0), (111, .int .i64 0), (112, .bool true), (113, .bool true), (114, .slice A132 L134.length c133), (115, .int .i64 (L134.length : Int)), (116, .int .i64 (kz : Int))] ∧ Cx w [] w_ [(g53, .cells #[.int .i64 V.node, .int .i64 e81.bn, .int .i64 e81.bd, .int .i64 V.an, .int .i64 V.ad, .slice Am nm cm] 84), (g87, .cells #[.int .i64 e81.kind, .int .i64 e81.bn, .int .i64 e81.bd, .slice e81.la e81.L.length e81.lc, .slice e81.ba e81.bs.length e81.bc] 86), (g153, .cells #[.int .i64 V.an, .int .i64 V.ad] 50), (g183, .cells #[.int .i64 V.an, .int .i64 V.ad] 50)] [FA136, blk (.slice Am nm cm), Rm, blk (.slice A132 L134.length c133), R135] ∧ vsAt w_ FA136 pv (⟨e81.bn, e81.bd, V.an, V.ad, V.log, V.node⟩ : Vo) sp31 (putL N kP (bytesN [e81.bn, e81.bd])) (putL N kP (bytesN [e81.bn, e81.bd])) 4194304 ∧ World.ownsRow w_ 0 61 12 (.slice Am nm cm) nm (Lm.flatMap cellsC) ∧ logIn w_ Rm Lm ∧ logIn w_ R135 L134 ∧ World.ownsRow w_ 0 61 12 (.slice A132 L134.length c133) L134.length (Lz.flatMap cellsC) ∧ (kz ≤ L134.length ∧ Lz.length = L134.length)) ⟨_, _, ⟨0, L134, rfl, rfl, hC215, hvs216, ho217, hl218, hl220, ho219, Nat.zero_le _, rfl⟩, sub_of ⟨rfl, rfl, rfl, rfl, rfl, rfl, rfl, rfl, rfl, rfl, rfl, rfl, rfl, rfl, rfl, rfl, rfl, rfl, rfl, rfl, rfl, rfl, rfl, rfl, rfl, rfl, rfl, rfl, rfl, rfl, rfl, rfl, rfl, rfl, rfl, rfl, rfl, rfl, rfl, rfl, rfl, rfl, rfl, rfl, rfl, rfl, rfl, rfl, rfl, rfl, rfl, rfl, rfl, rfl, rfl, rfl, rfl, rfl, rfl, rfl, rfl, rfl, rfl, rfl, rfl, trivial⟩⟩ (fun m226 E_ w227 K223 hK224 hI225 => ?_)
        obtain ⟨kz, Lz, rfl, rfl, hC228, vs_m226, mrow_m226, mlog_m226, lg151_m226, hzrow, hkz, hlz⟩ := hI225
        have hzb_ : L134.length ≤ 1099511627776 := (by have z_ := congrArg List.length (hvvN_L134); rw [vals_len] at z_; first | (have z2_ := vs_loglen hvs; omega) | (rw [vals_len] at z_; omega) | (simp only [vals_len] at z_; omega))
        refine WCs (fun K229 hK230 => ?_)
        refine WCg (WLr 1 [(117, .bool (decide ((kz : Int) < (L134.length : Int))))] (fun _ => by kernel_rfl) (WLd rfl (QXn (hK230 _ _ ?_))))
        refine WCs (fun K231 hK232 => ?_)
        refine WCa 117 (decide ((kz : Int) < (L134.length : Int))) rfl (fun t233b => ?_) (fun t233b => ?_)
        ·
         have t233 : (kz : Int) < (L134.length : Int) := by have q_ := of_decide_eq_true t233b; omega
         refine WCt rfl ?_
         refine WC.skip ?_
         refine QXn (hK232 _ _ ?_)
         refine WCs (fun K234 hK235 => ?_)
         refine WC.block ?_
         refine WCs (fun K236 hK237 => ?_)
         refine WCg (WLr 2 [(17, .int .i64 (kz : Int)), (118, .int .i64 (kz : Int))] (fun _ => by kernel_rfl) (WLd rfl (QXn (hK237 _ _ ?_))))
         refine WCg (WLr 3 [(121, .agg #[.int .i64 0, .int .i64 0, .int .i64 0, .int .i64 0, .int .i64 0, .int .u32 0, .int .i64 0, .int .i64 0, .slice none 0 0, .int .u32 0, .int .u32 0, .bool false]), (120, .int .i64 (kz : Int)), (119, .slice A132 L134.length c133)] (fun _ => by kernel_rfl) ?_)
         have hn242 := own_count cellsC_len (by decide) hzrow
         obtain ⟨e238, he239⟩ := get_some (xs := Lz) (i := kz) (by omega)
         obtain ⟨b240, hA241⟩ := own_addr (by decide) cellsC_len hzrow he239
         refine WLi A132 L134.length c133 122 .i64 (kz : Int) b240 0 kz 12 (by kernel_rfl) hA241 (by omega) (by omega) (kz * 12) (by first | (simp; done) | omega) ?_
         obtain ⟨w243, hr244, hF245, ho247, hC246⟩ := stoE_run Try.prog cellsC_len hC228 3 hA241 rfl hzrow kz 0 (x := e238) he239 (⟨⟨0, 0, 0, 0, 0, 0, 0, 0, [], 0, 0, false⟩, none, 0⟩ : Cmd) [.int .i64 0, .int .i64 0, .int .i64 0, .int .i64 0, .int .i64 0, .int .u32 0, .int .i64 0, .int .i64 0, .slice none 0 0, .int .u32 0, .int .u32 0, .bool false] rfl 61 (.agg #[.int .i64 0, .int .i64 0, .int .i64 0, .int .i64 0, .int .i64 0, .int .u32 0, .int .i64 0, .int .i64 0, .slice none 0 0, .int .u32 0, .int .u32 0, .bool false]) (kz * 12) rfl rfl rfl (by first | rfl | simp [Nat.add_assoc])
         refine WL.semU (Instr.storeAt 61 (.pointer (some ⟨b240, kz * 12, none⟩)) (.agg #[.int .i64 0, .int .i64 0, .int .i64 0, .int .i64 0, .int .i64 0, .int .u32 0, .int .i64 0, .int .i64 0, .slice none 0 0, .int .u32 0, .int .u32 0, .bool false])) (by kernel_rfl) hr244 ?_
         have hvs248 := vsAt_fr vs_m226 hF245 (hC228.disj 0 3 rfl rfl (by decide))
         have ho249 := own_fr mrow_m226 hF245 (hC228.disj 1 3 rfl rfl (by decide))
         have hl250 := logIn.fr mlog_m226 hF245 (hC228.disj 2 3 rfl rfl (by decide))
         have hl251 := logIn.fr lg151_m226 hF245 (hC228.disj 4 3 rfl rfl (by decide))
         refine WLd rfl ?_
         refine QXb ?_
         refine QXn (hK235 _ _ ?_)
         refine WCg (WLr 1 [(123, .int .i64 (IntKind.i64.wrap ((kz : Int) + 1)))] (fun _ => by kernel_rfl) ?_)
         refine WLt (show (.int .i64 (IntKind.i64.wrap ((kz : Int) + 1)) : Value) = .int .i64 ((kz : Int) + 1) from by rw [wrap_in_i64 ((kz : Int) + 1) (by omega) (by omega)]) ?_
         refine WLr 1 [(116, .int .i64 ((kz : Int) + 1))] (fun _ => by kernel_rfl) ?_
         refine WLd rfl ?_
         refine QXn ?_
         have hC252 := hC246.pick [0, 1, 2, 3] [0, 1, 2, 3, 4] rfl rfl
         refine fun a_ ha_ => hK224 _ _ _ ?_ ⟨kz + 1, Lz.set kz (⟨⟨0, 0, 0, 0, 0, 0, 0, 0, [], 0, 0, false⟩, none, 0⟩ : Cmd), rfl, rfl, hC252, hvs248, ho249, hl250, hl251, ho247, by omega, by rw [List.length_set]; exact hlz⟩ a_ (ha_.weaken (sub_of ⟨rfl, rfl, rfl, rfl, rfl, rfl, rfl, rfl, rfl, rfl, rfl, rfl, rfl, rfl, rfl, rfl, rfl, rfl, rfl, rfl, rfl, rfl, rfl, rfl, rfl, rfl, rfl, rfl, rfl, rfl, rfl, rfl, rfl, rfl, rfl, rfl, rfl, rfl, rfl, rfl, rfl, rfl, rfl, rfl, rfl, rfl, rfl, rfl, rfl, rfl, rfl, rfl, rfl, rfl, rfl, rfl, rfl, rfl, rfl, rfl, rfl, rfl, rfl, rfl, rfl, trivial⟩))
         omega
        ·
         have t233 : (L134.length : Int) ≤ (kz : Int) := by have q_ := of_decide_eq_false t233b; omega
         refine WCf rfl ?_
         refine WC.exit ?_
         refine QXe ?_
         refine QXe ?_
         refine QX.block_hit ?_
         refine QXb ?_
         refine QXn (hK123 _ _ ?_)
         refine WCs (fun K253 hK254 => ?_)
         refine WCs (fun K255 hK256 => ?_)
         refine WCg (WLr 2 [(193, .bool false), (192, .bool true)] (fun _ => by kernel_rfl) (WLd rfl (QXn (hK256 _ _ ?_))))
         refine WCf rfl (WC.skip (QXn (hK254 _ _ ?_)))
         refine WCs (fun K257 hK258 => ?_)
         refine WCg (WLr 1 [(195, .pointer (some ⟨pv, 0, none⟩))] (fun _ => by kernel_rfl) ?_)
         refine WLc rfl rfl rfl rfl rfl (by kernel_rfl) (AcceptedVS FA136 pv (⟨e81.bn, e81.bd, V.an, V.ad, V.log, V.node⟩ : Vo) sp31 (putL N kP (bytesN [e81.bn, e81.bd])) (putL N kP (bytesN [e81.bn, e81.bd])) 4194304 w227 vs_m226) ?_
         rintro _ w269 ⟨A259, c260, L261, R262, rfl, hF263, ho264, hli265, hvv266, hRg267, hgr268⟩
         have hC270 := callNN hC228 hF263 (own_ge ho264) (own_lt ho264) (fun x_ h_ => (hRg267 x_ h_).1) (fun x_ h_ => (hRg267 x_ h_).2) hgr268
         refine ⟨_, rfl, ?_⟩
         have hvs271 := vsAt_fr vs_m226 hF263 (by simp)
         have ho272 := own_fr mrow_m226 hF263 (by simp)
         have hl273 := logIn.fr mlog_m226 hF263 (by simp)
         have ho276 := own_base (b' := 0) ho264 (fun _ _ => Nat.zero_le _)
         have hvvN_L261 : vals L261 = (V.log : List CmdV) := hvv266
         have hll_L261 : L261.length = (V.log : List CmdV).length := by rw [← vals_len, hvvN_L261]
         refine WLr 3 [(198, .slice A259 L261.length c260), (197, .agg #[.int .i64 V.an, .int .i64 V.ad]), (194, .tuple #[.agg #[.int .i64 V.an, .int .i64 V.ad], .slice A259 L261.length c260])] (fun _ => by kernel_rfl) ?_
         refine WL.newM hC270 (fun b => .pointer (some ⟨b, 0, none⟩)) (.cells #[.int .i64 0, .int .i64 0] 50) 24 (fun _ => by kernel_rfl) (fun g278 w279 hb282 hF280 hC281 => ?_)
         have hvs283 := vsAt_fr hvs271 hF280 (by simp)
         have ho284 := own_fr ho272 hF280 (by simp)
         have hl285 := logIn.fr hl273 hF280 (by simp)
         have ho288 := own_fr ho276 hF280 (by simp)
         have hl289 := logIn.fr hli265 hF280 (by simp)
         refine WLs (c' := #[.int .i64 V.an, .int .i64 V.ad]) hC281 4 50 g278 0 (.agg #[.int .i64 V.an, .int .i64 V.ad]) (by kernel_rfl) rfl (by kernel_rfl) (fun w290 hF292 hC293 => ?_)
         have hvs294 := vsAt_fr hvs283 hF292 (hC281.apartM 0 4 rfl rfl)
         have ho295 := own_fr ho284 hF292 (hC281.apartM 1 4 rfl rfl)
         have hl296 := logIn.fr hl285 hF292 (hC281.apartM 2 4 rfl rfl)
         have ho299 := own_fr ho288 hF292 (hC281.apartM 5 4 rfl rfl)
         have hl300 := logIn.fr hl289 hF292 (hC281.apartM 6 4 rfl rfl)
         refine WLr 1 [(25, .slice A259 L261.length c260)] (fun _ => by kernel_rfl) (WLd rfl (QXn (hK258 _ _ ?_)))
         refine WCs (fun K301 hK302 => ?_)
         refine WC.drawC hC293 [] (by kernel_rfl) (fun w303 hF304 hC305 hS306 => ?_)
         have hvs307 := vsAt_fr hvs294 hF304 (by simp)
         have ho308 := own_fr ho295 hF304 (by simp)
         have hl309 := logIn.fr hl296 hF304 (by simp)
         have ho312 := own_fr ho299 hF304 (by simp)
         have hl313 := logIn.fr hl300 hF304 (by simp)
         refine WDp (NPt (NPb (NPt (NPt (NPb (NPt hN)))))) 0 199 (.pointer (some ⟨pv, 0, none⟩)) (by kernel_rfl) (fun _ => by kernel_rfl) hS306 ?_
         refine WDp (NPt (NPb (NPt (NPt (NPb (NPt hN)))))) 2 201 (.pointer (some ⟨g53, 0, none⟩)) (by kernel_rfl) (fun _ => by kernel_rfl) hS306 ?_
         refine WDp (NPt (NPb (NPt (NPt (NPb (NPt hN)))))) 3 202 (.pointer (some ⟨g53, 0, none⟩)) (by kernel_rfl) (fun _ => by kernel_rfl) hS306 ?_
         refine WDp (NPt (NPb (NPt (NPt (NPb (NPt hN)))))) 4 203 (.pointer (some ⟨g53, 1, none⟩)) (by kernel_rfl) (fun _ => by kernel_rfl) hS306 ?_
         refine WDl (NPt (NPb (NPt (NPt (NPb (NPt hN)))))) 5 50 (.pointer (some ⟨g53, 1, none⟩)) (.agg #[.int .i64 e81.bn, .int .i64 e81.bd]) 204 (by kernel_rfl) (by kernel_rfl) (fun _ hS_ => run_ld (Fr.has hS_ (hC305.get 0 rfl) (by simp)) rfl) hS306 ?_
         refine WD.call 1 (by kernel_rfl) rfl rfl rfl rfl rfl (by kernel_rfl) (PromVS FA136 pv (⟨e81.bn, e81.bd, V.an, V.ad, V.log, V.node⟩ : Vo) sp31 (putL N kP (bytesN [e81.bn, e81.bd])) (putL N kP (bytesN [e81.bn, e81.bd])) 4194304 w303 hvs307) ?_
         rintro _ w315 ⟨rfl, hF314⟩
         have hS317 := hS306.trans hF314 (by simp)
         refine ⟨_, rfl, hS317, ?_⟩
         have hC316 := hC305.call hF314
         have hvs318 := vsAt_fr hvs307 hF314 (by simp)
         have ho319 := own_fr ho308 hF314 (by simp)
         have hl320 := logIn.fr hl309 hF314 (by simp)
         have ho323 := own_fr ho312 hF314 (by simp)
         have hl324 := logIn.fr hl313 hF314 (by simp)
         have hr325 : ∀ w_, Sem.run Try.prog (do eqGuard .neq 50 (Operand.tmp 200) (Operand.tmp 204) (.agg #[.int .i64 e81.bn, .int .i64 e81.bd]) (.agg #[.int .i64 e81.bn, .int .i64 e81.bd]); binOp .neq 50 (.agg #[.int .i64 e81.bn, .int .i64 e81.bd]) (.agg #[.int .i64 e81.bn, .int .i64 e81.bd])) w_ = .ok (.bool (!(e81.bn == e81.bn && (e81.bd == e81.bd && true)))) w_ := fun w_ => (run_neq_S (by kernel_rfl))
         refine WD.semP (NPt (NPb (NPt (NPt (NPb (NPt hN)))))) 6 (do eqGuard .neq 50 (Operand.tmp 200) (Operand.tmp 204) (.agg #[.int .i64 e81.bn, .int .i64 e81.bd]) (.agg #[.int .i64 e81.bn, .int .i64 e81.bd]); binOp .neq 50 (.agg #[.int .i64 e81.bn, .int .i64 e81.bd]) (.agg #[.int .i64 e81.bn, .int .i64 e81.bd])) 205 (.bool (!(e81.bn == e81.bn && (e81.bd == e81.bd && true)))) (by kernel_rfl) (by kernel_rfl) (fun _ _ => hr325 _) hS317 ?_
         refine WDp (NPt (NPb (NPt (NPt (NPb (NPt hN)))))) 7 206 (.bool (!(e81.bn == e81.bn && (e81.bd == e81.bd && true)))) (by kernel_rfl) (fun _ => by kernel_rfl) hS317 ?_
         refine WD.know 206 (.bool (!(e81.bn == e81.bn && (e81.bd == e81.bd && true)))) (.bool false) rfl (congrArg Value.bool (by simp [hvvN_L134, hvvN_L261, hmv])) ?_
         refine WDp (NPt (NPb (NPt (NPt (NPb (NPt hN)))))) 9 208 (.pointer (some ⟨g53, 0, none⟩)) (by kernel_rfl) (fun _ => by kernel_rfl) hS317 ?_
         refine WDp (NPt (NPb (NPt (NPt (NPb (NPt hN)))))) 10 209 (.pointer (some ⟨g53, 0, none⟩)) (by kernel_rfl) (fun _ => by kernel_rfl) hS317 ?_
         refine WDp (NPt (NPb (NPt (NPt (NPb (NPt hN)))))) 11 210 (.pointer (some ⟨g53, 3, none⟩)) (by kernel_rfl) (fun _ => by kernel_rfl) hS317 ?_
         refine WDl (NPt (NPb (NPt (NPt (NPb (NPt hN)))))) 8 50 (.pointer (some ⟨g278, 0, none⟩)) (.agg #[.int .i64 V.an, .int .i64 V.ad]) 207 (by kernel_rfl) (by kernel_rfl) (fun _ hS_ => run_ld (Fr.has hS_ (hC305.get 4 rfl) (by simp)) rfl) hS317 ?_
         refine WDl (NPt (NPb (NPt (NPt (NPb (NPt hN)))))) 12 50 (.pointer (some ⟨g53, 3, none⟩)) (.agg #[.int .i64 V.an, .int .i64 V.ad]) 211 (by kernel_rfl) (by kernel_rfl) (fun _ hS_ => run_ld (Fr.has hS_ (hC305.get 0 rfl) (by simp)) rfl) hS317 ?_
         have hr326 : ∀ w_, Sem.run Try.prog (do eqGuard .neq 50 (Operand.tmp 207) (Operand.tmp 211) (.agg #[.int .i64 V.an, .int .i64 V.ad]) (.agg #[.int .i64 V.an, .int .i64 V.ad]); binOp .neq 50 (.agg #[.int .i64 V.an, .int .i64 V.ad]) (.agg #[.int .i64 V.an, .int .i64 V.ad])) w_ = .ok (.bool (!(V.an == V.an && (V.ad == V.ad && true)))) w_ := fun w_ => (run_neq_S (by kernel_rfl))
         refine WD.semP (NPt (NPb (NPt (NPt (NPb (NPt hN)))))) 13 (do eqGuard .neq 50 (Operand.tmp 207) (Operand.tmp 211) (.agg #[.int .i64 V.an, .int .i64 V.ad]) (.agg #[.int .i64 V.an, .int .i64 V.ad]); binOp .neq 50 (.agg #[.int .i64 V.an, .int .i64 V.ad]) (.agg #[.int .i64 V.an, .int .i64 V.ad])) 212 (.bool (!(V.an == V.an && (V.ad == V.ad && true)))) (by kernel_rfl) (by kernel_rfl) (fun _ _ => hr326 _) hS317 ?_
         refine WDp (NPt (NPb (NPt (NPt (NPb (NPt hN)))))) 14 213 (.bool (!(V.an == V.an && (V.ad == V.ad && true)))) (by kernel_rfl) (fun _ => by kernel_rfl) hS317 ?_
         refine WDp (NPt (NPb (NPt (NPt (NPb (NPt hN)))))) 15 214 (.bool (!(V.an == V.an && (V.ad == V.ad && true)))) (by kernel_rfl) (fun _ => by kernel_rfl) hS317 ?_
         refine WD.know 214 (.bool (!(V.an == V.an && (V.ad == V.ad && true)))) (.bool false) rfl (congrArg Value.bool (by simp [hvvN_L134, hvvN_L261, hmv])) ?_
         refine WDp (NPt (NPb (NPt (NPt (NPb (NPt hN)))))) 16 215 (.slice A259 L261.length c260) (by kernel_rfl) (fun _ => by kernel_rfl) hS317 ?_
         refine WDp (NPt (NPb (NPt (NPt (NPb (NPt hN)))))) 17 216 (.pointer (some ⟨g53, 0, none⟩)) (by kernel_rfl) (fun _ => by kernel_rfl) hS317 ?_
         refine WDp (NPt (NPb (NPt (NPt (NPb (NPt hN)))))) 18 217 (.pointer (some ⟨g53, 0, none⟩)) (by kernel_rfl) (fun _ => by kernel_rfl) hS317 ?_
         refine WDp (NPt (NPb (NPt (NPt (NPb (NPt hN)))))) 19 218 (.pointer (some ⟨g53, 5, none⟩)) (by kernel_rfl) (fun _ => by kernel_rfl) hS317 ?_
         refine WDl (NPt (NPb (NPt (NPt (NPb (NPt hN)))))) 20 25 (.pointer (some ⟨g53, 5, none⟩)) (.slice Am nm cm) 219 (by kernel_rfl) (by kernel_rfl) (fun _ hS_ => run_ld (Fr.has hS_ (hC305.get 0 rfl) (by simp)) rfl) hS317 ?_
         refine WD.call 21 (by kernel_rfl) rfl rfl rfl rfl rfl (by kernel_rfl) (RSame_n A259 Am L261.length c260 nm cm L261 Lm w315 (own_rd ho323 cellsC_len (by decide)) (own_rd ho319 cellsC_len (by decide)) rfl (own_count cellsC_len (by decide) ho319) (fun m_ h_ => hl324.at_ m_ h_) (fun m_ h_ => hl320.at_ m_ h_) (by have z_ := congrArg List.length (hvvN_L261); rw [vals_len] at z_; first | (have z2_ := vs_loglen hvs; omega) | (rw [vals_len] at z_; omega) | (simp only [vals_len] at z_; omega))) ?_
         rintro _ w328 ⟨rfl, hF327⟩
         have hS330 := hS317.trans hF327 (by simp)
         refine ⟨_, rfl, hS330, ?_⟩
         have hC329 := hC316.call hF327
         have hvs331 := vsAt_fr hvs318 hF327 (by simp)
         have ho332 := own_fr ho319 hF327 (by simp)
         have hl333 := logIn.fr hl320 hF327 (by simp)
         refine WDp (NPt (NPb (NPt (NPt (NPb (NPt hN)))))) 22 221 (.bool (!(decide (vals L261 = vals Lm)))) (by kernel_rfl) (fun _ => by kernel_rfl) hS330 ?_
         refine WDp (NPt (NPb (NPt (NPt (NPb (NPt hN)))))) 23 222 (.bool (!(decide (vals L261 = vals Lm)))) (by kernel_rfl) (fun _ => by kernel_rfl) hS330 ?_
         refine WD.done (by kernel_rfl) ?_
         refine QXn (hK302 _ _ ?_)
         refine WC.know 222 (.bool (!(decide (vals L261 = vals Lm)))) (.bool false) rfl (congrArg Value.bool (by simp [hvvN_L134, hvvN_L261, hmv])) ?_
         refine WCf rfl (WC.skip ?_)
         refine QXb ?_
         refine QXn (hK78 _ _ ?_)
         refine WCg (WLr 1 [(223, .int .i64 (IntKind.i64.wrap ((i : Int) + 1)))] (fun _ => by kernel_rfl) ?_)
         refine WLt (show (.int .i64 (IntKind.i64.wrap ((i : Int) + 1)) : Value) = .int .i64 ((i : Int) + 1) from by rw [wrap_in_i64 ((i : Int) + 1) (by omega) (by omega)]) ?_
         refine WLr 1 [(52, .int .i64 ((i : Int) + 1))] (fun _ => by kernel_rfl) ?_
         refine WLd rfl ?_
         refine QXn ?_
         have hC338 := hC329.pick [0] [0, 1, 2] rfl rfl
         refine fun a_ ha_ => hK67 _ _ _ ?_ ⟨i + 1, FA136, (⟨e81.bn, e81.bd, V.an, V.ad, V.log, V.node⟩ : Vo), (putL N kP (bytesN [e81.bn, e81.bd])), pv, Am, nm, cm, Lm, Rm, rfl, rfl, hC338, hvs331, ho332, hl333, by omega, hnode, openV_prep hopV (asked_yes hE131).1, openOk_prep hook (asked_yes hE131).1, Nat.le_trans (used_prep N e81.bn e81.bd) (by omega), good_pos (asked_yes hE131).1, hmv, hml⟩ a_ (ha_.weaken (sub_of ⟨rfl, rfl, rfl, rfl, rfl, rfl, rfl, rfl, trivial⟩))
         omega
       ·
        refine WLc rfl rfl rfl rfl rfl (by kernel_rfl) (PrepVS_no FA pv V sp31 N N 4194304 w109 hvs111 e81.bn e81.bd hok_e81.bd hE131) ?_
        rintro _ w340 ⟨rfl, hF339⟩
        refine ⟨_, rfl, ?_⟩
        have hC341 := hC110.call hF339
        have hvs342 := vsAt_fr hvs111 hF339 (by simp)
        have ho343 := own_fr ho112 hF339 (by simp)
        have hl344 := logIn.fr hl113 hF339 (by simp)
        refine WLr 4 [(91, errV 35 (askedE V e81.bn e81.bd)), (90, .slice none 0 0), (89, .agg #[.int .i64 0, .int .i64 0]), (84, .tuple #[.agg #[.int .i64 0, .int .i64 0], .slice none 0 0, errV 35 (askedE V e81.bn e81.bd)])] (fun _ => by kernel_rfl) ?_
        refine WL.newM hC341 (fun b => .pointer (some ⟨b, 0, none⟩)) (.cells #[.int .i64 0, .int .i64 0] 50) 11 (fun _ => by kernel_rfl) (fun g345 w346 hb349 hF347 hC348 => ?_)
        have hvs350 := vsAt_fr hvs342 hF347 (by simp)
        have ho351 := own_fr ho343 hF347 (by simp)
        have hl352 := logIn.fr hl344 hF347 (by simp)
        refine WLs (c' := #[.int .i64 0, .int .i64 0]) hC348 2 50 g345 0 (.agg #[.int .i64 0, .int .i64 0]) (by kernel_rfl) rfl (by kernel_rfl) (fun w353 hF355 hC356 => ?_)
        have hvs357 := vsAt_fr hvs350 hF355 (hC348.apartM 0 2 rfl rfl)
        have ho358 := own_fr ho351 hF355 (hC348.apartM 1 2 rfl rfl)
        have hl359 := logIn.fr hl352 hF355 (hC348.apartM 2 2 rfl rfl)
        refine WLr 2 [(13, errV 35 (askedE V e81.bn e81.bd)), (12, .slice none 0 0)] (fun _ => by kernel_rfl) (WLd rfl (QXn (hK130 _ _ ?_)))
        refine WCs (fun K360 hK361 => ?_)
        refine WCg (WLr 2 [(94, .pointer (some ⟨g87, 1, none⟩)), (93, .pointer (some ⟨g53, 0, none⟩))] (fun _ => by kernel_rfl) ?_)
        refine WL.load 50 (.pointer (some ⟨g87, 1, none⟩)) (.agg #[.int .i64 e81.bn, .int .i64 e81.bd]) 95 (by kernel_rfl) (run_ld (hC356.get 1 rfl) rfl) ?_
        refine WLc rfl rfl rfl rfl rfl (by kernel_rfl) (RPrep_no g53 V Am nm cm e81.bn e81.bd w353 (hC356.get 0 rfl) hE131) ?_
        rintro _ w363 ⟨rfl, hF362⟩
        refine ⟨_, rfl, ?_⟩
        have hC364 := hC356.call hF362
        have hvs365 := vsAt_fr hvs357 hF362 (by simp)
        have ho366 := own_fr ho358 hF362 (by simp)
        have hl367 := logIn.fr hl359 hF362 (by simp)
        refine WLr 4 [(99, .int .i64 (askedE V e81.bn e81.bd)), (98, .slice none 0 0), (97, .agg #[.int .i64 0, .int .i64 0]), (92, .tuple #[.agg #[.int .i64 0, .int .i64 0], .slice none 0 0, .int .i64 (askedE V e81.bn e81.bd)])] (fun _ => by kernel_rfl) ?_
        refine WL.newM hC364 (fun b => .pointer (some ⟨b, 0, none⟩)) (.cells #[.int .i64 0, .int .i64 0] 50) 14 (fun _ => by kernel_rfl) (fun g368 w369 hb372 hF370 hC371 => ?_)
        have hvs373 := vsAt_fr hvs365 hF370 (by simp)
        have ho374 := own_fr ho366 hF370 (by simp)
        have hl375 := logIn.fr hl367 hF370 (by simp)
        refine WLs (c' := #[.int .i64 0, .int .i64 0]) hC371 3 50 g368 0 (.agg #[.int .i64 0, .int .i64 0]) (by kernel_rfl) rfl (by kernel_rfl) (fun w376 hF378 hC379 => ?_)
        have hvs380 := vsAt_fr hvs373 hF378 (hC371.apartM 0 3 rfl rfl)
        have ho381 := own_fr ho374 hF378 (hC371.apartM 1 3 rfl rfl)
        have hl382 := logIn.fr hl375 hF378 (hC371.apartM 2 3 rfl rfl)
        refine WLr 2 [(16, .int .i64 (askedE V e81.bn e81.bd)), (15, .slice none 0 0)] (fun _ => by kernel_rfl) (WLd rfl (QXn (hK361 _ _ ?_)))
        refine WCs (fun K383 hK384 => ?_)
        refine WCg ?_
        refine WL.load 50 (.pointer (some ⟨g345, 0, none⟩)) (.agg #[.int .i64 0, .int .i64 0]) 100 (by kernel_rfl) (run_ld (hC379.get 2 rfl) rfl) ?_
        refine WL.load 50 (.pointer (some ⟨g368, 0, none⟩)) (.agg #[.int .i64 0, .int .i64 0]) 101 (by kernel_rfl) (run_ld (hC379.get 3 rfl) rfl) ?_
        have hr385 : ∀ w_, Sem.run Try.prog (do eqGuard .eql 50 (Operand.tmp 100) (Operand.tmp 101) (.agg #[.int .i64 0, .int .i64 0]) (.agg #[.int .i64 0, .int .i64 0]); binOp .eql 50 (.agg #[.int .i64 0, .int .i64 0]) (.agg #[.int .i64 0, .int .i64 0])) w_ = .ok (.bool ((0 : Int) == (0 : Int) && ((0 : Int) == (0 : Int) && true))) w_ := fun w_ => (run_eql_S (by kernel_rfl))
        refine WL.sem (do eqGuard .eql 50 (Operand.tmp 100) (Operand.tmp 101) (.agg #[.int .i64 0, .int .i64 0]) (.agg #[.int .i64 0, .int .i64 0]); binOp .eql 50 (.agg #[.int .i64 0, .int .i64 0]) (.agg #[.int .i64 0, .int .i64 0])) 102 (.bool ((0 : Int) == (0 : Int) && ((0 : Int) == (0 : Int) && true))) (by kernel_rfl) (hr385 _) ?_
        refine WLr 1 [(103, .bool ((0 : Int) == (0 : Int) && ((0 : Int) == (0 : Int) && true)))] (fun _ => by kernel_rfl) ?_
        refine WL.know 103 (.bool ((0 : Int) == (0 : Int) && ((0 : Int) == (0 : Int) && true))) (.bool true) rfl (congrArg Value.bool (by simp [hmv])) ?_
        refine WLr 2 [(105, .slice none 0 0), (104, .slice none 0 0)] (fun _ => by kernel_rfl) ?_
        refine WLc rfl rfl rfl rfl rfl (by kernel_rfl) (RSame_n none none 0 0 0 0 ([] : List Cmd) ([] : List Cmd) w376 (Rd.nil _ _ _ _) (Rd.nil _ _ _ _) rfl rfl (fun _ h_ => (nomatch h_)) (fun _ h_ => (nomatch h_)) (by decide)) ?_
        rintro _ w387 ⟨rfl, hF386⟩
        refine ⟨_, rfl, ?_⟩
        have hC388 := hC379.call hF386
        have hvs389 := vsAt_fr hvs380 hF386 (by simp)
        have ho390 := own_fr ho381 hF386 (by simp)
        have hl391 := logIn.fr hl382 hF386 (by simp)
        refine WLr 2 [(108, .bool (decide (vals ([] : List Cmd) = vals ([] : List Cmd)))), (107, .bool (decide (vals ([] : List Cmd) = vals ([] : List Cmd))))] (fun _ => by kernel_rfl) ?_
        refine WL.know 108 (.bool (decide (vals ([] : List Cmd) = vals ([] : List Cmd)))) (.bool true) rfl (congrArg Value.bool (by simp [hmv])) ?_
        refine WLr 1 [(109, errV 35 (askedE V e81.bn e81.bd))] (fun _ => by kernel_rfl) ?_
        refine WLc rfl rfl rfl rfl rfl (by kernel_rfl) (Num_ct (askedE V e81.bn e81.bd) w387) ?_
        rintro _ w393 ⟨rfl, hF392⟩
        refine ⟨_, rfl, ?_⟩
        have hC394 := hC388.call hF392
        have hvs395 := vsAt_fr hvs389 hF392 (by simp)
        have ho396 := own_fr ho390 hF392 (by simp)
        have hl397 := logIn.fr hl391 hF392 (by simp)
        refine WLr 4 [(10, .bool ((askedE V e81.bn e81.bd : Int) == (askedE V e81.bn e81.bd))), (113, .bool ((askedE V e81.bn e81.bd : Int) == (askedE V e81.bn e81.bd))), (112, .bool ((askedE V e81.bn e81.bd : Int) == (askedE V e81.bn e81.bd))), (111, .int .i64 (askedE V e81.bn e81.bd))] (fun _ => by kernel_rfl) (WLd rfl (QXn (hK384 _ _ ?_)))
        refine WCs (fun K398 hK399 => ?_)
        refine WCg (WLr 3 [(116, .int .i64 0), (115, .int .i64 0), (114, .slice none 0 0)] (fun _ => by kernel_rfl) (WLd rfl (QXn (hK399 _ _ ?_))))
        refine WC.block ?_
        refine WC.loop (fun m_ E_ w_ => ∃ (kz : Nat), m_ = 0 ∧ E_ = [(0, .int .i64 node), (1, .slice A ops.length c), (5, .pointer (some ⟨sp31, 0, none⟩)), (6, .pointer (some ⟨pv, 0, none⟩)), (7, .pointer (some ⟨g53, 0, none⟩)), (9, .pointer (some ⟨g87, 0, none⟩)), (10, .bool ((askedE V e81.bn e81.bd : Int) == (askedE V e81.bn e81.bd))), (11, .pointer (some ⟨g345, 0, none⟩)), (12, .slice none 0 0), (13, errV 35 (askedE V e81.bn e81.bd)), (14, .pointer (some ⟨g368, 0, none⟩)), (15, .slice none 0 0), (16, .int .i64 (askedE V e81.bn e81.bd)), (50, .slice A ops.length c), (51, .int .i64 (ops.length : Int)), (52, .int .i64 (i : Int)), (53, .bool true), (54, .pointer (some ⟨b83, o85 + i * 5, none⟩)), (55, .agg #[.int .i64 e81.kind, .int .i64 e81.bn, .int .i64 e81.bd, .slice e81.la e81.L.length e81.lc, .slice e81.ba e81.bs.length e81.bc]), (56, .pointer (some ⟨g87, 3, none⟩)), (57, .slice e81.la e81.L.length e81.lc), (58, .bool lgb106), (59, .bool false), (60, .pointer (some ⟨g87, 4, none⟩)), (61, .slice e81.ba e81.bs.length e81.bc), (62, .int .i64 (e81.bs.length : Int)), (63, .bool (decide ((e81.bs.length : Int) > 100))), (64, .bool false), (65, .pointer (some ⟨g87, 0, none⟩)), (66, .int .i64 e81.kind), (82, .bool true), (83, .bool (e81.kind == 0)), (84, .tuple #[.agg #[.int .i64 0, .int .i64 0], .slice none 0 0, errV 35 (askedE V e81.bn e81.bd)]), (85, .pointer (some ⟨pv, 0, none⟩)), (86, .pointer (some ⟨g87, 1, none⟩)), (87, .agg #[.int .i64 e81.bn, .int .i64 e81.bd]), (88, .tuple #[.agg #[.int .i64 0, .int .i64 0], .slice none 0 0, errV 35 (askedE V e81.bn e81.bd)]), (89, .agg #[.int .i64 0, .int .i64 0]), (90, .slice none 0 0), (91, errV 35 (askedE V e81.bn e81.bd)), (92, .tuple #[.agg #[.int .i64 0, .int .i64 0], .slice none 0 0, .int .i64 (askedE V e81.bn e81.bd)]), (93, .pointer (some ⟨g53, 0, none⟩)), (94, .pointer (some ⟨g87, 1, none⟩)), (95, .agg #[.int .i64 e81.bn, .int .i64 e81.bd]), (96, .tuple #[.agg #[.int .i64 0, .int .i64 0], .slice none 0 0, .int .i64 (askedE V e81.bn e81.bd)]), (97, .agg #[.int .i64 0, .int .i64 0]), (98, .slice none 0 0), (99, .int .i64 (askedE V e81.bn e81.bd)), (100, .agg #[.int .i64 0, .int .i64 0]), (101, .agg #[.int .i64 0, .int .i64 0]), (102, .bool ((0 : Int) == (0 : Int) && ((0 : Int) == (0 : Int) && true))), (103, .bool true), (104, .slice none 0 0), (105, .slice none 0 0), (106, .bool (decide (vals ([] : List Cmd) = vals ([] : List Cmd)))), (107, .bool (decide (vals ([] : List Cmd) = vals ([] : List Cmd)))), (108, .bool true), (109, errV 35 (askedE V e81.bn e81.bd)), (110, .int .i64 (askedE V e81.bn e81.bd : Int)), (111, .int .i64 (askedE V e81.bn e81.bd)), (112, .bool ((askedE V e81.bn e81.bd : Int) == (askedE V e81.bn e81.bd))), (113, .bool ((askedE V e81.bn e81.bd : Int) == (askedE V e81.bn e81.bd))), (114, .slice none 0 0), (115, .int .i64 0), (116, .int .i64 (kz : Int))] ∧ Cx w [] w_ [(g53, .cells #[.int .i64 V.node, .int .i64 V.pn, .int .i64 V.pd, .int .i64 V.an, .int .i64 V.ad, .slice Am nm cm] 84), (g87, .cells #[.int .i64 e81.kind, .int .i64 e81.bn, .int .i64 e81.bd, .slice e81.la e81.L.length e81.lc, .slice e81.ba e81.bs.length e81.bc] 86), (g345, .cells #[.int .i64 0, .int .i64 0] 50), (g368, .cells #[.int .i64 0, .int .i64 0] 50)] [FA, blk (.slice Am nm cm), Rm] ∧ vsAt w_ FA pv V sp31 N N 4194304 ∧ World.ownsRow w_ 0 61 12 (.slice Am nm cm) nm (Lm.flatMap cellsC) ∧ logIn w_ Rm Lm ∧ (True)) ⟨_, _, ⟨0, rfl, rfl, hC394, hvs395, ho396, hl397, trivial⟩, sub_of ⟨rfl, rfl, rfl, rfl, rfl, rfl, rfl, rfl, rfl, rfl, rfl, rfl, rfl, rfl, rfl, rfl, rfl, rfl, rfl, rfl, rfl, rfl, rfl, rfl, rfl, rfl, rfl, rfl, rfl, rfl, rfl, rfl, rfl, rfl, rfl, rfl, rfl, rfl, rfl, rfl, rfl, rfl, rfl, rfl, rfl, rfl, rfl, rfl, rfl, rfl, rfl, rfl, rfl, rfl, rfl, rfl, rfl, rfl, rfl, rfl, rfl, rfl, rfl, rfl, rfl, trivial⟩⟩ (fun m403 E_ w404 K400 hK401 hI402 => ?_)
        obtain ⟨kz, rfl, rfl, hC405, vs_m403, mrow_m403, mlog_m403, _⟩ := hI402
        refine WCs (fun K406 hK407 => ?_)
        refine WCg (WLr 1 [(117, .bool (decide ((kz : Int) < 0)))] (fun _ => by kernel_rfl) (WLd rfl (QXn (hK407 _ _ ?_))))
        refine WCs (fun K408 hK409 => ?_)
        refine WC.know 117 (.bool (decide ((kz : Int) < 0))) (.bool false) rfl (congrArg Value.bool (by exact decide_eq_false (by omega))) ?_
        refine WCf rfl ?_
        refine WC.exit ?_
        refine QXe ?_
        refine QXe ?_
        refine QX.block_hit ?_
        refine QXb ?_
        refine QXn (hK123 _ _ ?_)
        refine WCs (fun K410 hK411 => ?_)
        refine WCs (fun K412 hK413 => ?_)
        refine WCg (WLr 2 [(193, .bool (!((askedE V e81.bn e81.bd : Int) == (askedE V e81.bn e81.bd)))), (192, .bool ((askedE V e81.bn e81.bd : Int) == (askedE V e81.bn e81.bd)))] (fun _ => by kernel_rfl) (WLd rfl (QXn (hK413 _ _ ?_))))
        refine WC.know 193 (.bool (!((askedE V e81.bn e81.bd : Int) == (askedE V e81.bn e81.bd)))) (.bool false) rfl (congrArg Value.bool (by simp [hmv])) ?_
        refine WCf rfl (WC.skip (QXn (hK411 _ _ ?_)))
        refine WCs (fun K414 hK415 => ?_)
        refine WCg (WLr 1 [(195, .pointer (some ⟨pv, 0, none⟩))] (fun _ => by kernel_rfl) ?_)
        refine WLc rfl rfl rfl rfl rfl (by kernel_rfl) (AcceptedVS FA pv V sp31 N N 4194304 w404 vs_m403) ?_
        rintro _ w426 ⟨A416, c417, L418, R419, rfl, hF420, ho421, hli422, hvv423, hRg424, hgr425⟩
        have hC427 := callNN hC405 hF420 (own_ge ho421) (own_lt ho421) (fun x_ h_ => (hRg424 x_ h_).1) (fun x_ h_ => (hRg424 x_ h_).2) hgr425
        refine ⟨_, rfl, ?_⟩
        have hvs428 := vsAt_fr vs_m403 hF420 (by simp)
        have ho429 := own_fr mrow_m403 hF420 (by simp)
        have hl430 := logIn.fr mlog_m403 hF420 (by simp)
        have ho431 := own_base (b' := 0) ho421 (fun _ _ => Nat.zero_le _)
        have hvvN_L418 : vals L418 = (V.log : List CmdV) := hvv423
        have hll_L418 : L418.length = (V.log : List CmdV).length := by rw [← vals_len, hvvN_L418]
        refine WLr 3 [(198, .slice A416 L418.length c417), (197, .agg #[.int .i64 V.an, .int .i64 V.ad]), (194, .tuple #[.agg #[.int .i64 V.an, .int .i64 V.ad], .slice A416 L418.length c417])] (fun _ => by kernel_rfl) ?_
        refine WL.newM hC427 (fun b => .pointer (some ⟨b, 0, none⟩)) (.cells #[.int .i64 0, .int .i64 0] 50) 24 (fun _ => by kernel_rfl) (fun g433 w434 hb437 hF435 hC436 => ?_)
        have hvs438 := vsAt_fr hvs428 hF435 (by simp)
        have ho439 := own_fr ho429 hF435 (by simp)
        have hl440 := logIn.fr hl430 hF435 (by simp)
        have ho441 := own_fr ho431 hF435 (by simp)
        have hl442 := logIn.fr hli422 hF435 (by simp)
        refine WLs (c' := #[.int .i64 V.an, .int .i64 V.ad]) hC436 4 50 g433 0 (.agg #[.int .i64 V.an, .int .i64 V.ad]) (by kernel_rfl) rfl (by kernel_rfl) (fun w443 hF445 hC446 => ?_)
        have hvs447 := vsAt_fr hvs438 hF445 (hC436.apartM 0 4 rfl rfl)
        have ho448 := own_fr ho439 hF445 (hC436.apartM 1 4 rfl rfl)
        have hl449 := logIn.fr hl440 hF445 (hC436.apartM 2 4 rfl rfl)
        have ho450 := own_fr ho441 hF445 (hC436.apartM 3 4 rfl rfl)
        have hl451 := logIn.fr hl442 hF445 (hC436.apartM 4 4 rfl rfl)
        refine WLr 1 [(25, .slice A416 L418.length c417)] (fun _ => by kernel_rfl) (WLd rfl (QXn (hK415 _ _ ?_)))
        refine WCs (fun K452 hK453 => ?_)
        refine WC.drawC hC446 [] (by kernel_rfl) (fun w454 hF455 hC456 hS457 => ?_)
        have hvs458 := vsAt_fr hvs447 hF455 (by simp)
        have ho459 := own_fr ho448 hF455 (by simp)
        have hl460 := logIn.fr hl449 hF455 (by simp)
        have ho461 := own_fr ho450 hF455 (by simp)
        have hl462 := logIn.fr hl451 hF455 (by simp)
        refine WDp (NPt (NPb (NPt (NPt (NPb (NPt hN)))))) 0 199 (.pointer (some ⟨pv, 0, none⟩)) (by kernel_rfl) (fun _ => by kernel_rfl) hS457 ?_
        refine WDp (NPt (NPb (NPt (NPt (NPb (NPt hN)))))) 2 201 (.pointer (some ⟨g53, 0, none⟩)) (by kernel_rfl) (fun _ => by kernel_rfl) hS457 ?_
        refine WDp (NPt (NPb (NPt (NPt (NPb (NPt hN)))))) 3 202 (.pointer (some ⟨g53, 0, none⟩)) (by kernel_rfl) (fun _ => by kernel_rfl) hS457 ?_
        refine WDp (NPt (NPb (NPt (NPt (NPb (NPt hN)))))) 4 203 (.pointer (some ⟨g53, 1, none⟩)) (by kernel_rfl) (fun _ => by kernel_rfl) hS457 ?_
        refine WDl (NPt (NPb (NPt (NPt (NPb (NPt hN)))))) 5 50 (.pointer (some ⟨g53, 1, none⟩)) (.agg #[.int .i64 V.pn, .int .i64 V.pd]) 204 (by kernel_rfl) (by kernel_rfl) (fun _ hS_ => run_ld (Fr.has hS_ (hC456.get 0 rfl) (by simp)) rfl) hS457 ?_
        refine WD.call 1 (by kernel_rfl) rfl rfl rfl rfl rfl (by kernel_rfl) (PromVS FA pv V sp31 N N 4194304 w454 hvs458) ?_
        rintro _ w464 ⟨rfl, hF463⟩
        have hS466 := hS457.trans hF463 (by simp)
        refine ⟨_, rfl, hS466, ?_⟩
        have hC465 := hC456.call hF463
        have hvs467 := vsAt_fr hvs458 hF463 (by simp)
        have ho468 := own_fr ho459 hF463 (by simp)
        have hl469 := logIn.fr hl460 hF463 (by simp)
        have ho470 := own_fr ho461 hF463 (by simp)
        have hl471 := logIn.fr hl462 hF463 (by simp)
        have hr472 : ∀ w_, Sem.run Try.prog (do eqGuard .neq 50 (Operand.tmp 200) (Operand.tmp 204) (.agg #[.int .i64 V.pn, .int .i64 V.pd]) (.agg #[.int .i64 V.pn, .int .i64 V.pd]); binOp .neq 50 (.agg #[.int .i64 V.pn, .int .i64 V.pd]) (.agg #[.int .i64 V.pn, .int .i64 V.pd])) w_ = .ok (.bool (!(V.pn == V.pn && (V.pd == V.pd && true)))) w_ := fun w_ => (run_neq_S (by kernel_rfl))
        refine WD.semP (NPt (NPb (NPt (NPt (NPb (NPt hN)))))) 6 (do eqGuard .neq 50 (Operand.tmp 200) (Operand.tmp 204) (.agg #[.int .i64 V.pn, .int .i64 V.pd]) (.agg #[.int .i64 V.pn, .int .i64 V.pd]); binOp .neq 50 (.agg #[.int .i64 V.pn, .int .i64 V.pd]) (.agg #[.int .i64 V.pn, .int .i64 V.pd])) 205 (.bool (!(V.pn == V.pn && (V.pd == V.pd && true)))) (by kernel_rfl) (by kernel_rfl) (fun _ _ => hr472 _) hS466 ?_
        refine WDp (NPt (NPb (NPt (NPt (NPb (NPt hN)))))) 7 206 (.bool (!(V.pn == V.pn && (V.pd == V.pd && true)))) (by kernel_rfl) (fun _ => by kernel_rfl) hS466 ?_
        refine WD.know 206 (.bool (!(V.pn == V.pn && (V.pd == V.pd && true)))) (.bool false) rfl (congrArg Value.bool (by simp [hvvN_L418, hmv])) ?_
        refine WDp (NPt (NPb (NPt (NPt (NPb (NPt hN)))))) 9 208 (.pointer (some ⟨g53, 0, none⟩)) (by kernel_rfl) (fun _ => by kernel_rfl) hS466 ?_
        refine WDp (NPt (NPb (NPt (NPt (NPb (NPt hN)))))) 10 209 (.pointer (some ⟨g53, 0, none⟩)) (by kernel_rfl) (fun _ => by kernel_rfl) hS466 ?_
        refine WDp (NPt (NPb (NPt (NPt (NPb (NPt hN)))))) 11 210 (.pointer (some ⟨g53, 3, none⟩)) (by kernel_rfl) (fun _ => by kernel_rfl) hS466 ?_
        refine WDl (NPt (NPb (NPt (NPt (NPb (NPt hN)))))) 8 50 (.pointer (some ⟨g433, 0, none⟩)) (.agg #[.int .i64 V.an, .int .i64 V.ad]) 207 (by kernel_rfl) (by kernel_rfl) (fun _ hS_ => run_ld (Fr.has hS_ (hC456.get 4 rfl) (by simp)) rfl) hS466 ?_
        refine WDl (NPt (NPb (NPt (NPt (NPb (NPt hN)))))) 12 50 (.pointer (some ⟨g53, 3, none⟩)) (.agg #[.int .i64 V.an, .int .i64 V.ad]) 211 (by kernel_rfl) (by kernel_rfl) (fun _ hS_ => run_ld (Fr.has hS_ (hC456.get 0 rfl) (by simp)) rfl) hS466 ?_
        have hr473 : ∀ w_, Sem.run Try.prog (do eqGuard .neq 50 (Operand.tmp 207) (Operand.tmp 211) (.agg #[.int .i64 V.an, .int .i64 V.ad]) (.agg #[.int .i64 V.an, .int .i64 V.ad]); binOp .neq 50 (.agg #[.int .i64 V.an, .int .i64 V.ad]) (.agg #[.int .i64 V.an, .int .i64 V.ad])) w_ = .ok (.bool (!(V.an == V.an && (V.ad == V.ad && true)))) w_ := fun w_ => (run_neq_S (by kernel_rfl))
        refine WD.semP (NPt (NPb (NPt (NPt (NPb (NPt hN)))))) 13 (do eqGuard .neq 50 (Operand.tmp 207) (Operand.tmp 211) (.agg #[.int .i64 V.an, .int .i64 V.ad]) (.agg #[.int .i64 V.an, .int .i64 V.ad]); binOp .neq 50 (.agg #[.int .i64 V.an, .int .i64 V.ad]) (.agg #[.int .i64 V.an, .int .i64 V.ad])) 212 (.bool (!(V.an == V.an && (V.ad == V.ad && true)))) (by kernel_rfl) (by kernel_rfl) (fun _ _ => hr473 _) hS466 ?_
        refine WDp (NPt (NPb (NPt (NPt (NPb (NPt hN)))))) 14 213 (.bool (!(V.an == V.an && (V.ad == V.ad && true)))) (by kernel_rfl) (fun _ => by kernel_rfl) hS466 ?_
        refine WDp (NPt (NPb (NPt (NPt (NPb (NPt hN)))))) 15 214 (.bool (!(V.an == V.an && (V.ad == V.ad && true)))) (by kernel_rfl) (fun _ => by kernel_rfl) hS466 ?_
        refine WD.know 214 (.bool (!(V.an == V.an && (V.ad == V.ad && true)))) (.bool false) rfl (congrArg Value.bool (by simp [hvvN_L418, hmv])) ?_
        refine WDp (NPt (NPb (NPt (NPt (NPb (NPt hN)))))) 16 215 (.slice A416 L418.length c417) (by kernel_rfl) (fun _ => by kernel_rfl) hS466 ?_
        refine WDp (NPt (NPb (NPt (NPt (NPb (NPt hN)))))) 17 216 (.pointer (some ⟨g53, 0, none⟩)) (by kernel_rfl) (fun _ => by kernel_rfl) hS466 ?_
        refine WDp (NPt (NPb (NPt (NPt (NPb (NPt hN)))))) 18 217 (.pointer (some ⟨g53, 0, none⟩)) (by kernel_rfl) (fun _ => by kernel_rfl) hS466 ?_
        refine WDp (NPt (NPb (NPt (NPt (NPb (NPt hN)))))) 19 218 (.pointer (some ⟨g53, 5, none⟩)) (by kernel_rfl) (fun _ => by kernel_rfl) hS466 ?_
        refine WDl (NPt (NPb (NPt (NPt (NPb (NPt hN)))))) 20 25 (.pointer (some ⟨g53, 5, none⟩)) (.slice Am nm cm) 219 (by kernel_rfl) (by kernel_rfl) (fun _ hS_ => run_ld (Fr.has hS_ (hC456.get 0 rfl) (by simp)) rfl) hS466 ?_
        refine WD.call 21 (by kernel_rfl) rfl rfl rfl rfl rfl (by kernel_rfl) (RSame_n A416 Am L418.length c417 nm cm L418 Lm w464 (own_rd ho470 cellsC_len (by decide)) (own_rd ho468 cellsC_len (by decide)) rfl (own_count cellsC_len (by decide) ho468) (fun m_ h_ => hl471.at_ m_ h_) (fun m_ h_ => hl469.at_ m_ h_) (by have z_ := congrArg List.length (hvvN_L418); rw [vals_len] at z_; first | (have z2_ := vs_loglen hvs; omega) | (rw [vals_len] at z_; omega) | (simp only [vals_len] at z_; omega))) ?_
        rintro _ w475 ⟨rfl, hF474⟩
        have hS477 := hS466.trans hF474 (by simp)
        refine ⟨_, rfl, hS477, ?_⟩
        have hC476 := hC465.call hF474
        have hvs478 := vsAt_fr hvs467 hF474 (by simp)
        have ho479 := own_fr ho468 hF474 (by simp)
        have hl480 := logIn.fr hl469 hF474 (by simp)
        refine WDp (NPt (NPb (NPt (NPt (NPb (NPt hN)))))) 22 221 (.bool (!(decide (vals L418 = vals Lm)))) (by kernel_rfl) (fun _ => by kernel_rfl) hS477 ?_
        refine WDp (NPt (NPb (NPt (NPt (NPb (NPt hN)))))) 23 222 (.bool (!(decide (vals L418 = vals Lm)))) (by kernel_rfl) (fun _ => by kernel_rfl) hS477 ?_
        refine WD.done (by kernel_rfl) ?_
        refine QXn (hK453 _ _ ?_)
        refine WC.know 222 (.bool (!(decide (vals L418 = vals Lm)))) (.bool false) rfl (congrArg Value.bool (by simp [hvvN_L418, hmv])) ?_
        refine WCf rfl (WC.skip ?_)
        refine QXb ?_
        refine QXn (hK78 _ _ ?_)
        refine WCg (WLr 1 [(223, .int .i64 (IntKind.i64.wrap ((i : Int) + 1)))] (fun _ => by kernel_rfl) ?_)
        refine WLt (show (.int .i64 (IntKind.i64.wrap ((i : Int) + 1)) : Value) = .int .i64 ((i : Int) + 1) from by rw [wrap_in_i64 ((i : Int) + 1) (by omega) (by omega)]) ?_
        refine WLr 1 [(52, .int .i64 ((i : Int) + 1))] (fun _ => by kernel_rfl) ?_
        refine WLd rfl ?_
        refine QXn ?_
        have hC483 := hC476.pick [0] [0, 1, 2] rfl rfl
        refine fun a_ ha_ => hK67 _ _ _ ?_ ⟨i + 1, FA, V, N, pv, Am, nm, cm, Lm, Rm, rfl, rfl, hC483, hvs478, ho479, hl480, by omega, hnode, hopV, hook, by omega, hpn, hmv, hml⟩ a_ (ha_.weaken (sub_of ⟨rfl, rfl, rfl, rfl, rfl, rfl, rfl, rfl, trivial⟩))
        omega
      ·
       have t128 : ¬ (e81.kind = 0) := by simpa using t128b
       refine WCf rfl ?_
       refine WCs (fun K484 hK485 => ?_)
       refine WCg (WLr 2 [(124, .bool (e81.kind == 1)), (125, .bool (e81.kind == 1))] (fun _ => by kernel_rfl) (WLd rfl (QXn (hK485 _ _ ?_))))
       refine WCa 124 (e81.kind == 1) rfl (fun t486b => ?_) (fun t486b => ?_)
       ·
        have t486 : e81.kind = 1 := by simpa using t486b
        refine WCt rfl ?_
        refine WCs (fun K487 hK488 => ?_)
        refine WCg (WLr 1 [(126, .pointer (some ⟨g87, 3, none⟩))] (fun _ => by kernel_rfl) ?_)
        refine WL.load 25 (.pointer (some ⟨g87, 3, none⟩)) (.slice e81.la e81.L.length e81.lc) 127 (by kernel_rfl) (run_ld (hC110.get 1 rfl) rfl) ?_
        refine WLc rfl rfl rfl rfl rfl (by kernel_rfl) (RCopyP_ct e81.la e81.lc e81.L w109 (Rd.fr hok_e81.rd hC110.fr) (fun m_ h_ => cmdAt.fr0 (hok_e81.at_ m_ h_) hC110.fr) hok_e81.lim) ?_
        rintro _ w494 ⟨A489, c490, L491, R492, rfl, hF493, ho495, hli496, hvv497, hRg498, hdd499, hlp500⟩
        have htm_ : totE L491 ≤ 4800 := by rw [totE_vals hvv497]; exact htb_
        have hlm_ := totE_len L491
        have hwfm_ := vals_wf hli496.at_
        have hC501 := callNN hC110 hF493 (own_ge ho495) (own_lt ho495) (fun x_ h_ => (hRg498 x_ h_).1) (fun x_ h_ => (hRg498 x_ h_).2) hdd499
        have ho502 := own_base (b' := 0) ho495 (fun _ _ => Nat.zero_le _)
        refine ⟨_, rfl, ?_⟩
        have hvs503 := vsAt_fr hvs111 hF493 (by simp)
        have ho504 := own_fr ho112 hF493 (by simp)
        have hl505 := logIn.fr hl113 hF493 (by simp)
        refine WLr 1 [(18, .slice A489 L491.length c490)] (fun _ => by kernel_rfl) (WLd rfl (QXn (hK488 _ _ ?_)))
        refine WCs (fun K507 hK508 => ?_)
        refine WC.drawC hC501 (g53 :: FA) (by kernel_rfl) (fun w509 hF510 hC511 hS512 => ?_)
        have hvs513 := vsAt_fr hvs503 hF510 (by simp)
        have ho514 := own_fr ho504 hF510 (by simp)
        have hl515 := logIn.fr hl505 hF510 (by simp)
        have ho516 := own_fr ho502 hF510 (by simp)
        have hl517 := logIn.fr hli496 hF510 (by simp)
        have hlp518 := endsP.fr hlp500 hF510 (by simp)
        refine WDp (NPt (NPb (NPt (NPb (NPt (NPt (NPb (NPt hN)))))))) 0 129 (.pointer (some ⟨pv, 0, none⟩)) (by kernel_rfl) (fun _ => by kernel_rfl) hS512 ?_
        refine WDp (NPt (NPb (NPt (NPb (NPt (NPt (NPb (NPt hN)))))))) 1 130 (.pointer (some ⟨g87, 1, none⟩)) (by kernel_rfl) (fun _ => by kernel_rfl) hS512 ?_
        refine WDp (NPt (NPb (NPt (NPb (NPt (NPt (NPb (NPt hN)))))))) 3 132 (.slice A489 L491.length c490) (by kernel_rfl) (fun _ => by kernel_rfl) hS512 ?_
        refine WDp (NPt (NPb (NPt (NPb (NPt (NPt (NPb (NPt hN)))))))) 6 135 (.pointer (some ⟨g53, 0, none⟩)) (by kernel_rfl) (fun _ => by kernel_rfl) hS512 ?_
        refine WDp (NPt (NPb (NPt (NPb (NPt (NPt (NPb (NPt hN)))))))) 7 136 (.pointer (some ⟨g87, 1, none⟩)) (by kernel_rfl) (fun _ => by kernel_rfl) hS512 ?_
        refine WDp (NPt (NPb (NPt (NPb (NPt (NPt (NPb (NPt hN)))))))) 9 138 (.pointer (some ⟨g87, 3, none⟩)) (by kernel_rfl) (fun _ => by kernel_rfl) hS512 ?_
        refine WDl (NPt (NPb (NPt (NPb (NPt (NPt (NPb (NPt hN)))))))) 2 50 (.pointer (some ⟨g87, 1, none⟩)) (.agg #[.int .i64 e81.bn, .int .i64 e81.bd]) 131 (by kernel_rfl) (by kernel_rfl) (fun _ hS_ => run_ld (Fr.has hS_ (hC511.get 1 rfl) (fun h_ => (List.mem_cons.1 h_).elim (fun e_ => absurd e_ (hC511.ne 1 0 rfl rfl (by decide))) (hC511.notin 0 1 rfl rfl))) rfl) hS512 ?_
        refine WDl (NPt (NPb (NPt (NPb (NPt (NPt (NPb (NPt hN)))))))) 8 50 (.pointer (some ⟨g87, 1, none⟩)) (.agg #[.int .i64 e81.bn, .int .i64 e81.bd]) 137 (by kernel_rfl) (by kernel_rfl) (fun _ hS_ => run_ld (Fr.has hS_ (hC511.get 1 rfl) (fun h_ => (List.mem_cons.1 h_).elim (fun e_ => absurd e_ (hC511.ne 1 0 rfl rfl (by decide))) (hC511.notin 0 1 rfl rfl))) rfl) hS512 ?_
        refine WDl (NPt (NPb (NPt (NPb (NPt (NPt (NPb (NPt hN)))))))) 10 25 (.pointer (some ⟨g87, 3, none⟩)) (.slice e81.la e81.L.length e81.lc) 139 (by kernel_rfl) (by kernel_rfl) (fun _ hS_ => run_ld (Fr.has hS_ (hC511.get 1 rfl) (fun h_ => (List.mem_cons.1 h_).elim (fun e_ => absurd e_ (hC511.ne 1 0 rfl rfl (by decide))) (hC511.notin 0 1 rfl rfl))) rfl) hS512 ?_
        rcases Classical.em (acceptE V e81.bn e81.bd (vals L491) = 0) with hE519 | hE519
        ·
         refine WD.call 4 (by kernel_rfl) rfl rfl rfl rfl rfl (by kernel_rfl) (AccVS_yes FA pv V sp31 N N 4194304 w509 hvs513 e81.bn e81.bd A489 c490 L491 hok_e81.bd (own_rd ho516 cellsC_len (by decide)) (fun m_ h_ => hl517.at_ m_ h_) (by omega) hE519 (room_prep (by omega)) (room_accL (by omega) _ _)) ?_
         rintro _ w524 ⟨FA520, rfl, hF521, hvs522, hsub523⟩
         have hC525 := hC511.callF 0 rfl hF521 hsub523 (vsAt_lt hvs522)
         have hS526 := hS512.trans hF521 (fun x_ hx_ => .inl (List.mem_cons_of_mem _ hx_))
         refine ⟨_, rfl, hS526, ?_⟩
         have ho529 := own_fr ho516 hF521 (hC511.disj 3 0 rfl rfl (by decide))
         have hl530 := logIn.fr hl517 hF521 (hC511.disj 4 0 rfl rfl (by decide))
         have hlp531 := endsP.fr hlp518 hF521 (hC511.disj 4 0 rfl rfl (by decide))
         have hvsN532 : vsAt w524 FA520 pv (⟨e81.bn, e81.bd, e81.bn, e81.bd, (vals L491), V.node⟩ : Vo) sp31 (putL (putL N kP (bytesN [e81.bn, e81.bd])) kV (bytesN [e81.bn, e81.bd] ++ bytesL (vals L491))) (putL (putL N kP (bytesN [e81.bn, e81.bd])) kV (bytesN [e81.bn, e81.bd] ++ bytesL (vals L491))) 4194304 := hvs522
         refine WD.call 5 (by kernel_rfl) rfl rfl rfl rfl rfl (by kernel_rfl) (Num_nil w524) ?_
         rintro _ w534 ⟨rfl, hF533⟩
         have hS536 := hS526.trans hF533 (by simp)
         refine ⟨_, rfl, hS536, ?_⟩
         have hC535 := hC525.call hF533
         have hvs537 := vsAt_fr hvsN532 hF533 (by simp)
         have ho540 := own_fr ho529 hF533 (by simp)
         have hl541 := logIn.fr hl530 hF533 (by simp)
         have hlp542 := endsP.fr hlp531 hF533 (by simp)
         have hpw_ : w.heap.size ≤ g53 := (hC535.new_ge 0 rfl).resolve_left (fun h_ => nomatch h_)
         refine WD.call 11 (by kernel_rfl) rfl rfl rfl rfl rfl (by kernel_rfl) (RAcc_yes g53 V Am nm cm e81.bn e81.bd e81.la e81.lc e81.L w534 (hC535.get 0 rfl) (Rd.fr hok_e81.rd hC535.fr) (fun m_ h_ => cmdAt.fr0 (hok_e81.at_ m_ h_) hC535.fr) hok_e81.lim (fun h0_ b_ off_ e_ h_ => absurd (rd_lt hok_e81.rd cellsC_len (by decide) h0_ e_) (by have e1_ := List.mem_singleton.1 h_; omega)) (fun m_ hm_ h0_ b_ off_ e_ h_ => absurd (rd_lt (hok_e81.at_ m_ hm_).rd cellsE_len (by decide) h0_ e_) (by have e1_ := List.mem_singleton.1 h_; omega)) (by rw [← hvv497]; exact hE519)) ?_
         rintro _ w548 ⟨A543, c544, L545, R546, rfl, hF547, hp549, ho550, hli551, hvv552, hRg553, hdd554⟩
         have hC555 := hC535.callM 0 rfl hF547 hp549
         have hC556 := Cx_grow2 hC555 w534.heap.size hC535.bound (Cx_setlt hC535 0 rfl) hC535.fr.size (fun x_ h_ => ⟨own_ge ho550 x_ h_, own_lt ho550 x_ h_⟩) hRg553 hdd554
         have ho557 := own_base (b' := 0) ho550 (fun _ _ => Nat.zero_le _)
         have hS558 := hS536.trans hF547 (fun x_ hx_ => .inl (by rw [List.mem_singleton.1 hx_]; exact List.mem_cons_self))
         refine ⟨_, rfl, hS558, ?_⟩
         have hvs559 := vsAt_fr hvs537 hF547 (hC535.apartM 0 0 rfl rfl)
         have ho560 := own_fr ho540 hF547 (hC535.apartM 3 0 rfl rfl)
         have hl561 := logIn.fr hl541 hF547 (hC535.apartM 4 0 rfl rfl)
         have hlp562 := endsP.fr hlp542 hF547 (hC535.apartM 4 0 rfl rfl)
         refine WDp (NPt (NPb (NPt (NPb (NPt (NPt (NPb (NPt hN)))))))) 12 141 (.bool true) (by kernel_rfl) (fun _ => by kernel_rfl) hS558 ?_
         refine WDp (NPt (NPb (NPt (NPb (NPt (NPt (NPb (NPt hN)))))))) 13 142 (.bool true) (by kernel_rfl) (fun _ => by kernel_rfl) hS558 ?_
         refine WDp (NPt (NPb (NPt (NPb (NPt (NPt (NPb (NPt hN)))))))) 14 143 (.slice A489 L491.length c490) (by kernel_rfl) (fun _ => by kernel_rfl) hS558 ?_
         refine WDp (NPt (NPb (NPt (NPb (NPt (NPt (NPb (NPt hN)))))))) 15 144 (.pointer (some ⟨g87, 3, none⟩)) (by kernel_rfl) (fun _ => by kernel_rfl) hS558 ?_
         refine WD.sem 16 (Instr.loadAt 25 (.pointer (some ⟨g87, 3, none⟩))) 145 (.slice e81.la e81.L.length e81.lc) (by kernel_rfl) (by kernel_rfl) (run_ld (hC556.get 1 rfl) rfl) hS558 ?_
         refine WD.call 17 (by kernel_rfl) rfl rfl rfl rfl rfl (by kernel_rfl) (RSame_n A489 e81.la L491.length c490 e81.L.length e81.lc L491 e81.L w548 (own_rd ho560 cellsC_len (by decide)) (Rd.fr hok_e81.rd hC556.fr) rfl rfl (fun m_ h_ => hl561.at_ m_ h_) (fun m_ h_ => cmdAt.fr0 (hok_e81.at_ m_ h_) hC556.fr) (by have z_ := congrArg List.length (hvv497); rw [vals_len] at z_; first | (have z2_ := vs_loglen hvs; omega) | (rw [vals_len] at z_; omega) | (simp only [vals_len] at z_; omega))) ?_
         rintro _ w564 ⟨rfl, hF563⟩
         have hS566 := hS558.trans hF563 (by simp)
         refine ⟨_, rfl, hS566, ?_⟩
         have hC565 := hC556.call hF563
         have hvs567 := vsAt_fr hvs559 hF563 (by simp)
         have ho568 := own_fr ho560 hF563 (by simp)
         have hlp570 := endsP.fr hlp562 hF563 (by simp)
         have ho571 := own_fr ho557 hF563 (by simp)
         have hl572 := logIn.fr hli551 hF563 (by simp)
         refine WDp (NPt (NPb (NPt (NPb (NPt (NPt (NPb (NPt hN)))))))) 18 147 (.bool (decide (vals L491 = vals e81.L))) (by kernel_rfl) (fun _ => by kernel_rfl) hS566 ?_
         refine WDp (NPt (NPb (NPt (NPb (NPt (NPt (NPb (NPt hN)))))))) 19 10 (.bool (decide (vals L491 = vals e81.L))) (by kernel_rfl) (fun _ => by kernel_rfl) hS566 ?_
         refine WD.done (by kernel_rfl) ?_
         refine QXn (hK508 _ _ ?_)
         refine WCs (fun K573 hK574 => ?_)
         refine WCg (WLr 3 [(150, .int .i64 0), (149, .int .i64 (L491.length : Int)), (148, .slice A489 L491.length c490)] (fun _ => by kernel_rfl) (WLd rfl (QXn (hK574 _ _ ?_))))
         refine WC.block ?_
         refine WC.loop (fun m_ E_ w_ => ∃ (ki : Nat) (Lz : List Cmd), m_ = L491.length - ki ∧ E_ = [(0, .int .i64 node), (1, .slice A ops.length c), (5, .pointer (some ⟨sp31, 0, none⟩)), (6, .pointer (some ⟨pv, 0, none⟩)), (7, .pointer (some ⟨g53, 0, none⟩)), (9, .pointer (some ⟨g87, 0, none⟩)), (10, .bool (decide (vals L491 = vals e81.L))), (18, .slice A489 L491.length c490), (50, .slice A ops.length c), (51, .int .i64 (ops.length : Int)), (52, .int .i64 (i : Int)), (53, .bool true), (54, .pointer (some ⟨b83, o85 + i * 5, none⟩)), (55, .agg #[.int .i64 e81.kind, .int .i64 e81.bn, .int .i64 e81.bd, .slice e81.la e81.L.length e81.lc, .slice e81.ba e81.bs.length e81.bc]), (56, .pointer (some ⟨g87, 3, none⟩)), (57, .slice e81.la e81.L.length e81.lc), (58, .bool lgb106), (59, .bool false), (60, .pointer (some ⟨g87, 4, none⟩)), (61, .slice e81.ba e81.bs.length e81.bc), (62, .int .i64 (e81.bs.length : Int)), (63, .bool (decide ((e81.bs.length : Int) > 100))), (64, .bool false), (65, .pointer (some ⟨g87, 0, none⟩)), (66, .int .i64 e81.kind), (82, .bool false), (83, .bool (e81.kind == 0)), (124, .bool true), (125, .bool (e81.kind == 1)), (126, .pointer (some ⟨g87, 3, none⟩)), (127, .slice e81.la e81.L.length e81.lc), (128, .slice A489 L491.length c490), (129, .pointer (some ⟨pv, 0, none⟩)), (130, .pointer (some ⟨g87, 1, none⟩)), (131, .agg #[.int .i64 e81.bn, .int .i64 e81.bd]), (132, .slice A489 L491.length c490), (133, .nilIface), (134, .int .i64 0), (135, .pointer (some ⟨g53, 0, none⟩)), (136, .pointer (some ⟨g87, 1, none⟩)), (137, .agg #[.int .i64 e81.bn, .int .i64 e81.bd]), (138, .pointer (some ⟨g87, 3, none⟩)), (139, .slice e81.la e81.L.length e81.lc), (140, .int .i64 0), (141, .bool true), (142, .bool true), (143, .slice A489 L491.length c490), (144, .pointer (some ⟨g87, 3, none⟩)), (145, .slice e81.la e81.L.length e81.lc), (146, .bool (decide (vals L491 = vals e81.L))), (147, .bool (decide (vals L491 = vals e81.L))), (148, .slice A489 L491.length c490), (149, .int .i64 (L491.length : Int)), (150, .int .i64 (ki : Int))] ∧ Cx w [] w_ [(g53, .cells #[.int .i64 V.node, .int .i64 e81.bn, .int .i64 e81.bd, .int .i64 e81.bn, .int .i64 e81.bd, .slice A543 L545.length c544] 84), (g87, .cells #[.int .i64 e81.kind, .int .i64 e81.bn, .int .i64 e81.bd, .slice e81.la e81.L.length e81.lc, .slice e81.ba e81.bs.length e81.bc] 86)] [FA520, blk (.slice Am nm cm), Rm, blk (.slice A489 L491.length c490), R492, blk (.slice A543 L545.length c544), R546] ∧ vsAt w_ FA520 pv (⟨e81.bn, e81.bd, e81.bn, e81.bd, (vals L491), V.node⟩ : Vo) sp31 (putL (putL N kP (bytesN [e81.bn, e81.bd])) kV (bytesN [e81.bn, e81.bd] ++ bytesL (vals L491))) (putL (putL N kP (bytesN [e81.bn, e81.bd])) kV (bytesN [e81.bn, e81.bd] ++ bytesL (vals L491))) 4194304 ∧ endsP 91 w_ R492 L491 ∧ World.ownsRow w_ 0 61 12 (.slice A543 L545.length c544) L545.length (L545.flatMap cellsC) ∧ logIn w_ R546 L545 ∧ World.ownsRow w_ 0 61 12 (.slice A489 L491.length c490) L491.length (Lz.flatMap cellsC) ∧ (ki ≤ L491.length ∧ Lz.length = L491.length ∧ ∀ q_, ki ≤ q_ → Lz[q_]? = L491[q_]?)) ⟨_, _, ⟨0, L491, rfl, rfl, hC565, hvs567, hlp570, ho571, hl572, ho568, Nat.zero_le _, rfl, (fun _ _ => rfl)⟩, sub_of ⟨rfl, rfl, rfl, rfl, rfl, rfl, rfl, rfl, rfl, rfl, rfl, rfl, rfl, rfl, rfl, rfl, rfl, rfl, rfl, rfl, rfl, rfl, rfl, rfl, rfl, rfl, rfl, rfl, rfl, rfl, rfl, rfl, rfl, rfl, rfl, rfl, rfl, rfl, rfl, rfl, rfl, rfl, rfl, rfl, rfl, rfl, rfl, rfl, rfl, rfl, rfl, rfl, rfl, rfl, trivial⟩⟩ (fun m578 E_ w579 K575 hK576 hI577 => ?_)
         obtain ⟨ki, Lz, rfl, rfl, hC580, vs_m578, lp_m578, mrow_m578, mlog_m578, hzrow, hki, hlz, hzq⟩ := hI577
         refine WCs (fun K581 hK582 => ?_)
         refine WCg (WLr 1 [(151, .bool (decide ((ki : Int) < (L491.length : Int))))] (fun _ => by kernel_rfl) (WLd rfl (QXn (hK582 _ _ ?_))))
         refine WCs (fun K583 hK584 => ?_)
         refine WCa 151 (decide ((ki : Int) < (L491.length : Int))) rfl (fun t585b => ?_) (fun t585b => ?_)
         ·
          have t585 : (ki : Int) < (L491.length : Int) := by have q_ := of_decide_eq_true t585b; omega
          refine WCt rfl ?_
          refine WC.skip ?_
          refine QXn (hK584 _ _ ?_)
          refine WCs (fun K586 hK587 => ?_)
          refine WC.block ?_
          refine WCs (fun K588 hK589 => ?_)
          refine WCg (WLr 2 [(19, .int .i64 (ki : Int)), (152, .int .i64 (ki : Int))] (fun _ => by kernel_rfl) (WLd rfl (QXn (hK589 _ _ ?_))))
          refine WCs (fun K590 hK591 => ?_)
          refine WCs (fun K592 hK593 => ?_)
          refine WCg (WLr 2 [(154, .int .i64 (ki : Int)), (153, .slice A489 L491.length c490)] (fun _ => by kernel_rfl) ?_)
          have hn598 := own_count cellsC_len (by decide) hzrow
          obtain ⟨e594, he595⟩ := get_some (xs := Lz) (i := ki) (by omega)
          obtain ⟨b596, hA597⟩ := own_addr (by decide) cellsC_len hzrow he595
          refine WLi A489 L491.length c490 155 .i64 (ki : Int) b596 0 ki 12 (by kernel_rfl) hA597 (by omega) (by omega) (ki * 12) (by first | (simp; done) | omega) ?_
          refine WLr 2 [(157, .pointer (some ⟨b596, ki * 12 + 5 + 3, none⟩)), (156, .pointer (some ⟨b596, ki * 12 + 5, none⟩))] (fun _ => by kernel_rfl) ?_
          refine WL.load 57 (.pointer (some ⟨b596, ki * 12 + 5 + 3, none⟩)) (.slice e594.a e594.v.ends.length e594.c) 158 (by kernel_rfl) (run_load1 rfl (by simpa [Nat.add_assoc] using Rd.cell (own_rd hzrow cellsC_len (by decide)) hA597 he595 8 _ rfl)) ?_
          refine WLr 2 [(160, .int .i64 0), (159, .int .i64 (e594.v.ends.length : Int))] (fun _ => by kernel_rfl) (WLd rfl (QXn (hK593 _ _ ?_)))
          refine WC.block ?_
          have hze_ := totE_take ((hzq ki (Nat.le_refl _)).symm.trans he595)
          refine WC.loop (fun m_ E_ w_ => ∃ (kj : Nat), m_ = e594.v.ends.length - kj ∧ E_ = [(0, .int .i64 node), (1, .slice A ops.length c), (5, .pointer (some ⟨sp31, 0, none⟩)), (6, .pointer (some ⟨pv, 0, none⟩)), (7, .pointer (some ⟨g53, 0, none⟩)), (9, .pointer (some ⟨g87, 0, none⟩)), (10, .bool (decide (vals L491 = vals e81.L))), (18, .slice A489 L491.length c490), (19, .int .i64 (ki : Int)), (50, .slice A ops.length c), (51, .int .i64 (ops.length : Int)), (52, .int .i64 (i : Int)), (53, .bool true), (54, .pointer (some ⟨b83, o85 + i * 5, none⟩)), (55, .agg #[.int .i64 e81.kind, .int .i64 e81.bn, .int .i64 e81.bd, .slice e81.la e81.L.length e81.lc, .slice e81.ba e81.bs.length e81.bc]), (56, .pointer (some ⟨g87, 3, none⟩)), (57, .slice e81.la e81.L.length e81.lc), (58, .bool lgb106), (59, .bool false), (60, .pointer (some ⟨g87, 4, none⟩)), (61, .slice e81.ba e81.bs.length e81.bc), (62, .int .i64 (e81.bs.length : Int)), (63, .bool (decide ((e81.bs.length : Int) > 100))), (64, .bool false), (65, .pointer (some ⟨g87, 0, none⟩)), (66, .int .i64 e81.kind), (82, .bool false), (83, .bool (e81.kind == 0)), (124, .bool true), (125, .bool (e81.kind == 1)), (126, .pointer (some ⟨g87, 3, none⟩)), (127, .slice e81.la e81.L.length e81.lc), (128, .slice A489 L491.length c490), (129, .pointer (some ⟨pv, 0, none⟩)), (130, .pointer (some ⟨g87, 1, none⟩)), (131, .agg #[.int .i64 e81.bn, .int .i64 e81.bd]), (132, .slice A489 L491.length c490), (133, .nilIface), (134, .int .i64 0), (135, .pointer (some ⟨g53, 0, none⟩)), (136, .pointer (some ⟨g87, 1, none⟩)), (137, .agg #[.int .i64 e81.bn, .int .i64 e81.bd]), (138, .pointer (some ⟨g87, 3, none⟩)), (139, .slice e81.la e81.L.length e81.lc), (140, .int .i64 0), (141, .bool true), (142, .bool true), (143, .slice A489 L491.length c490), (144, .pointer (some ⟨g87, 3, none⟩)), (145, .slice e81.la e81.L.length e81.lc), (146, .bool (decide (vals L491 = vals e81.L))), (147, .bool (decide (vals L491 = vals e81.L))), (148, .slice A489 L491.length c490), (149, .int .i64 (L491.length : Int)), (150, .int .i64 (ki : Int)), (151, .bool true), (152, .int .i64 (ki : Int)), (153, .slice A489 L491.length c490), (154, .int .i64 (ki : Int)), (155, .pointer (some ⟨b596, ki * 12, none⟩)), (156, .pointer (some ⟨b596, ki * 12 + 5, none⟩)), (157, .pointer (some ⟨b596, ki * 12 + 5 + 3, none⟩)), (158, .slice e594.a e594.v.ends.length e594.c), (159, .int .i64 (e594.v.ends.length : Int)), (160, .int .i64 (kj : Int))] ∧ Cx w [] w_ [(g53, .cells #[.int .i64 V.node, .int .i64 e81.bn, .int .i64 e81.bd, .int .i64 e81.bn, .int .i64 e81.bd, .slice A543 L545.length c544] 84), (g87, .cells #[.int .i64 e81.kind, .int .i64 e81.bn, .int .i64 e81.bd, .slice e81.la e81.L.length e81.lc, .slice e81.ba e81.bs.length e81.bc] 86)] [FA520, blk (.slice Am nm cm), Rm, blk (.slice A489 L491.length c490), R492, blk (.slice A543 L545.length c544), R546] ∧ vsAt w_ FA520 pv (⟨e81.bn, e81.bd, e81.bn, e81.bd, (vals L491), V.node⟩ : Vo) sp31 (putL (putL N kP (bytesN [e81.bn, e81.bd])) kV (bytesN [e81.bn, e81.bd] ++ bytesL (vals L491))) (putL (putL N kP (bytesN [e81.bn, e81.bd])) kV (bytesN [e81.bn, e81.bd] ++ bytesL (vals L491))) 4194304 ∧ endsP 91 w_ R492 L491 ∧ World.ownsRow w_ 0 61 12 (.slice A543 L545.length c544) L545.length (L545.flatMap cellsC) ∧ logIn w_ R546 L545 ∧ World.ownsRow w_ 0 61 12 (.slice A489 L491.length c490) L491.length (Lz.flatMap cellsC) ∧ (kj ≤ e594.v.ends.length)) ⟨_, _, ⟨0, rfl, rfl, hC580, vs_m578, lp_m578, mrow_m578, mlog_m578, hzrow, Nat.zero_le _⟩, sub_of ⟨rfl, rfl, rfl, rfl, rfl, rfl, rfl, rfl, rfl, rfl, rfl, rfl, rfl, rfl, rfl, rfl, rfl, rfl, rfl, rfl, rfl, rfl, rfl, rfl, rfl, rfl, rfl, rfl, rfl, rfl, rfl, rfl, rfl, rfl, rfl, rfl, rfl, rfl, rfl, rfl, rfl, rfl, rfl, rfl, rfl, rfl, rfl, rfl, rfl, rfl, rfl, rfl, rfl, rfl, rfl, rfl, rfl, rfl, rfl, rfl, rfl, rfl, rfl, rfl, rfl, trivial⟩⟩ (fun m602 E_ w603 K599 hK600 hI601 => ?_)
          obtain ⟨kj, rfl, rfl, hC604, vs_m602, lp_m602, mrow_m602, mlog_m602, lg506r_m602, hkj⟩ := hI601
          skip
          refine WCs (fun K605 hK606 => ?_)
          refine WCg (WLr 1 [(161, .bool (decide ((kj : Int) < (e594.v.ends.length : Int))))] (fun _ => by kernel_rfl) (WLd rfl (QXn (hK606 _ _ ?_))))
          refine WCs (fun K607 hK608 => ?_)
          refine WCa 161 (decide ((kj : Int) < (e594.v.ends.length : Int))) rfl (fun t609b => ?_) (fun t609b => ?_)
          ·
           have t609 : (kj : Int) < (e594.v.ends.length : Int) := by have q_ := of_decide_eq_true t609b; omega
           refine WCt rfl ?_
           refine WC.skip ?_
           refine QXn (hK608 _ _ ?_)
           refine WCs (fun K610 hK611 => ?_)
           refine WC.block ?_
           refine WCs (fun K612 hK613 => ?_)
           refine WCg (WLr 2 [(20, .int .i64 (kj : Int)), (162, .int .i64 (kj : Int))] (fun _ => by kernel_rfl) (WLd rfl (QXn (hK613 _ _ ?_))))
           refine WCg (WLr 2 [(164, .int .i64 (ki : Int)), (163, .slice A489 L491.length c490)] (fun _ => by kernel_rfl) ?_)
           refine WLi A489 L491.length c490 165 .i64 (ki : Int) b596 0 ki 12 (by kernel_rfl) hA597 (by omega) (by omega) (ki * 12) (by first | (simp; done) | omega) ?_
           refine WLr 2 [(167, .pointer (some ⟨b596, ki * 12 + 5 + 3, none⟩)), (166, .pointer (some ⟨b596, ki * 12 + 5, none⟩))] (fun _ => by kernel_rfl) ?_
           refine WL.load 57 (.pointer (some ⟨b596, ki * 12 + 5 + 3, none⟩)) (.slice e594.a e594.v.ends.length e594.c) 168 (by kernel_rfl) (run_load1 rfl (by simpa [Nat.add_assoc] using Rd.cell (own_rd lg506r_m602 cellsC_len (by decide)) hA597 he595 8 _ rfl)) ?_
           refine WLr 2 [(170, .agg #[.int .u32 0, .int .i64 0, .int .i64 0]), (169, .int .i64 (kj : Int))] (fun _ => by kernel_rfl) ?_
           obtain ⟨b618, c619, hA620, hbR621, hbh622, hsz623⟩ := lp_m602 e594 (List.mem_of_getElem? ((hzq ki (Nat.le_refl _)).symm.trans he595)) (by omega)
           refine WLi e594.a e594.v.ends.length e594.c 171 .i64 (kj : Int) b618 0 kj 3 (by kernel_rfl) hA620 (by omega) (by omega) (kj * 3) (by first | (simp; done) | omega) ?_
           obtain ⟨c624, hcs625, hr626⟩ := store_end hbh622 (j := kj) (n := e594.v.ends.length) (by omega) hsz623
           have hF629 : Fr _ _ _ := (putRow_fr (w := w603) b618 (.cells c624 91 (0, 0))).mono (fun x_ (h_ : x_ ∈ _) => show x_ ∈ R492 from by rw [List.mem_singleton.1 h_]; exact hbR621)
           have hlp631 := endsP.put lp_m602 hbh622 hcs625
           obtain ⟨w627, hw628⟩ : ∃ w_, putRow w603 b618 (.cells c624 91 (0, 0)) = w_ := ⟨_, rfl⟩
           rw [hw628] at hr626 hF629 hlp631
           have hC630 := hC604.callF 4 rfl hF629 (fun x_ h_ => .inl h_) (fun x_ h_ => Nat.lt_of_lt_of_le (hC604.ltF 4 rfl x_ h_) hF629.size)
           refine WL.semU (Instr.storeAt 91 (.pointer (some ⟨b618, kj * 3, none⟩)) (.agg #[.int .u32 0, .int .i64 0, .int .i64 0])) (by kernel_rfl) hr626 ?_
           have hvs632 := vsAt_fr vs_m602 hF629 (hC604.disj 0 4 rfl rfl (by decide))
           have ho633 := own_fr mrow_m602 hF629 (hC604.disj 5 4 rfl rfl (by decide))
           have hl634 := logIn.fr mlog_m602 hF629 (hC604.disj 6 4 rfl rfl (by decide))
           have ho635 := own_fr lg506r_m602 hF629 (hC604.disj 3 4 rfl rfl (by decide))
           refine WLd rfl ?_
           refine QXb ?_
           refine QXn (hK611 _ _ ?_)
           refine WCg (WLr 1 [(172, .int .i64 (IntKind.i64.wrap ((kj : Int) + 1)))] (fun _ => by kernel_rfl) ?_)
           refine WLt (show (.int .i64 (IntKind.i64.wrap ((kj : Int) + 1)) : Value) = .int .i64 ((kj : Int) + 1) from by rw [wrap_in_i64 ((kj : Int) + 1) (by omega) (by omega)]) ?_
           refine WLr 1 [(160, .int .i64 ((kj : Int) + 1))] (fun _ => by kernel_rfl) ?_
           refine WLd rfl ?_
           refine QXn ?_
           have hC636 := hC630.pick [0, 1] [0, 1, 2, 3, 4, 5, 6] rfl rfl
           refine fun a_ ha_ => hK600 _ _ _ ?_ ⟨kj + 1, rfl, rfl, hC636, hvs632, hlp631, ho633, hl634, ho635, by omega⟩ a_ (ha_.weaken (sub_of ⟨rfl, rfl, rfl, rfl, rfl, rfl, rfl, rfl, rfl, rfl, rfl, rfl, rfl, rfl, rfl, rfl, rfl, rfl, rfl, rfl, rfl, rfl, rfl, rfl, rfl, rfl, rfl, rfl, rfl, rfl, rfl, rfl, rfl, rfl, rfl, rfl, rfl, rfl, rfl, rfl, rfl, rfl, rfl, rfl, rfl, rfl, rfl, rfl, rfl, rfl, rfl, rfl, rfl, rfl, rfl, rfl, rfl, rfl, rfl, rfl, rfl, rfl, rfl, rfl, rfl, trivial⟩))
           omega
          ·
           have t609 : (e594.v.ends.length : Int) ≤ (kj : Int) := by have q_ := of_decide_eq_false t609b; omega
           refine WCf rfl ?_
           refine WC.exit ?_
           refine QXe ?_
           refine QXe ?_
           refine QX.block_hit ?_
           refine QXn (hK591 _ _ ?_)
           refine WCg (WLr 3 [(175, .agg #[.int .i64 0, .int .i64 0, .int .i64 0, .int .i64 0, .int .i64 0, .int .u32 0, .int .i64 0, .int .i64 0, .slice none 0 0, .int .u32 0, .int .u32 0, .bool false]), (174, .int .i64 (ki : Int)), (173, .slice A489 L491.length c490)] (fun _ => by kernel_rfl) ?_)
           refine WLi A489 L491.length c490 176 .i64 (ki : Int) b596 0 ki 12 (by kernel_rfl) hA597 (by omega) (by omega) (ki * 12) (by first | (simp; done) | omega) ?_
           obtain ⟨w641, hr642, hF643, ho645, hC644⟩ := stoE_run Try.prog cellsC_len hC604 3 hA597 rfl lg506r_m602 ki 0 (x := e594) he595 (⟨⟨0, 0, 0, 0, 0, 0, 0, 0, [], 0, 0, false⟩, none, 0⟩ : Cmd) [.int .i64 0, .int .i64 0, .int .i64 0, .int .i64 0, .int .i64 0, .int .u32 0, .int .i64 0, .int .i64 0, .slice none 0 0, .int .u32 0, .int .u32 0, .bool false] rfl 61 (.agg #[.int .i64 0, .int .i64 0, .int .i64 0, .int .i64 0, .int .i64 0, .int .u32 0, .int .i64 0, .int .i64 0, .slice none 0 0, .int .u32 0, .int .u32 0, .bool false]) (ki * 12) rfl rfl rfl (by first | rfl | simp [Nat.add_assoc])
           refine WL.semU (Instr.storeAt 61 (.pointer (some ⟨b596, ki * 12, none⟩)) (.agg #[.int .i64 0, .int .i64 0, .int .i64 0, .int .i64 0, .int .i64 0, .int .u32 0, .int .i64 0, .int .i64 0, .slice none 0 0, .int .u32 0, .int .u32 0, .bool false])) (by kernel_rfl) hr642 ?_
           have hvs646 := vsAt_fr vs_m602 hF643 (hC604.disj 0 3 rfl rfl (by decide))
           have hlp647 := endsP.fr lp_m602 hF643 (hC604.disj 4 3 rfl rfl (by decide))
           have ho648 := own_fr mrow_m602 hF643 (hC604.disj 5 3 rfl rfl (by decide))
           have hl649 := logIn.fr mlog_m602 hF643 (hC604.disj 6 3 rfl rfl (by decide))
           refine WLd rfl ?_
           refine QXb ?_
           refine QXn (hK587 _ _ ?_)
           refine WCg (WLr 1 [(177, .int .i64 (IntKind.i64.wrap ((ki : Int) + 1)))] (fun _ => by kernel_rfl) ?_)
           refine WLt (show (.int .i64 (IntKind.i64.wrap ((ki : Int) + 1)) : Value) = .int .i64 ((ki : Int) + 1) from by rw [wrap_in_i64 ((ki : Int) + 1) (by omega) (by omega)]) ?_
           refine WLr 1 [(150, .int .i64 ((ki : Int) + 1))] (fun _ => by kernel_rfl) ?_
           refine WLd rfl ?_
           refine QXn ?_
           have hC650 := hC644.pick [0, 1] [0, 1, 2, 3, 4, 5, 6] rfl rfl
           refine fun a_ ha_ => hK576 _ _ _ ?_ ⟨ki + 1, Lz.set ki (⟨⟨0, 0, 0, 0, 0, 0, 0, 0, [], 0, 0, false⟩, none, 0⟩ : Cmd), rfl, rfl, hC650, hvs646, hlp647, ho648, hl649, ho645, by omega, by rw [List.length_set]; exact hlz, (fun q_ hq_ => by rw [List.getElem?_set_ne (by omega)]; exact hzq q_ (by omega))⟩ a_ (ha_.weaken (sub_of ⟨rfl, rfl, rfl, rfl, rfl, rfl, rfl, rfl, rfl, rfl, rfl, rfl, rfl, rfl, rfl, rfl, rfl, rfl, rfl, rfl, rfl, rfl, rfl, rfl, rfl, rfl, rfl, rfl, rfl, rfl, rfl, rfl, rfl, rfl, rfl, rfl, rfl, rfl, rfl, rfl, rfl, rfl, rfl, rfl, rfl, rfl, rfl, rfl, rfl, rfl, rfl, rfl, rfl, rfl, trivial⟩))
           omega
         ·
          have t585 : (L491.length : Int) ≤ (ki : Int) := by have q_ := of_decide_eq_false t585b; omega
          refine WCf rfl ?_
          refine WC.exit ?_
          refine QXe ?_
          refine QXe ?_
          refine QX.block_hit ?_
          refine QXb ?_
          refine QXn (hK123 _ _ ?_)
          refine WCs (fun K651 hK652 => ?_)
          refine WCs (fun K653 hK654 => ?_)
          refine WCg (WLr 2 [(193, .bool (!(decide (vals L491 = vals e81.L)))), (192, .bool (decide (vals L491 = vals e81.L)))] (fun _ => by kernel_rfl) (WLd rfl (QXn (hK654 _ _ ?_))))
          refine WC.know 193 (.bool (!(decide (vals L491 = vals e81.L)))) (.bool false) rfl (congrArg Value.bool (by simp [hvv552, hvv497, hmv])) ?_
          refine WCf rfl (WC.skip (QXn (hK652 _ _ ?_)))
          refine WCs (fun K655 hK656 => ?_)
          refine WCg (WLr 1 [(195, .pointer (some ⟨pv, 0, none⟩))] (fun _ => by kernel_rfl) ?_)
          refine WLc rfl rfl rfl rfl rfl (by kernel_rfl) (AcceptedVS FA520 pv (⟨e81.bn, e81.bd, e81.bn, e81.bd, (vals L491), V.node⟩ : Vo) sp31 (putL (putL N kP (bytesN [e81.bn, e81.bd])) kV (bytesN [e81.bn, e81.bd] ++ bytesL (vals L491))) (putL (putL N kP (bytesN [e81.bn, e81.bd])) kV (bytesN [e81.bn, e81.bd] ++ bytesL (vals L491))) 4194304 w579 vs_m578) ?_
          rintro _ w667 ⟨A657, c658, L659, R660, rfl, hF661, ho662, hli663, hvv664, hRg665, hgr666⟩
          have hC668 := callNN hC580 hF661 (own_ge ho662) (own_lt ho662) (fun x_ h_ => (hRg665 x_ h_).1) (fun x_ h_ => (hRg665 x_ h_).2) hgr666
          refine ⟨_, rfl, ?_⟩
          have hvs669 := vsAt_fr vs_m578 hF661 (by simp)
          have ho671 := own_fr mrow_m578 hF661 (by simp)
          have hl672 := logIn.fr mlog_m578 hF661 (by simp)
          have ho674 := own_base (b' := 0) ho662 (fun _ _ => Nat.zero_le _)
          have hvvN_L659 : vals L659 = ((vals L491) : List CmdV) := hvv664
          have hll_L659 : L659.length = ((vals L491) : List CmdV).length := by rw [← vals_len, hvvN_L659]
          refine WLr 3 [(198, .slice A657 L659.length c658), (197, .agg #[.int .i64 e81.bn, .int .i64 e81.bd]), (194, .tuple #[.agg #[.int .i64 e81.bn, .int .i64 e81.bd], .slice A657 L659.length c658])] (fun _ => by kernel_rfl) ?_
          refine WL.newM hC668 (fun b => .pointer (some ⟨b, 0, none⟩)) (.cells #[.int .i64 0, .int .i64 0] 50) 24 (fun _ => by kernel_rfl) (fun g676 w677 hb680 hF678 hC679 => ?_)
          have hvs681 := vsAt_fr hvs669 hF678 (by simp)
          have ho683 := own_fr ho671 hF678 (by simp)
          have hl684 := logIn.fr hl672 hF678 (by simp)
          have ho686 := own_fr ho674 hF678 (by simp)
          have hl687 := logIn.fr hli663 hF678 (by simp)
          refine WLs (c' := #[.int .i64 e81.bn, .int .i64 e81.bd]) hC679 2 50 g676 0 (.agg #[.int .i64 e81.bn, .int .i64 e81.bd]) (by kernel_rfl) rfl (by kernel_rfl) (fun w688 hF690 hC691 => ?_)
          have hvs692 := vsAt_fr hvs681 hF690 (hC679.apartM 0 2 rfl rfl)
          have ho694 := own_fr ho683 hF690 (hC679.apartM 5 2 rfl rfl)
          have hl695 := logIn.fr hl684 hF690 (hC679.apartM 6 2 rfl rfl)
          have ho697 := own_fr ho686 hF690 (hC679.apartM 7 2 rfl rfl)
          have hl698 := logIn.fr hl687 hF690 (hC679.apartM 8 2 rfl rfl)
          refine WLr 1 [(25, .slice A657 L659.length c658)] (fun _ => by kernel_rfl) (WLd rfl (QXn (hK656 _ _ ?_)))
          refine WCs (fun K699 hK700 => ?_)
          refine WC.drawC hC691 [] (by kernel_rfl) (fun w701 hF702 hC703 hS704 => ?_)
          have hvs705 := vsAt_fr hvs692 hF702 (by simp)
          have ho707 := own_fr ho694 hF702 (by simp)
          have hl708 := logIn.fr hl695 hF702 (by simp)
          have ho710 := own_fr ho697 hF702 (by simp)
          have hl711 := logIn.fr hl698 hF702 (by simp)
          refine WDp (NPt (NPb (NPt (NPt (NPb (NPt hN)))))) 0 199 (.pointer (some ⟨pv, 0, none⟩)) (by kernel_rfl) (fun _ => by kernel_rfl) hS704 ?_
          refine WDp (NPt (NPb (NPt (NPt (NPb (NPt hN)))))) 2 201 (.pointer (some ⟨g53, 0, none⟩)) (by kernel_rfl) (fun _ => by kernel_rfl) hS704 ?_
          refine WDp (NPt (NPb (NPt (NPt (NPb (NPt hN)))))) 3 202 (.pointer (some ⟨g53, 0, none⟩)) (by kernel_rfl) (fun _ => by kernel_rfl) hS704 ?_
          refine WDp (NPt (NPb (NPt (NPt (NPb (NPt hN)))))) 4 203 (.pointer (some ⟨g53, 1, none⟩)) (by kernel_rfl) (fun _ => by kernel_rfl) hS704 ?_
          refine WDl (NPt (NPb (NPt (NPt (NPb (NPt hN)))))) 5 50 (.pointer (some ⟨g53, 1, none⟩)) (.agg #[.int .i64 e81.bn, .int .i64 e81.bd]) 204 (by kernel_rfl) (by kernel_rfl) (fun _ hS_ => run_ld (Fr.has hS_ (hC703.get 0 rfl) (by simp)) rfl) hS704 ?_
          refine WD.call 1 (by kernel_rfl) rfl rfl rfl rfl rfl (by kernel_rfl) (PromVS FA520 pv (⟨e81.bn, e81.bd, e81.bn, e81.bd, (vals L491), V.node⟩ : Vo) sp31 (putL (putL N kP (bytesN [e81.bn, e81.bd])) kV (bytesN [e81.bn, e81.bd] ++ bytesL (vals L491))) (putL (putL N kP (bytesN [e81.bn, e81.bd])) kV (bytesN [e81.bn, e81.bd] ++ bytesL (vals L491))) 4194304 w701 hvs705) ?_
          rintro _ w713 ⟨rfl, hF712⟩
          have hS715 := hS704.trans hF712 (by simp)
          refine ⟨_, rfl, hS715, ?_⟩
          have hC714 := hC703.call hF712
          have hvs716 := vsAt_fr hvs705 hF712 (by simp)
          have ho718 := own_fr ho707 hF712 (by simp)
          have hl719 := logIn.fr hl708 hF712 (by simp)
          have ho721 := own_fr ho710 hF712 (by simp)
          have hl722 := logIn.fr hl711 hF712 (by simp)
          have hr723 : ∀ w_, Sem.run Try.prog (do eqGuard .neq 50 (Operand.tmp 200) (Operand.tmp 204) (.agg #[.int .i64 e81.bn, .int .i64 e81.bd]) (.agg #[.int .i64 e81.bn, .int .i64 e81.bd]); binOp .neq 50 (.agg #[.int .i64 e81.bn, .int .i64 e81.bd]) (.agg #[.int .i64 e81.bn, .int .i64 e81.bd])) w_ = .ok (.bool (!(e81.bn == e81.bn && (e81.bd == e81.bd && true)))) w_ := fun w_ => (run_neq_S (by kernel_rfl))
          refine WD.semP (NPt (NPb (NPt (NPt (NPb (NPt hN)))))) 6 (do eqGuard .neq 50 (Operand.tmp 200) (Operand.tmp 204) (.agg #[.int .i64 e81.bn, .int .i64 e81.bd]) (.agg #[.int .i64 e81.bn, .int .i64 e81.bd]); binOp .neq 50 (.agg #[.int .i64 e81.bn, .int .i64 e81.bd]) (.agg #[.int .i64 e81.bn, .int .i64 e81.bd])) 205 (.bool (!(e81.bn == e81.bn && (e81.bd == e81.bd && true)))) (by kernel_rfl) (by kernel_rfl) (fun _ _ => hr723 _) hS715 ?_
          refine WDp (NPt (NPb (NPt (NPt (NPb (NPt hN)))))) 7 206 (.bool (!(e81.bn == e81.bn && (e81.bd == e81.bd && true)))) (by kernel_rfl) (fun _ => by kernel_rfl) hS715 ?_
          refine WD.know 206 (.bool (!(e81.bn == e81.bn && (e81.bd == e81.bd && true)))) (.bool false) rfl (congrArg Value.bool (by simp [hvv552, hvvN_L659, hvv497, hmv])) ?_
          refine WDp (NPt (NPb (NPt (NPt (NPb (NPt hN)))))) 9 208 (.pointer (some ⟨g53, 0, none⟩)) (by kernel_rfl) (fun _ => by kernel_rfl) hS715 ?_
          refine WDp (NPt (NPb (NPt (NPt (NPb (NPt hN)))))) 10 209 (.pointer (some ⟨g53, 0, none⟩)) (by kernel_rfl) (fun _ => by kernel_rfl) hS715 ?_
          refine WDp (NPt (NPb (NPt (NPt (NPb (NPt hN)))))) 11 210 (.pointer (some ⟨g53, 3, none⟩)) (by kernel_rfl) (fun _ => by kernel_rfl) hS715 ?_
          refine WDl (NPt (NPb (NPt (NPt (NPb (NPt hN)))))) 8 50 (.pointer (some ⟨g676, 0, none⟩)) (.agg #[.int .i64 e81.bn, .int .i64 e81.bd]) 207 (by kernel_rfl) (by kernel_rfl) (fun _ hS_ => run_ld (Fr.has hS_ (hC703.get 2 rfl) (by simp)) rfl) hS715 ?_
          refine WDl (NPt (NPb (NPt (NPt (NPb (NPt hN)))))) 12 50 (.pointer (some ⟨g53, 3, none⟩)) (.agg #[.int .i64 e81.bn, .int .i64 e81.bd]) 211 (by kernel_rfl) (by kernel_rfl) (fun _ hS_ => run_ld (Fr.has hS_ (hC703.get 0 rfl) (by simp)) rfl) hS715 ?_
          have hr724 : ∀ w_, Sem.run Try.prog (do eqGuard .neq 50 (Operand.tmp 207) (Operand.tmp 211) (.agg #[.int .i64 e81.bn, .int .i64 e81.bd]) (.agg #[.int .i64 e81.bn, .int .i64 e81.bd]); binOp .neq 50 (.agg #[.int .i64 e81.bn, .int .i64 e81.bd]) (.agg #[.int .i64 e81.bn, .int .i64 e81.bd])) w_ = .ok (.bool (!(e81.bn == e81.bn && (e81.bd == e81.bd && true)))) w_ := fun w_ => (run_neq_S (by kernel_rfl))
          refine WD.semP (NPt (NPb (NPt (NPt (NPb (NPt hN)))))) 13 (do eqGuard .neq 50 (Operand.tmp 207) (Operand.tmp 211) (.agg #[.int .i64 e81.bn, .int .i64 e81.bd]) (.agg #[.int .i64 e81.bn, .int .i64 e81.bd]); binOp .neq 50 (.agg #[.int .i64 e81.bn, .int .i64 e81.bd]) (.agg #[.int .i64 e81.bn, .int .i64 e81.bd])) 212 (.bool (!(e81.bn == e81.bn && (e81.bd == e81.bd && true)))) (by kernel_rfl) (by kernel_rfl) (fun _ _ => hr724 _) hS715 ?_
          refine WDp (NPt (NPb (NPt (NPt (NPb (NPt hN)))))) 14 213 (.bool (!(e81.bn == e81.bn && (e81.bd == e81.bd && true)))) (by kernel_rfl) (fun _ => by kernel_rfl) hS715 ?_
          refine WDp (NPt (NPb (NPt (NPt (NPb (NPt hN)))))) 15 214 (.bool (!(e81.bn == e81.bn && (e81.bd == e81.bd && true)))) (by kernel_rfl) (fun _ => by kernel_rfl) hS715 ?_
          refine WD.know 214 (.bool (!(e81.bn == e81.bn && (e81.bd == e81.bd && true)))) (.bool false) rfl (congrArg Value.bool (by simp [hvv552, hvvN_L659, hvv497, hmv])) ?_
          refine WDp (NPt (NPb (NPt (NPt (NPb (NPt hN)))))) 16 215 (.slice A657 L659.length c658) (by kernel_rfl) (fun _ => by kernel_rfl) hS715 ?_
          refine WDp (NPt (NPb (NPt (NPt (NPb (NPt hN)))))) 17 216 (.pointer (some ⟨g53, 0, none⟩)) (by kernel_rfl) (fun _ => by kernel_rfl) hS715 ?_
          refine WDp (NPt (NPb (NPt (NPt (NPb (NPt hN)))))) 18 217 (.pointer (some ⟨g53, 0, none⟩)) (by kernel_rfl) (fun _ => by kernel_rfl) hS715 ?_
          refine WDp (NPt (NPb (NPt (NPt (NPb (NPt hN)))))) 19 218 (.pointer (some ⟨g53, 5, none⟩)) (by kernel_rfl) (fun _ => by kernel_rfl) hS715 ?_
          refine WDl (NPt (NPb (NPt (NPt (NPb (NPt hN)))))) 20 25 (.pointer (some ⟨g53, 5, none⟩)) (.slice A543 L545.length c544) 219 (by kernel_rfl) (by kernel_rfl) (fun _ hS_ => run_ld (Fr.has hS_ (hC703.get 0 rfl) (by simp)) rfl) hS715 ?_
          refine WD.call 21 (by kernel_rfl) rfl rfl rfl rfl rfl (by kernel_rfl) (RSame_n A657 A543 L659.length c658 L545.length c544 L659 L545 w713 (own_rd ho721 cellsC_len (by decide)) (own_rd ho718 cellsC_len (by decide)) rfl rfl (fun m_ h_ => hl722.at_ m_ h_) (fun m_ h_ => hl719.at_ m_ h_) (by have z_ := congrArg List.length (hvvN_L659); rw [vals_len] at z_; first | (have z2_ := vs_loglen hvs; omega) | (rw [vals_len] at z_; omega) | (simp only [vals_len] at z_; omega))) ?_
          rintro _ w726 ⟨rfl, hF725⟩
          have hS728 := hS715.trans hF725 (by simp)
          refine ⟨_, rfl, hS728, ?_⟩
          have hC727 := hC714.call hF725
          have hvs729 := vsAt_fr hvs716 hF725 (by simp)
          have ho731 := own_fr ho718 hF725 (by simp)
          have hl732 := logIn.fr hl719 hF725 (by simp)
          refine WDp (NPt (NPb (NPt (NPt (NPb (NPt hN)))))) 22 221 (.bool (!(decide (vals L659 = vals L545)))) (by kernel_rfl) (fun _ => by kernel_rfl) hS728 ?_
          refine WDp (NPt (NPb (NPt (NPt (NPb (NPt hN)))))) 23 222 (.bool (!(decide (vals L659 = vals L545)))) (by kernel_rfl) (fun _ => by kernel_rfl) hS728 ?_
          refine WD.done (by kernel_rfl) ?_
          refine QXn (hK700 _ _ ?_)
          refine WC.know 222 (.bool (!(decide (vals L659 = vals L545)))) (.bool false) rfl (congrArg Value.bool (by simp [hvv552, hvvN_L659, hvv497, hmv])) ?_
          refine WCf rfl (WC.skip ?_)
          refine QXb ?_
          refine QXn (hK78 _ _ ?_)
          refine WCg (WLr 1 [(223, .int .i64 (IntKind.i64.wrap ((i : Int) + 1)))] (fun _ => by kernel_rfl) ?_)
          refine WLt (show (.int .i64 (IntKind.i64.wrap ((i : Int) + 1)) : Value) = .int .i64 ((i : Int) + 1) from by rw [wrap_in_i64 ((i : Int) + 1) (by omega) (by omega)]) ?_
          refine WLr 1 [(52, .int .i64 ((i : Int) + 1))] (fun _ => by kernel_rfl) ?_
          refine WLd rfl ?_
          refine QXn ?_
          have hC736 := hC727.pick [0] [0, 5, 6] rfl rfl
          refine fun a_ ha_ => hK67 _ _ _ ?_ ⟨i + 1, FA520, (⟨e81.bn, e81.bd, e81.bn, e81.bd, (vals L491), V.node⟩ : Vo), (putL (putL N kP (bytesN [e81.bn, e81.bd])) kV (bytesN [e81.bn, e81.bd] ++ bytesL (vals L491))), pv, A543, L545.length, c544, L545, R546, rfl, rfl, hC736, hvs729, ho731, hl732, by omega, hnode, openV_acc hopV (asked_yes (accept_yes hE519).1).1 hwfm_ (accept_yes hE519).2, openOk_acc (asked_yes (accept_yes hE519).1).1 hwfm_ (accept_yes hE519).2, Nat.le_trans (used_accL N e81.bn e81.bd L491) (by omega), good_pos (asked_yes (accept_yes hE519).1).1, hvv552.trans hvv497.symm, (by rw [← vals_len, hvv552, vals_len]; exact hok_e81.lim)⟩ a_ (ha_.weaken (sub_of ⟨rfl, rfl, rfl, rfl, rfl, rfl, rfl, rfl, trivial⟩))
          omega
        ·
         refine WD.call 4 (by kernel_rfl) rfl rfl rfl rfl rfl (by kernel_rfl) (AccVS_no FA pv V sp31 N N 4194304 w509 hvs513 e81.bn e81.bd A489 c490 L491 hok_e81.bd (own_rd ho516 cellsC_len (by decide)) (fun m_ h_ => hl517.at_ m_ h_) hE519) ?_
         rintro _ w738 ⟨rfl, hF737⟩
         have hS740 := hS512.trans hF737 (by simp)
         refine ⟨_, rfl, hS740, ?_⟩
         have hC739 := hC511.call hF737
         have hvs741 := vsAt_fr hvs513 hF737 (by simp)
         have ho742 := own_fr ho514 hF737 (by simp)
         have hl743 := logIn.fr hl515 hF737 (by simp)
         have ho744 := own_fr ho516 hF737 (by simp)
         have hl745 := logIn.fr hl517 hF737 (by simp)
         have hlp746 := endsP.fr hlp518 hF737 (by simp)
         refine WD.call 5 (by kernel_rfl) rfl rfl rfl rfl rfl (by kernel_rfl) (Num_ct (acceptE V e81.bn e81.bd (vals L491)) w738) ?_
         rintro _ w748 ⟨rfl, hF747⟩
         have hS750 := hS740.trans hF747 (by simp)
         refine ⟨_, rfl, hS750, ?_⟩
         have hC749 := hC739.call hF747
         have hvs751 := vsAt_fr hvs741 hF747 (by simp)
         have ho752 := own_fr ho742 hF747 (by simp)
         have hl753 := logIn.fr hl743 hF747 (by simp)
         have ho754 := own_fr ho744 hF747 (by simp)
         have hl755 := logIn.fr hl745 hF747 (by simp)
         have hlp756 := endsP.fr hlp746 hF747 (by simp)
         refine WD.call 11 (by kernel_rfl) rfl rfl rfl rfl rfl (by kernel_rfl) (RAcc_no g53 V Am nm cm e81.bn e81.bd e81.la e81.lc e81.L w748 (hC749.get 0 rfl) (Rd.fr hok_e81.rd hC749.fr) (fun m_ h_ => cmdAt.fr0 (hok_e81.at_ m_ h_) hC749.fr) (by rw [← hvv497]; exact hE519)) ?_
         rintro _ w758 ⟨rfl, hF757⟩
         have hS760 := hS750.trans hF757 (by simp)
         refine ⟨_, rfl, hS760, ?_⟩
         have hC759 := hC749.call hF757
         have hvs761 := vsAt_fr hvs751 hF757 (by simp)
         have ho762 := own_fr ho752 hF757 (by simp)
         have hl763 := logIn.fr hl753 hF757 (by simp)
         have ho764 := own_fr ho754 hF757 (by simp)
         have hl765 := logIn.fr hl755 hF757 (by simp)
         have hlp766 := endsP.fr hlp756 hF757 (by simp)
         refine WDp (NPt (NPb (NPt (NPb (NPt (NPt (NPb (NPt hN)))))))) 12 141 (.bool ((acceptE V e81.bn e81.bd (vals L491) : Int) == (acceptE V e81.bn e81.bd (vals e81.L)))) (by kernel_rfl) (fun _ => by kernel_rfl) hS760 ?_
         refine WDp (NPt (NPb (NPt (NPb (NPt (NPt (NPb (NPt hN)))))))) 13 142 (.bool ((acceptE V e81.bn e81.bd (vals L491) : Int) == (acceptE V e81.bn e81.bd (vals e81.L)))) (by kernel_rfl) (fun _ => by kernel_rfl) hS760 ?_
         refine WD.know 142 (.bool ((acceptE V e81.bn e81.bd (vals L491) : Int) == (acceptE V e81.bn e81.bd (vals e81.L)))) (.bool true) rfl (congrArg Value.bool (by simp [hvv497, hmv])) ?_
         refine WDp (NPt (NPb (NPt (NPb (NPt (NPt (NPb (NPt hN)))))))) 14 143 (.slice A489 L491.length c490) (by kernel_rfl) (fun _ => by kernel_rfl) hS760 ?_
         refine WDp (NPt (NPb (NPt (NPb (NPt (NPt (NPb (NPt hN)))))))) 15 144 (.pointer (some ⟨g87, 3, none⟩)) (by kernel_rfl) (fun _ => by kernel_rfl) hS760 ?_
         refine WD.sem 16 (Instr.loadAt 25 (.pointer (some ⟨g87, 3, none⟩))) 145 (.slice e81.la e81.L.length e81.lc) (by kernel_rfl) (by kernel_rfl) (run_ld (hC759.get 1 rfl) rfl) hS760 ?_
         refine WD.call 17 (by kernel_rfl) rfl rfl rfl rfl rfl (by kernel_rfl) (RSame_n A489 e81.la L491.length c490 e81.L.length e81.lc L491 e81.L w758 (own_rd ho764 cellsC_len (by decide)) (Rd.fr hok_e81.rd hC759.fr) rfl rfl (fun m_ h_ => hl765.at_ m_ h_) (fun m_ h_ => cmdAt.fr0 (hok_e81.at_ m_ h_) hC759.fr) (by have z_ := congrArg List.length (hvv497); rw [vals_len] at z_; first | (have z2_ := vs_loglen hvs; omega) | (rw [vals_len] at z_; omega) | (simp only [vals_len] at z_; omega))) ?_
         rintro _ w768 ⟨rfl, hF767⟩
         have hS770 := hS760.trans hF767 (by simp)
         refine ⟨_, rfl, hS770, ?_⟩
         have hC769 := hC759.call hF767
         have hvs771 := vsAt_fr hvs761 hF767 (by simp)
         have ho772 := own_fr ho762 hF767 (by simp)
         have hl773 := logIn.fr hl763 hF767 (by simp)
         have ho774 := own_fr ho764 hF767 (by simp)
         have hlp776 := endsP.fr hlp766 hF767 (by simp)
         refine WDp (NPt (NPb (NPt (NPb (NPt (NPt (NPb (NPt hN)))))))) 18 147 (.bool (decide (vals L491 = vals e81.L))) (by kernel_rfl) (fun _ => by kernel_rfl) hS770 ?_
         refine WDp (NPt (NPb (NPt (NPb (NPt (NPt (NPb (NPt hN)))))))) 19 10 (.bool (decide (vals L491 = vals e81.L))) (by kernel_rfl) (fun _ => by kernel_rfl) hS770 ?_
         refine WD.done (by kernel_rfl) ?_
         refine QXn (hK508 _ _ ?_)
         refine WCs (fun K777 hK778 => ?_)
         refine WCg (WLr 3 [(150, .int .i64 0), (149, .int .i64 (L491.length : Int)), (148, .slice A489 L491.length c490)] (fun _ => by kernel_rfl) (WLd rfl (QXn (hK778 _ _ ?_))))
         refine WC.block ?_
         refine WC.loop (fun m_ E_ w_ => ∃ (ki : Nat) (Lz : List Cmd), m_ = L491.length - ki ∧ E_ = [(0, .int .i64 node), (1, .slice A ops.length c), (5, .pointer (some ⟨sp31, 0, none⟩)), (6, .pointer (some ⟨pv, 0, none⟩)), (7, .pointer (some ⟨g53, 0, none⟩)), (9, .pointer (some ⟨g87, 0, none⟩)), (10, .bool (decide (vals L491 = vals e81.L))), (18, .slice A489 L491.length c490), (50, .slice A ops.length c), (51, .int .i64 (ops.length : Int)), (52, .int .i64 (i : Int)), (53, .bool true), (54, .pointer (some ⟨b83, o85 + i * 5, none⟩)), (55, .agg #[.int .i64 e81.kind, .int .i64 e81.bn, .int .i64 e81.bd, .slice e81.la e81.L.length e81.lc, .slice e81.ba e81.bs.length e81.bc]), (56, .pointer (some ⟨g87, 3, none⟩)), (57, .slice e81.la e81.L.length e81.lc), (58, .bool lgb106), (59, .bool false), (60, .pointer (some ⟨g87, 4, none⟩)), (61, .slice e81.ba e81.bs.length e81.bc), (62, .int .i64 (e81.bs.length : Int)), (63, .bool (decide ((e81.bs.length : Int) > 100))), (64, .bool false), (65, .pointer (some ⟨g87, 0, none⟩)), (66, .int .i64 e81.kind), (82, .bool false), (83, .bool (e81.kind == 0)), (124, .bool true), (125, .bool (e81.kind == 1)), (126, .pointer (some ⟨g87, 3, none⟩)), (127, .slice e81.la e81.L.length e81.lc), (128, .slice A489 L491.length c490), (129, .pointer (some ⟨pv, 0, none⟩)), (130, .pointer (some ⟨g87, 1, none⟩)), (131, .agg #[.int .i64 e81.bn, .int .i64 e81.bd]), (132, .slice A489 L491.length c490), (133, errV 35 (acceptE V e81.bn e81.bd (vals L491))), (134, .int .i64 (acceptE V e81.bn e81.bd (vals L491) : Int)), (135, .pointer (some ⟨g53, 0, none⟩)), (136, .pointer (some ⟨g87, 1, none⟩)), (137, .agg #[.int .i64 e81.bn, .int .i64 e81.bd]), (138, .pointer (some ⟨g87, 3, none⟩)), (139, .slice e81.la e81.L.length e81.lc), (140, .int .i64 (acceptE V e81.bn e81.bd (vals e81.L))), (141, .bool ((acceptE V e81.bn e81.bd (vals L491) : Int) == (acceptE V e81.bn e81.bd (vals e81.L)))), (142, .bool true), (143, .slice A489 L491.length c490), (144, .pointer (some ⟨g87, 3, none⟩)), (145, .slice e81.la e81.L.length e81.lc), (146, .bool (decide (vals L491 = vals e81.L))), (147, .bool (decide (vals L491 = vals e81.L))), (148, .slice A489 L491.length c490), (149, .int .i64 (L491.length : Int)), (150, .int .i64 (ki : Int))] ∧ Cx w [] w_ [(g53, .cells #[.int .i64 V.node, .int .i64 V.pn, .int .i64 V.pd, .int .i64 V.an, .int .i64 V.ad, .slice Am nm cm] 84), (g87, .cells #[.int .i64 e81.kind, .int .i64 e81.bn, .int .i64 e81.bd, .slice e81.la e81.L.length e81.lc, .slice e81.ba e81.bs.length e81.bc] 86)] [FA, blk (.slice Am nm cm), Rm, blk (.slice A489 L491.length c490), R492] ∧ vsAt w_ FA pv V sp31 N N 4194304 ∧ World.ownsRow w_ 0 61 12 (.slice Am nm cm) nm (Lm.flatMap cellsC) ∧ logIn w_ Rm Lm ∧ endsP 91 w_ R492 L491 ∧ World.ownsRow w_ 0 61 12 (.slice A489 L491.length c490) L491.length (Lz.flatMap cellsC) ∧ (ki ≤ L491.length ∧ Lz.length = L491.length ∧ ∀ q_, ki ≤ q_ → Lz[q_]? = L491[q_]?)) ⟨_, _, ⟨0, L491, rfl, rfl, hC769, hvs771, ho772, hl773, hlp776, ho774, Nat.zero_le _, rfl, (fun _ _ => rfl)⟩, sub_of ⟨rfl, rfl, rfl, rfl, rfl, rfl, rfl, rfl, rfl, rfl, rfl, rfl, rfl, rfl, rfl, rfl, rfl, rfl, rfl, rfl, rfl, rfl, rfl, rfl, rfl, rfl, rfl, rfl, rfl, rfl, rfl, rfl, rfl, rfl, rfl, rfl, rfl, rfl, rfl, rfl, rfl, rfl, rfl, rfl, rfl, rfl, rfl, rfl, rfl, rfl, rfl, rfl, rfl, rfl, trivial⟩⟩ (fun m782 E_ w783 K779 hK780 hI781 => ?_)
         obtain ⟨ki, Lz, rfl, rfl, hC784, vs_m782, mrow_m782, mlog_m782, lp_m782, hzrow, hki, hlz, hzq⟩ := hI781
         refine WCs (fun K785 hK786 => ?_)
         refine WCg (WLr 1 [(151, .bool (decide ((ki : Int) < (L491.length : Int))))] (fun _ => by kernel_rfl) (WLd rfl (QXn (hK786 _ _ ?_))))
         refine WCs (fun K787 hK788 => ?_)
         refine WCa 151 (decide ((ki : Int) < (L491.length : Int))) rfl (fun t789b => ?_) (fun t789b => ?_)
         ·
          have t789 : (ki : Int) < (L491.length : Int) := by have q_ := of_decide_eq_true t789b; omega
          refine WCt rfl ?_
          refine WC.skip ?_
          refine QXn (hK788 _ _ ?_)
          refine WCs (fun K790 hK791 => ?_)
          refine WC.block ?_
          refine WCs (fun K792 hK793 => ?_)
          refine WCg (WLr 2 [(19, .int .i64 (ki : Int)), (152, .int .i64 (ki : Int))] (fun _ => by kernel_rfl) (WLd rfl (QXn (hK793 _ _ ?_))))
          refine WCs (fun K794 hK795 => ?_)
          refine WCs (fun K796 hK797 => ?_)
          refine WCg (WLr 2 [(154, .int .i64 (ki : Int)), (153, .slice A489 L491.length c490)] (fun _ => by kernel_rfl) ?_)
          have hn802 := own_count cellsC_len (by decide) hzrow
          obtain ⟨e798, he799⟩ := get_some (xs := Lz) (i := ki) (by omega)
          obtain ⟨b800, hA801⟩ := own_addr (by decide) cellsC_len hzrow he799
          refine WLi A489 L491.length c490 155 .i64 (ki : Int) b800 0 ki 12 (by kernel_rfl) hA801 (by omega) (by omega) (ki * 12) (by first | (simp; done) | omega) ?_
          refine WLr 2 [(157, .pointer (some ⟨b800, ki * 12 + 5 + 3, none⟩)), (156, .pointer (some ⟨b800, ki * 12 + 5, none⟩))] (fun _ => by kernel_rfl) ?_
          refine WL.load 57 (.pointer (some ⟨b800, ki * 12 + 5 + 3, none⟩)) (.slice e798.a e798.v.ends.length e798.c) 158 (by kernel_rfl) (run_load1 rfl (by simpa [Nat.add_assoc] using Rd.cell (own_rd hzrow cellsC_len (by decide)) hA801 he799 8 _ rfl)) ?_
          refine WLr 2 [(160, .int .i64 0), (159, .int .i64 (e798.v.ends.length : Int))] (fun _ => by kernel_rfl) (WLd rfl (QXn (hK797 _ _ ?_)))
          refine WC.block ?_
          have hze_ := totE_take ((hzq ki (Nat.le_refl _)).symm.trans he799)
          refine WC.loop (fun m_ E_ w_ => ∃ (kj : Nat), m_ = e798.v.ends.length - kj ∧ E_ = [(0, .int .i64 node), (1, .slice A ops.length c), (5, .pointer (some ⟨sp31, 0, none⟩)), (6, .pointer (some ⟨pv, 0, none⟩)), (7, .pointer (some ⟨g53, 0, none⟩)), (9, .pointer (some ⟨g87, 0, none⟩)), (10, .bool (decide (vals L491 = vals e81.L))), (18, .slice A489 L491.length c490), (19, .int .i64 (ki : Int)), (50, .slice A ops.length c), (51, .int .i64 (ops.length : Int)), (52, .int .i64 (i : Int)), (53, .bool true), (54, .pointer (some ⟨b83, o85 + i * 5, none⟩)), (55, .agg #[.int .i64 e81.kind, .int .i64 e81.bn, .int .i64 e81.bd, .slice e81.la e81.L.length e81.lc, .slice e81.ba e81.bs.length e81.bc]), (56, .pointer (some ⟨g87, 3, none⟩)), (57, .slice e81.la e81.L.length e81.lc), (58, .bool lgb106), (59, .bool false), (60, .pointer (some ⟨g87, 4, none⟩)), (61, .slice e81.ba e81.bs.length e81.bc), (62, .int .i64 (e81.bs.length : Int)), (63, .bool (decide ((e81.bs.length : Int) > 100))), (64, .bool false), (65, .pointer (some ⟨g87, 0, none⟩)), (66, .int .i64 e81.kind), (82, .bool false), (83, .bool (e81.kind == 0)), (124, .bool true), (125, .bool (e81.kind == 1)), (126, .pointer (some ⟨g87, 3, none⟩)), (127, .slice e81.la e81.L.length e81.lc), (128, .slice A489 L491.length c490), (129, .pointer (some ⟨pv, 0, none⟩)), (130, .pointer (some ⟨g87, 1, none⟩)), (131, .agg #[.int .i64 e81.bn, .int .i64 e81.bd]), (132, .slice A489 L491.length c490), (133, errV 35 (acceptE V e81.bn e81.bd (vals L491))), (134, .int .i64 (acceptE V e81.bn e81.bd (vals L491) : Int)), (135, .pointer (some ⟨g53, 0, none⟩)), (136, .pointer (some ⟨g87, 1, none⟩)), (137, .agg #[.int .i64 e81.bn, .int .i64 e81.bd]), (138, .pointer (some ⟨g87, 3, none⟩)), (139, .slice e81.la e81.L.length e81.lc), (140, .int .i64 (acceptE V e81.bn e81.bd (vals e81.L))), (141, .bool ((acceptE V e81.bn e81.bd (vals L491) : Int) == (acceptE V e81.bn e81.bd (vals e81.L)))), (142, .bool true), (143, .slice A489 L491.length c490), (144, .pointer (some ⟨g87, 3, none⟩)), (145, .slice e81.la e81.L.length e81.lc), (146, .bool (decide (vals L491 = vals e81.L))), (147, .bool (decide (vals L491 = vals e81.L))), (148, .slice A489 L491.length c490), (149, .int .i64 (L491.length : Int)), (150, .int .i64 (ki : Int)), (151, .bool true), (152, .int .i64 (ki : Int)), (153, .slice A489 L491.length c490), (154, .int .i64 (ki : Int)), (155, .pointer (some ⟨b800, ki * 12, none⟩)), (156, .pointer (some ⟨b800, ki * 12 + 5, none⟩)), (157, .pointer (some ⟨b800, ki * 12 + 5 + 3, none⟩)), (158, .slice e798.a e798.v.ends.length e798.c), (159, .int .i64 (e798.v.ends.length : Int)), (160, .int .i64 (kj : Int))] ∧ Cx w [] w_ [(g53, .cells #[.int .i64 V.node, .int .i64 V.pn, .int .i64 V.pd, .int .i64 V.an, .int .i64 V.ad, .slice Am nm cm] 84), (g87, .cells #[.int .i64 e81.kind, .int .i64 e81.bn, .int .i64 e81.bd, .slice e81.la e81.L.length e81.lc, .slice e81.ba e81.bs.length e81.bc] 86)] [FA, blk (.slice Am nm cm), Rm, blk (.slice A489 L491.length c490), R492] ∧ vsAt w_ FA pv V sp31 N N 4194304 ∧ World.ownsRow w_ 0 61 12 (.slice Am nm cm) nm (Lm.flatMap cellsC) ∧ logIn w_ Rm Lm ∧ endsP 91 w_ R492 L491 ∧ World.ownsRow w_ 0 61 12 (.slice A489 L491.length c490) L491.length (Lz.flatMap cellsC) ∧ (kj ≤ e798.v.ends.length)) ⟨_, _, ⟨0, rfl, rfl, hC784, vs_m782, mrow_m782, mlog_m782, lp_m782, hzrow, Nat.zero_le _⟩, sub_of ⟨rfl, rfl, rfl, rfl, rfl, rfl, rfl, rfl, rfl, rfl, rfl, rfl, rfl, rfl, rfl, rfl, rfl, rfl, rfl, rfl, rfl, rfl, rfl, rfl, rfl, rfl, rfl, rfl, rfl, rfl, rfl, rfl, rfl, rfl, rfl, rfl, rfl, rfl, rfl, rfl, rfl, rfl, rfl, rfl, rfl, rfl, rfl, rfl, rfl, rfl, rfl, rfl, rfl, rfl, rfl, rfl, rfl, rfl, rfl, rfl, rfl, rfl, rfl, rfl, rfl, trivial⟩⟩ (fun m806 E_ w807 K803 hK804 hI805 => ?_)
          obtain ⟨kj, rfl, rfl, hC808, vs_m806, mrow_m806, mlog_m806, lp_m806, lg506r_m806, hkj⟩ := hI805
          skip
          refine WCs (fun K809 hK810 => ?_)
          refine WCg (WLr 1 [(161, .bool (decide ((kj : Int) < (e798.v.ends.length : Int))))] (fun _ => by kernel_rfl) (WLd rfl (QXn (hK810 _ _ ?_))))
          refine WCs (fun K811 hK812 => ?_)
          refine WCa 161 (decide ((kj : Int) < (e798.v.ends.length : Int))) rfl (fun t813b => ?_) (fun t813b => ?_)
          ·
           have t813 : (kj : Int) < (e798.v.ends.length : Int) := by have q_ := of_decide_eq_true t813b; omega
           refine WCt rfl ?_
           refine WC.skip ?_
           refine QXn (hK812 _ _ ?_)
           refine WCs (fun K814 hK815 => ?_)
           refine WC.block ?_
           refine WCs (fun K816 hK817 => ?_)
           refine WCg (WLr 2 [(20, .int .i64 (kj : Int)), (162, .int .i64 (kj : Int))] (fun _ => by kernel_rfl) (WLd rfl (QXn (hK817 _ _ ?_))))
           refine WCg (WLr 2 [(164, .int .i64 (ki : Int)), (163, .slice A489 L491.length c490)] (fun _ => by kernel_rfl) ?_)
           refine WLi A489 L491.length c490 165 .i64 (ki : Int) b800 0 ki 12 (by kernel_rfl) hA801 (by omega) (by omega) (ki * 12) (by first | (simp; done) | omega) ?_
           refine WLr 2 [(167, .pointer (some ⟨b800, ki * 12 + 5 + 3, none⟩)), (166, .pointer (some ⟨b800, ki * 12 + 5, none⟩))] (fun _ => by kernel_rfl) ?_
           refine WL.load 57 (.pointer (some ⟨b800, ki * 12 + 5 + 3, none⟩)) (.slice e798.a e798.v.ends.length e798.c) 168 (by kernel_rfl) (run_load1 rfl (by simpa [Nat.add_assoc] using Rd.cell (own_rd lg506r_m806 cellsC_len (by decide)) hA801 he799 8 _ rfl)) ?_
           refine WLr 2 [(170, .agg #[.int .u32 0, .int .i64 0, .int .i64 0]), (169, .int .i64 (kj : Int))] (fun _ => by kernel_rfl) ?_
           obtain ⟨b822, c823, hA824, hbR825, hbh826, hsz827⟩ := lp_m806 e798 (List.mem_of_getElem? ((hzq ki (Nat.le_refl _)).symm.trans he799)) (by omega)
           refine WLi e798.a e798.v.ends.length e798.c 171 .i64 (kj : Int) b822 0 kj 3 (by kernel_rfl) hA824 (by omega) (by omega) (kj * 3) (by first | (simp; done) | omega) ?_
           obtain ⟨c828, hcs829, hr830⟩ := store_end hbh826 (j := kj) (n := e798.v.ends.length) (by omega) hsz827
           have hF833 : Fr _ _ _ := (putRow_fr (w := w807) b822 (.cells c828 91 (0, 0))).mono (fun x_ (h_ : x_ ∈ _) => show x_ ∈ R492 from by rw [List.mem_singleton.1 h_]; exact hbR825)
           have hlp835 := endsP.put lp_m806 hbh826 hcs829
           obtain ⟨w831, hw832⟩ : ∃ w_, putRow w807 b822 (.cells c828 91 (0, 0)) = w_ := ⟨_, rfl⟩
           rw [hw832] at hr830 hF833 hlp835
           have hC834 := hC808.callF 4 rfl hF833 (fun x_ h_ => .inl h_) (fun x_ h_ => Nat.lt_of_lt_of_le (hC808.ltF 4 rfl x_ h_) hF833.size)
           refine WL.semU (Instr.storeAt 91 (.pointer (some ⟨b822, kj * 3, none⟩)) (.agg #[.int .u32 0, .int .i64 0, .int .i64 0])) (by kernel_rfl) hr830 ?_
           have hvs836 := vsAt_fr vs_m806 hF833 (hC808.disj 0 4 rfl rfl (by decide))
           have ho837 := own_fr mrow_m806 hF833 (hC808.disj 1 4 rfl rfl (by decide))
           have hl838 := logIn.fr mlog_m806 hF833 (hC808.disj 2 4 rfl rfl (by decide))
           have ho839 := own_fr lg506r_m806 hF833 (hC808.disj 3 4 rfl rfl (by decide))
           refine WLd rfl ?_
           refine QXb ?_
           refine QXn (hK815 _ _ ?_)
           refine WCg (WLr 1 [(172, .int .i64 (IntKind.i64.wrap ((kj : Int) + 1)))] (fun _ => by kernel_rfl) ?_)
           refine WLt (show (.int .i64 (IntKind.i64.wrap ((kj : Int) + 1)) : Value) = .int .i64 ((kj : Int) + 1) from by rw [wrap_in_i64 ((kj : Int) + 1) (by omega) (by omega)]) ?_
           refine WLr 1 [(160, .int .i64 ((kj : Int) + 1))] (fun _ => by kernel_rfl) ?_
           refine WLd rfl ?_
           refine QXn ?_
           have hC840 := hC834.pick [0, 1] [0, 1, 2, 3, 4] rfl rfl
           refine fun a_ ha_ => hK804 _ _ _ ?_ ⟨kj + 1, rfl, rfl, hC840, hvs836, ho837, hl838, hlp835, ho839, by omega⟩ a_ (ha_.weaken (sub_of ⟨rfl, rfl, rfl, rfl, rfl, rfl, rfl, rfl, rfl, rfl, rfl, rfl, rfl, rfl, rfl, rfl, rfl, rfl, rfl, rfl, rfl, rfl, rfl, rfl, rfl, rfl, rfl, rfl, rfl, rfl, rfl, rfl, rfl, rfl, rfl, rfl, rfl, rfl, rfl, rfl, rfl, rfl, rfl, rfl, rfl, rfl, rfl, rfl, rfl, rfl, rfl, rfl, rfl, rfl, rfl, rfl, rfl, rfl, rfl, rfl, rfl, rfl, rfl, rfl, rfl, trivial⟩))
           omega
          ·
           have t813 : (e798.v.ends.length : Int) ≤ (kj : Int) := by have q_ := of_decide_eq_false t813b; omega
           refine WCf rfl ?_
           refine WC.exit ?_
           refine QXe ?_
           refine QXe ?_
           refine QX.block_hit ?_
           refine QXn (hK795 _ _ ?_)
           refine WCg (WLr 3 [(175, .agg #[.int .i64 0, .int .i64 0, .int .i64 0, .int .i64 0, .int .i64 0, .int .u32 0, .int .i64 0, .int .i64 0, .slice none 0 0, .int .u32 0, .int .u32 0, .bool false]), (174, .int .i64 (ki : Int)), (173, .slice A489 L491.length c490)] (fun _ => by kernel_rfl) ?_)
           refine WLi A489 L491.length c490 176 .i64 (ki : Int) b800 0 ki 12 (by kernel_rfl) hA801 (by omega) (by omega) (ki * 12) (by first | (simp; done) | omega) ?_
           obtain ⟨w845, hr846, hF847, ho849, hC848⟩ := stoE_run Try.prog cellsC_len hC808 3 hA801 rfl lg506r_m806 ki 0 (x := e798) he799 (⟨⟨0, 0, 0, 0, 0, 0, 0, 0, [], 0, 0, false⟩, none, 0⟩ : Cmd) [.int .i64 0, .int .i64 0, .int .i64 0, .int .i64 0, .int .i64 0, .int .u32 0, .int .i64 0, .int .i64 0, .slice none 0 0, .int .u32 0, .int .u32 0, .bool false] rfl 61 (.agg #[.int .i64 0, .int .i64 0, .int .i64 0, .int .i64 0, .int .i64 0, .int .u32 0, .int .i64 0, .int .i64 0, .slice none 0 0, .int .u32 0, .int .u32 0, .bool false]) (ki * 12) rfl rfl rfl (by first | rfl | simp [Nat.add_assoc])
           refine WL.semU (Instr.storeAt 61 (.pointer (some ⟨b800, ki * 12, none⟩)) (.agg #[.int .i64 0, .int .i64 0, .int .i64 0, .int .i64 0, .int .i64 0, .int .u32 0, .int .i64 0, .int .i64 0, .slice none 0 0, .int .u32 0, .int .u32 0, .bool false])) (by kernel_rfl) hr846 ?_
           have hvs850 := vsAt_fr vs_m806 hF847 (hC808.disj 0 3 rfl rfl (by decide))
           have ho851 := own_fr mrow_m806 hF847 (hC808.disj 1 3 rfl rfl (by decide))
           have hl852 := logIn.fr mlog_m806 hF847 (hC808.disj 2 3 rfl rfl (by decide))
           have hlp853 := endsP.fr lp_m806 hF847 (hC808.disj 4 3 rfl rfl (by decide))
           refine WLd rfl ?_
           refine QXb ?_
           refine QXn (hK791 _ _ ?_)
           refine WCg (WLr 1 [(177, .int .i64 (IntKind.i64.wrap ((ki : Int) + 1)))] (fun _ => by kernel_rfl) ?_)
           refine WLt (show (.int .i64 (IntKind.i64.wrap ((ki : Int) + 1)) : Value) = .int .i64 ((ki : Int) + 1) from by rw [wrap_in_i64 ((ki : Int) + 1) (by omega) (by omega)]) ?_
           refine WLr 1 [(150, .int .i64 ((ki : Int) + 1))] (fun _ => by kernel_rfl) ?_
           refine WLd rfl ?_
           refine QXn ?_
           have hC854 := hC848.pick [0, 1] [0, 1, 2, 3, 4] rfl rfl
           refine fun a_ ha_ => hK780 _ _ _ ?_ ⟨ki + 1, Lz.set ki (⟨⟨0, 0, 0, 0, 0, 0, 0, 0, [], 0, 0, false⟩, none, 0⟩ : Cmd), rfl, rfl, hC854, hvs850, ho851, hl852, hlp853, ho849, by omega, by rw [List.length_set]; exact hlz, (fun q_ hq_ => by rw [List.getElem?_set_ne (by omega)]; exact hzq q_ (by omega))⟩ a_ (ha_.weaken (sub_of ⟨rfl, rfl, rfl, rfl, rfl, rfl, rfl, rfl, rfl, rfl, rfl, rfl, rfl, rfl, rfl, rfl, rfl, rfl, rfl, rfl, rfl, rfl, rfl, rfl, rfl, rfl, rfl, rfl, rfl, rfl, rfl, rfl, rfl, rfl, rfl, rfl, rfl, rfl, rfl, rfl, rfl, rfl, rfl, rfl, rfl, rfl, rfl, rfl, rfl, rfl, rfl, rfl, rfl, rfl, trivial⟩))
           omega
         ·
          have t789 : (L491.length : Int) ≤ (ki : Int) := by have q_ := of_decide_eq_false t789b; omega
          refine WCf rfl ?_
          refine WC.exit ?_
          refine QXe ?_
          refine QXe ?_
          refine QX.block_hit ?_
          refine QXb ?_
          refine QXn (hK123 _ _ ?_)
          refine WCs (fun K855 hK856 => ?_)
          refine WCs (fun K857 hK858 => ?_)
          refine WCg (WLr 2 [(193, .bool (!(decide (vals L491 = vals e81.L)))), (192, .bool (decide (vals L491 = vals e81.L)))] (fun _ => by kernel_rfl) (WLd rfl (QXn (hK858 _ _ ?_))))
          refine WC.know 193 (.bool (!(decide (vals L491 = vals e81.L)))) (.bool false) rfl (congrArg Value.bool (by simp [hvv497, hmv])) ?_
          refine WCf rfl (WC.skip (QXn (hK856 _ _ ?_)))
          refine WCs (fun K859 hK860 => ?_)
          refine WCg (WLr 1 [(195, .pointer (some ⟨pv, 0, none⟩))] (fun _ => by kernel_rfl) ?_)
          refine WLc rfl rfl rfl rfl rfl (by kernel_rfl) (AcceptedVS FA pv V sp31 N N 4194304 w783 vs_m782) ?_
          rintro _ w871 ⟨A861, c862, L863, R864, rfl, hF865, ho866, hli867, hvv868, hRg869, hgr870⟩
          have hC872 := callNN hC784 hF865 (own_ge ho866) (own_lt ho866) (fun x_ h_ => (hRg869 x_ h_).1) (fun x_ h_ => (hRg869 x_ h_).2) hgr870
          refine ⟨_, rfl, ?_⟩
          have hvs873 := vsAt_fr vs_m782 hF865 (by simp)
          have ho874 := own_fr mrow_m782 hF865 (by simp)
          have hl875 := logIn.fr mlog_m782 hF865 (by simp)
          have ho878 := own_base (b' := 0) ho866 (fun _ _ => Nat.zero_le _)
          have hvvN_L863 : vals L863 = (V.log : List CmdV) := hvv868
          have hll_L863 : L863.length = (V.log : List CmdV).length := by rw [← vals_len, hvvN_L863]
          refine WLr 3 [(198, .slice A861 L863.length c862), (197, .agg #[.int .i64 V.an, .int .i64 V.ad]), (194, .tuple #[.agg #[.int .i64 V.an, .int .i64 V.ad], .slice A861 L863.length c862])] (fun _ => by kernel_rfl) ?_
          refine WL.newM hC872 (fun b => .pointer (some ⟨b, 0, none⟩)) (.cells #[.int .i64 0, .int .i64 0] 50) 24 (fun _ => by kernel_rfl) (fun g880 w881 hb884 hF882 hC883 => ?_)
          have hvs885 := vsAt_fr hvs873 hF882 (by simp)
          have ho886 := own_fr ho874 hF882 (by simp)
          have hl887 := logIn.fr hl875 hF882 (by simp)
          have ho890 := own_fr ho878 hF882 (by simp)
          have hl891 := logIn.fr hli867 hF882 (by simp)
          refine WLs (c' := #[.int .i64 V.an, .int .i64 V.ad]) hC883 2 50 g880 0 (.agg #[.int .i64 V.an, .int .i64 V.ad]) (by kernel_rfl) rfl (by kernel_rfl) (fun w892 hF894 hC895 => ?_)
          have hvs896 := vsAt_fr hvs885 hF894 (hC883.apartM 0 2 rfl rfl)
          have ho897 := own_fr ho886 hF894 (hC883.apartM 1 2 rfl rfl)
          have hl898 := logIn.fr hl887 hF894 (hC883.apartM 2 2 rfl rfl)
          have ho901 := own_fr ho890 hF894 (hC883.apartM 5 2 rfl rfl)
          have hl902 := logIn.fr hl891 hF894 (hC883.apartM 6 2 rfl rfl)
          refine WLr 1 [(25, .slice A861 L863.length c862)] (fun _ => by kernel_rfl) (WLd rfl (QXn (hK860 _ _ ?_)))
          refine WCs (fun K903 hK904 => ?_)
          refine WC.drawC hC895 [] (by kernel_rfl) (fun w905 hF906 hC907 hS908 => ?_)
          have hvs909 := vsAt_fr hvs896 hF906 (by simp)
          have ho910 := own_fr ho897 hF906 (by simp)
          have hl911 := logIn.fr hl898 hF906 (by simp)
          have ho914 := own_fr ho901 hF906 (by simp)
          have hl915 := logIn.fr hl902 hF906 (by simp)
          refine WDp (NPt (NPb (NPt (NPt (NPb (NPt hN)))))) 0 199 (.pointer (some ⟨pv, 0, none⟩)) (by kernel_rfl) (fun _ => by kernel_rfl) hS908 ?_
          refine WDp (NPt (NPb (NPt (NPt (NPb (NPt hN)))))) 2 201 (.pointer (some ⟨g53, 0, none⟩)) (by kernel_rfl) (fun _ => by kernel_rfl) hS908 ?_
          refine WDp (NPt (NPb (NPt (NPt (NPb (NPt hN)))))) 3 202 (.pointer (some ⟨g53, 0, none⟩)) (by kernel_rfl) (fun _ => by kernel_rfl) hS908 ?_
          refine WDp (NPt (NPb (NPt (NPt (NPb (NPt hN)))))) 4 203 (.pointer (some ⟨g53, 1, none⟩)) (by kernel_rfl) (fun _ => by kernel_rfl) hS908 ?_
          refine WDl (NPt (NPb (NPt (NPt (NPb (NPt hN)))))) 5 50 (.pointer (some ⟨g53, 1, none⟩)) (.agg #[.int .i64 V.pn, .int .i64 V.pd]) 204 (by kernel_rfl) (by kernel_rfl) (fun _ hS_ => run_ld (Fr.has hS_ (hC907.get 0 rfl) (by simp)) rfl) hS908 ?_
          refine WD.call 1 (by kernel_rfl) rfl rfl rfl rfl rfl (by kernel_rfl) (PromVS FA pv V sp31 N N 4194304 w905 hvs909) ?_
          rintro _ w917 ⟨rfl, hF916⟩
          have hS919 := hS908.trans hF916 (by simp)
          refine ⟨_, rfl, hS919, ?_⟩
          have hC918 := hC907.call hF916
          have hvs920 := vsAt_fr hvs909 hF916 (by simp)
          have ho921 := own_fr ho910 hF916 (by simp)
          have hl922 := logIn.fr hl911 hF916 (by simp)
          have ho925 := own_fr ho914 hF916 (by simp)
          have hl926 := logIn.fr hl915 hF916 (by simp)
          have hr927 : ∀ w_, Sem.run Try.prog (do eqGuard .neq 50 (Operand.tmp 200) (Operand.tmp 204) (.agg #[.int .i64 V.pn, .int .i64 V.pd]) (.agg #[.int .i64 V.pn, .int .i64 V.pd]); binOp .neq 50 (.agg #[.int .i64 V.pn, .int .i64 V.pd]) (.agg #[.int .i64 V.pn, .int .i64 V.pd])) w_ = .ok (.bool (!(V.pn == V.pn && (V.pd == V.pd && true)))) w_ := fun w_ => (run_neq_S (by kernel_rfl))
          refine WD.semP (NPt (NPb (NPt (NPt (NPb (NPt hN)))))) 6 (do eqGuard .neq 50 (Operand.tmp 200) (Operand.tmp 204) (.agg #[.int .i64 V.pn, .int .i64 V.pd]) (.agg #[.int .i64 V.pn, .int .i64 V.pd]); binOp .neq 50 (.agg #[.int .i64 V.pn, .int .i64 V.pd]) (.agg #[.int .i64 V.pn, .int .i64 V.pd])) 205 (.bool (!(V.pn == V.pn && (V.pd == V.pd && true)))) (by kernel_rfl) (by kernel_rfl) (fun _ _ => hr927 _) hS919 ?_
          refine WDp (NPt (NPb (NPt (NPt (NPb (NPt hN)))))) 7 206 (.bool (!(V.pn == V.pn && (V.pd == V.pd && true)))) (by kernel_rfl) (fun _ => by kernel_rfl) hS919 ?_
          refine WD.know 206 (.bool (!(V.pn == V.pn && (V.pd == V.pd && true)))) (.bool false) rfl (congrArg Value.bool (by simp [hvvN_L863, hvv497, hmv])) ?_
          refine WDp (NPt (NPb (NPt (NPt (NPb (NPt hN)))))) 9 208 (.pointer (some ⟨g53, 0, none⟩)) (by kernel_rfl) (fun _ => by kernel_rfl) hS919 ?_
          refine WDp (NPt (NPb (NPt (NPt (NPb (NPt hN)))))) 10 209 (.pointer (some ⟨g53, 0, none⟩)) (by kernel_rfl) (fun _ => by kernel_rfl) hS919 ?_
          refine WDp (NPt (NPb (NPt (NPt (NPb (NPt hN)))))) 11 210 (.pointer (some ⟨g53, 3, none⟩)) (by kernel_rfl) (fun _ => by kernel_rfl) hS919 ?_
          refine WDl (NPt (NPb (NPt (NPt (NPb (NPt hN)))))) 8 50 (.pointer (some ⟨g880, 0, none⟩)) (.agg #[.int .i64 V.an, .int .i64 V.ad]) 207 (by kernel_rfl) (by kernel_rfl) (fun _ hS_ => run_ld (Fr.has hS_ (hC907.get 2 rfl) (by simp)) rfl) hS919 ?_
          refine WDl (NPt (NPb (NPt (NPt (NPb (NPt hN)))))) 12 50 (.pointer (some ⟨g53, 3, none⟩)) (.agg #[.int .i64 V.an, .int .i64 V.ad]) 211 (by kernel_rfl) (by kernel_rfl) (fun _ hS_ => run_ld (Fr.has hS_ (hC907.get 0 rfl) (by simp)) rfl) hS919 ?_
          have hr928 : ∀ w_, Sem.run Try.prog (do eqGuard .neq 50 (Operand.tmp 207) (Operand.tmp 211) (.agg #[.int .i64 V.an, .int .i64 V.ad]) (.agg #[.int .i64 V.an, .int .i64 V.ad]); binOp .neq 50 (.agg #[.int .i64 V.an, .int .i64 V.ad]) (.agg #[.int .i64 V.an, .int .i64 V.ad])) w_ = .ok (.bool (!(V.an == V.an && (V.ad == V.ad && true)))) w_ := fun w_ => (run_neq_S (by kernel_rfl))
          refine WD.semP (NPt (NPb (NPt (NPt (NPb (NPt hN)))))) 13 (do eqGuard .neq 50 (Operand.tmp 207) (Operand.tmp 211) (.agg #[.int .i64 V.an, .int .i64 V.ad]) (.agg #[.int .i64 V.an, .int .i64 V.ad]); binOp .neq 50 (.agg #[.int .i64 V.an, .int .i64 V.ad]) (.agg #[.int .i64 V.an, .int .i64 V.ad])) 212 (.bool (!(V.an == V.an && (V.ad == V.ad && true)))) (by kernel_rfl) (by kernel_rfl) (fun _ _ => hr928 _) hS919 ?_
          refine WDp (NPt (NPb (NPt (NPt (NPb (NPt hN)))))) 14 213 (.bool (!(V.an == V.an && (V.ad == V.ad && true)))) (by kernel_rfl) (fun _ => by kernel_rfl) hS919 ?_
          refine WDp (NPt (NPb (NPt (NPt (NPb (NPt hN)))))) 15 214 (.bool (!(V.an == V.an && (V.ad == V.ad && true)))) (by kernel_rfl) (fun _ => by kernel_rfl) hS919 ?_
          refine WD.know 214 (.bool (!(V.an == V.an && (V.ad == V.ad && true)))) (.bool false) rfl (congrArg Value.bool (by simp [hvvN_L863, hvv497, hmv])) ?_
          refine WDp (NPt (NPb (NPt (NPt (NPb (NPt hN)))))) 16 215 (.slice A861 L863.length c862) (by kernel_rfl) (fun _ => by kernel_rfl) hS919 ?_
          refine WDp (NPt (NPb (NPt (NPt (NPb (NPt hN)))))) 17 216 (.pointer (some ⟨g53, 0, none⟩)) (by kernel_rfl) (fun _ => by kernel_rfl) hS919 ?_
          refine WDp (NPt (NPb (NPt (NPt (NPb (NPt hN)))))) 18 217 (.pointer (some ⟨g53, 0, none⟩)) (by kernel_rfl) (fun _ => by kernel_rfl) hS919 ?_
          refine WDp (NPt (NPb (NPt (NPt (NPb (NPt hN)))))) 19 218 (.pointer (some ⟨g53, 5, none⟩)) (by kernel_rfl) (fun _ => by kernel_rfl) hS919 ?_
          refine WDl (NPt (NPb (NPt (NPt (NPb (NPt hN)))))) 20 25 (.pointer (some ⟨g53, 5, none⟩)) (.slice Am nm cm) 219 (by kernel_rfl) (by kernel_rfl) (fun _ hS_ => run_ld (Fr.has hS_ (hC907.get 0 rfl) (by simp)) rfl) hS919 ?_
          refine WD.call 21 (by kernel_rfl) rfl rfl rfl rfl rfl (by kernel_rfl) (RSame_n A861 Am L863.length c862 nm cm L863 Lm w917 (own_rd ho925 cellsC_len (by decide)) (own_rd ho921 cellsC_len (by decide)) rfl (own_count cellsC_len (by decide) ho921) (fun m_ h_ => hl926.at_ m_ h_) (fun m_ h_ => hl922.at_ m_ h_) (by have z_ := congrArg List.length (hvvN_L863); rw [vals_len] at z_; first | (have z2_ := vs_loglen hvs; omega) | (rw [vals_len] at z_; omega) | (simp only [vals_len] at z_; omega))) ?_
          rintro _ w930 ⟨rfl, hF929⟩
          have hS932 := hS919.trans hF929 (by simp)
          refine ⟨_, rfl, hS932, ?_⟩
          have hC931 := hC918.call hF929
          have hvs933 := vsAt_fr hvs920 hF929 (by simp)
          have ho934 := own_fr ho921 hF929 (by simp)
          have hl935 := logIn.fr hl922 hF929 (by simp)
          refine WDp (NPt (NPb (NPt (NPt (NPb (NPt hN)))))) 22 221 (.bool (!(decide (vals L863 = vals Lm)))) (by kernel_rfl) (fun _ => by kernel_rfl) hS932 ?_
          refine WDp (NPt (NPb (NPt (NPt (NPb (NPt hN)))))) 23 222 (.bool (!(decide (vals L863 = vals Lm)))) (by kernel_rfl) (fun _ => by kernel_rfl) hS932 ?_
          refine WD.done (by kernel_rfl) ?_
          refine QXn (hK904 _ _ ?_)
          refine WC.know 222 (.bool (!(decide (vals L863 = vals Lm)))) (.bool false) rfl (congrArg Value.bool (by simp [hvvN_L863, hvv497, hmv])) ?_
          refine WCf rfl (WC.skip ?_)
          refine QXb ?_
          refine QXn (hK78 _ _ ?_)
          refine WCg (WLr 1 [(223, .int .i64 (IntKind.i64.wrap ((i : Int) + 1)))] (fun _ => by kernel_rfl) ?_)
          refine WLt (show (.int .i64 (IntKind.i64.wrap ((i : Int) + 1)) : Value) = .int .i64 ((i : Int) + 1) from by rw [wrap_in_i64 ((i : Int) + 1) (by omega) (by omega)]) ?_
          refine WLr 1 [(52, .int .i64 ((i : Int) + 1))] (fun _ => by kernel_rfl) ?_
          refine WLd rfl ?_
          refine QXn ?_
          have hC940 := hC931.pick [0] [0, 1, 2] rfl rfl
          refine fun a_ ha_ => hK67 _ _ _ ?_ ⟨i + 1, FA, V, N, pv, Am, nm, cm, Lm, Rm, rfl, rfl, hC940, hvs933, ho934, hl935, by omega, hnode, hopV, hook, by omega, hpn, hmv, hml⟩ a_ (ha_.weaken (sub_of ⟨rfl, rfl, rfl, rfl, rfl, rfl, rfl, rfl, trivial⟩))
          omega
       ·
        have t486 : ¬ (e81.kind = 1) := by simpa using t486b
        refine WCf rfl ?_
        refine WCs (fun K941 hK942 => ?_)
        refine WCg (WLr 2 [(178, .bool (e81.kind == 2)), (179, .bool (e81.kind == 2))] (fun _ => by kernel_rfl) (WLd rfl (QXn (hK942 _ _ ?_))))
        refine WCa 178 (e81.kind == 2) rfl (fun t943b => ?_) (fun t943b => ?_)
        ·
         have t943 : e81.kind = 2 := by simpa using t943b
         refine WCt rfl ?_
         refine WCs (fun K944 hK945 => ?_)
         refine WCg ?_
         refine WL.newM hC110 (fun b => .slice (some ⟨b, 0, none⟩) 0 0) (.cells #[] 50) 180 (fun _ => by kernel_rfl) (fun g946 w947 hb950 hF948 hC949 => ?_)
         have hvs951 := vsAt_fr hvs111 hF948 (by simp)
         have ho952 := own_fr ho112 hF948 (by simp)
         have hl953 := logIn.fr hl113 hF948 (by simp)
         refine WLr 1 [(181, .pointer (some ⟨g87, 4, none⟩))] (fun _ => by kernel_rfl) ?_
         refine WL.load 43 (.pointer (some ⟨g87, 4, none⟩)) (.slice e81.ba e81.bs.length e81.bc) 182 (by kernel_rfl) (run_ld (hC949.get 1 rfl) rfl) ?_
         have ho955 : World.ownsRow w947 0 50 2 (.slice (some ⟨g946, 0, none⟩) 0 0) 0 [] := own_of_blk (Nat.zero_le _) (hC949.get 2 rfl) (Nat.le_refl _) (Nat.zero_le _) (by simp) rfl
         have hC954 := hC949.toF 2 rfl
         obtain ⟨v957, w958, hr959, ho960, hF961, hC962, hnil963, hsub964⟩ := app_run Try.prog hC954 3 (v := .slice (some ⟨g946, 0, none⟩) 0 0) rfl 43 43 50 2 16 0 e81.bs.length e81.bc e81.ba rfl ho955 (e81.bs.flatMap encBal) (flat_len_n encBal_len (by first | rfl | assumption | (simp; done) | (simp; omega))) (Rd.src_n (Rd.fr hok_e81.rb hC954.fr) encBal_len (by decide) (by first | rfl | assumption | (simp; done) | (simp; omega))) (flat_one encBal_one _) (by simp only [maxLen]; omega) (by omega)
         have ho968 := own_app (enc := encBal) (ys := []) (zs := e81.bs) ho960
         obtain ⟨A965, c966, rfl, hle967⟩ := own_form ho968
         refine WL.sem (Builtin.append_ #[43, 43] 43 #[.slice (some ⟨g946, 0, none⟩) 0 0, .slice e81.ba e81.bs.length e81.bc]) 183 (.slice A965 (0 + e81.bs.length) c966) (by kernel_rfl) hr959 ?_
         have hvs969 := vsAt_fr hvs951 hF961 (hC954.disj 0 3 rfl rfl (by decide))
         have ho970 := own_fr ho952 hF961 (hC954.disj 1 3 rfl rfl (by decide))
         have hl971 := logIn.fr hl953 hF961 (hC954.disj 2 3 rfl rfl (by decide))
         refine WLr 1 [(21, .slice A965 (0 + e81.bs.length) c966)] (fun _ => by kernel_rfl) (WLd rfl (QXn (hK945 _ _ ?_)))
         refine WC.drawC hC962 [] (by kernel_rfl) (fun w972 hF973 hC974 hS975 => ?_)
         have hvs976 := vsAt_fr hvs969 hF973 (by simp)
         have ho977 := own_fr ho970 hF973 (by simp)
         have hl978 := logIn.fr hl971 hF973 (by simp)
         have ho979 := own_fr ho968 hF973 (by simp)
         refine WDp (NPb (NPt (NPb (NPt (NPt (NPb (NPt hN))))))) 0 184 (.pointer (some ⟨pv, 0, none⟩)) (by kernel_rfl) (fun _ => by kernel_rfl) hS975 ?_
         refine WDp (NPb (NPt (NPb (NPt (NPt (NPb (NPt hN))))))) 1 185 (.slice A965 (0 + e81.bs.length) c966) (by kernel_rfl) (fun _ => by kernel_rfl) hS975 ?_
         refine WDp (NPb (NPt (NPb (NPt (NPt (NPb (NPt hN))))))) 3 187 (.pointer (some ⟨g53, 0, none⟩)) (by kernel_rfl) (fun _ => by kernel_rfl) hS975 ?_
         refine WDp (NPb (NPt (NPb (NPt (NPt (NPb (NPt hN))))))) 4 188 (.pointer (some ⟨g87, 4, none⟩)) (by kernel_rfl) (fun _ => by kernel_rfl) hS975 ?_
         refine WDl (NPb (NPt (NPb (NPt (NPt (NPb (NPt hN))))))) 5 43 (.pointer (some ⟨g87, 4, none⟩)) (.slice e81.ba e81.bs.length e81.bc) 189 (by kernel_rfl) (by kernel_rfl) (fun _ hS_ => run_ld (Fr.has hS_ (hC974.get 1 rfl) (by simp)) rfl) hS975 ?_
         refine WD.call 2 (by kernel_rfl) rfl rfl rfl rfl rfl (by kernel_rfl) (ClaimVX FA pv V sp31 N N 4194304 w972 hvs976 A965 (0 + e81.bs.length) c966 ([] ++ e81.bs) (own_rd ho979 encBal_len (by decide)) (own_count encBal_len (by decide) ho979) (by have z_ := own_count encBal_len (by decide) ho979; have z2_ := hok_e81.bl; simp at z_ ⊢; omega)) ?_
         rintro _ w981 ⟨cx1_, rfl, hcx1_, hF980⟩
         have hS983 := hS975.trans hF980 (by simp)
         refine ⟨_, rfl, hS983, ?_⟩
         have hC982 := hC974.call hF980
         have hvs984 := vsAt_fr hvs976 hF980 (by simp)
         have ho985 := own_fr ho977 hF980 (by simp)
         have hl986 := logIn.fr hl978 hF980 (by simp)
         refine WD.call 6 (by kernel_rfl) rfl rfl rfl rfl rfl (by kernel_rfl) (RClaimX g53 V Am nm cm e81.ba e81.bc e81.bs w981 (hC982.get 0 rfl) (Rd.fr hok_e81.rb hC982.fr) hok_e81.bl hpn) ?_
         rintro _ w989 ⟨cx2_, rfl, hcx2_, hF988⟩
         have hS991 := hS983.trans hF988 (by simp)
         refine ⟨_, rfl, hS991, ?_⟩
         have hC990 := hC982.call hF988
         have hvs992 := vsAt_fr hvs984 hF988 (by simp)
         have ho993 := own_fr ho985 hF988 (by simp)
         have hl994 := logIn.fr hl986 hF988 (by simp)
         have hr996 : ∀ w_, Sem.run Try.prog (do eqGuard .eql 50 (Operand.tmp 186) (Operand.tmp 190) (.agg #[.int .i64 cx1_, .int .i64 V.node]) (.agg #[.int .i64 cx2_, .int .i64 V.node]); binOp .eql 50 (.agg #[.int .i64 cx1_, .int .i64 V.node]) (.agg #[.int .i64 cx2_, .int .i64 V.node])) w_ = .ok (.bool (cx1_ == cx2_ && (V.node == V.node && true))) w_ := fun w_ => (run_eql_S (by kernel_rfl))
         refine WD.semP (NPb (NPt (NPb (NPt (NPt (NPb (NPt hN))))))) 7 (do eqGuard .eql 50 (Operand.tmp 186) (Operand.tmp 190) (.agg #[.int .i64 cx1_, .int .i64 V.node]) (.agg #[.int .i64 cx2_, .int .i64 V.node]); binOp .eql 50 (.agg #[.int .i64 cx1_, .int .i64 V.node]) (.agg #[.int .i64 cx2_, .int .i64 V.node])) 191 (.bool (cx1_ == cx2_ && (V.node == V.node && true))) (by kernel_rfl) (by kernel_rfl) (fun _ _ => hr996 _) hS991 ?_
         refine WDp (NPb (NPt (NPb (NPt (NPt (NPb (NPt hN))))))) 8 10 (.bool (cx1_ == cx2_ && (V.node == V.node && true))) (by kernel_rfl) (fun _ => by kernel_rfl) hS991 ?_
         refine WD.done (by kernel_rfl) ?_
         refine QXb ?_
         refine QXn (hK123 _ _ ?_)
         refine WCs (fun K997 hK998 => ?_)
         refine WCs (fun K999 hK1000 => ?_)
         refine WCg (WLr 2 [(193, .bool (!(cx1_ == cx2_ && (V.node == V.node && true)))), (192, .bool (cx1_ == cx2_ && (V.node == V.node && true)))] (fun _ => by kernel_rfl) (WLd rfl (QXn (hK1000 _ _ ?_))))
         refine WC.know 193 (.bool (!(cx1_ == cx2_ && (V.node == V.node && true)))) (.bool false) rfl (congrArg Value.bool (by simp [hcx1_, hcx2_])) ?_
         refine WCf rfl (WC.skip (QXn (hK998 _ _ ?_)))
         refine WCs (fun K1001 hK1002 => ?_)
         refine WCg (WLr 1 [(195, .pointer (some ⟨pv, 0, none⟩))] (fun _ => by kernel_rfl) ?_)
         refine WLc rfl rfl rfl rfl rfl (by kernel_rfl) (AcceptedVS FA pv V sp31 N N 4194304 w989 hvs992) ?_
         rintro _ w1013 ⟨A1003, c1004, L1005, R1006, rfl, hF1007, ho1008, hli1009, hvv1010, hRg1011, hgr1012⟩
         have hC1014 := callNN hC990 hF1007 (own_ge ho1008) (own_lt ho1008) (fun x_ h_ => (hRg1011 x_ h_).1) (fun x_ h_ => (hRg1011 x_ h_).2) hgr1012
         refine ⟨_, rfl, ?_⟩
         have hvs1015 := vsAt_fr hvs992 hF1007 (by simp)
         have ho1016 := own_fr ho993 hF1007 (by simp)
         have hl1017 := logIn.fr hl994 hF1007 (by simp)
         have ho1019 := own_base (b' := 0) ho1008 (fun _ _ => Nat.zero_le _)
         have hvvN_L1005 : vals L1005 = (V.log : List CmdV) := hvv1010
         have hll_L1005 : L1005.length = (V.log : List CmdV).length := by rw [← vals_len, hvvN_L1005]
         refine WLr 3 [(198, .slice A1003 L1005.length c1004), (197, .agg #[.int .i64 V.an, .int .i64 V.ad]), (194, .tuple #[.agg #[.int .i64 V.an, .int .i64 V.ad], .slice A1003 L1005.length c1004])] (fun _ => by kernel_rfl) ?_
         refine WL.newM hC1014 (fun b => .pointer (some ⟨b, 0, none⟩)) (.cells #[.int .i64 0, .int .i64 0] 50) 24 (fun _ => by kernel_rfl) (fun g1021 w1022 hb1025 hF1023 hC1024 => ?_)
         have hvs1026 := vsAt_fr hvs1015 hF1023 (by simp)
         have ho1027 := own_fr ho1016 hF1023 (by simp)
         have hl1028 := logIn.fr hl1017 hF1023 (by simp)
         have ho1030 := own_fr ho1019 hF1023 (by simp)
         have hl1031 := logIn.fr hli1009 hF1023 (by simp)
         refine WLs (c' := #[.int .i64 V.an, .int .i64 V.ad]) hC1024 2 50 g1021 0 (.agg #[.int .i64 V.an, .int .i64 V.ad]) (by kernel_rfl) rfl (by kernel_rfl) (fun w1032 hF1034 hC1035 => ?_)
         have hvs1036 := vsAt_fr hvs1026 hF1034 (hC1024.apartM 0 2 rfl rfl)
         have ho1037 := own_fr ho1027 hF1034 (hC1024.apartM 1 2 rfl rfl)
         have hl1038 := logIn.fr hl1028 hF1034 (hC1024.apartM 2 2 rfl rfl)
         have ho1040 := own_fr ho1030 hF1034 (hC1024.apartM 4 2 rfl rfl)
         have hl1041 := logIn.fr hl1031 hF1034 (hC1024.apartM 5 2 rfl rfl)
         refine WLr 1 [(25, .slice A1003 L1005.length c1004)] (fun _ => by kernel_rfl) (WLd rfl (QXn (hK1002 _ _ ?_)))
         refine WCs (fun K1042 hK1043 => ?_)
         refine WC.drawC hC1035 [] (by kernel_rfl) (fun w1044 hF1045 hC1046 hS1047 => ?_)
         have hvs1048 := vsAt_fr hvs1036 hF1045 (by simp)
         have ho1049 := own_fr ho1037 hF1045 (by simp)
         have hl1050 := logIn.fr hl1038 hF1045 (by simp)
         have ho1052 := own_fr ho1040 hF1045 (by simp)
         have hl1053 := logIn.fr hl1041 hF1045 (by simp)
         refine WDp (NPt (NPb (NPt (NPt (NPb (NPt hN)))))) 0 199 (.pointer (some ⟨pv, 0, none⟩)) (by kernel_rfl) (fun _ => by kernel_rfl) hS1047 ?_
         refine WDp (NPt (NPb (NPt (NPt (NPb (NPt hN)))))) 2 201 (.pointer (some ⟨g53, 0, none⟩)) (by kernel_rfl) (fun _ => by kernel_rfl) hS1047 ?_
         refine WDp (NPt (NPb (NPt (NPt (NPb (NPt hN)))))) 3 202 (.pointer (some ⟨g53, 0, none⟩)) (by kernel_rfl) (fun _ => by kernel_rfl) hS1047 ?_
         refine WDp (NPt (NPb (NPt (NPt (NPb (NPt hN)))))) 4 203 (.pointer (some ⟨g53, 1, none⟩)) (by kernel_rfl) (fun _ => by kernel_rfl) hS1047 ?_
         refine WDl (NPt (NPb (NPt (NPt (NPb (NPt hN)))))) 5 50 (.pointer (some ⟨g53, 1, none⟩)) (.agg #[.int .i64 V.pn, .int .i64 V.pd]) 204 (by kernel_rfl) (by kernel_rfl) (fun _ hS_ => run_ld (Fr.has hS_ (hC1046.get 0 rfl) (by simp)) rfl) hS1047 ?_
         refine WD.call 1 (by kernel_rfl) rfl rfl rfl rfl rfl (by kernel_rfl) (PromVS FA pv V sp31 N N 4194304 w1044 hvs1048) ?_
         rintro _ w1055 ⟨rfl, hF1054⟩
         have hS1057 := hS1047.trans hF1054 (by simp)
         refine ⟨_, rfl, hS1057, ?_⟩
         have hC1056 := hC1046.call hF1054
         have hvs1058 := vsAt_fr hvs1048 hF1054 (by simp)
         have ho1059 := own_fr ho1049 hF1054 (by simp)
         have hl1060 := logIn.fr hl1050 hF1054 (by simp)
         have ho1062 := own_fr ho1052 hF1054 (by simp)
         have hl1063 := logIn.fr hl1053 hF1054 (by simp)
         have hr1064 : ∀ w_, Sem.run Try.prog (do eqGuard .neq 50 (Operand.tmp 200) (Operand.tmp 204) (.agg #[.int .i64 V.pn, .int .i64 V.pd]) (.agg #[.int .i64 V.pn, .int .i64 V.pd]); binOp .neq 50 (.agg #[.int .i64 V.pn, .int .i64 V.pd]) (.agg #[.int .i64 V.pn, .int .i64 V.pd])) w_ = .ok (.bool (!(V.pn == V.pn && (V.pd == V.pd && true)))) w_ := fun w_ => (run_neq_S (by kernel_rfl))
         refine WD.semP (NPt (NPb (NPt (NPt (NPb (NPt hN)))))) 6 (do eqGuard .neq 50 (Operand.tmp 200) (Operand.tmp 204) (.agg #[.int .i64 V.pn, .int .i64 V.pd]) (.agg #[.int .i64 V.pn, .int .i64 V.pd]); binOp .neq 50 (.agg #[.int .i64 V.pn, .int .i64 V.pd]) (.agg #[.int .i64 V.pn, .int .i64 V.pd])) 205 (.bool (!(V.pn == V.pn && (V.pd == V.pd && true)))) (by kernel_rfl) (by kernel_rfl) (fun _ _ => hr1064 _) hS1057 ?_
         refine WDp (NPt (NPb (NPt (NPt (NPb (NPt hN)))))) 7 206 (.bool (!(V.pn == V.pn && (V.pd == V.pd && true)))) (by kernel_rfl) (fun _ => by kernel_rfl) hS1057 ?_
         refine WD.know 206 (.bool (!(V.pn == V.pn && (V.pd == V.pd && true)))) (.bool false) rfl (congrArg Value.bool (by simp [hvvN_L1005, hmv])) ?_
         refine WDp (NPt (NPb (NPt (NPt (NPb (NPt hN)))))) 9 208 (.pointer (some ⟨g53, 0, none⟩)) (by kernel_rfl) (fun _ => by kernel_rfl) hS1057 ?_
         refine WDp (NPt (NPb (NPt (NPt (NPb (NPt hN)))))) 10 209 (.pointer (some ⟨g53, 0, none⟩)) (by kernel_rfl) (fun _ => by kernel_rfl) hS1057 ?_
         refine WDp (NPt (NPb (NPt (NPt (NPb (NPt hN)))))) 11 210 (.pointer (some ⟨g53, 3, none⟩)) (by kernel_rfl) (fun _ => by kernel_rfl) hS1057 ?_
         refine WDl (NPt (NPb (NPt (NPt (NPb (NPt hN)))))) 8 50 (.pointer (some ⟨g1021, 0, none⟩)) (.agg #[.int .i64 V.an, .int .i64 V.ad]) 207 (by kernel_rfl) (by kernel_rfl) (fun _ hS_ => run_ld (Fr.has hS_ (hC1046.get 2 rfl) (by simp)) rfl) hS1057 ?_
         refine WDl (NPt (NPb (NPt (NPt (NPb (NPt hN)))))) 12 50 (.pointer (some ⟨g53, 3, none⟩)) (.agg #[.int .i64 V.an, .int .i64 V.ad]) 211 (by kernel_rfl) (by kernel_rfl) (fun _ hS_ => run_ld (Fr.has hS_ (hC1046.get 0 rfl) (by simp)) rfl) hS1057 ?_
         have hr1065 : ∀ w_, Sem.run Try.prog (do eqGuard .neq 50 (Operand.tmp 207) (Operand.tmp 211) (.agg #[.int .i64 V.an, .int .i64 V.ad]) (.agg #[.int .i64 V.an, .int .i64 V.ad]); binOp .neq 50 (.agg #[.int .i64 V.an, .int .i64 V.ad]) (.agg #[.int .i64 V.an, .int .i64 V.ad])) w_ = .ok (.bool (!(V.an == V.an && (V.ad == V.ad && true)))) w_ := fun w_ => (run_neq_S (by kernel_rfl))
         refine WD.semP (NPt (NPb (NPt (NPt (NPb (NPt hN)))))) 13 (do eqGuard .neq 50 (Operand.tmp 207) (Operand.tmp 211) (.agg #[.int .i64 V.an, .int .i64 V.ad]) (.agg #[.int .i64 V.an, .int .i64 V.ad]); binOp .neq 50 (.agg #[.int .i64 V.an, .int .i64 V.ad]) (.agg #[.int .i64 V.an, .int .i64 V.ad])) 212 (.bool (!(V.an == V.an && (V.ad == V.ad && true)))) (by kernel_rfl) (by kernel_rfl) (fun _ _ => hr1065 _) hS1057 ?_
         refine WDp (NPt (NPb (NPt (NPt (NPb (NPt hN)))))) 14 213 (.bool (!(V.an == V.an && (V.ad == V.ad && true)))) (by kernel_rfl) (fun _ => by kernel_rfl) hS1057 ?_
         refine WDp (NPt (NPb (NPt (NPt (NPb (NPt hN)))))) 15 214 (.bool (!(V.an == V.an && (V.ad == V.ad && true)))) (by kernel_rfl) (fun _ => by kernel_rfl) hS1057 ?_
         refine WD.know 214 (.bool (!(V.an == V.an && (V.ad == V.ad && true)))) (.bool false) rfl (congrArg Value.bool (by simp [hvvN_L1005, hmv])) ?_
         refine WDp (NPt (NPb (NPt (NPt (NPb (NPt hN)))))) 16 215 (.slice A1003 L1005.length c1004) (by kernel_rfl) (fun _ => by kernel_rfl) hS1057 ?_
         refine WDp (NPt (NPb (NPt (NPt (NPb (NPt hN)))))) 17 216 (.pointer (some ⟨g53, 0, none⟩)) (by kernel_rfl) (fun _ => by kernel_rfl) hS1057 ?_
         refine WDp (NPt (NPb (NPt (NPt (NPb (NPt hN)))))) 18 217 (.pointer (some ⟨g53, 0, none⟩)) (by kernel_rfl) (fun _ => by kernel_rfl) hS1057 ?_
         refine WDp (NPt (NPb (NPt (NPt (NPb (NPt hN)))))) 19 218 (.pointer (some ⟨g53, 5, none⟩)) (by kernel_rfl) (fun _ => by kernel_rfl) hS1057 ?_
         refine WDl (NPt (NPb (NPt (NPt (NPb (NPt hN)))))) 20 25 (.pointer (some ⟨g53, 5, none⟩)) (.slice Am nm cm) 219 (by kernel_rfl) (by kernel_rfl) (fun _ hS_ => run_ld (Fr.has hS_ (hC1046.get 0 rfl) (by simp)) rfl) hS1057 ?_
         refine WD.call 21 (by kernel_rfl) rfl rfl rfl rfl rfl (by kernel_rfl) (RSame_n A1003 Am L1005.length c1004 nm cm L1005 Lm w1055 (own_rd ho1062 cellsC_len (by decide)) (own_rd ho1059 cellsC_len (by decide)) rfl (own_count cellsC_len (by decide) ho1059) (fun m_ h_ => hl1063.at_ m_ h_) (fun m_ h_ => hl1060.at_ m_ h_) (by have z_ := congrArg List.length (hvvN_L1005); rw [vals_len] at z_; first | (have z2_ := vs_loglen hvs; omega) | (rw [vals_len] at z_; omega) | (simp only [vals_len] at z_; omega))) ?_
         rintro _ w1067 ⟨rfl, hF1066⟩
         have hS1069 := hS1057.trans hF1066 (by simp)
         refine ⟨_, rfl, hS1069, ?_⟩
         have hC1068 := hC1056.call hF1066
         have hvs1070 := vsAt_fr hvs1058 hF1066 (by simp)
         have ho1071 := own_fr ho1059 hF1066 (by simp)
         have hl1072 := logIn.fr hl1060 hF1066 (by simp)
         refine WDp (NPt (NPb (NPt (NPt (NPb (NPt hN)))))) 22 221 (.bool (!(decide (vals L1005 = vals Lm)))) (by kernel_rfl) (fun _ => by kernel_rfl) hS1069 ?_
         refine WDp (NPt (NPb (NPt (NPt (NPb (NPt hN)))))) 23 222 (.bool (!(decide (vals L1005 = vals Lm)))) (by kernel_rfl) (fun _ => by kernel_rfl) hS1069 ?_
         refine WD.done (by kernel_rfl) ?_
         refine QXn (hK1043 _ _ ?_)
         refine WC.know 222 (.bool (!(decide (vals L1005 = vals Lm)))) (.bool false) rfl (congrArg Value.bool (by simp [hvvN_L1005, hmv])) ?_
         refine WCf rfl (WC.skip ?_)
         refine QXb ?_
         refine QXn (hK78 _ _ ?_)
         refine WCg (WLr 1 [(223, .int .i64 (IntKind.i64.wrap ((i : Int) + 1)))] (fun _ => by kernel_rfl) ?_)
         refine WLt (show (.int .i64 (IntKind.i64.wrap ((i : Int) + 1)) : Value) = .int .i64 ((i : Int) + 1) from by rw [wrap_in_i64 ((i : Int) + 1) (by omega) (by omega)]) ?_
         refine WLr 1 [(52, .int .i64 ((i : Int) + 1))] (fun _ => by kernel_rfl) ?_
         refine WLd rfl ?_
         refine QXn ?_
         have hC1076 := hC1068.pick [0] [0, 1, 2] rfl rfl
         refine fun a_ ha_ => hK67 _ _ _ ?_ ⟨i + 1, FA, V, N, pv, Am, nm, cm, Lm, Rm, rfl, rfl, hC1076, hvs1070, ho1071, hl1072, by omega, hnode, hopV, hook, by omega, hpn, hmv, hml⟩ a_ (ha_.weaken (sub_of ⟨rfl, rfl, rfl, rfl, rfl, rfl, rfl, rfl, trivial⟩))
         omega
        ·
         have t943 : ¬ (e81.kind = 2) := by simpa using t943b
         refine WCf rfl ?_
         refine WCs (fun K1077 hK1078 => ?_)
         refine WCg (WLr 1 [(67, .pointer (some ⟨sp31, 0, none⟩))] (fun _ => by kernel_rfl) ?_)
         refine WLc rfl rfl rfl rfl rfl (by kernel_rfl) (CrashVS FA pv V sp31 N N 4194304 w109 hvs111) ?_
         rintro _ w1083 ⟨FA1079, rfl, hF1080, hvs1081, hsub1082⟩
         have hC1084 := hC110.callF 0 rfl hF1080 hsub1082 (vsAt_lt hvs1081)
         refine ⟨_, rfl, ?_⟩
         have ho1085 := own_fr ho112 hF1080 (hC110.disj 1 0 rfl rfl (by decide))
         have hl1086 := logIn.fr hl113 hF1080 (hC110.disj 2 0 rfl rfl (by decide))
         refine WLd rfl (QXn (hK1078 _ _ ?_))
         refine WCs (fun K1087 hK1088 => ?_)
         refine WCg (WLr 2 [(71, .int .i64 node), (70, .pointer (some ⟨sp31, 0, none⟩))] (fun _ => by kernel_rfl) ?_)
         refine WLc rfl rfl rfl rfl rfl (by kernel_rfl) (OpenVS FA1079 pv V sp31 N N 4194304 w1083 hvs1081 node hw hm_ hook) ?_
         rintro _ w1094 ⟨p1089, FA1090, rfl, hF1091, hvs1092, hsub1093⟩
         have hF1091W : Fr w1083 w1094 FA1079 := hF1091.mono (fun _ h_ => nomatch h_)
         have hC1095 := hC1084.callF 0 rfl hF1091W hsub1093 (vsAt_lt hvs1092)
         have hvs1096 : vsAt w1094 FA1090 p1089 V sp31 N N 4194304 := by have z_ := hvs1092; rw [hopV] at z_; exact z_
         refine ⟨_, rfl, ?_⟩
         have ho1097 := own_fr ho1085 hF1091W (hC1084.disj 1 0 rfl rfl (by decide))
         have hl1098 := logIn.fr hl1086 hF1091W (hC1084.disj 2 0 rfl rfl (by decide))
         refine WLr 5 [(23, .nilIface), (22, .pointer (some ⟨p1089, 0, none⟩)), (74, .nilIface), (73, .pointer (some ⟨p1089, 0, none⟩)), (69, .tuple #[.pointer (some ⟨p1089, 0, none⟩), .nilIface])] (fun _ => by kernel_rfl) (WLd rfl (QXn (hK1088 _ _ ?_)))
         refine WCs (fun K1099 hK1100 => ?_)
         refine WCg (WLr 7 [(10, .bool true), (80, .bool true), (79, .bool true), (78, .pointer (some ⟨p1089, 0, none⟩)), (77, .bool true), (76, .bool true), (75, .nilIface)] (fun _ => by kernel_rfl) (WLd rfl (QXn (hK1100 _ _ ?_))))
         refine WCg (WLr 2 [(6, .pointer (some ⟨p1089, 0, none⟩)), (81, .pointer (some ⟨p1089, 0, none⟩))] (fun _ => by kernel_rfl) ?_)
         refine WLd rfl ?_
         refine QXb ?_
         refine QXn (hK123 _ _ ?_)
         refine WCs (fun K1101 hK1102 => ?_)
         refine WCs (fun K1103 hK1104 => ?_)
         refine WCg (WLr 2 [(193, .bool false), (192, .bool true)] (fun _ => by kernel_rfl) (WLd rfl (QXn (hK1104 _ _ ?_))))
         refine WCf rfl (WC.skip (QXn (hK1102 _ _ ?_)))
         refine WCs (fun K1105 hK1106 => ?_)
         refine WCg (WLr 1 [(195, .pointer (some ⟨p1089, 0, none⟩))] (fun _ => by kernel_rfl) ?_)
         refine WLc rfl rfl rfl rfl rfl (by kernel_rfl) (AcceptedVS FA1090 p1089 V sp31 N N 4194304 w1094 hvs1096) ?_
         rintro _ w1117 ⟨A1107, c1108, L1109, R1110, rfl, hF1111, ho1112, hli1113, hvv1114, hRg1115, hgr1116⟩
         have hC1118 := callNN hC1095 hF1111 (own_ge ho1112) (own_lt ho1112) (fun x_ h_ => (hRg1115 x_ h_).1) (fun x_ h_ => (hRg1115 x_ h_).2) hgr1116
         refine ⟨_, rfl, ?_⟩
         have hvs1119 := vsAt_fr hvs1096 hF1111 (by simp)
         have ho1120 := own_fr ho1097 hF1111 (by simp)
         have hl1121 := logIn.fr hl1098 hF1111 (by simp)
         have ho1122 := own_base (b' := 0) ho1112 (fun _ _ => Nat.zero_le _)
         have hvvN_L1109 : vals L1109 = (V.log : List CmdV) := hvv1114
         have hll_L1109 : L1109.length = (V.log : List CmdV).length := by rw [← vals_len, hvvN_L1109]
         refine WLr 3 [(198, .slice A1107 L1109.length c1108), (197, .agg #[.int .i64 V.an, .int .i64 V.ad]), (194, .tuple #[.agg #[.int .i64 V.an, .int .i64 V.ad], .slice A1107 L1109.length c1108])] (fun _ => by kernel_rfl) ?_
         refine WL.newM hC1118 (fun b => .pointer (some ⟨b, 0, none⟩)) (.cells #[.int .i64 0, .int .i64 0] 50) 24 (fun _ => by kernel_rfl) (fun g1124 w1125 hb1128 hF1126 hC1127 => ?_)
         have hvs1129 := vsAt_fr hvs1119 hF1126 (by simp)
         have ho1130 := own_fr ho1120 hF1126 (by simp)
         have hl1131 := logIn.fr hl1121 hF1126 (by simp)
         have ho1132 := own_fr ho1122 hF1126 (by simp)
         have hl1133 := logIn.fr hli1113 hF1126 (by simp)
         refine WLs (c' := #[.int .i64 V.an, .int .i64 V.ad]) hC1127 2 50 g1124 0 (.agg #[.int .i64 V.an, .int .i64 V.ad]) (by kernel_rfl) rfl (by kernel_rfl) (fun w1134 hF1136 hC1137 => ?_)
         have hvs1138 := vsAt_fr hvs1129 hF1136 (hC1127.apartM 0 2 rfl rfl)
         have ho1139 := own_fr ho1130 hF1136 (hC1127.apartM 1 2 rfl rfl)
         have hl1140 := logIn.fr hl1131 hF1136 (hC1127.apartM 2 2 rfl rfl)
         have ho1141 := own_fr ho1132 hF1136 (hC1127.apartM 3 2 rfl rfl)
         have hl1142 := logIn.fr hl1133 hF1136 (hC1127.apartM 4 2 rfl rfl)
         refine WLr 1 [(25, .slice A1107 L1109.length c1108)] (fun _ => by kernel_rfl) (WLd rfl (QXn (hK1106 _ _ ?_)))
         refine WCs (fun K1143 hK1144 => ?_)
         refine WC.drawC hC1137 [] (by kernel_rfl) (fun w1145 hF1146 hC1147 hS1148 => ?_)
         have hvs1149 := vsAt_fr hvs1138 hF1146 (by simp)
         have ho1150 := own_fr ho1139 hF1146 (by simp)
         have hl1151 := logIn.fr hl1140 hF1146 (by simp)
         have ho1152 := own_fr ho1141 hF1146 (by simp)
         have hl1153 := logIn.fr hl1142 hF1146 (by simp)
         refine WDp (NPt (NPb (NPt (NPt (NPb (NPt hN)))))) 0 199 (.pointer (some ⟨p1089, 0, none⟩)) (by kernel_rfl) (fun _ => by kernel_rfl) hS1148 ?_
         refine WDp (NPt (NPb (NPt (NPt (NPb (NPt hN)))))) 2 201 (.pointer (some ⟨g53, 0, none⟩)) (by kernel_rfl) (fun _ => by kernel_rfl) hS1148 ?_
         refine WDp (NPt (NPb (NPt (NPt (NPb (NPt hN)))))) 3 202 (.pointer (some ⟨g53, 0, none⟩)) (by kernel_rfl) (fun _ => by kernel_rfl) hS1148 ?_
         refine WDp (NPt (NPb (NPt (NPt (NPb (NPt hN)))))) 4 203 (.pointer (some ⟨g53, 1, none⟩)) (by kernel_rfl) (fun _ => by kernel_rfl) hS1148 ?_
         refine WDl (NPt (NPb (NPt (NPt (NPb (NPt hN)))))) 5 50 (.pointer (some ⟨g53, 1, none⟩)) (.agg #[.int .i64 V.pn, .int .i64 V.pd]) 204 (by kernel_rfl) (by kernel_rfl) (fun _ hS_ => run_ld (Fr.has hS_ (hC1147.get 0 rfl) (by simp)) rfl) hS1148 ?_
         refine WD.call 1 (by kernel_rfl) rfl rfl rfl rfl rfl (by kernel_rfl) (PromVS FA1090 p1089 V sp31 N N 4194304 w1145 hvs1149) ?_
         rintro _ w1155 ⟨rfl, hF1154⟩
         have hS1157 := hS1148.trans hF1154 (by simp)
         refine ⟨_, rfl, hS1157, ?_⟩
         have hC1156 := hC1147.call hF1154
         have hvs1158 := vsAt_fr hvs1149 hF1154 (by simp)
         have ho1159 := own_fr ho1150 hF1154 (by simp)
         have hl1160 := logIn.fr hl1151 hF1154 (by simp)
         have ho1161 := own_fr ho1152 hF1154 (by simp)
         have hl1162 := logIn.fr hl1153 hF1154 (by simp)
         have hr1163 : ∀ w_, Sem.run Try.prog (do eqGuard .neq 50 (Operand.tmp 200) (Operand.tmp 204) (.agg #[.int .i64 V.pn, .int .i64 V.pd]) (.agg #[.int .i64 V.pn, .int .i64 V.pd]); binOp .neq 50 (.agg #[.int .i64 V.pn, .int .i64 V.pd]) (.agg #[.int .i64 V.pn, .int .i64 V.pd])) w_ = .ok (.bool (!(V.pn == V.pn && (V.pd == V.pd && true)))) w_ := fun w_ => (run_neq_S (by kernel_rfl))
         refine WD.semP (NPt (NPb (NPt (NPt (NPb (NPt hN)))))) 6 (do eqGuard .neq 50 (Operand.tmp 200) (Operand.tmp 204) (.agg #[.int .i64 V.pn, .int .i64 V.pd]) (.agg #[.int .i64 V.pn, .int .i64 V.pd]); binOp .neq 50 (.agg #[.int .i64 V.pn, .int .i64 V.pd]) (.agg #[.int .i64 V.pn, .int .i64 V.pd])) 205 (.bool (!(V.pn == V.pn && (V.pd == V.pd && true)))) (by kernel_rfl) (by kernel_rfl) (fun _ _ => hr1163 _) hS1157 ?_
         refine WDp (NPt (NPb (NPt (NPt (NPb (NPt hN)))))) 7 206 (.bool (!(V.pn == V.pn && (V.pd == V.pd && true)))) (by kernel_rfl) (fun _ => by kernel_rfl) hS1157 ?_
         refine WD.know 206 (.bool (!(V.pn == V.pn && (V.pd == V.pd && true)))) (.bool false) rfl (congrArg Value.bool (by simp [hvvN_L1109, hmv])) ?_
         refine WDp (NPt (NPb (NPt (NPt (NPb (NPt hN)))))) 9 208 (.pointer (some ⟨g53, 0, none⟩)) (by kernel_rfl) (fun _ => by kernel_rfl) hS1157 ?_
         refine WDp (NPt (NPb (NPt (NPt (NPb (NPt hN)))))) 10 209 (.pointer (some ⟨g53, 0, none⟩)) (by kernel_rfl) (fun _ => by kernel_rfl) hS1157 ?_
         refine WDp (NPt (NPb (NPt (NPt (NPb (NPt hN)))))) 11 210 (.pointer (some ⟨g53, 3, none⟩)) (by kernel_rfl) (fun _ => by kernel_rfl) hS1157 ?_
         refine WDl (NPt (NPb (NPt (NPt (NPb (NPt hN)))))) 8 50 (.pointer (some ⟨g1124, 0, none⟩)) (.agg #[.int .i64 V.an, .int .i64 V.ad]) 207 (by kernel_rfl) (by kernel_rfl) (fun _ hS_ => run_ld (Fr.has hS_ (hC1147.get 2 rfl) (by simp)) rfl) hS1157 ?_
         refine WDl (NPt (NPb (NPt (NPt (NPb (NPt hN)))))) 12 50 (.pointer (some ⟨g53, 3, none⟩)) (.agg #[.int .i64 V.an, .int .i64 V.ad]) 211 (by kernel_rfl) (by kernel_rfl) (fun _ hS_ => run_ld (Fr.has hS_ (hC1147.get 0 rfl) (by simp)) rfl) hS1157 ?_
         have hr1164 : ∀ w_, Sem.run Try.prog (do eqGuard .neq 50 (Operand.tmp 207) (Operand.tmp 211) (.agg #[.int .i64 V.an, .int .i64 V.ad]) (.agg #[.int .i64 V.an, .int .i64 V.ad]); binOp .neq 50 (.agg #[.int .i64 V.an, .int .i64 V.ad]) (.agg #[.int .i64 V.an, .int .i64 V.ad])) w_ = .ok (.bool (!(V.an == V.an && (V.ad == V.ad && true)))) w_ := fun w_ => (run_neq_S (by kernel_rfl))
         refine WD.semP (NPt (NPb (NPt (NPt (NPb (NPt hN)))))) 13 (do eqGuard .neq 50 (Operand.tmp 207) (Operand.tmp 211) (.agg #[.int .i64 V.an, .int .i64 V.ad]) (.agg #[.int .i64 V.an, .int .i64 V.ad]); binOp .neq 50 (.agg #[.int .i64 V.an, .int .i64 V.ad]) (.agg #[.int .i64 V.an, .int .i64 V.ad])) 212 (.bool (!(V.an == V.an && (V.ad == V.ad && true)))) (by kernel_rfl) (by kernel_rfl) (fun _ _ => hr1164 _) hS1157 ?_
         refine WDp (NPt (NPb (NPt (NPt (NPb (NPt hN)))))) 14 213 (.bool (!(V.an == V.an && (V.ad == V.ad && true)))) (by kernel_rfl) (fun _ => by kernel_rfl) hS1157 ?_
         refine WDp (NPt (NPb (NPt (NPt (NPb (NPt hN)))))) 15 214 (.bool (!(V.an == V.an && (V.ad == V.ad && true)))) (by kernel_rfl) (fun _ => by kernel_rfl) hS1157 ?_
         refine WD.know 214 (.bool (!(V.an == V.an && (V.ad == V.ad && true)))) (.bool false) rfl (congrArg Value.bool (by simp [hvvN_L1109, hmv])) ?_
         refine WDp (NPt (NPb (NPt (NPt (NPb (NPt hN)))))) 16 215 (.slice A1107 L1109.length c1108) (by kernel_rfl) (fun _ => by kernel_rfl) hS1157 ?_
         refine WDp (NPt (NPb (NPt (NPt (NPb (NPt hN)))))) 17 216 (.pointer (some ⟨g53, 0, none⟩)) (by kernel_rfl) (fun _ => by kernel_rfl) hS1157 ?_
         refine WDp (NPt (NPb (NPt (NPt (NPb (NPt hN)))))) 18 217 (.pointer (some ⟨g53, 0, none⟩)) (by kernel_rfl) (fun _ => by kernel_rfl) hS1157 ?_
         refine WDp (NPt (NPb (NPt (NPt (NPb (NPt hN)))))) 19 218 (.pointer (some ⟨g53, 5, none⟩)) (by kernel_rfl) (fun _ => by kernel_rfl) hS1157 ?_
         refine WDl (NPt (NPb (NPt (NPt (NPb (NPt hN)))))) 20 25 (.pointer (some ⟨g53, 5, none⟩)) (.slice Am nm cm) 219 (by kernel_rfl) (by kernel_rfl) (fun _ hS_ => run_ld (Fr.has hS_ (hC1147.get 0 rfl) (by simp)) rfl) hS1157 ?_
         refine WD.call 21 (by kernel_rfl) rfl rfl rfl rfl rfl (by kernel_rfl) (RSame_n A1107 Am L1109.length c1108 nm cm L1109 Lm w1155 (own_rd ho1161 cellsC_len (by decide)) (own_rd ho1159 cellsC_len (by decide)) rfl (own_count cellsC_len (by decide) ho1159) (fun m_ h_ => hl1162.at_ m_ h_) (fun m_ h_ => hl1160.at_ m_ h_) (by have z_ := congrArg List.length (hvvN_L1109); rw [vals_len] at z_; first | (have z2_ := vs_loglen hvs; omega) | (rw [vals_len] at z_; omega) | (simp only [vals_len] at z_; omega))) ?_
         rintro _ w1166 ⟨rfl, hF1165⟩
         have hS1168 := hS1157.trans hF1165 (by simp)
         refine ⟨_, rfl, hS1168, ?_⟩
         have hC1167 := hC1156.call hF1165
         have hvs1169 := vsAt_fr hvs1158 hF1165 (by simp)
         have ho1170 := own_fr ho1159 hF1165 (by simp)
         have hl1171 := logIn.fr hl1160 hF1165 (by simp)
         refine WDp (NPt (NPb (NPt (NPt (NPb (NPt hN)))))) 22 221 (.bool (!(decide (vals L1109 = vals Lm)))) (by kernel_rfl) (fun _ => by kernel_rfl) hS1168 ?_
         refine WDp (NPt (NPb (NPt (NPt (NPb (NPt hN)))))) 23 222 (.bool (!(decide (vals L1109 = vals Lm)))) (by kernel_rfl) (fun _ => by kernel_rfl) hS1168 ?_
         refine WD.done (by kernel_rfl) ?_
         refine QXn (hK1144 _ _ ?_)
         refine WC.know 222 (.bool (!(decide (vals L1109 = vals Lm)))) (.bool false) rfl (congrArg Value.bool (by simp [hvvN_L1109, hmv])) ?_
         refine WCf rfl (WC.skip ?_)
         refine QXb ?_
         refine QXn (hK78 _ _ ?_)
         refine WCg (WLr 1 [(223, .int .i64 (IntKind.i64.wrap ((i : Int) + 1)))] (fun _ => by kernel_rfl) ?_)
         refine WLt (show (.int .i64 (IntKind.i64.wrap ((i : Int) + 1)) : Value) = .int .i64 ((i : Int) + 1) from by rw [wrap_in_i64 ((i : Int) + 1) (by omega) (by omega)]) ?_
         refine WLr 1 [(52, .int .i64 ((i : Int) + 1))] (fun _ => by kernel_rfl) ?_
         refine WLd rfl ?_
         refine QXn ?_
         have hC1174 := hC1167.pick [0] [0, 1, 2] rfl rfl
         refine fun a_ ha_ => hK67 _ _ _ ?_ ⟨i + 1, FA1090, V, N, p1089, Am, nm, cm, Lm, Rm, rfl, rfl, hC1174, hvs1169, ho1170, hl1171, by omega, hnode, hopV, hook, by omega, hpn, hmv, hml⟩ a_ (ha_.weaken (sub_of ⟨rfl, rfl, rfl, rfl, rfl, rfl, rfl, rfl, trivial⟩))
         omega
   ·
    have t76 : (ops.length : Int) ≤ (i : Int) := by have q_ := of_decide_eq_false t76b; omega
    refine WCf rfl ?_
    refine WC.exit ?_
    refine QXe ?_
    refine QXe ?_
    refine QX.block_hit ?_
    refine QXn (hK60 _ _ ?_)
    refine WCs (fun K1175 hK1176 => ?_)
    refine WCg (WLr 1 [(4, .bool true)] (fun _ => by kernel_rfl) (WLd rfl (QXn (hK1176 _ _ ?_))))
    refine WC.ret ?_
    refine (hret _ _ _ rfl ?_).1
    exact ⟨rfl, hC71.fr⟩

end Go.Proofs.Ytjacpjdikhlcoaa
