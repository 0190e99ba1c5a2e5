/- Contracts of functions of the program, each proved by a walk through its code; conditions stand in the statements. -/
import Derived.Test.YtjacpjdikhlcoaaVtM14
namespace Go.Proofs.Ytjacpjdikhlcoaa
set_option linter.unusedSimpArgs false
set_option linter.unusedVariables false
set_option linter.unusedSectionVars false
open Go Go.RowKit Go.Tw
set_option linter.unusedVariables false
set_option maxRecDepth 20000
theorem Cx_split {w0 w : World} {F0 : List Nat} {M : List (Nat × Obj)} {Fs : List (List Nat)} (h : Cx w0 F0 w M Fs) (j : Nat) {A B : List Nat} (hj : Fs[j]? = some (A ++ B)) (hd : ∀ x ∈ A, x ∉ B) : Cx w0 F0 w M (Fs.set j A ++ [B]) := by
  have hm := List.mem_of_getElem? hj
  have hlt : j < Fs.length := (List.getElem?_eq_some_iff.1 hj).1
  have h1 : Cx w0 F0 w M (Fs.set j A) := h.callF j hj (Fr.refl w _) (fun x hx => .inl (List.mem_append_left _ hx)) (fun x hx => h.bound _ hm x (List.mem_append_left _ hx))
  have mem : ∀ G ∈ Fs.set j A, G = A ∨ ∃ i, i ≠ j ∧ Fs[i]? = some G := by
    intro G hG
    obtain ⟨i, hi⟩ := List.getElem?_of_mem hG
    by_cases e : i = j
    · subst e; rw [List.getElem?_set_self hlt] at hi; exact .inl (by simpa using hi.symm)
    · rw [List.getElem?_set_ne (Ne.symm e)] at hi; exact .inr ⟨i, e, hi⟩
  refine ⟨h1.fr, h1.has, h1.nodup, ?_, ?_, ?_, h1.ownM, ?_⟩
  · rw [List.pairwise_append]
    refine ⟨h1.sep, by simp, fun G hG C hC x hx hxC => ?_⟩
    rw [List.mem_singleton] at hC
    subst hC
    rcases mem G hG with rfl | ⟨i, hi, hG'⟩
    · exact hd x hx hxC
    · exact h.disj i j hG' hj hi x hx (List.mem_append_right _ hxC)
  · intro G hG p hp hx
    rcases List.mem_append.1 hG with hG | hG
    · exact h1.apart G hG p hp hx
    · rw [List.mem_singleton] at hG; subst hG
      exact h.apart _ hm p hp (List.mem_append_right _ hx)
  · intro G hG x hx
    rcases List.mem_append.1 hG with hG | hG
    · exact h1.bound G hG x hx
    · rw [List.mem_singleton] at hG; subst hG
      exact h.bound _ hm x (List.mem_append_right _ hx)
  · intro G hG x hx
    rcases List.mem_append.1 hG with hG | hG
    · exact h1.ownF G hG x hx
    · rw [List.mem_singleton] at hG; subst hG
      exact h.ownF _ hm x (List.mem_append_right _ hx)
/-- a call that turns one footprint and hands back a log of its own -/
theorem callFLog {w0 w w' : World} {F0 : List Nat} {M : List (Nat × Obj)} {Fs : List (List Nat)} (h : Cx w0 F0 w M Fs) (j : Nat) {F F' G R : List Nat} (hj : Fs[j]? = some F) (hf : Fr w w' F) (hF' : ∀ x ∈ F', x ∈ F ∨ w.heap.size ≤ x) (hb : ∀ x ∈ F', x < w'.heap.size) (hg : ∀ x ∈ G, w.heap.size ≤ x) (hgb : ∀ x ∈ G, x < w'.heap.size) (hr : ∀ x ∈ R, w.heap.size ≤ x ∧ x < w'.heap.size) (hgr : ∀ x ∈ G, x ∉ R) (hd : ∀ x ∈ F', x ∉ G ++ R) : Cx w0 F0 w' M (Fs.set j F' ++ [G] ++ [R]) := by
  have hlt : j < Fs.length := (List.getElem?_eq_some_iff.1 hj).1
  have h1 : Cx w0 F0 w' M (Fs.set j (F' ++ (G ++ R))) := h.callF j hj hf (fun x hx => (List.mem_append.1 hx).elim (hF' x) (fun h_ => .inr ((List.mem_append.1 h_).elim (hg x) (fun z => (hr x z).1)))) (fun x hx => (List.mem_append.1 hx).elim (hb x) (fun h_ => (List.mem_append.1 h_).elim (hgb x) (fun z => (hr x z).2)))
  have h2 := Cx_split h1 j (A := F') (B := G ++ R) (by rw [List.getElem?_set_self hlt]) hd
  rw [List.set_set] at h2
  have h3 := Cx_split h2 (Fs.set j F').length (A := G) (B := R) (by rw [List.getElem?_append_right (Nat.le_refl _)]; simp) hgr
  rw [List.set_append_right _ _ (Nat.le_refl _)] at h3
  simpa using h3
theorem vs_foot {w w' : World} {FV F F2 : List Nat} {p : Nat} {V : Vo} {sp : Nat} (hv : voAt w FV p V sp) (hd : ∀ x ∈ FV, x ∉ F) (h2 : ∀ x ∈ F2, x ∈ F ∨ w.heap.size ≤ x) : ∀ x ∈ FV, x ∉ F2 := fun x hx h_ => by
  rcases h2 x h_ with h3 | h3
  · exact hd x hx h3
  · exact absurd (voAt_lt hv x hx) (Nat.not_lt.2 h3)
theorem vo_mem {w : World} {FV : List Nat} {p : Nat} {V : Vo} {sp : Nat} (hv : voAt w FV p V sp) : p ∈ FV := by
  obtain ⟨_, _, _, _, _, _, _, _, _, rfl, _⟩ := hv; simp
theorem vs_fr {w w' : World} {FV F : List Nat} {p : Nat} {V : Vo} {sp : Nat} (hv : voAt w FV p V sp) (hf : Fr w w' (p :: F)) : Fr w w' (F ++ FV) :=
  hf.mono fun x hx => (List.mem_cons.1 hx).elim (fun e => by rw [e]; exact List.mem_append_right _ (vo_mem hv)) (fun h => List.mem_append_left _ h)
theorem PrepVS_no (FA : List Nat) (p : Nat) (V : Vo) (sp : Nat) (N Y : Ct) (size : Int) (w : World) (hv : vsAt w FA p V sp N Y size) (n d : Int) (hd : isI64 d) (hE : askedE V n d ≠ 0) : Calls Try.prog 24 #[.pointer (some ⟨p, 0, none⟩), .agg #[.int .i64 n, .int .i64 d]] w fun e w' => e = .returned (.tuple #[.agg #[.int .i64 0, .int .i64 0], .slice none 0 0, errV 35 (askedE V n d)]) ∧ Fr w w' [] := by
  obtain ⟨FV, F, h1, h2, h3, rfl⟩ := hv
  exact Prepare_no FV p V sp n d w h1 hd hE
theorem PrepVS_yes (FA : List Nat) (p : Nat) (V : Vo) (sp : Nat) (N Y : Ct) (size : Int) (w : World) (hv : vsAt w FA p V sp N Y size) (n d : Int) (hd : isI64 d) (hE : askedE V n d = 0) (hroom : putE N size kP 16 = 0) : Calls Try.prog 24 #[.pointer (some ⟨p, 0, none⟩), .agg #[.int .i64 n, .int .i64 d]] w fun e w' => ∃ (A2 : Option Addr) (c2 : Nat) (L2 : List Cmd) (R2 FA2 : List Nat), e = .returned (.tuple #[.agg #[.int .i64 V.an, .int .i64 V.ad], .slice A2 L2.length c2, .nilIface]) ∧ Fr w w' FA ∧ vsAt w' FA2 p ⟨n, d, V.an, V.ad, V.log, V.node⟩ sp (putL N kP (bytesN [n, d])) (putL N kP (bytesN [n, d])) size ∧ (∀ x ∈ FA2, x ∈ FA ∨ w.heap.size ≤ x) ∧ (∀ x ∈ FA2, x ∉ blk (.slice A2 L2.length c2) ++ R2) ∧ w'.ownsRow w.heap.size 61 12 (.slice A2 L2.length c2) L2.length (L2.flatMap cellsC) ∧ logIn w' R2 L2 ∧ vals L2 = V.log ∧ (∀ x ∈ R2, w.heap.size ≤ x ∧ x < w'.heap.size) ∧ (∀ x ∈ blk (.slice A2 L2.length c2), x ∉ R2) := by
  obtain ⟨FV, F, h1, h2, h3, rfl⟩ := hv
  refine (Prepare_yes FV p V sp n d F N Y size w h1 h2 h3 hd hE hroom).mono ?_
  rintro e w' ⟨A2, c2, L2, R2, F2, rfl, g1, g2, g3, g4, g5, g6, g7, g8, g9, g10⟩
  refine ⟨A2, c2, L2, R2, F2 ++ FV, rfl, vs_fr h1 g1, ⟨FV, F2, g2, g3, vs_foot (w' := w') h1 h3 g4, rfl⟩, fun x hx => ?_, fun x hx h_ => ?_, g5, g6, g7, g8, g9⟩
  · rcases List.mem_append.1 hx with hx | hx
    · exact (g4 x hx).imp (List.mem_append_left _) id
    · exact .inl (List.mem_append_right _ hx)
  · rcases List.mem_append.1 hx with hx | hx
    · exact g10 x hx h_
    · have hlt := voAt_lt h1 x hx
      rcases List.mem_append.1 h_ with h_ | h_
      · have := own_ge g5 x h_; omega
      · have := (g8 x h_).1; omega
theorem AccVS_no (FA : List Nat) (p : Nat) (V : Vo) (sp : Nat) (N Y : Ct) (size : Int) (w : World) (hv : vsAt w FA p V sp N Y size) (n d : Int) (A : Option Addr) (c : Nat) (L : List Cmd) (hd : isI64 d) (hr : Rd w 12 cellsC A L) (hL : ∀ m ∈ L, cmdAt w m) (hE : acceptE V n d (vals L) ≠ 0) : Calls Try.prog 22 #[.pointer (some ⟨p, 0, none⟩), .agg #[.int .i64 n, .int .i64 d], .slice A L.length c] w fun e w' => e = .returned (errV 35 (acceptE V n d (vals L))) ∧ Fr w w' [] := by
  obtain ⟨FV, F, h1, h2, h3, rfl⟩ := hv
  exact Accept_no FV p V sp n d A c L w h1 hd hr hL hE
theorem AccVS_yes (FA : List Nat) (p : Nat) (V : Vo) (sp : Nat) (N Y : Ct) (size : Int) (w : World) (hv : vsAt w FA p V sp N Y size) (n d : Int) (A : Option Addr) (c : Nat) (L : List Cmd) (hd : isI64 d) (hr : Rd w 12 cellsC A L) (hL : ∀ m ∈ L, cmdAt w m) (hlim : totE L ≤ 1099511627776) (hE : acceptE V n d (vals L) = 0) (h1' : putE N size kP 16 = 0) (h2' : putE (putL N kP (bytesN [n, d])) size kV (bytesN [n, d] ++ bytesL (vals L)).length = 0) : Calls Try.prog 22 #[.pointer (some ⟨p, 0, none⟩), .agg #[.int .i64 n, .int .i64 d], .slice A L.length c] w fun e w' => ∃ FA2, e = .returned .nilIface ∧ Fr w w' FA ∧ vsAt w' FA2 p ⟨n, d, n, d, vals L, V.node⟩ sp (putL (putL N kP (bytesN [n, d])) kV (bytesN [n, d] ++ bytesL (vals L))) (putL (putL N kP (bytesN [n, d])) kV (bytesN [n, d] ++ bytesL (vals L))) size ∧ (∀ x ∈ FA2, x ∈ FA ∨ w.heap.size ≤ x) := by
  obtain ⟨FV, F, h1, h2, h3, rfl⟩ := hv
  refine (Accept_yes FV p V sp n d A c L F N Y size w h1 h2 h3 hd hr hL hlim hE h1' h2').mono ?_
  rintro e w' ⟨FV2, F2, rfl, g1, g2, g3, g4, g5, g6⟩
  refine ⟨F2 ++ FV2, rfl, vs_fr h1 g1, ⟨FV2, F2, g2, g3, g6, rfl⟩, fun x hx => ?_⟩
  rcases List.mem_append.1 hx with hx | hx
  · exact (g4 x hx).imp (List.mem_append_left _) id
  · rcases g5 x hx with rfl | h_
    · exact .inl (List.mem_append_right _ (vo_mem h1))
    · exact .inr h_
theorem PromVS (FA : List Nat) (p : Nat) (V : Vo) (sp : Nat) (N Y : Ct) (size : Int) (w : World) (hv : vsAt w FA p V sp N Y size) : Calls Try.prog 20 #[.pointer (some ⟨p, 0, none⟩)] w fun e w' => e = .returned (.agg #[.int .i64 V.pn, .int .i64 V.pd]) ∧ Fr w w' [] := by
  obtain ⟨FV, F, h1, h2, h3, rfl⟩ := hv
  exact Promised_ct FV p V sp w h1
theorem AcceptedVS (FA : List Nat) (p : Nat) (V : Vo) (sp : Nat) (N Y : Ct) (size : Int) (w : World) (hv : vsAt w FA p V sp N Y size) : Calls Try.prog 21 #[.pointer (some ⟨p, 0, none⟩)] w fun e w' => ∃ (A2 : Option Addr) (c2 : Nat) (L2 : List Cmd) (R2 : List Nat), e = .returned (.tuple #[.agg #[.int .i64 V.an, .int .i64 V.ad], .slice A2 L2.length c2]) ∧ Fr w w' [] ∧ w'.ownsRow w.heap.size 61 12 (.slice A2 L2.length c2) L2.length (L2.flatMap cellsC) ∧ logIn w' R2 L2 ∧ vals L2 = V.log ∧ (∀ x ∈ R2, w.heap.size ≤ x ∧ x < w'.heap.size) ∧ (∀ x ∈ blk (.slice A2 L2.length c2), x ∉ R2) := by
  obtain ⟨FV, F, h1, h2, h3, rfl⟩ := hv
  exact Accepted_ct FV p V sp w h1
theorem ClaimVS (FA : List Nat) (p : Nat) (V : Vo) (sp : Nat) (N Y : Ct) (size : Int) (w : World) (hv : vsAt w FA p V sp N Y size) (A : Option Addr) (n c : Nat) (bs : List (Int × Int)) (hr : Rd w 2 encBal A bs) (hn : bs.length = n) (hl : n ≤ 1099511627776) : Calls Try.prog 34 #[.pointer (some ⟨p, 0, none⟩), .slice A n c] w fun e w' => e = .returned (.agg #[.int .i64 (claimN V (bs.map (·.1))), .int .i64 V.node]) ∧ Fr w w' [] := by
  obtain ⟨FV, F, h1, h2, h3, rfl⟩ := hv
  subst hn
  exact Claim_ct FV p V sp A c bs w h1 hr hl
theorem CrashVS (FA : List Nat) (p : Nat) (V : Vo) (sp : Nat) (N Y : Ct) (size : Int) (w : World) (hv : vsAt w FA p V sp N Y size) : Calls Try.prog 39 #[.pointer (some ⟨sp, 0, none⟩)] w fun e w' => ∃ FA2, e = .returned (.int .i64 (unlN N Y : Int)) ∧ Fr w w' FA ∧ vsAt w' FA2 p V sp Y Y size ∧ (∀ x ∈ FA2, x ∈ FA ∨ w.heap.size ≤ x) := by
  obtain ⟨FV, F, h1, h2, h3, rfl⟩ := hv
  refine (Crash_ct F sp N Y size w h2).mono ?_
  rintro e w' ⟨F2, rfl, g1, g2, g3⟩
  refine ⟨F2 ++ FV, rfl, g1.mono (fun x hx => List.mem_append_left _ hx), ⟨FV, F2, voAt_fr h1 g1 h3, g2, vs_foot (w' := w') h1 h3 g3, rfl⟩, fun x hx => ?_⟩
  rcases List.mem_append.1 hx with hx | hx
  · exact (g3 x hx).imp (List.mem_append_left _) id
  · exact .inl (List.mem_append_right _ hx)
theorem OpenVS (FA : List Nat) (p : Nat) (V : Vo) (sp : Nat) (N Y : Ct) (size : Int) (w : World) (hv : vsAt w FA p V sp N Y size) (node : Int) (hw : isI64 node) (hm : mgrB node = true) (hok : openOk N = true) : Calls Try.prog 40 #[.pointer (some ⟨sp, 0, none⟩), .int .i64 node] w fun e w' => ∃ p2 FA2, e = .returned (.tuple #[.pointer (some ⟨p2, 0, none⟩), .nilIface]) ∧ Fr w w' [] ∧ vsAt w' FA2 p2 (openV N node) sp N Y size ∧ (∀ x ∈ FA2, x ∈ FA ∨ w.heap.size ≤ x) := by
  obtain ⟨FV, F, h1, h2, h3, rfl⟩ := hv
  refine (Open_ct F sp N Y size node w h2 hw hm).mono ?_
  rintro e w' (⟨_, g, FV2, rfl, g1, g2, g3⟩ | ⟨h_, _⟩)
  · refine ⟨g, F ++ FV2, rfl, g1, ⟨FV2, F, g2, stAt_fr h2 g1 (fun _ _ => by simp), fun x hx h_ => ?_, rfl⟩, fun x hx => ?_⟩
    · have := g3 x hx; have := stAt_lt h2 x h_; omega
    · rcases List.mem_append.1 hx with hx | hx
      · exact .inl (List.mem_append_left _ hx)
      · exact .inr (g3 x hx)
  · rw [hok] at h_; cases h_
theorem health_ct (seq : Int) (w : World) : Calls Try.prog 23 #[.int .i64 seq] w fun e w' => e = .returned (.agg #[.int .i64 16, .int .i64 0, .int .i64 seq, .int .i64 0, .int .i64 3, .int .u32 0, .int .i64 0, .int .i64 0, .slice none 0 0, .int .u32 167837697, .int .u32 0, .bool true]) ∧ Fr w w' [] := by
 refine enterD (n := 5) Try.func23 rfl rfl (Nat.le_of_ble_eq_true rfl) ?_
 intro Q0 hN hret hret'
 have hC := Cx.start w
 refine WCs (fun K1 hK2 => ?_)
 refine WCg ?_
 refine WL.newM hC (fun b => .pointer (some ⟨b, 0, none⟩)) (.cells #[.int .i64 0, .int .i64 0, .int .i64 0, .int .i64 0, .int .i64 0, .int .u32 0, .int .i64 0, .int .i64 0, .slice none 0 0, .int .u32 0, .int .u32 0, .bool false] 61) 2 (fun _ => by kernel_rfl) (fun g3 w4 hb7 hF5 hC6 => ?_)
 refine WLd rfl (QXn (hK2 _ _ ?_))
 refine WCs (fun K8 hK9 => ?_)
 refine WCg (WLr 2 [(4, .agg #[.int .i64 16, .int .i64 0, .int .i64 seq, .int .i64 0, .int .i64 3, .int .u32 0, .int .i64 0, .int .i64 0, .slice none 0 0, .int .u32 167837697, .int .u32 0, .bool true]), (3, .int .i64 seq)] (fun _ => by kernel_rfl) ?_)
 refine WLs (c' := #[.int .i64 16, .int .i64 0, .int .i64 seq, .int .i64 0, .int .i64 3, .int .u32 0, .int .i64 0, .int .i64 0, .slice none 0 0, .int .u32 167837697, .int .u32 0, .bool true]) hC6 0 61 g3 0 (.agg #[.int .i64 16, .int .i64 0, .int .i64 seq, .int .i64 0, .int .i64 3, .int .u32 0, .int .i64 0, .int .i64 0, .slice none 0 0, .int .u32 167837697, .int .u32 0, .bool true]) (by kernel_rfl) rfl (by kernel_rfl) (fun w10 hF12 hC13 => ?_)
 refine WLd rfl (QXn (hK9 _ _ ?_))
 refine WC.ret ?_
 refine (hret' _ _ (.agg #[.int .i64 16, .int .i64 0, .int .i64 seq, .int .i64 0, .int .i64 3, .int .u32 0, .int .i64 0, .int .i64 0, .slice none 0 0, .int .u32 167837697, .int .u32 0, .bool true]) (fun a ha => ?_) ?_).1
 ·
  exact res_run ha ((ResR.cell rfl (run_ld (hC13.get 0 rfl) rfl) ResR.nil)) rfl
 exact ⟨rfl, hC13.fr⟩

theorem opened_ct (size node : Int) (w : World) (h0 : 0 ≤ size) (h1 : size ≤ 67108864) (hw : isI64 node) (hm : mgrB node = true) : Calls Try.prog 19 #[.int .i64 size, .int .i64 node] w fun e w' => ∃ sp p FA, e = .returned (.tuple #[.pointer (some ⟨sp, 0, none⟩), .pointer (some ⟨p, 0, none⟩)]) ∧ Fr w w' [] ∧ vsAt w' FA p (⟨0, 0, 0, 0, [], node⟩ : Vo) sp [] [] size ∧ ∀ x ∈ FA, w.heap.size ≤ x := by
 refine enterD (n := 30) Try.func19 rfl rfl (Nat.le_of_ble_eq_true rfl) ?_
 intro Q0 hN hret hret'
 have hC := Cx.start w
 refine WCs (fun K1 hK2 => ?_)
 refine WCg (WLr 2 [(5, .pointer none), (4, .pointer none)] (fun _ => by kernel_rfl) (WLd rfl (QXn (hK2 _ _ ?_))))
 refine WCs (fun K3 hK4 => ?_)
 refine WCg (WLr 1 [(10, .int .i64 size)] (fun _ => by kernel_rfl) ?_)
 refine WLc rfl rfl rfl rfl rfl (by kernel_rfl) (New_ct size w (by omega) (by omega)) ?_
 rintro _ w8 ⟨p5, F6, rfl, hF7, hT10, hge11⟩
 have hC9 := hC.callN hF7 hge11 (stAt_lt hT10)
 refine ⟨_, rfl, ?_⟩
 refine WLr 5 [(7, .nilIface), (6, .pointer (some ⟨p5, 0, none⟩)), (13, .nilIface), (12, .pointer (some ⟨p5, 0, none⟩)), (9, .tuple #[.pointer (some ⟨p5, 0, none⟩), .nilIface])] (fun _ => by kernel_rfl) (WLd rfl (QXn (hK4 _ _ ?_)))
 refine WCs (fun K13 hK14 => ?_)
 refine WCs (fun K15 hK16 => ?_)
 refine WCg (WLr 6 [(19, .bool false), (18, .bool false), (17, .pointer (some ⟨p5, 0, none⟩)), (16, .bool false), (15, .bool false), (14, .nilIface)] (fun _ => by kernel_rfl) (WLd rfl (QXn (hK16 _ _ ?_))))
 refine WCf rfl (WC.skip (QXn (hK14 _ _ ?_)))
 refine WCs (fun K17 hK18 => ?_)
 refine WCg (WLr 2 [(22, .int .i64 node), (21, .pointer (some ⟨p5, 0, none⟩))] (fun _ => by kernel_rfl) ?_)
 refine WLc rfl rfl rfl rfl rfl (by kernel_rfl) (Open_ct F6 p5 [] [] size node w8 hT10 hw hm) ?_
 rintro _ w22 (⟨hok26, p19, FV20, rfl, hF21, hvo24, hfv25⟩ | ⟨hok26, rfl, hF21⟩)
 ·
  have hC23 := absorbC hC9 0 rfl hF21 hfv25 (voAt_lt hvo24)
  refine ⟨_, rfl, ?_⟩
  have hvs27 : vsAt w22 (F6 ++ FV20) p19 (openV [] node) p5 [] [] size := ⟨FV20, F6, hvo24, stAt_fr hT10 hF21 (fun _ _ => by simp), (fun x_ h1_ h2_ => absurd (stAt_lt hT10 x_ h2_) (Nat.not_lt.2 (hfv25 x_ h1_))), rfl⟩
  refine WLr 5 [(7, .nilIface), (8, .pointer (some ⟨p19, 0, none⟩)), (25, .nilIface), (24, .pointer (some ⟨p19, 0, none⟩)), (20, .tuple #[.pointer (some ⟨p19, 0, none⟩), .nilIface])] (fun _ => by kernel_rfl) (WLd rfl (QXn (hK18 _ _ ?_)))
  refine WCs (fun K28 hK29 => ?_)
  refine WCs (fun K30 hK31 => ?_)
  refine WCg (WLr 2 [(27, .bool false), (26, .nilIface)] (fun _ => by kernel_rfl) (WLd rfl (QXn (hK31 _ _ ?_))))
  refine WCf rfl (WC.skip (QXn (hK29 _ _ ?_)))
  refine WCs (fun K32 hK33 => ?_)
  refine WCg (WLr 4 [(5, .pointer (some ⟨p19, 0, none⟩)), (4, .pointer (some ⟨p5, 0, none⟩)), (29, .pointer (some ⟨p19, 0, none⟩)), (28, .pointer (some ⟨p5, 0, none⟩))] (fun _ => by kernel_rfl) (WLd rfl (QXn (hK33 _ _ ?_))))
  refine WC.ret ?_
  refine (hret _ _ _ rfl ?_).1
  exact ⟨p5, p19, (F6 ++ FV20), rfl, hC23.fr, hvs27, fun x_ h_ => (hC23.ownF _ (List.mem_of_getElem? (show _[0]? = some (F6 ++ FV20) from rfl)) x_ h_).resolve_left (fun z_ => nomatch z_)⟩
 ·
  exact absurd hok26 (by decide)

end Go.Proofs.Ytjacpjdikhlcoaa
