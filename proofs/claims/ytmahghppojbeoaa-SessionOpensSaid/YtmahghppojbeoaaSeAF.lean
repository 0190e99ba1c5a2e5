/- Contracts of functions of the program, each proved by a walk through its code; conditions stand in the statements. -/
import Derived.Test.YtmahghppojbeoaaSeAE
namespace Go.Proofs.Ytmahghppojbeoaa
set_option linter.unusedSimpArgs false
set_option linter.unusedVariables false
set_option linter.unusedSectionVars false
open Go Go.RowKit Go.Tw
set_option linter.unusedVariables false
set_option maxRecDepth 20000
open Go.Sort
/-! ### a pair from tick to tick -/
structure An where
  a : Option Addr
  xs : List Int
  c : Nat
def cellsAn (x : An) : List Value := [.slice x.a x.xs.length x.c]
theorem cellsAn_len (x : An) : (cellsAn x).length = 1 := rfl
structure anAt (w : World) (x : An) : Prop where
  rd : Rd w 1 (Go.Tw.encI .u32) x.a x.xs
  le : x.xs.length ≤ x.c
  mx : x.c ≤ maxLen
  u32 : ∀ v ∈ x.xs, 0 ≤ v ∧ v ≤ 4294967295
theorem annV_vok {X : List Int} (h : ∀ x ∈ X, 0 ≤ x ∧ x ≤ 4294967295) : vok (annV X) ∧ (annV X).length ≤ 39 := by
  refine ⟨fun k x hk hx => ?_, (annV_ok h).1⟩
  have hm := annV_mem (List.mem_of_getElem? hx)
  have hb := h x hm.1
  refine ⟨⟨hb.1, by omega, hm.2⟩, fun y h0 hy => ?_⟩
  have hp : (annV X).Pairwise (· < ·) := (dV_lt X).sublist (List.take_sublist _ _)
  obtain ⟨h1, rfl⟩ := List.getElem?_eq_some_iff.1 hx
  obtain ⟨h2, rfl⟩ := List.getElem?_eq_some_iff.1 hy
  exact List.pairwise_iff_getElem.1 hp (k - 1) k h2 h1 (by omega)
theorem annV_none : annV [] = [] := by
  have h : ∀ x, x ∉ annV [] := fun x hx => by have := (annV_mem hx).1; cases this
  exact List.eq_nil_iff_forall_not_mem.2 h
theorem annM_1 (o : Bool) (vs A : List Int) : (annM 5 o vs A).length ≤ 1 ∧ ∀ m ∈ annM 5 o vs A, m.1 = 12 := by
  unfold annM; split
  · exact ⟨by simp, fun m hm => by rw [List.mem_singleton] at hm; subst hm; rfl⟩
  · simp
theorem tickV_1 (o : Bool) (vs : List Int) (now : Int) : (tickV 5 o vs now).length ≤ 1 := by unfold tickV; (repeat' split) <;> simp
structure RestJ (X : List (List Int)) (N k : Nat) (S : List SpS) (L : Lm) (now t : Int) (g : Bool) : Prop where
  inv : PInv (fun _ => t) t (fun _ => g) S L [] []
  v1 : ∀ σ ∈ S, σ.V.length ≤ 1 ∧ ∀ m ∈ σ.V, m.1 = 12
  len : S.length = N
  last : ∀ (i : Nat) σ, S[i]? = some σ → σ.vs = annV (lastF X N i k)
  n0 : 0 ≤ now
  tq : t = now - now % 4
structure RestI (X : List (List Int)) (N k : Nat) (S : List SpS) (L : Lm) (now t : Int) (g : Bool) : Prop where
  j : RestJ X N k S L now t g
  vz : ∀ σ ∈ S, σ.V = []
theorem RestI.start {X : List (List Int)} {N : Nat} {S : List SpS} (hS : S.length = N) (hN : N ≤ 8) (h : ∀ σ ∈ S, σ = ⟨false, [], []⟩) : RestI X N 0 S [] 0 0 false :=
  ⟨⟨PInv.start (by omega) h, fun σ hs => by rw [h σ hs]; simp, hS, fun i σ hi => by rw [h σ (List.mem_of_getElem? hi)]; exact annV_none.symm, Int.le_refl _, rfl⟩, fun σ hs => by rw [h σ hs]⟩
theorem RestI.ann {X : List (List Int)} {N k : Nat} {S : List SpS} {L : Lm} {now t : Int} {g : Bool} (h : RestI X N k S L now t g) {A : List Int} (hx : X[k]? = some A) {σ : SpS} (hi : S[k % N]? = some σ) (hA : vok (annV A) ∧ (annV A).length ≤ 39) :
    RestJ X N (k + 1) (S.set (k % N) ⟨σ.o, annV A, σ.V ++ annM 5 σ.o σ.vs A⟩) L now t g := by
  have hz := h.vz σ (List.mem_of_getElem? hi)
  have hil := (List.getElem?_eq_some_iff.1 hi).1
  refine ⟨h.j.inv.annS h.vz hi hA, fun τ ht => ?_, by rw [List.length_set]; exact h.j.len, fun i τ ht => ?_, h.j.n0, h.j.tq⟩
  · rcases List.mem_or_eq_of_mem_set ht with ht | rfl
    · exact h.j.v1 τ ht
    · simp only [hz, List.nil_append]; exact annM_1 _ _ _
  · show τ.vs = annV (if k % N = i then X[k]?.getD [] else lastF X N i k)
    by_cases e : k % N = i
    · subst e; rw [List.getElem?_set_self hil] at ht; cases ht; rw [if_pos rfl, hx]; rfl
    · rw [List.getElem?_set_ne e] at ht; rw [if_neg e]; exact h.j.last i τ ht
def nxT (now t : Int) : Int := if Int.tmod now 4 = 0 then now else t
def nxG (now : Int) (g : Bool) : Bool := if Int.tmod now 4 = 0 then true else g
theorem nx_N (now t : Int) (g : Bool) : tkN now t (nxT now t) g (nxG now g) := by
  unfold tkN nxT nxG
  by_cases h : Int.tmod now 4 = 0
  · rw [if_pos h, if_pos h]; exact .inl ⟨h, rfl, rfl⟩
  · rw [if_neg h, if_neg h]; exact .inr ⟨h, rfl, rfl⟩
structure TickI (S0 : List SpS) (L : Lm) (now t : Int) (g : Bool) (j : Nat) (S : List SpS) : Prop where
  inv : PInv (tkT j t (nxT now t)) t (tkG j g (nxG now g)) S L [] []
  todo : ∀ i, j ≤ i → S[i]? = S0[i]?
  v2 : ∀ σ ∈ S, σ.V.length ≤ 2
  vs : S.map (·.vs) = S0.map (·.vs)
theorem RestJ.tick {X : List (List Int)} {N k : Nat} {S : List SpS} {L : Lm} {now t : Int} {g : Bool} (h : RestJ X N k S L now t g) (nw : Int) : TickI S L nw t g 0 S :=
  ⟨h.inv.tick0, fun _ _ => rfl, fun σ hs => Nat.le_succ_of_le (h.v1 σ hs).1, rfl⟩
theorem TickI.step {S0 S : List SpS} {L : Lm} {now t : Int} {g : Bool} {j : Nat} (h : TickI S0 L now t g j S) (h0 : ∀ σ ∈ S0, σ.V.length ≤ 1 ∧ ∀ m ∈ σ.V, m.1 = 12) {σ : SpS} (hj : S[j]? = some σ) (ht : timB now = true) :
    TickI S0 L now t g (j + 1) (S.set j ⟨σ.o, σ.vs, σ.V ++ tickV 5 σ.o σ.vs now⟩) := by
  have hs0 : S0[j]? = some σ := by rw [← h.todo j (Nat.le_refl _)]; exact hj
  have hb := h0 σ (List.mem_of_getElem? hs0)
  have hjl := (List.getElem?_eq_some_iff.1 hj).1
  refine ⟨h.inv.tickS hj hb.2 ht (nx_N now t g), fun i hi => by rw [List.getElem?_set_ne (by omega)]; exact h.todo i (by omega), fun τ hτ => ?_, ?_⟩
  · rcases List.mem_or_eq_of_mem_set hτ with hτ | rfl
    · exact h.v2 τ hτ
    · have := tickV_1 σ.o σ.vs now
      simp only [List.length_append]; omega
  · rw [← h.vs]
    apply List.ext_getElem?
    intro q
    rw [List.getElem?_map, List.getElem?_map]
    by_cases e : q = j
    · subst e; rw [List.getElem?_set_self hjl, hj]; rfl
    · rw [List.getElem?_set_ne (Ne.symm e)]
theorem RestJ.after {X : List (List Int)} {N k : Nat} {S S2 : List SpS} {L L2 : Lm} {now t tl : Int} {g : Bool} (h : RestJ X N k S L now t g) (hp : PInv (fun _ => nxT (now + 1) t) tl (fun _ => nxG (now + 1) g) S2 L2 [] []) (hz : ∀ σ ∈ S2, σ.V = []) (hv : S2.map (·.vs) = S.map (·.vs)) :
    RestI X N k S2 L2 (now + 1) (nxT (now + 1) t) (nxG (now + 1) g) := by
  have h0 := h.n0
  refine ⟨⟨hp.rest hz, fun σ hs => by rw [hz σ hs]; simp, ?_, fun i σ hi => ?_, by omega, ?_⟩, hz⟩
  · have := congrArg List.length hv
    rw [List.length_map, List.length_map] at this
    rw [this]; exact h.len
  · have h1 : (S2.map (·.vs))[i]? = (S.map (·.vs))[i]? := by rw [hv]
    rw [List.getElem?_map, List.getElem?_map, hi] at h1
    cases e : S[i]? with
    | none => rw [e] at h1; cases h1
    | some τ =>
      rw [e] at h1
      have h2 : σ.vs = τ.vs := Option.some.inj h1
      rw [h2]; exact h.last i τ e
  · unfold nxT
    have htq := h.tq
    rw [Int.tmod_eq_emod_of_nonneg (by omega)]
    split <;> omega
theorem nx_le {now t : Int} (h0 : 0 ≤ now) (ht : t = now - now % 4) : nxT (now + 1) t ≤ now + 1 ∧ t ≤ now + 1 ∧ now + 1 - t ≤ 12 ∧ now + 1 - nxT (now + 1) t ≤ 12 := by
  unfold nxT
  rw [Int.tmod_eq_emod_of_nonneg (by omega)]
  split <;> omega
theorem nx_go {now : Int} {g : Bool} {q : Nat} (h0 : 0 ≤ now) (h : g = true ∨ (q : Int) ≤ now % 4) : nxG (now + 1) g = true ∨ ((q + 1 : Nat) : Int) ≤ (now + 1) % 4 := by
  unfold nxG
  rw [Int.tmod_eq_emod_of_nonneg (by omega)]
  split
  · exact .inl rfl
  · rcases h with h | h
    · exact .inl h
    · right; omega
theorem prAt.len {w : World} {F : List Nat} {p lp : Nat} {ps : List Nat} {S : List SpS} {L : Lm} {now : Int} (h : prAt w F p lp ps S L now) : ps.length = S.length := by
  obtain ⟨As, cs, Fp, Fl, Bu, Bd, R, Au, cu, Ad, cd, hC, hsr, hsps, _⟩ := h; exact spsAt_len hsps
theorem pr_close {w0 w : World} {F0 Fp Fl Bu Bd R : List Nat} {p lp : Nat} {ps : List Nat} {S : List SpS} {L : Lm} {now : Int} {As : Option Addr} {cs n : Nat} {Au : Option Addr} {cu : Nat} {Ad : Option Addr} {cd : Nat}
    (hC : Cx w0 F0 w [(p, .cells #[.slice As n cs, .pointer (some ⟨lp, 0, none⟩), .slice Au 0 cu, .slice Ad 0 cd, .int .i64 now] 60 (0, 0))] [blk (.slice As n cs), Fp, Fl, Bu, Bd, R])
    (h1 : w.ownsRow 0 24 1 (.slice As n cs) n (ps.flatMap encPt)) (h2 : spsAt w Fp ps S) (h3 : lsAt w Fl lp L) (h4 : qAt w Bu Au 0 cu []) (h5 : qAt w Bd Ad 0 cd []) : ∃ F', prAt w F' p lp ps S L now ∧ Cx w0 F0 w [] [F'] := by
  have hn : ps.length = n := own_count encPt_len (by decide) h1
  subst hn
  obtain ⟨hT1, hT2⟩ := Cx.tell hC
  exact ⟨_, ⟨As, cs, Fp, Fl, Bu, Bd, R, Au, cu, Ad, cd, hT1, h1, h2, h3, h4, h5, hC.bound R (by simp), (Cx.mem0 hT2).2⟩, hT2⟩
set_option maxHeartbeats 2000000 in
theorem SessionOpens_ct (n : Int) (C : Option Addr) (c : Nat) (ans : List An) (ticks : Int) (w : World) (hans : Rd w 1 cellsAn C ans) (hok : ∀ x ∈ ans, anAt w x) (hal : ans.length ≤ 9223372036854775807) : Calls Try.prog 4 #[.int .i64 n, .slice C ans.length c, .int .i64 ticks] w fun e w' => e = .returned (.bool true) ∧ Fr w w' [] := by
 refine enterD (n := 227) Try.func4 rfl rfl (Nat.le_of_ble_eq_true rfl) ?_
 intro Q0 hN hret hret'
 obtain ⟨uN, huN, huN0⟩ : ∃ u : Int, IntKind.u64.wrap n = u ∧ (0 ≤ u ∧ u ≤ 18446744073709551615) := ⟨_, rfl, wrap_u64_span _⟩
 obtain ⟨uT, huT, huT0⟩ : ∃ u : Int, IntKind.u64.wrap ticks = u ∧ (0 ≤ u ∧ u ≤ 18446744073709551615) := ⟨_, rfl, wrap_u64_span _⟩
 obtain ⟨dN, hdN, hdN0⟩ : ∃ d : Nat, Int.tmod uN 8 = (d : Int) ∧ d < 8 := ⟨(uN % 8).toNat, by rw [Int.tmod_eq_emod_of_nonneg huN0.1]; omega, by omega⟩
 obtain ⟨dT, hdT, hdT0⟩ : ∃ d : Nat, Int.tmod uT 9 = (d : Int) ∧ d < 9 := ⟨(uT % 9).toNat, by rw [Int.tmod_eq_emod_of_nonneg huT0.1]; omega, by omega⟩
 have hC := Cx.start w
 refine WCs (fun K1 hK2 => ?_)
 refine WCg (WLq 1 [(6, .bool false)] (WLd rfl (QXn (hK2 _ _ ?_))))
 refine WCs (fun K3 hK4 => ?_)
 refine WCs (fun K5 hK6 => ?_)
 refine WCg ?_
 refine WLc rfl rfl rfl rfl rfl (by kernel_rfl) (alive_ct w) ?_
 rintro _ w8 ⟨rfl, hF7⟩
 refine ⟨_, rfl, ?_⟩
 have hC9 := hC.call hF7
 refine WLq 1 [(25, .bool false)] (WLd rfl (QXn (hK6 _ _ ?_)))
 refine WCf rfl (WC.skip (QXn (hK4 _ _ ?_)))
 refine WCs (fun kt gU => ?_)
 refine WCg (WLq 2 [(27, .int .u64 (IntKind.u64.wrap (n))), (26, .int .i64 n)] ?_)
 refine WLt (show (.int .u64 (IntKind.u64.wrap (n)) : Value) = .int .u64 uN from by rw [huN]) ?_
 refine WLq 1 [(28, .int .u64 (Int.tmod uN 8))] ?_
 refine WLt (show (.int .u64 (Int.tmod uN 8) : Value) = .int .u64 (dN : Int) from by rw [hdN]) ?_
 refine WLq 1 [(29, .int .i64 (IntKind.i64.wrap ((dN : Int))))] ?_
 refine WLt (show (.int .i64 (IntKind.i64.wrap ((dN : Int))) : Value) = .int .i64 (dN : Int) from by rw [wrap_in_i64 _ (by omega) (by omega)]) ?_
 refine WLq 1 [(30, .int .i64 (IntKind.i64.wrap (1 + (dN : Int))))] ?_
 refine WLt (show (.int .i64 (IntKind.i64.wrap (1 + (dN : Int))) : Value) = .int .i64 ((1 + dN : Nat) : Int) from by rw [wrap_in_i64 _ (by omega) (by omega)] <;> first | rfl | (congr 1; omega)) ?_
 refine WLq 1 [(0, .int .i64 ((1 + dN : Nat) : Int))] (WLd rfl (QXn (gU _ _ ?_)))
 refine WCs (fun ku gV => ?_)
 refine WCs (fun kv gW => ?_)
 refine WCg (WLq 3 [(33, .bool (decide ((ans.length : Int) > 20))), (32, .int .i64 (ans.length : Int)), (31, .slice C ans.length c)] (WLd rfl (QXn (gW _ _ ?_))))
 refine WCa 33 (decide ((ans.length : Int) > 20)) rfl (fun cd => ?_) (fun cd => ?_)
 ·
  have iv : (20 : Int) < (ans.length : Int) := by have q_ := of_decide_eq_true cd; omega
  refine WCt rfl ?_
  refine WCs (fun kw gX => ?_)
  refine WCg (WLq 1 [(6, .bool true)] (WLd rfl (QXn (gX _ _ ?_))))
  refine WC.ret ?_
  refine QXr ?_
  refine (hret _ _ _ rfl ?_).1
  exact ⟨rfl, hC9.fr⟩
 ·
  have iv : (ans.length : Int) ≤ 20 := by have q_ := of_decide_eq_false cd; omega
  refine WCf rfl (WC.skip (QXn (gV _ _ ?_)))
  refine WCs (fun kx gY => ?_)
  refine WCg ?_
  refine WLc rfl rfl rfl rfl rfl (by kernel_rfl) (NewL_ct w8) ?_
  rintro _ ky ⟨p21, F22, rfl, gZ, b1, c6⟩
  have g0 := hC9.callN gZ c6 (lsAt_lt b1)
  refine ⟨_, rfl, ?_⟩
  refine WLq 1 [(35, .agg #[.slice none 0 0, .pointer (some ⟨p21, 0, none⟩), .slice none 0 0, .slice none 0 0, .int .i64 0])] ?_
  refine WL.newM g0 (fun b => .pointer (some ⟨b, 0, none⟩)) (.cells #[.slice none 0 0, .pointer (some ⟨p21, 0, none⟩), .slice none 0 0, .slice none 0 0, .int .i64 0] 60) 36 (fun _ => by kernel_rfl) (fun aa kz iw g1 g2 => ?_)
  have g3 := lsAt_fr b1 g1 (by simp)
  refine WLq 1 [(7, .pointer (some ⟨aa, 0, none⟩))] (WLd rfl (QXn (gY _ _ ?_)))
  refine WCs (fun kA g4 => ?_)
  refine WCs (fun kB g5 => ?_)
  refine WCg (WLq 1 [(8, .int .i64 0)] (WLd rfl (QXn (g5 _ _ ?_))))
  refine WC.block ?_
  have g8 := g2.addNil
  have ha := g8.addNil
  refine WC.loop (fun m_ E_ w_ => ∃ (i : Nat) (A5 : Option Addr) (n5 c5 : Nat) (ps5 : List Nat) (S5 : List SpS) (F5 : List Nat), m_ = (1 + dN) - i ∧ E_ = [(0, .int .i64 ((1 + dN : Nat) : Int)), (1, .slice C ans.length c), (2, .int .i64 ticks), (7, .pointer (some ⟨aa, 0, none⟩)), (8, .int .i64 (i : Int))] ∧ Cx w [] w_ [(aa, .cells #[.slice A5 n5 c5, .pointer (some ⟨p21, 0, none⟩), .slice none 0 0, .slice none 0 0, .int .i64 0] 60)] [F22, blk (.slice A5 n5 c5), F5] ∧ lsAt w_ F22 p21 [] ∧ World.ownsRow w_ 0 24 1 (.slice A5 n5 c5) n5 (ps5.flatMap encPt) ∧ spsAt w_ F5 ps5 S5 ∧ (i ≤ 1 + dN ∧ ps5.length = i ∧ ∀ σ ∈ S5, σ = ⟨false, [], []⟩)) ⟨_, _, ⟨0, none, 0, 0, [], [], [], rfl, rfl, ha, g3, own_nil _ _ _ _, (show spsAt _ [] [] [] from rfl), Nat.zero_le _, rfl, by simp⟩, sub_of ⟨rfl, rfl, rfl, rfl, rfl, trivial⟩⟩ (fun m44 E_ ix kC hb hc => ?_)
  obtain ⟨i, A5, n5, c5, ps5, S5, F5, rfl, rfl, c7, ls28_m44, hspr, hsps, hi, hpi, hS5⟩ := hc
  have hcn_ := own_count encPt_len (by decide) hspr
  have hsl5_ := spsAt_len hsps
  refine WCs (fun kD hd => ?_)
  refine WCs (fun kE he => ?_)
  refine WCg (WLq 3 [(39, .bool (decide ((i : Int) < ((1 + dN : Nat) : Int)))), (38, .int .i64 ((1 + dN : Nat) : Int)), (37, .int .i64 (i : Int))] (WLd rfl (QXn (he _ _ ?_))))
  refine WCa 39 (decide ((i : Int) < ((1 + dN : Nat) : Int))) rfl (fun ce => ?_) (fun ce => ?_)
  ·
   have iy : (i : Int) < ((1 + dN : Nat) : Int) := by have q_ := of_decide_eq_true ce; omega
   refine WCt rfl ?_
   refine WC.skip ?_
   refine QXn (hd _ _ ?_)
   refine WCs (fun kF hf => ?_)
   refine WC.block ?_
   refine WCs (fun kG hg => ?_)
   refine WCg (WLq 2 [(44, .int .i64 (IntKind.i64.wrap (32 + (i : Int)))), (43, .int .i64 (i : Int))] ?_)
   refine WLt (show (.int .i64 (IntKind.i64.wrap (32 + (i : Int))) : Value) = .int .i64 (32 + (i : Int)) from by rw [wrap_in_i64 (32 + (i : Int)) (by omega) (by omega)]) ?_
   refine WLc rfl rfl rfl rfl rfl (by kernel_rfl) (NewSG_ct (32 + (i : Int)) 5 ix ⟨by omega, by omega⟩) ?_
   rintro _ kH (⟨c9, rfl, bc⟩ | ⟨⟨h5, da⟩, p56, rfl, bc, db, b2⟩)
   ·
    exact absurd ⟨decide_eq_true (by omega), rfl⟩ c9
   ·
    have dc := c7.callN (G := [p56]) bc (fun x_ h_ => by rw [List.mem_singleton] at h_; subst h_; exact db) (spAt_lt b2)
    refine ⟨_, rfl, ?_⟩
    have hh := lsAt_fr ls28_m44 bc (by simp)
    have hj := own_fr hspr bc (by simp)
    have hl := spsAt_fr hsps bc (by simp)
    obtain ⟨hbt0_, hbt1_⟩ := tim_b da
    refine WLq 5 [(10, .nilIface), (9, .pointer (some ⟨p56, 0, none⟩)), (47, .nilIface), (46, .pointer (some ⟨p56, 0, none⟩)), (42, .tuple #[.pointer (some ⟨p56, 0, none⟩), .nilIface])] (WLd rfl (QXn (hg _ _ ?_)))
    refine WCs (fun kI hm => ?_)
    refine WCs (fun kJ hn => ?_)
    refine WCg (WLq 6 [(53, .bool false), (52, .bool false), (51, .pointer (some ⟨p56, 0, none⟩)), (50, .bool false), (49, .bool false), (48, .nilIface)] (WLd rfl (QXn (hn _ _ ?_))))
    refine WCf rfl (WC.skip (QXn (hm _ _ ?_)))
    refine WCg (WLq 4 [(57, .pointer (some ⟨aa, 0, none⟩)), (56, .pointer (some ⟨aa, 0, none⟩)), (55, .pointer (some ⟨aa, 0, none⟩)), (54, .pointer (some ⟨aa, 0, none⟩))] ?_)
    refine WLo 57 (.pointer (some ⟨aa, 0, none⟩)) (.slice A5 n5 c5) 58 (run_ld (dc.get 0 rfl) rfl) ?_
    refine WLq 1 [(59, .pointer (some ⟨p56, 0, none⟩))] ?_
    refine WL.newM dc (fun b => .slice (some ⟨b, 0, none⟩) 1 1) (.cells #[.pointer (some ⟨p56, 0, none⟩)] 24) 60 (fun _ => by kernel_rfl) (fun h6 kK iz bL bd => ?_)
    have ho := lsAt_fr hh bL (by simp)
    have hp := own_fr hj bL (by simp)
    have hr := spsAt_fr hl bL (by simp)
    have hs := spAt_fr b2 bL (by simp)
    obtain ⟨kL, kM, ht, hu, cf, be, hv, hw⟩ := app_run Try.prog bd 1 (v := .slice A5 n5 c5) rfl 57 57 24 1 8 n5 1 1 (some ⟨h6, 0, none⟩) rfl hp [.pointer (some ⟨p56, 0, none⟩)] rfl (srcOk.blk 1 (bd.get 1 rfl)) rfl (by simp only [maxLen]; omega) (by omega)
    have dd := own_snoc (enc := encPt) (ys := ps5) p56 hu
    obtain ⟨de, df, rfl, h7⟩ := own_form dd
    refine WL.sem (Builtin.append_ #[57, 57] 57 #[.slice A5 n5 c5, .slice (some ⟨h6, 0, none⟩) 1 1]) 61 (.slice de (n5 + 1) df) (by kernel_rfl) ht ?_
    have hx := lsAt_fr ho cf (bd.disj 0 1 rfl rfl (by decide))
    have hy := spsAt_fr hr cf (bd.disj 2 1 rfl rfl (by decide))
    have hz := spAt_fr hs cf (bd.disj 3 1 rfl rfl (by decide))
    refine WLq 2 [(63, .pointer (some ⟨aa, 0, none⟩)), (62, .pointer (some ⟨aa, 0, none⟩))] ?_
    refine WLs (c' := #[.slice de (n5 + 1) df, .pointer (some ⟨p21, 0, none⟩), .slice none 0 0, .slice none 0 0, .int .i64 0]) be 0 57 aa 0 (.slice de (n5 + 1) df) (by kernel_rfl) rfl (by kernel_rfl) (fun kN bM b3 => ?_)
    have dg := lsAt_fr hx bM (be.apartM 0 0 rfl rfl)
    have dh := own_fr dd bM (be.apartM 1 0 rfl rfl)
    have di := spsAt_fr hy bM (be.apartM 2 0 rfl rfl)
    have dj := spAt_fr hz bM (be.apartM 3 0 rfl rfl)
    have bN := spsAt_snoc (σ := ⟨false, [], []⟩) di dj (b3.disj 2 3 rfl rfl (by decide))
    have dk := Cx.mergeL (Fs := [F22, blk (.slice de (n5 + 1) df), F5]) (G := [p56]) b3 2 rfl
    refine WLd rfl ?_
    refine QXb ?_
    refine QXn (hf _ _ ?_)
    refine WCg (WLq 2 [(41, .int .i64 (IntKind.i64.wrap ((i : Int) + 1))), (40, .int .i64 (i : Int))] ?_)
    refine WLt (show (.int .i64 (IntKind.i64.wrap ((i : Int) + 1)) : Value) = .int .i64 ((i : Int) + 1) from by rw [wrap_in_i64 ((i : Int) + 1) (by omega) (by omega)]) ?_
    refine WLq 1 [(8, .int .i64 ((i : Int) + 1))] ?_
    refine WLd rfl ?_
    refine QXn ?_
    have dl := dk.pick [0] [0, 1, 2] rfl rfl
    refine fun a_ ha_ => hb _ _ _ ?_ ⟨i + 1, de, n5 + 1, df, ps5 ++ [p56], (S5 ++ [⟨false, [], []⟩]), (F5 ++ [p56]), rfl, rfl, dl, dg, dh, bN, by omega, by simp [hpi], fun σ_ hs_ => (List.mem_append.1 hs_).elim (hS5 σ_) (fun q_ => by rw [List.mem_singleton] at q_; exact q_)⟩ a_ (ha_.weaken (sub_of ⟨rfl, rfl, rfl, rfl, rfl, trivial⟩))
    omega
  ·
   have iy : ((1 + dN : Nat) : Int) ≤ (i : Int) := by have q_ := of_decide_eq_false ce; omega
   refine WCf rfl ?_
   have dm := c7.addNil
   have dn := dm.addNil
   have dp := dn.addNil
   obtain ⟨F111, cg, dq⟩ := pr_close (Cx.pickX dp [0] [1, 2, 0, 3, 4, 5] (by decide) (by decide) rfl rfl) hspr hsps ls28_m44 (qAt_nil _) (qAt_nil _)
   have hR0_ := RestI.start (X := (ans.map (·.xs))) (N := 1 + dN) (S := S5) (by omega) (by omega) hS5
   skip
   refine WC.exit ?_
   refine QXe ?_
   refine QXe ?_
   refine QX.block_hit ?_
   refine QXn (g4 _ _ ?_)
   refine WCs (fun iA dr => ?_)
   refine WCs (fun iB ds => ?_)
   refine WCg (WLq 3 [(66, .int .i64 0), (65, .int .i64 (ans.length : Int)), (64, .slice C ans.length c)] (WLd rfl (QXn (ds _ _ ?_))))
   refine WC.block ?_
   refine WC.loop (fun m_ E_ w_ => ∃ (k : Nat) (F6 : List Nat) (S6 : List SpS) (L6 : Lm) (nw6 t6 : Int) (g6 : Bool), m_ = ans.length - k ∧ E_ = [(0, .int .i64 ((1 + dN : Nat) : Int)), (1, .slice C ans.length c), (2, .int .i64 ticks), (7, .pointer (some ⟨aa, 0, none⟩)), (64, .slice C ans.length c), (65, .int .i64 (ans.length : Int)), (66, .int .i64 (k : Int))] ∧ Cx w [] w_ [] [F6] ∧ prAt w_ F6 aa p21 ps5 S6 L6 nw6 ∧ (k ≤ ans.length ∧ RestI (ans.map (·.xs)) (1 + dN) k S6 L6 nw6 t6 g6 ∧ nw6 ≤ 9 * (k : Int) ∧ ∀ j x, j < k → ans[j]? = some x → x.xs.length ≤ 200)) ⟨_, _, ⟨0, F111, S5, [], 0, 0, false, rfl, rfl, dq, cg, Nat.zero_le _, hR0_, by simp, fun _ _ h_ => absurd h_ (Nat.not_lt_zero _)⟩, sub_of ⟨rfl, rfl, rfl, rfl, rfl, rfl, rfl, trivial⟩⟩ (fun m121 E_ iC iD dt du => ?_)
   obtain ⟨k, F6, S6, L6, nw6, t6, g6, rfl, rfl, dv, hpr6, hk, hR6, hnw6, hsm6⟩ := du
   have hkm_ := Nat.mod_lt k (show 0 < 1 + dN by omega)
   have hsl6_ := hR6.j.len
   have hprl6_ := hpr6.len
   obtain ⟨dw, dx, F126, F127, B128, B129, R130, iE, iF, iG, iH, dy, bf, aX, bg, bh, bi, h8⟩ := hpr6
   have aY := Cx.untell dv dy
   skip
   refine WCs (fun iI dz => ?_)
   refine WCg (WLq 1 [(67, .bool (decide ((k : Int) < (ans.length : Int))))] (WLd rfl (QXn (dz _ _ ?_))))
   refine WCs (fun iJ dA => ?_)
   refine WCa 67 (decide ((k : Int) < (ans.length : Int))) rfl (fun bj => ?_) (fun bj => ?_)
   ·
    have hA : (k : Int) < (ans.length : Int) := by have q_ := of_decide_eq_true bj; omega
    refine WCt rfl ?_
    refine WC.skip ?_
    refine QXn (dA _ _ ?_)
    refine WCs (fun iK dB => ?_)
    refine WC.block ?_
    refine WCs (fun iL dC => ?_)
    refine WCg (WLq 1 [(68, .int .i64 (k : Int))] ?_)
    obtain ⟨ab, aZ⟩ := get_some (xs := ans) (i := k) (by omega)
    obtain ⟨b154, o156, dD, dE⟩ := hans.at_ _ _ aZ
    have han_e152 := hok _ (List.mem_of_getElem? aZ)
    have hax_e152 := han_e152.mx
    have hac_e152 := han_e152.le
    simp only [maxLen] at hax_e152
    refine WLi C ans.length c 69 .i64 (k : Int) b154 o156 k 1 (by kernel_rfl) dD (by omega) (by omega) (o156 + k) (by first | (simp; done) | omega) ?_
    refine WLo 33 (.pointer (some ⟨b154, o156 + k, none⟩)) (.slice ab.a ab.xs.length ab.c) 70 (run_load1 rfl (by simpa [Nat.add_assoc] using aY.fr.cell (dE 0 _ rfl) (by simp))) ?_
    refine WLq 2 [(12, .slice ab.a ab.xs.length ab.c), (11, .int .i64 (k : Int))] (WLd rfl (QXn (dC _ _ ?_)))
    refine WCs (fun iM dF => ?_)
    refine WCs (fun iN dG => ?_)
    refine WCg (WLq 3 [(73, .bool (decide ((ab.xs.length : Int) > 200))), (72, .int .i64 (ab.xs.length : Int)), (71, .slice ab.a ab.xs.length ab.c)] (WLd rfl (QXn (dG _ _ ?_))))
    refine WCa 73 (decide ((ab.xs.length : Int) > 200)) rfl (fun bk => ?_) (fun bk => ?_)
    ·
     have hB : (200 : Int) < (ab.xs.length : Int) := by have q_ := of_decide_eq_true bk; omega
     refine WCt rfl ?_
     refine WCs (fun iO dH => ?_)
     refine WCg (WLq 1 [(6, .bool true)] (WLd rfl (QXn (dH _ _ ?_))))
     refine WC.ret ?_
     refine QXr ?_
     refine QXk ?_
     refine QXr ?_
     refine QXr ?_
     refine QXk ?_
     refine QXr ?_
     refine (hret _ _ _ rfl ?_).1
     exact ⟨rfl, aY.fr⟩
    ·
     have hB : (ab.xs.length : Int) ≤ 200 := by have q_ := of_decide_eq_false bk; omega
     refine WCf rfl (WC.skip (QXn (dF _ _ ?_)))
     refine WCs (fun iP dI => ?_)
     refine WC.drawC aY F126 (by kernel_rfl) (fun hD aM ao ae => ?_)
     have a0 := own_fr bf aM (by simp)
     have dJ := spsAt_fr aX aM (by simp)
     have dK := lsAt_fr bg aM (by simp)
     have dL := qAt.fr bh aM (by simp)
     have dM := qAt.fr bi aM (by simp)
     refine WDq (NPt (NPb (NPt (NPt (NPb (NPt hN)))))) 0 74 (.pointer (some ⟨aa, 0, none⟩)) ae ?_
     refine WDq (NPt (NPb (NPt (NPt (NPb (NPt hN)))))) 1 75 (.pointer (some ⟨aa, 0, none⟩)) ae ?_
     refine WDq (NPt (NPb (NPt (NPt (NPb (NPt hN)))))) 2 76 (.pointer (some ⟨aa, 0, none⟩)) ae ?_
     refine WDq (NPt (NPb (NPt (NPt (NPb (NPt hN)))))) 4 78 (.int .i64 (k : Int)) ae ?_
     refine WDq (NPt (NPb (NPt (NPt (NPb (NPt hN)))))) 5 79 (.int .i64 ((1 + dN : Nat) : Int)) ae ?_
     have dO : ∀ w_, Sem.run Try.prog (do eqGuard .rem 3 (Operand.tmp 78) (Operand.tmp 79) (.int .i64 (k : Int)) (.int .i64 ((1 + dN : Nat) : Int)); binOp .rem 3 (.int .i64 (k : Int)) (.int .i64 ((1 + dN : Nat) : Int))) w_ = .ok (.int .i64 (Int.tmod (k : Int) ((1 + dN : Nat) : Int))) w_ := fun w_ => (run_rem (by omega))
     refine WD.semP (NPt (NPb (NPt (NPt (NPb (NPt hN)))))) 6 (do eqGuard .rem 3 (Operand.tmp 78) (Operand.tmp 79) (.int .i64 (k : Int)) (.int .i64 ((1 + dN : Nat) : Int)); binOp .rem 3 (.int .i64 (k : Int)) (.int .i64 ((1 + dN : Nat) : Int))) 80 (.int .i64 (Int.tmod (k : Int) ((1 + dN : Nat) : Int))) (by kernel_rfl) (by kernel_rfl) (fun _ _ => dO _) ae ?_
     refine WD.recast (show (.int .i64 (Int.tmod (k : Int) ((1 + dN : Nat) : Int)) : Value) = .int .i64 ((k % (1 + dN) : Nat) : Int) from by rw [Int.tmod_eq_emod_of_nonneg (by omega)]; rfl) ?_
     refine WDq (NPt (NPb (NPt (NPt (NPb (NPt hN)))))) 9 83 (.slice ab.a ab.xs.length ab.c) ae ?_
     refine WD.sem 3 (Instr.loadAt 57 (.pointer (some ⟨aa, 0, none⟩))) 77 (.slice dw ps5.length dx) (by kernel_rfl) (by kernel_rfl) (run_ld (ao.get 0 rfl) rfl) ae ?_
     have h9 := own_count encPt_len (by decide) a0
     obtain ⟨hE, bl⟩ := get_some (xs := ps5) (i := (k % (1 + dN))) (by omega)
     obtain ⟨b179, b4⟩ := own_addr (by decide) encPt_len a0 bl
     refine WDi (NPt (NPb (NPt (NPt (NPb (NPt hN)))))) 7 dw ps5.length dx 81 .i64 ((k % (1 + dN) : Nat) : Int) b179 0 (k % (1 + dN)) 1 (by kernel_rfl) (by kernel_rfl) b4 (by omega) (by omega) (k % (1 + dN)) (by first | (simp; done) | omega) ae ?_
     refine WD.sem 8 (Instr.loadAt 24 (.pointer (some ⟨b179, (k % (1 + dN)), none⟩))) 82 (.pointer (some ⟨hE, 0, none⟩)) (by kernel_rfl) (by kernel_rfl) (run_load1 rfl (by simpa [Nat.add_assoc] using Rd.cell (own_rd a0 encPt_len (by decide)) b4 bl 0 _ rfl)) ae ?_
     obtain ⟨sg182, aE⟩ := get_some (xs := S6) (i := (k % (1 + dN))) (by omega)
     have hvk_sg182 := hR6.j.inv.vk _ (List.mem_of_getElem? aE)
     have hzv_ := hR6.vz _ (List.mem_of_getElem? aE)
     have hJ6_ := hR6.ann (A := ab.xs) (by rw [List.getElem?_map, aZ]; rfl) aE (annV_vok han_e152.u32)
     obtain ⟨F184, ch, af, ci⟩ := spsAt_one dJ bl aE
     refine WD.call 10 (by kernel_rfl) rfl rfl rfl rfl rfl (by kernel_rfl) (AnnG_n F184 _ 5 sg182.o sg182.vs sg182.V ab.a ab.xs.length ab.c ab.xs rfl hD ch ⟨hvk_sg182.2, vok_rng hvk_sg182.1⟩ (by rw [hzv_]; exact Nat.zero_le _) (Rd.fr han_e152.rd ao.fr) (by omega) han_e152.u32) ?_
     rintro _ hF ⟨F189, rfl, ap, cj, bO⟩
     obtain ⟨F193, a1, ck, _⟩ := ci hF F189 ⟨sg182.o, annV ab.xs, sg182.V ++ annM 5 sg182.o sg182.vs ab.xs⟩ [] ap cj bO (by simp) (fun _ _ => by simp)
     have dP := ao.callF 1 rfl (ap.mono af) (fun x_ h_ => (ck x_ h_).2) (spsAt_lt a1)
     have dQ := ae.trans ap (fun x_ h_ => .inl ( (af x_ h_)))
     refine ⟨_, rfl, dQ, ?_⟩
     have dR := own_fr a0 (ap.mono af) (ao.disj 0 1 rfl rfl (by decide))
     have dS := lsAt_fr dK (ap.mono af) (ao.disj 2 1 rfl rfl (by decide))
     have dU := qAt.fr dL (ap.mono af) (ao.disj 3 1 rfl rfl (by decide))
     have dW := qAt.fr dM (ap.mono af) (ao.disj 4 1 rfl rfl (by decide))
     refine WD.done (by kernel_rfl) ?_
     refine QXn (dI _ _ ?_)
     refine WCs (fun iQ dX => ?_)
     refine WCg (WLq 1 [(13, .int .i64 0)] (WLd rfl (QXn (dX _ _ ?_))))
     refine WC.block ?_
     obtain ⟨F204, cl, dY⟩ := pr_close (Cx.pickX dP [0] [0, 1, 2, 3, 4, 5] (by decide) (by decide) rfl rfl) dR a1 dS dU dW
     refine WC.loop (fun m_ E_ w_ => ∃ (q : Nat) (F7 : List Nat) (S7 : List SpS) (L7 : Lm) (nw7 t7 : Int) (g7 : Bool), m_ = (1 + dT) - q ∧ E_ = [(0, .int .i64 ((1 + dN : Nat) : Int)), (1, .slice C ans.length c), (2, .int .i64 ticks), (7, .pointer (some ⟨aa, 0, none⟩)), (13, .int .i64 (q : Int)), (64, .slice C ans.length c), (65, .int .i64 (ans.length : Int)), (66, .int .i64 (k : Int))] ∧ Cx w [] w_ [] [F7] ∧ prAt w_ F7 aa p21 ps5 S7 L7 nw7 ∧ (q ≤ 1 + dT ∧ RestJ (ans.map (·.xs)) (1 + dN) (k + 1) S7 L7 nw7 t7 g7 ∧ nw7 ≤ 9 * (k : Int) + q ∧ (0 < q → ∀ σ ∈ S7, σ.V = []))) ⟨_, _, ⟨0, F204, (S6.set (k % (1 + dN)) ⟨sg182.o, annV ab.xs, sg182.V ++ annM 5 sg182.o sg182.vs ab.xs⟩), L6, nw6, t6, g6, rfl, rfl, dY, cl, Nat.zero_le _, hJ6_, by omega, fun h_ => absurd h_ (Nat.lt_irrefl _)⟩, sub_of ⟨rfl, rfl, rfl, rfl, rfl, rfl, rfl, rfl, trivial⟩⟩ (fun m210 E_ iR iS dZ d0 => ?_)
     obtain ⟨q, F7, S7, L7, nw7, t7, g7, rfl, rfl, d1, hpr7, hq, hJ7, hnw7, hz7⟩ := d0
     have hkn7_ := hJ7.n0
     have htq7_ := hJ7.tq
     obtain ⟨hxa7_, hxb7_, hxc7_, hxd7_⟩ := nx_le hkn7_ htq7_
     have htim7_ : timB (nw7 + 1) = true := decide_eq_true (by omega)
     have hsl7_ := hJ7.len
     have hprl7_ := hpr7.len
     obtain ⟨aS, aT, F215, F216, B217, B218, R219, cm, cn, co, cp, d2, bm, a2, bn, bo, bp, ia⟩ := hpr7
     have al := Cx.untell d1 d2
     skip
     refine WCs (fun iT d3 => ?_)
     refine WCs (fun iU d4 => ?_)
     refine WCg (WLq 3 [(87, .int .u64 (IntKind.u64.wrap (ticks))), (86, .int .i64 ticks), (85, .int .i64 (q : Int))] ?_)
     refine WLt (show (.int .u64 (IntKind.u64.wrap (ticks)) : Value) = .int .u64 uT from by rw [huT]) ?_
     refine WLq 1 [(88, .int .u64 (Int.tmod uT 9))] ?_
     refine WLt (show (.int .u64 (Int.tmod uT 9) : Value) = .int .u64 (dT : Int) from by rw [hdT]) ?_
     refine WLq 1 [(89, .int .i64 (IntKind.i64.wrap ((dT : Int))))] ?_
     refine WLt (show (.int .i64 (IntKind.i64.wrap ((dT : Int))) : Value) = .int .i64 (dT : Int) from by rw [wrap_in_i64 _ (by omega) (by omega)]) ?_
     refine WLq 1 [(90, .int .i64 (IntKind.i64.wrap (1 + (dT : Int))))] ?_
     refine WLt (show (.int .i64 (IntKind.i64.wrap (1 + (dT : Int))) : Value) = .int .i64 ((1 + dT : Nat) : Int) from by rw [wrap_in_i64 _ (by omega) (by omega)] <;> first | rfl | (congr 1; omega)) ?_
     refine WLq 1 [(91, .bool (decide ((q : Int) < ((1 + dT : Nat) : Int))))] (WLd rfl (QXn (d4 _ _ ?_)))
     refine WCa 91 (decide ((q : Int) < ((1 + dT : Nat) : Int))) rfl (fun bq => ?_) (fun bq => ?_)
     ·
      have hG : (q : Int) < ((1 + dT : Nat) : Int) := by have q_ := of_decide_eq_true bq; omega
      refine WCt rfl ?_
      refine WC.skip ?_
      refine QXn (d3 _ _ ?_)
      refine WCs (fun iV d5 => ?_)
      refine WC.block ?_
      refine WCs (fun iW d6 => ?_)
      refine WCg (WLq 3 [(96, .pointer (some ⟨aa, 4, none⟩)), (95, .pointer (some ⟨aa, 0, none⟩)), (94, .pointer (some ⟨aa, 0, none⟩))] ?_)
      refine WLo 3 (.pointer (some ⟨aa, 4, none⟩)) (.int .i64 nw7) 97 (run_ld (al.get 0 rfl) rfl) ?_
      refine WLq 1 [(98, .int .i64 (IntKind.i64.wrap (nw7 + 1)))] ?_
      refine WLt (show (.int .i64 (IntKind.i64.wrap (nw7 + 1)) : Value) = .int .i64 (nw7 + 1) from by rw [wrap_in_i64 (nw7 + 1) (by omega) (by omega)]) ?_
      refine WLq 2 [(100, .pointer (some ⟨aa, 4, none⟩)), (99, .pointer (some ⟨aa, 0, none⟩))] ?_
      refine WLs (c' := #[.slice aS ps5.length aT, .pointer (some ⟨p21, 0, none⟩), .slice cm 0 cn, .slice co 0 cp, .int .i64 (nw7 + 1)]) al 0 3 aa 4 (.int .i64 (nw7 + 1)) (by kernel_rfl) rfl (by kernel_rfl) (fun iX aN d7 => ?_)
      have d8 := own_fr bm aN (al.apartM 0 0 rfl rfl)
      have d9 := spsAt_fr a2 aN (al.apartM 1 0 rfl rfl)
      have ea := lsAt_fr bn aN (al.apartM 2 0 rfl rfl)
      have eb := qAt.fr bo aN (al.apartM 3 0 rfl rfl)
      have ec := qAt.fr bp aN (al.apartM 4 0 rfl rfl)
      refine WLd rfl (QXn (d6 _ _ ?_))
      refine WCs (fun iY ed => ?_)
      refine WC.drawC d7 F216 (by kernel_rfl) (fun hH aO am ag => ?_)
      have ee := own_fr d8 aO (by simp)
      have ef := spsAt_fr d9 aO (by simp)
      have eg := lsAt_fr ea aO (by simp)
      have eh := qAt.fr eb aO (by simp)
      have ei := qAt.fr ec aO (by simp)
      refine WDq (NPt (NPb (NPt (NPt (NPb (NPb (NPt (NPt (NPb (NPt hN)))))))))) 0 101 (.pointer (some ⟨aa, 0, none⟩)) ag ?_
      refine WDq (NPt (NPb (NPt (NPt (NPb (NPb (NPt (NPt (NPb (NPt hN)))))))))) 1 102 (.pointer (some ⟨aa, 0, none⟩)) ag ?_
      refine WDq (NPt (NPb (NPt (NPt (NPb (NPb (NPt (NPt (NPb (NPt hN)))))))))) 2 103 (.pointer (some ⟨aa, 1, none⟩)) ag ?_
      refine WDq (NPt (NPb (NPt (NPt (NPb (NPb (NPt (NPt (NPb (NPt hN)))))))))) 4 105 (.pointer (some ⟨aa, 0, none⟩)) ag ?_
      refine WDq (NPt (NPb (NPt (NPt (NPb (NPb (NPt (NPt (NPb (NPt hN)))))))))) 5 106 (.pointer (some ⟨aa, 0, none⟩)) ag ?_
      refine WDq (NPt (NPb (NPt (NPt (NPb (NPb (NPt (NPt (NPb (NPt hN)))))))))) 6 107 (.pointer (some ⟨aa, 4, none⟩)) ag ?_
      refine WDm (NPt (NPb (NPt (NPt (NPb (NPb (NPt (NPt (NPb (NPt hN)))))))))) 3 55 (.pointer (some ⟨aa, 1, none⟩)) (.pointer (some ⟨p21, 0, none⟩)) 104 (fun _ hS_ => run_ld (Fr.has hS_ (am.get 0 rfl) (am.notin 2 0 rfl rfl)) rfl) ag ?_
      refine WD.sem 7 (Instr.loadAt 3 (.pointer (some ⟨aa, 4, none⟩))) 108 (.int .i64 (nw7 + 1)) (by kernel_rfl) (by kernel_rfl) (run_ld (am.get 0 rfl) rfl) ag ?_
      refine WD.call 8 (by kernel_rfl) rfl rfl rfl rfl rfl (by kernel_rfl) (Tick_d F216 p21 L7 (nw7 + 1) hH eg) ?_
      rintro _ iZ ⟨i0, rfl, ay, aU, _, _⟩
      rw [(hJ7.inv.lst hxc7_).1] at aU
      have b5 := am.callF 2 rfl ay (fun _ h_ => .inl h_) (lsAt_lt aU)
      have ej := ag.trans ay (fun _ h_ => .inl h_)
      refine ⟨_, rfl, ej, ?_⟩
      have ek := own_fr ee ay (am.disj 0 2 rfl rfl (by decide))
      have em := spsAt_fr ef ay (am.disj 1 2 rfl rfl (by decide))
      have en := qAt.fr eh ay (am.disj 3 2 rfl rfl (by decide))
      have eo := qAt.fr ei ay (am.disj 4 2 rfl rfl (by decide))
      refine WD.done (by kernel_rfl) ?_
      refine QXn (ed _ _ ?_)
      refine WCs (fun i1 ep => ?_)
      refine WCs (fun i2 er => ?_)
      refine WCg (WLq 3 [(112, .pointer (some ⟨aa, 0, none⟩)), (111, .pointer (some ⟨aa, 0, none⟩)), (110, .pointer (some ⟨aa, 0, none⟩))] ?_)
      refine WLo 57 (.pointer (some ⟨aa, 0, none⟩)) (.slice aS ps5.length aT) 113 (run_ld (b5.get 0 rfl) rfl) ?_
      refine WLq 2 [(115, .int .i64 0), (114, .int .i64 (ps5.length : Int))] (WLd rfl (QXn (er _ _ ?_)))
      refine WC.block ?_
      refine WC.loop (fun m_ E_ w_ => ∃ (j8 : Nat) (F8 : List Nat) (S8 : List SpS), m_ = ps5.length - j8 ∧ E_ = [(0, .int .i64 ((1 + dN : Nat) : Int)), (1, .slice C ans.length c), (2, .int .i64 ticks), (7, .pointer (some ⟨aa, 0, none⟩)), (13, .int .i64 (q : Int)), (64, .slice C ans.length c), (65, .int .i64 (ans.length : Int)), (66, .int .i64 (k : Int)), (113, .slice aS ps5.length aT), (114, .int .i64 (ps5.length : Int)), (115, .int .i64 (j8 : Int))] ∧ Cx w [] w_ [(aa, .cells #[.slice aS ps5.length aT, .pointer (some ⟨p21, 0, none⟩), .slice cm 0 cn, .slice co 0 cp, .int .i64 (nw7 + 1)] 60)] [blk (.slice aS ps5.length aT), F8, F216, B217, B218, R219] ∧ World.ownsRow w_ 0 24 1 (.slice aS ps5.length aT) ps5.length (ps5.flatMap encPt) ∧ lsAt w_ F216 p21 L7 ∧ qAt w_ B217 cm 0 cn [] ∧ qAt w_ B218 co 0 cp [] ∧ spsAt w_ F8 ps5 S8 ∧ (j8 ≤ ps5.length ∧ TickI S7 L7 (nw7 + 1) t7 g7 j8 S8)) ⟨_, _, ⟨0, F215, S7, rfl, rfl, b5, ek, aU, en, eo, em, Nat.zero_le _, hJ7.tick _⟩, sub_of ⟨rfl, rfl, rfl, rfl, rfl, rfl, rfl, rfl, rfl, rfl, rfl, trivial⟩⟩ (fun m278 E_ es i3 et eu => ?_)
      obtain ⟨j8, F8, S8, rfl, rfl, aq, spr_m278, ls_m278, qu_m278, qd_m278, hsps8, hj8, hTi8⟩ := eu
      have hsl8_ := spsAt_len hsps8
      refine WCs (fun i4 ev => ?_)
      refine WCg (WLq 1 [(116, .bool (decide ((j8 : Int) < (ps5.length : Int))))] (WLd rfl (QXn (ev _ _ ?_))))
      refine WCs (fun i5 ew => ?_)
      refine WCa 116 (decide ((j8 : Int) < (ps5.length : Int))) rfl (fun br => ?_) (fun br => ?_)
      ·
       have hI : (j8 : Int) < (ps5.length : Int) := by have q_ := of_decide_eq_true br; omega
       refine WCt rfl ?_
       refine WC.skip ?_
       refine QXn (ew _ _ ?_)
       refine WCs (fun i6 ex => ?_)
       refine WC.block ?_
       refine WCs (fun i7 ey => ?_)
       refine WCg ?_
       have ib := own_count encPt_len (by decide) spr_m278
       obtain ⟨cq, bs⟩ := get_some (xs := ps5) (i := j8) (by omega)
       obtain ⟨b292, b6⟩ := own_addr (by decide) encPt_len spr_m278 bs
       refine WLi aS ps5.length aT 117 .i64 (j8 : Int) b292 0 j8 1 (by kernel_rfl) b6 (by omega) (by omega) j8 (by first | (simp; done) | omega) ?_
       refine WLo 24 (.pointer (some ⟨b292, j8, none⟩)) (.pointer (some ⟨cq, 0, none⟩)) 118 (run_load1 rfl (by simpa [Nat.add_assoc] using Rd.cell (own_rd spr_m278 encPt_len (by decide)) b6 bs 0 _ rfl)) ?_
       refine WLq 1 [(15, .pointer (some ⟨cq, 0, none⟩))] (WLd rfl (QXn (ey _ _ ?_)))
       refine WCg (WLq 4 [(122, .pointer (some ⟨aa, 4, none⟩)), (121, .pointer (some ⟨aa, 0, none⟩)), (120, .pointer (some ⟨aa, 0, none⟩)), (119, .pointer (some ⟨cq, 0, none⟩))] ?_)
       refine WLo 3 (.pointer (some ⟨aa, 4, none⟩)) (.int .i64 (nw7 + 1)) 123 (run_ld (aq.get 0 rfl) rfl) ?_
       obtain ⟨sg295, aF⟩ := get_some (xs := S8) (i := j8) (by omega)
       have hvk_sg295 := hTi8.inv.vk _ (List.mem_of_getElem? aF)
       obtain ⟨F297, cr, ah, cs⟩ := spsAt_one hsps8 bs aF
       refine WLc rfl rfl rfl rfl rfl (by kernel_rfl) (TickG_ct F297 _ 5 sg295.o sg295.vs sg295.V (nw7 + 1) es cr ⟨hvk_sg295.2, vok_rng hvk_sg295.1⟩ (Nat.le_trans (hTi8.v2 _ (List.mem_of_getElem? aF)) (by decide))) ?_
       rintro _ hJ ⟨F302, rfl, az, ct, bP⟩
       obtain ⟨F306, a3, cu, _⟩ := cs hJ F302 ⟨sg295.o, sg295.vs, sg295.V ++ tickV 5 sg295.o sg295.vs (nw7 + 1)⟩ [] az ct bP (by simp) (fun _ _ => by simp)
       have ez := aq.callF 1 rfl (az.mono ah) (fun x_ h_ => (cu x_ h_).2) (spsAt_lt a3)
       refine ⟨_, rfl, ?_⟩
       have eA := own_fr spr_m278 (az.mono ah) (aq.disj 0 1 rfl rfl (by decide))
       have eB := lsAt_fr ls_m278 (az.mono ah) (aq.disj 2 1 rfl rfl (by decide))
       have eC := qAt.fr qu_m278 (az.mono ah) (aq.disj 3 1 rfl rfl (by decide))
       have eD := qAt.fr qd_m278 (az.mono ah) (aq.disj 4 1 rfl rfl (by decide))
       refine WLd rfl ?_
       refine QXb ?_
       refine QXn (ex _ _ ?_)
       refine WCg (WLq 1 [(125, .int .i64 (IntKind.i64.wrap ((j8 : Int) + 1)))] ?_)
       refine WLt (show (.int .i64 (IntKind.i64.wrap ((j8 : Int) + 1)) : Value) = .int .i64 ((j8 : Int) + 1) from by rw [wrap_in_i64 ((j8 : Int) + 1) (by omega) (by omega)]) ?_
       refine WLq 1 [(115, .int .i64 ((j8 : Int) + 1))] ?_
       refine WLd rfl ?_
       refine QXn ?_
       have eE := ez.pick [0] [0, 1, 2, 3, 4, 5] rfl rfl
       refine fun a_ ha_ => et _ _ _ ?_ ⟨j8 + 1, F306, (S8.set j8 ⟨sg295.o, sg295.vs, sg295.V ++ tickV 5 sg295.o sg295.vs (nw7 + 1)⟩), rfl, rfl, eE, eA, eB, eC, eD, a3, by omega, hTi8.step hJ7.v1 aF htim7_⟩ a_ (ha_.weaken (sub_of ⟨rfl, rfl, rfl, rfl, rfl, rfl, rfl, rfl, rfl, rfl, rfl, trivial⟩))
       omega
      ·
       have hI : (ps5.length : Int) ≤ (j8 : Int) := by have q_ := of_decide_eq_false br; omega
       refine WCf rfl ?_
       refine WC.exit ?_
       refine QXe ?_
       refine QXe ?_
       refine QX.block_hit ?_
       refine QXn (ep _ _ ?_)
       refine WCs (fun i8 eF => ?_)
       refine WCg (WLq 1 [(126, .pointer (some ⟨aa, 0, none⟩))] ?_)
       obtain ⟨F318, cv, eG⟩ := pr_close (Cx.pickX aq [0] [0, 1, 2, 3, 4, 5] (by decide) (by decide) rfl rfl) spr_m278 hsps8 ls_m278 qu_m278 qd_m278
       refine WLc rfl rfl rfl rfl rfl (by kernel_rfl) (carry_ct F318 aa p21 ps5 S8 L7 (nw7 + 1) (fun _ => nxT (nw7 + 1) t7) t7 (fun _ => nxG (nw7 + 1) g7) False es cv (hTi8.inv.tickE (by omega)) hTi8.v2 (fun h_ => h_.elim) htim7_ (fun _ => hxa7_) hxb7_) ?_
       rintro _ hK ⟨F321, S322, L323, rfl, eH, bt, bQ, eI, b7, hL, cw⟩
       have eJ := eG.callF 0 rfl eH bQ (pr_lt bt)
       refine ⟨_, rfl, ?_⟩
       obtain ⟨ja, jc, F335, F336, B337, B338, R339, jd, je, jf, jg, eK, cx, bR, cy, cz, cA, ic⟩ := bt
       have eL := Cx.untell eJ eK
       refine WLd rfl (QXn (eF _ _ ?_))
       refine WCg (WLq 1 [(128, .pointer (some ⟨aa, 0, none⟩))] ?_)
       obtain ⟨F352, cB, eM⟩ := pr_close (Cx.pickX eL [0] [0, 1, 2, 3, 4, 5] (by decide) (by decide) rfl rfl) cx bR cy cz cA
       refine WLc rfl rfl rfl rfl rfl (by kernel_rfl) (carry_ct F352 aa p21 ps5 S322 L323 (nw7 + 1) (fun _ => nxT (nw7 + 1) t7) t7 (fun _ => nxG (nw7 + 1) g7) True hK cB eI (fun σ_ h_ => Nat.le_succ_of_le (b7 σ_ h_).1) (fun _ σ_ h_ => (b7 σ_ h_).2) htim7_ (fun _ => hxa7_) hxb7_) ?_
       rintro _ jh ⟨F355, S356, L357, rfl, eN, bu, bS, eO, ie, cC, cD⟩
       have eP := eM.callF 0 rfl eN bS (pr_lt bu)
       refine ⟨_, rfl, ?_⟩
       have hR7 := hJ7.after eO (cC trivial) (cD.trans (cw.trans hTi8.vs))
       obtain ⟨ji, jj, F369, F370, B371, B372, R373, jk, jl, jm, jn, eQ, cE, bT, cF, cG, cH, ig⟩ := bu
       have eR := Cx.untell eP eQ
       refine WLd rfl ?_
       refine QXb ?_
       refine QXn (d5 _ _ ?_)
       refine WCg (WLq 2 [(93, .int .i64 (IntKind.i64.wrap ((q : Int) + 1))), (92, .int .i64 (q : Int))] ?_)
       refine WLt (show (.int .i64 (IntKind.i64.wrap ((q : Int) + 1)) : Value) = .int .i64 ((q : Int) + 1) from by rw [wrap_in_i64 ((q : Int) + 1) (by omega) (by omega)]) ?_
       refine WLq 1 [(13, .int .i64 ((q : Int) + 1))] ?_
       refine WLd rfl ?_
       refine QXn ?_
       obtain ⟨F386, cI, eS⟩ := pr_close (Cx.pickX eR [0] [0, 1, 2, 3, 4, 5] (by decide) (by decide) rfl rfl) cE bT cF cG cH
       have eT := eS.pick [] [0] rfl rfl
       refine fun a_ ha_ => dZ _ _ _ ?_ ⟨q + 1, F386, S356, L357, nw7 + 1, (nxT (nw7 + 1) t7), (nxG (nw7 + 1) g7), rfl, rfl, eT, cI, by omega, hR7.j, by omega, fun _ => hR7.vz⟩ a_ (ha_.weaken (sub_of ⟨rfl, rfl, rfl, rfl, rfl, rfl, rfl, rfl, trivial⟩))
       omega
     ·
      have hG : ((1 + dT : Nat) : Int) ≤ (q : Int) := by have q_ := of_decide_eq_false bq; omega
      refine WCf rfl ?_
      skip
      refine WC.exit ?_
      refine QXe ?_
      refine QXe ?_
      refine QX.block_hit ?_
      refine QXb ?_
      refine QXn (dB _ _ ?_)
      refine WCg (WLq 1 [(130, .int .i64 (IntKind.i64.wrap ((k : Int) + 1)))] ?_)
      refine WLt (show (.int .i64 (IntKind.i64.wrap ((k : Int) + 1)) : Value) = .int .i64 ((k : Int) + 1) from by rw [wrap_in_i64 ((k : Int) + 1) (by omega) (by omega)]) ?_
      refine WLq 1 [(66, .int .i64 ((k : Int) + 1))] ?_
      refine WLd rfl ?_
      refine QXn ?_
      obtain ⟨F390, cJ, eU⟩ := pr_close (Cx.pickX al [0] [0, 1, 2, 3, 4, 5] (by decide) (by decide) rfl rfl) bm a2 bn bo bp
      have eV := eU.pick [] [0] rfl rfl
      refine fun a_ ha_ => dt _ _ _ ?_ ⟨k + 1, F390, S7, L7, nw7, t7, g7, rfl, rfl, eV, cJ, by omega, ⟨hJ7, hz7 (by omega)⟩, by omega, fun j_ x_ h1_ h2_ => by
       by_cases q_ : j_ = k
       ·
        subst q_; rw [aZ] at h2_; cases h2_; omega
       ·
        exact hsm6 j_ x_ (by omega) h2_⟩ a_ (ha_.weaken (sub_of ⟨rfl, rfl, rfl, rfl, rfl, rfl, rfl, trivial⟩))
      omega
   ·
    have hA : (ans.length : Int) ≤ (k : Int) := by have q_ := of_decide_eq_false bj; omega
    refine WCf rfl ?_
    have hR6e_ : RestI (ans.map (·.xs)) (1 + dN) ans.length S6 L6 nw6 t6 g6 := by rw [show ans.length = k from by omega]; exact hR6
    skip
    refine WC.exit ?_
    refine QXe ?_
    refine QXe ?_
    refine QX.block_hit ?_
    refine QXn (dr _ _ ?_)
    refine WCs (fun jo eW => ?_)
    refine WCs (fun jp eX => ?_)
    refine WCg (WLq 1 [(16, .int .i64 0)] (WLd rfl (QXn (eX _ _ ?_))))
    refine WC.block ?_
    obtain ⟨F398, cK, eY⟩ := pr_close (Cx.pickX aY [0] [0, 1, 2, 3, 4, 5] (by decide) (by decide) rfl rfl) bf aX bg bh bi
    refine WC.loop (fun m_ E_ w_ => ∃ (q9 : Nat) (F9 : List Nat) (S9 : List SpS) (L9 : Lm) (nw9 t9 : Int) (g9 : Bool), m_ = 9 - q9 ∧ E_ = [(0, .int .i64 ((1 + dN : Nat) : Int)), (1, .slice C ans.length c), (2, .int .i64 ticks), (7, .pointer (some ⟨aa, 0, none⟩)), (16, .int .i64 (q9 : Int))] ∧ Cx w [] w_ [] [F9] ∧ prAt w_ F9 aa p21 ps5 S9 L9 nw9 ∧ (q9 ≤ 9 ∧ RestI (ans.map (·.xs)) (1 + dN) ans.length S9 L9 nw9 t9 g9 ∧ nw9 ≤ 200 + (q9 : Int) ∧ (g9 = true ∨ (q9 : Int) ≤ nw9 % 4))) ⟨_, _, ⟨0, F398, S6, L6, nw6, t6, g6, rfl, rfl, eY, cK, Nat.zero_le _, hR6e_, by omega, .inr (by omega)⟩, sub_of ⟨rfl, rfl, rfl, rfl, rfl, trivial⟩⟩ (fun m404 E_ jq jr eZ e0 => ?_)
    obtain ⟨q9, F9, S9, L9, nw9, t9, g9, rfl, rfl, e1, hpr9, hq9, hR9, hnw9, hgo9⟩ := e0
    have hkn9_ := hR9.j.n0
    have htq9_ := hR9.j.tq
    obtain ⟨hxa9_, hxb9_, hxc9_, hxd9_⟩ := nx_le hkn9_ htq9_
    have htim9_ : timB (nw9 + 1) = true := decide_eq_true (by omega)
    have hsl9_ := hR9.j.len
    have hprl9_ := hpr9.len
    obtain ⟨ac, ad, F409, F410, B411, B412, R413, aG, aH, aI, aJ, e2, bv, a4, aV, bw, bx, ih⟩ := hpr9
    have ai := Cx.untell e1 e2
    skip
    refine WCs (fun js e3 => ?_)
    refine WCs (fun jt e4 => ?_)
    refine WCg (WLq 2 [(132, .bool (decide ((q9 : Int) < 9))), (131, .int .i64 (q9 : Int))] (WLd rfl (QXn (e4 _ _ ?_))))
    refine WCa 132 (decide ((q9 : Int) < 9)) rfl (fun bz => ?_) (fun bz => ?_)
    ·
     have hM : (q9 : Int) < 9 := by have q_ := of_decide_eq_true bz; omega
     refine WCt rfl ?_
     refine WC.skip ?_
     refine QXn (e3 _ _ ?_)
     refine WCs (fun ju e5 => ?_)
     refine WC.block ?_
     refine WCs (fun jv e6 => ?_)
     refine WCg (WLq 3 [(137, .pointer (some ⟨aa, 4, none⟩)), (136, .pointer (some ⟨aa, 0, none⟩)), (135, .pointer (some ⟨aa, 0, none⟩))] ?_)
     refine WLo 3 (.pointer (some ⟨aa, 4, none⟩)) (.int .i64 nw9) 138 (run_ld (ai.get 0 rfl) rfl) ?_
     refine WLq 1 [(139, .int .i64 (IntKind.i64.wrap (nw9 + 1)))] ?_
     refine WLt (show (.int .i64 (IntKind.i64.wrap (nw9 + 1)) : Value) = .int .i64 (nw9 + 1) from by rw [wrap_in_i64 (nw9 + 1) (by omega) (by omega)]) ?_
     refine WLq 2 [(141, .pointer (some ⟨aa, 4, none⟩)), (140, .pointer (some ⟨aa, 0, none⟩))] ?_
     refine WLs (c' := #[.slice ac ps5.length ad, .pointer (some ⟨p21, 0, none⟩), .slice aG 0 aH, .slice aI 0 aJ, .int .i64 (nw9 + 1)]) ai 0 3 aa 4 (.int .i64 (nw9 + 1)) (by kernel_rfl) rfl (by kernel_rfl) (fun jw aP b8 => ?_)
     have e7 := own_fr bv aP (ai.apartM 0 0 rfl rfl)
     have e8 := spsAt_fr a4 aP (ai.apartM 1 0 rfl rfl)
     have e9 := lsAt_fr aV aP (ai.apartM 2 0 rfl rfl)
     have fa := qAt.fr bw aP (ai.apartM 3 0 rfl rfl)
     have fb := qAt.fr bx aP (ai.apartM 4 0 rfl rfl)
     refine WLd rfl (QXn (e6 _ _ ?_))
     refine WCs (fun jx fc => ?_)
     refine WCs (fun jy fd => ?_)
     refine WCg (WLq 3 [(144, .pointer (some ⟨aa, 0, none⟩)), (143, .pointer (some ⟨aa, 0, none⟩)), (142, .pointer (some ⟨aa, 0, none⟩))] ?_)
     refine WLo 57 (.pointer (some ⟨aa, 0, none⟩)) (.slice ac ps5.length ad) 145 (run_ld (b8.get 0 rfl) rfl) ?_
     refine WLq 2 [(147, .int .i64 0), (146, .int .i64 (ps5.length : Int))] (WLd rfl (QXn (fd _ _ ?_)))
     refine WC.block ?_
     refine WC.loop (fun m_ E_ w_ => ∃ (jb : Nat) (Fb : List Nat) (Sb : List SpS), m_ = ps5.length - jb ∧ E_ = [(0, .int .i64 ((1 + dN : Nat) : Int)), (1, .slice C ans.length c), (2, .int .i64 ticks), (7, .pointer (some ⟨aa, 0, none⟩)), (16, .int .i64 (q9 : Int)), (145, .slice ac ps5.length ad), (146, .int .i64 (ps5.length : Int)), (147, .int .i64 (jb : Int))] ∧ Cx w [] w_ [(aa, .cells #[.slice ac ps5.length ad, .pointer (some ⟨p21, 0, none⟩), .slice aG 0 aH, .slice aI 0 aJ, .int .i64 (nw9 + 1)] 60)] [blk (.slice ac ps5.length ad), Fb, F410, B411, B412, R413] ∧ World.ownsRow w_ 0 24 1 (.slice ac ps5.length ad) ps5.length (ps5.flatMap encPt) ∧ lsAt w_ F410 p21 L9 ∧ qAt w_ B411 aG 0 aH [] ∧ qAt w_ B412 aI 0 aJ [] ∧ spsAt w_ Fb ps5 Sb ∧ (jb ≤ ps5.length ∧ TickI S9 L9 (nw9 + 1) t9 g9 jb Sb)) ⟨_, _, ⟨0, F409, S9, rfl, rfl, b8, e7, e9, fa, fb, e8, Nat.zero_le _, hR9.j.tick _⟩, sub_of ⟨rfl, rfl, rfl, rfl, rfl, rfl, rfl, rfl, trivial⟩⟩ (fun m451 E_ fe jz ff fg => ?_)
     obtain ⟨jb, Fb, Sb, rfl, rfl, ar, spr_m451, ls_m451, qu_m451, qd_m451, hspsb, hjb, hTib⟩ := fg
     have hslb_ := spsAt_len hspsb
     refine WCs (fun jA fh => ?_)
     refine WCg (WLq 1 [(148, .bool (decide ((jb : Int) < (ps5.length : Int))))] (WLd rfl (QXn (fh _ _ ?_))))
     refine WCs (fun jB fi => ?_)
     refine WCa 148 (decide ((jb : Int) < (ps5.length : Int))) rfl (fun bA => ?_) (fun bA => ?_)
     ·
      have hO : (jb : Int) < (ps5.length : Int) := by have q_ := of_decide_eq_true bA; omega
      refine WCt rfl ?_
      refine WC.skip ?_
      refine QXn (fi _ _ ?_)
      refine WCs (fun jC fj => ?_)
      refine WC.block ?_
      refine WCs (fun jD fk => ?_)
      refine WCg ?_
      have ii := own_count encPt_len (by decide) spr_m451
      obtain ⟨cL, bB⟩ := get_some (xs := ps5) (i := jb) (by omega)
      obtain ⟨b465, b9⟩ := own_addr (by decide) encPt_len spr_m451 bB
      refine WLi ac ps5.length ad 149 .i64 (jb : Int) b465 0 jb 1 (by kernel_rfl) b9 (by omega) (by omega) jb (by first | (simp; done) | omega) ?_
      refine WLo 24 (.pointer (some ⟨b465, jb, none⟩)) (.pointer (some ⟨cL, 0, none⟩)) 150 (run_load1 rfl (by simpa [Nat.add_assoc] using Rd.cell (own_rd spr_m451 encPt_len (by decide)) b9 bB 0 _ rfl)) ?_
      refine WLq 1 [(18, .pointer (some ⟨cL, 0, none⟩))] (WLd rfl (QXn (fk _ _ ?_)))
      refine WCg (WLq 4 [(154, .pointer (some ⟨aa, 4, none⟩)), (153, .pointer (some ⟨aa, 0, none⟩)), (152, .pointer (some ⟨aa, 0, none⟩)), (151, .pointer (some ⟨cL, 0, none⟩))] ?_)
      refine WLo 3 (.pointer (some ⟨aa, 4, none⟩)) (.int .i64 (nw9 + 1)) 155 (run_ld (ar.get 0 rfl) rfl) ?_
      obtain ⟨sg468, aK⟩ := get_some (xs := Sb) (i := jb) (by omega)
      have hvk_sg468 := hTib.inv.vk _ (List.mem_of_getElem? aK)
      obtain ⟨F470, cM, aj, cN⟩ := spsAt_one hspsb bB aK
      refine WLc rfl rfl rfl rfl rfl (by kernel_rfl) (TickG_ct F470 _ 5 sg468.o sg468.vs sg468.V (nw9 + 1) fe cM ⟨hvk_sg468.2, vok_rng hvk_sg468.1⟩ (Nat.le_trans (hTib.v2 _ (List.mem_of_getElem? aK)) (by decide))) ?_
      rintro _ hP ⟨F475, rfl, aA, cO, bU⟩
      obtain ⟨F479, a5, cP, _⟩ := cN hP F475 ⟨sg468.o, sg468.vs, sg468.V ++ tickV 5 sg468.o sg468.vs (nw9 + 1)⟩ [] aA cO bU (by simp) (fun _ _ => by simp)
      have fl := ar.callF 1 rfl (aA.mono aj) (fun x_ h_ => (cP x_ h_).2) (spsAt_lt a5)
      refine ⟨_, rfl, ?_⟩
      have fm := own_fr spr_m451 (aA.mono aj) (ar.disj 0 1 rfl rfl (by decide))
      have fn := lsAt_fr ls_m451 (aA.mono aj) (ar.disj 2 1 rfl rfl (by decide))
      have fo := qAt.fr qu_m451 (aA.mono aj) (ar.disj 3 1 rfl rfl (by decide))
      have fp := qAt.fr qd_m451 (aA.mono aj) (ar.disj 4 1 rfl rfl (by decide))
      refine WLd rfl ?_
      refine QXb ?_
      refine QXn (fj _ _ ?_)
      refine WCg (WLq 1 [(157, .int .i64 (IntKind.i64.wrap ((jb : Int) + 1)))] ?_)
      refine WLt (show (.int .i64 (IntKind.i64.wrap ((jb : Int) + 1)) : Value) = .int .i64 ((jb : Int) + 1) from by rw [wrap_in_i64 ((jb : Int) + 1) (by omega) (by omega)]) ?_
      refine WLq 1 [(147, .int .i64 ((jb : Int) + 1))] ?_
      refine WLd rfl ?_
      refine QXn ?_
      have fq := fl.pick [0] [0, 1, 2, 3, 4, 5] rfl rfl
      refine fun a_ ha_ => ff _ _ _ ?_ ⟨jb + 1, F479, (Sb.set jb ⟨sg468.o, sg468.vs, sg468.V ++ tickV 5 sg468.o sg468.vs (nw9 + 1)⟩), rfl, rfl, fq, fm, fn, fo, fp, a5, by omega, hTib.step hR9.j.v1 aK htim9_⟩ a_ (ha_.weaken (sub_of ⟨rfl, rfl, rfl, rfl, rfl, rfl, rfl, rfl, trivial⟩))
      omega
     ·
      have hO : (ps5.length : Int) ≤ (jb : Int) := by have q_ := of_decide_eq_false bA; omega
      refine WCf rfl ?_
      refine WC.exit ?_
      refine QXe ?_
      refine QXe ?_
      refine QX.block_hit ?_
      refine QXn (fc _ _ ?_)
      refine WCs (fun jE fs => ?_)
      refine WCg (WLq 1 [(158, .pointer (some ⟨aa, 0, none⟩))] ?_)
      obtain ⟨F491, cQ, ft⟩ := pr_close (Cx.pickX ar [0] [0, 1, 2, 3, 4, 5] (by decide) (by decide) rfl rfl) spr_m451 hspsb ls_m451 qu_m451 qd_m451
      refine WLc rfl rfl rfl rfl rfl (by kernel_rfl) (carry_ct F491 aa p21 ps5 Sb L9 (nw9 + 1) (fun _ => nxT (nw9 + 1) t9) t9 (fun _ => nxG (nw9 + 1) g9) False fe cQ (hTib.inv.tickE (by omega)) hTib.v2 (fun h_ => h_.elim) htim9_ (fun _ => hxa9_) hxb9_) ?_
      rintro _ hQ ⟨F494, S495, L496, rfl, fu, bC, bV, fv, ca, hR, cR⟩
      have fw := ft.callF 0 rfl fu bV (pr_lt bC)
      refine ⟨_, rfl, ?_⟩
      obtain ⟨jF, jG, F508, F509, B510, B511, R512, jH, jI, jJ, jK, fx, cS, bW, cT, cU, cV, ij⟩ := bC
      have fy := Cx.untell fw fx
      refine WLd rfl (QXn (fs _ _ ?_))
      refine WCs (fun jL fz => ?_)
      refine WCg (WLq 1 [(160, .pointer (some ⟨aa, 0, none⟩))] ?_)
      obtain ⟨F527, cW, fA⟩ := pr_close (Cx.pickX fy [0] [0, 1, 2, 3, 4, 5] (by decide) (by decide) rfl rfl) cS bW cT cU cV
      refine WLc rfl rfl rfl rfl rfl (by kernel_rfl) (carry_ct F527 aa p21 ps5 S495 L496 (nw9 + 1) (fun _ => nxT (nw9 + 1) t9) t9 (fun _ => nxG (nw9 + 1) g9) True hQ cW fv (fun σ_ h_ => Nat.le_succ_of_le (ca σ_ h_).1) (fun _ σ_ h_ => (ca σ_ h_).2) htim9_ (fun _ => hxa9_) hxb9_) ?_
      rintro _ jM ⟨F530, S531, L532, rfl, fB, bD, bX, fC, ik, cX, cY⟩
      have fD := fA.callF 0 rfl fB bX (pr_lt bD)
      refine ⟨_, rfl, ?_⟩
      have hRa := hR9.j.after fC (cX trivial) (cY.trans (cR.trans hTib.vs))
      obtain ⟨jN, jO, F544, F545, B546, B547, R548, jP, jQ, jR, jS, fE, cZ, bY, c0, c1, c2, il⟩ := bD
      have fF := Cx.untell fD fE
      refine WLd rfl (QXn (fz _ _ ?_))
      refine WC.drawC fF F545 (by kernel_rfl) (fun hS aQ an ak => ?_)
      have fG := own_fr cZ aQ (by simp)
      have fH := spsAt_fr bY aQ (by simp)
      have fI := lsAt_fr c0 aQ (by simp)
      have fJ := qAt.fr c1 aQ (by simp)
      have fK := qAt.fr c2 aQ (by simp)
      refine WDq (NPb (NPt (NPt (NPb (NPt hN))))) 0 162 (.pointer (some ⟨aa, 0, none⟩)) ak ?_
      refine WDq (NPb (NPt (NPt (NPb (NPt hN))))) 1 163 (.pointer (some ⟨aa, 0, none⟩)) ak ?_
      refine WDq (NPb (NPt (NPt (NPb (NPt hN))))) 2 164 (.pointer (some ⟨aa, 1, none⟩)) ak ?_
      refine WDq (NPb (NPt (NPt (NPb (NPt hN))))) 4 166 (.pointer (some ⟨aa, 0, none⟩)) ak ?_
      refine WDq (NPb (NPt (NPt (NPb (NPt hN))))) 5 167 (.pointer (some ⟨aa, 0, none⟩)) ak ?_
      refine WDq (NPb (NPt (NPt (NPb (NPt hN))))) 6 168 (.pointer (some ⟨aa, 4, none⟩)) ak ?_
      refine WDm (NPb (NPt (NPt (NPb (NPt hN))))) 3 55 (.pointer (some ⟨aa, 1, none⟩)) (.pointer (some ⟨p21, 0, none⟩)) 165 (fun _ hS_ => run_ld (Fr.has hS_ (an.get 0 rfl) (an.notin 2 0 rfl rfl)) rfl) ak ?_
      refine WD.sem 7 (Instr.loadAt 3 (.pointer (some ⟨aa, 4, none⟩))) 169 (.int .i64 (nw9 + 1)) (by kernel_rfl) (by kernel_rfl) (run_ld (an.get 0 rfl) rfl) ak ?_
      refine WD.call 8 (by kernel_rfl) rfl rfl rfl rfl rfl (by kernel_rfl) (Tick_d F545 p21 L532 (nw9 + 1) hS fI) ?_
      rintro _ jT ⟨jU, rfl, aB, aW, _, _⟩
      rw [(hRa.j.inv.lst hxd9_).1] at aW
      have fL := an.callF 2 rfl aB (fun _ h_ => .inl h_) (lsAt_lt aW)
      have fM := ak.trans aB (fun _ h_ => .inl h_)
      refine ⟨_, rfl, fM, ?_⟩
      have fN := own_fr fG aB (an.disj 0 2 rfl rfl (by decide))
      have fO := spsAt_fr fH aB (an.disj 1 2 rfl rfl (by decide))
      have fP := qAt.fr fJ aB (an.disj 3 2 rfl rfl (by decide))
      have fQ := qAt.fr fK aB (an.disj 4 2 rfl rfl (by decide))
      refine WD.done (by kernel_rfl) ?_
      refine QXb ?_
      refine QXn (e5 _ _ ?_)
      refine WCg (WLq 2 [(134, .int .i64 (IntKind.i64.wrap ((q9 : Int) + 1))), (133, .int .i64 (q9 : Int))] ?_)
      refine WLt (show (.int .i64 (IntKind.i64.wrap ((q9 : Int) + 1)) : Value) = .int .i64 ((q9 : Int) + 1) from by rw [wrap_in_i64 ((q9 : Int) + 1) (by omega) (by omega)]) ?_
      refine WLq 1 [(16, .int .i64 ((q9 : Int) + 1))] ?_
      refine WLd rfl ?_
      refine QXn ?_
      obtain ⟨F580, c3, fR⟩ := pr_close (Cx.pickX fL [0] [0, 1, 2, 3, 4, 5] (by decide) (by decide) rfl rfl) fN fO aW fP fQ
      have fS := fR.pick [] [0] rfl rfl
      refine fun a_ ha_ => eZ _ _ _ ?_ ⟨q9 + 1, F580, S531, L532, nw9 + 1, (nxT (nw9 + 1) t9), (nxG (nw9 + 1) g9), rfl, rfl, fS, c3, by omega, hRa, by omega, nx_go hkn9_ hgo9⟩ a_ (ha_.weaken (sub_of ⟨rfl, rfl, rfl, rfl, rfl, trivial⟩))
      omega
    ·
     have hM : (9 : Int) ≤ (q9 : Int) := by have q_ := of_decide_eq_false bz; omega
     refine WCf rfl ?_
     have hg9_ : g9 = true := hgo9.elim id (fun h_ => by omega)
     subst hg9_
     have hcnt_ := hR9.j.inv.count hR9.vz (lsAt_ok aV).2
     rw [sesL_len] at hcnt_
     skip
     refine WC.exit ?_
     refine QXe ?_
     refine QXe ?_
     refine QX.block_hit ?_
     refine QXn (eW _ _ ?_)
     refine WCs (fun jV fT => ?_)
     refine WCs (fun jW fU => ?_)
     refine WCg (WLq 3 [(173, .pointer (some ⟨aa, 0, none⟩)), (172, .pointer (some ⟨aa, 0, none⟩)), (171, .pointer (some ⟨aa, 0, none⟩))] ?_)
     refine WLo 57 (.pointer (some ⟨aa, 0, none⟩)) (.slice ac ps5.length ad) 174 (run_ld (ai.get 0 rfl) rfl) ?_
     refine WLq 2 [(176, .int .i64 0), (175, .int .i64 (ps5.length : Int))] (WLd rfl (QXn (fU _ _ ?_)))
     refine WC.block ?_
     refine WC.loop (fun m_ E_ w_ => ∃ (i9 : Nat), m_ = ps5.length - i9 ∧ E_ = [(0, .int .i64 ((1 + dN : Nat) : Int)), (1, .slice C ans.length c), (7, .pointer (some ⟨aa, 0, none⟩)), (174, .slice ac ps5.length ad), (175, .int .i64 (ps5.length : Int)), (176, .int .i64 (i9 : Int))] ∧ Cx w [] w_ [(aa, .cells #[.slice ac ps5.length ad, .pointer (some ⟨p21, 0, none⟩), .slice aG 0 aH, .slice aI 0 aJ, .int .i64 nw9] 60)] [blk (.slice ac ps5.length ad), F409, F410, B411, B412, R413] ∧ World.ownsRow w_ 0 24 1 (.slice ac ps5.length ad) ps5.length (ps5.flatMap encPt) ∧ spsAt w_ F409 ps5 S9 ∧ lsAt w_ F410 p21 L9 ∧ qAt w_ B411 aG 0 aH [] ∧ qAt w_ B412 aI 0 aJ [] ∧ (i9 ≤ ps5.length)) ⟨_, _, ⟨0, rfl, rfl, ai, bv, a4, aV, bw, bx, Nat.zero_le _⟩, sub_of ⟨rfl, rfl, rfl, rfl, rfl, rfl, trivial⟩⟩ (fun m591 E_ hT jX fV fW => ?_)
     obtain ⟨i9, rfl, rfl, bE, spr_m591, sps_m591, ls_m591, qu_m591, qd_m591, hi9⟩ := fW
     refine WCs (fun jY fX => ?_)
     refine WCg (WLq 1 [(177, .bool (decide ((i9 : Int) < (ps5.length : Int))))] (WLd rfl (QXn (fX _ _ ?_))))
     refine WCs (fun jZ fY => ?_)
     refine WCa 177 (decide ((i9 : Int) < (ps5.length : Int))) rfl (fun bF => ?_) (fun bF => ?_)
     ·
      have hU : (i9 : Int) < (ps5.length : Int) := by have q_ := of_decide_eq_true bF; omega
      refine WCt rfl ?_
      refine WC.skip ?_
      refine QXn (fY _ _ ?_)
      refine WCs (fun j0 fZ => ?_)
      refine WC.block ?_
      refine WCs (fun j1 f0 => ?_)
      refine WCg (WLq 2 [(19, .int .i64 (i9 : Int)), (178, .int .i64 (i9 : Int))] (WLd rfl (QXn (f0 _ _ ?_))))
      refine WCs (fun j2 f1 => ?_)
      refine WCg (WLq 1 [(20, .slice none 0 0)] (WLd rfl (QXn (f1 _ _ ?_))))
      refine WCs (fun j3 f2 => ?_)
      refine WCs (fun j4 f3 => ?_)
      refine WCg (WLq 2 [(21, .int .i64 (i9 : Int)), (179, .int .i64 (i9 : Int))] (WLd rfl (QXn (f3 _ _ ?_))))
      refine WC.block ?_
      refine WC.loop (fun m_ E_ w_ => ∃ (kk : Nat) (A8 : Option Addr) (n8 c8 : Nat) (xs8 : List Int), m_ = ans.length - kk ∧ E_ = [(0, .int .i64 ((1 + dN : Nat) : Int)), (1, .slice C ans.length c), (7, .pointer (some ⟨aa, 0, none⟩)), (19, .int .i64 (i9 : Int)), (20, .slice A8 n8 c8), (21, .int .i64 (kk : Int)), (174, .slice ac ps5.length ad), (175, .int .i64 (ps5.length : Int)), (176, .int .i64 (i9 : Int))] ∧ Cx w [] w_ [(aa, .cells #[.slice ac ps5.length ad, .pointer (some ⟨p21, 0, none⟩), .slice aG 0 aH, .slice aI 0 aJ, .int .i64 nw9] 60)] [blk (.slice ac ps5.length ad), F409, F410, B411, B412, R413] ∧ World.ownsRow w_ 0 24 1 (.slice ac ps5.length ad) ps5.length (ps5.flatMap encPt) ∧ spsAt w_ F409 ps5 S9 ∧ lsAt w_ F410 p21 L9 ∧ qAt w_ B411 aG 0 aH [] ∧ qAt w_ B412 aI 0 aJ [] ∧ ((kk % (1 + dN) = i9 ∧ kk < ans.length + (1 + dN)) ∧ (xs8 = lastF (ans.map (·.xs)) (1 + dN) i9 kk ∧ xs8.length = n8) ∧ Rd w 1 (Go.Tw.encI .u32) A8 xs8 ∧ (∀ v ∈ xs8, 0 ≤ v ∧ v ≤ 4294967295) ∧ n8 ≤ 200)) ⟨_, _, ⟨i9, none, 0, 0, [], rfl, rfl, bE, spr_m591, sps_m591, ls_m591, qu_m591, qd_m591, ⟨Nat.mod_eq_of_lt (by omega), by omega⟩, ⟨(lastF_none (by omega) (by omega) _ (Nat.le_refl _)).symm, rfl⟩, Rd.nil _ _ _ _, by simp, by decide⟩, sub_of ⟨rfl, rfl, rfl, rfl, rfl, rfl, rfl, rfl, rfl, trivial⟩⟩ (fun m612 E_ hV j5 f4 f5 => ?_)
      obtain ⟨kk, A8, n8, c8, xs8, rfl, rfl, a6, spr_m612, sps_m612, ls_m612, qu_m612, qd_m612, ⟨hkk1, hkk2⟩, ⟨hx8, hn8⟩, hr8, hu8, hm8⟩ := f5
      refine WCs (fun j6 f6 => ?_)
      refine WCs (fun j7 f7 => ?_)
      refine WCg (WLq 4 [(183, .bool (decide ((kk : Int) < (ans.length : Int)))), (182, .int .i64 (ans.length : Int)), (181, .slice C ans.length c), (180, .int .i64 (kk : Int))] (WLd rfl (QXn (f7 _ _ ?_))))
      refine WCa 183 (decide ((kk : Int) < (ans.length : Int))) rfl (fun bG => ?_) (fun bG => ?_)
      ·
       have hW : (kk : Int) < (ans.length : Int) := by have q_ := of_decide_eq_true bG; omega
       refine WCt rfl ?_
       refine WC.skip ?_
       refine QXn (f6 _ _ ?_)
       refine WCs (fun ka f8 => ?_)
       refine WC.block ?_
       refine WCg (WLq 2 [(188, .int .i64 (kk : Int)), (187, .slice C ans.length c)] ?_)
       obtain ⟨au, a7⟩ := get_some (xs := ans) (i := kk) (by omega)
       obtain ⟨b624, o626, f9, ga⟩ := hans.at_ _ _ a7
       have han_e622 := hok _ (List.mem_of_getElem? a7)
       have hax_e622 := han_e622.mx
       have hac_e622 := han_e622.le
       simp only [maxLen] at hax_e622
       refine WLi C ans.length c 189 .i64 (kk : Int) b624 o626 kk 1 (by kernel_rfl) f9 (by omega) (by omega) (o626 + kk) (by first | (simp; done) | omega) ?_
       refine WLo 33 (.pointer (some ⟨b624, o626 + kk, none⟩)) (.slice au.a au.xs.length au.c) 190 (run_load1 rfl (by simpa [Nat.add_assoc] using a6.fr.cell (ga 0 _ rfl) (by simp))) ?_
       refine WLq 1 [(20, .slice au.a au.xs.length au.c)] ?_
       refine WLd rfl ?_
       refine QXb ?_
       refine QXn (f8 _ _ ?_)
       refine WCg (WLq 3 [(186, .int .i64 (IntKind.i64.wrap ((kk : Int) + ((1 + dN : Nat) : Int)))), (185, .int .i64 ((1 + dN : Nat) : Int)), (184, .int .i64 (kk : Int))] ?_)
       refine WLt (show (.int .i64 (IntKind.i64.wrap ((kk : Int) + ((1 + dN : Nat) : Int))) : Value) = .int .i64 ((kk + (1 + dN) : Nat) : Int) from by rw [wrap_in_i64 _ (by omega) (by omega)] <;> first | rfl | (congr 1; omega)) ?_
       refine WLq 1 [(21, .int .i64 ((kk + (1 + dN) : Nat) : Int))] ?_
       refine WLd rfl ?_
       refine QXn ?_
       have gb := a6.pick [0] [0, 1, 2, 3, 4, 5] rfl rfl
       refine fun a_ ha_ => f4 _ _ _ ?_ ⟨kk + (1 + dN), au.a, au.xs.length, au.c, au.xs, rfl, rfl, gb, spr_m612, sps_m612, ls_m612, qu_m612, qd_m612, ⟨by rw [Nat.add_mod_right]; exact hkk1, by omega⟩, ⟨by have z_ := lastF_jump (A := (ans.map (·.xs))) (x := au.xs) hkk1 (by rw [List.getElem?_map, a7]; rfl) (show 0 < 1 + dN by omega) dN (by omega); rw [← Nat.add_assoc]; exact z_.symm, rfl⟩, han_e622.rd, han_e622.u32, hsm6 kk _ (by omega) a7⟩ a_ (ha_.weaken (sub_of ⟨rfl, rfl, rfl, rfl, rfl, rfl, rfl, rfl, rfl, trivial⟩))
       omega
      ·
       have hW : (ans.length : Int) ≤ (kk : Int) := by have q_ := of_decide_eq_false bG; omega
       refine WCf rfl ?_
       obtain ⟨sg629, av⟩ := get_some (xs := S9) (i := i9) (by omega)
       have hvk_sg629 := hR9.j.inv.vk _ (List.mem_of_getElem? av)
       have hpast_ := lastF_past (A := (ans.map (·.xs))) (by rw [List.length_map]; omega) hkk1 (show 0 < 1 + dN by omega) (kk - ans.length) (by omega) (by rw [List.length_map]; omega)
       rw [List.length_map] at hpast_
       have hlv_ : sg629.vs = annV xs8 := by rw [hR9.j.last i9 sg629 av, hpast_, ← hx8]
       obtain ⟨hop_, _⟩ := hR9.j.inv.all hR9.vz av
       skip
       refine WC.exit ?_
       refine QXe ?_
       refine QXe ?_
       refine QX.block_hit ?_
       refine QXn (f2 _ _ ?_)
       refine WCs (fun kb gc => ?_)
       refine WCs (fun kc gd => ?_)
       refine WCg (WLq 1 [(191, .slice A8 n8 c8)] ?_)
       refine WLc rfl rfl rfl rfl rfl (by kernel_rfl) (RSorted_n A8 n8 c8 xs8 hn8 hV (Rd.fr hr8 a6.fr) (by omega) hu8) ?_
       rintro _ kd ⟨v_, rfl, aC, a8⟩
       have gf := a6.callN aC (own_ge a8) (own_lt a8)
       obtain ⟨bZ, b0, rfl, hX⟩ := own_form a8
       have gg := own_base (b' := 0) a8 (fun _ _ => Nat.zero_le _)
       refine ⟨_, rfl, ?_⟩
       have gh := own_fr spr_m612 aC (by simp)
       have gi := spsAt_fr sps_m612 aC (by simp)
       have gj := lsAt_fr ls_m612 aC (by simp)
       have gk := qAt.fr qu_m612 aC (by simp)
       have gl := qAt.fr qd_m612 aC (by simp)
       refine WLq 2 [(194, .int .i64 0), (193, .int .i64 ((annV xs8).length : Int))] (WLd rfl (QXn (gd _ _ ?_)))
       refine WC.block ?_
       refine WC.loop (fun m_ E_ w_ => ∃ (j9 : Nat), m_ = (annV xs8).length - j9 ∧ E_ = [(0, .int .i64 ((1 + dN : Nat) : Int)), (1, .slice C ans.length c), (7, .pointer (some ⟨aa, 0, none⟩)), (19, .int .i64 (i9 : Int)), (174, .slice ac ps5.length ad), (175, .int .i64 (ps5.length : Int)), (176, .int .i64 (i9 : Int)), (192, .slice bZ ((annV xs8).length) b0), (193, .int .i64 ((annV xs8).length : Int)), (194, .int .i64 (j9 : Int))] ∧ Cx w [] w_ [(aa, .cells #[.slice ac ps5.length ad, .pointer (some ⟨p21, 0, none⟩), .slice aG 0 aH, .slice aI 0 aJ, .int .i64 nw9] 60)] [blk (.slice ac ps5.length ad), F409, F410, B411, B412, R413, blk (.slice bZ ((annV xs8).length) b0)] ∧ World.ownsRow w_ 0 24 1 (.slice ac ps5.length ad) ps5.length (ps5.flatMap encPt) ∧ spsAt w_ F409 ps5 S9 ∧ lsAt w_ F410 p21 L9 ∧ qAt w_ B411 aG 0 aH [] ∧ qAt w_ B412 aI 0 aJ [] ∧ World.ownsRow w_ 0 44 1 (.slice bZ ((annV xs8).length) b0) ((annV xs8).length) ((annV xs8).flatMap (Go.Tw.encI .u32)) ∧ (j9 ≤ (annV xs8).length)) ⟨_, _, ⟨0, rfl, rfl, gf, gh, gi, gj, gk, gl, gg, Nat.zero_le _⟩, sub_of ⟨rfl, rfl, rfl, rfl, rfl, rfl, rfl, rfl, rfl, rfl, trivial⟩⟩ (fun m652 E_ gm ke gn go => ?_)
       obtain ⟨j9, rfl, rfl, a9, spr_m652, sps_m652, ls_m652, qu_m652, qd_m652, vrow_m652, hj9⟩ := go
       have han8_ := (annV_ok hu8).1
       refine WCs (fun kf gp => ?_)
       refine WCg (WLq 1 [(195, .bool (decide ((j9 : Int) < ((annV xs8).length : Int))))] (WLd rfl (QXn (gp _ _ ?_))))
       refine WCs (fun kg gq => ?_)
       refine WCa 195 (decide ((j9 : Int) < ((annV xs8).length : Int))) rfl (fun bH => ?_) (fun bH => ?_)
       ·
        have hY : (j9 : Int) < ((annV xs8).length : Int) := by have q_ := of_decide_eq_true bH; omega
        refine WCt rfl ?_
        refine WC.skip ?_
        refine QXn (gq _ _ ?_)
        refine WCs (fun kh gr => ?_)
        refine WC.block ?_
        refine WCs (fun ki gs => ?_)
        refine WCg ?_
        have im := own_count (Go.Tw.encI_len _) (by decide) vrow_m652
        obtain ⟨aL, bI⟩ := get_some (xs := (annV xs8)) (i := j9) (by omega)
        obtain ⟨b666, cb⟩ := own_addr (by decide) (Go.Tw.encI_len _) vrow_m652 bI
        refine WLi bZ ((annV xs8).length) b0 196 .i64 (j9 : Int) b666 0 j9 1 (by kernel_rfl) cb (by omega) (by omega) j9 (by first | (simp; done) | omega) ?_
        refine WLo 44 (.pointer (some ⟨b666, j9, none⟩)) (.int .u32 aL) 197 (run_load1 rfl (by simpa [Nat.add_assoc] using Rd.cell (own_rd vrow_m652 (Go.Tw.encI_len _) (by decide)) cb bI 0 _ rfl)) ?_
        refine WLq 1 [(23, .int .u32 aL)] (WLd rfl (QXn (gs _ _ ?_)))
        refine WCs (fun kj gu => ?_)
        refine WCg (WLq 3 [(200, .pointer (some ⟨aa, 1, none⟩)), (199, .pointer (some ⟨aa, 0, none⟩)), (198, .pointer (some ⟨aa, 0, none⟩))] ?_)
        refine WLo 55 (.pointer (some ⟨aa, 1, none⟩)) (.pointer (some ⟨p21, 0, none⟩)) 201 (run_ld (a9.get 0 rfl) rfl) ?_
        refine WLq 1 [(202, .int .u32 aL)] ?_
        refine WLc rfl rfl rfl rfl rfl (by kernel_rfl) (Muxes_e F410 p21 L9 aL (muxesL L9 aL) (rfl) gm ls_m652) ?_
        rintro _ hZ ⟨v_, rfl, aw, ba⟩
        have gv := a9.callN aw (own_ge ba) (own_lt ba)
        obtain ⟨h0, h1, rfl, h2⟩ := own_form ba
        have bJ := own_base (b' := 0) ba (fun _ _ => Nat.zero_le _)
        refine ⟨_, rfl, ?_⟩
        have gw := own_fr spr_m652 aw (by simp)
        have gx := spsAt_fr sps_m652 aw (by simp)
        have gy := lsAt_fr ls_m652 aw (by simp)
        have gz := qAt.fr qu_m652 aw (by simp)
        have gA := qAt.fr qd_m652 aw (by simp)
        have gB := own_fr vrow_m652 aw (by simp)
        refine WLq 2 [(205, .int .i64 (IntKind.i64.wrap (32 + (i9 : Int)))), (204, .int .i64 (i9 : Int))] ?_
        refine WLt (show (.int .i64 (IntKind.i64.wrap (32 + (i9 : Int))) : Value) = .int .i64 (32 + (i9 : Int)) from by rw [wrap_in_i64 (32 + (i9 : Int)) (by omega) (by omega)]) ?_
        refine WLc rfl rfl rfl rfl rfl (by kernel_rfl) (has_n h0 ((muxesL L9 aL).length) h1 (muxesL L9 aL) (32 + (i9 : Int)) hZ (own_rd bJ (Go.Tw.encI_len _) (by decide)) (own_count (Go.Tw.encI_len _) (by decide) bJ) (own_max bJ)) ?_
        rintro _ kl ⟨rfl, ax⟩
        refine ⟨_, rfl, ?_⟩
        have gC := gv.call ax
        have gD := own_fr gw ax (by simp)
        have gE := spsAt_fr gx ax (by simp)
        have gF := lsAt_fr gy ax (by simp)
        have gG := qAt.fr gz ax (by simp)
        have gH := qAt.fr gA ax (by simp)
        have gI := own_fr gB ax (by simp)
        refine WLq 1 [(207, .bool (!((muxesL L9 aL).contains (32 + (i9 : Int)))))] (WLd rfl (QXn (gu _ _ ?_)))
        refine WC.know 207 (.bool (!((muxesL L9 aL).contains (32 + (i9 : Int))))) (.bool false) rfl (congrArg Value.bool (by rw [hR9.j.inv.mux hR9.vz av (by rw [hlv_]; exact List.mem_of_getElem? bI)]; rfl)) ?_
        refine WCf rfl (WC.skip ?_)
        refine QXb ?_
        refine QXn (gr _ _ ?_)
        refine WCg (WLq 1 [(208, .int .i64 (IntKind.i64.wrap ((j9 : Int) + 1)))] ?_)
        refine WLt (show (.int .i64 (IntKind.i64.wrap ((j9 : Int) + 1)) : Value) = .int .i64 ((j9 : Int) + 1) from by rw [wrap_in_i64 ((j9 : Int) + 1) (by omega) (by omega)]) ?_
        refine WLq 1 [(194, .int .i64 ((j9 : Int) + 1))] ?_
        refine WLd rfl ?_
        refine QXn ?_
        have gJ := gC.pick [0] [0, 1, 2, 3, 4, 5, 6] rfl rfl
        refine fun a_ ha_ => gn _ _ _ ?_ ⟨j9 + 1, rfl, rfl, gJ, gD, gE, gF, gG, gH, gI, by omega⟩ a_ (ha_.weaken (sub_of ⟨rfl, rfl, rfl, rfl, rfl, rfl, rfl, rfl, rfl, rfl, trivial⟩))
        omega
       ·
        have hY : ((annV xs8).length : Int) ≤ (j9 : Int) := by have q_ := of_decide_eq_false bH; omega
        refine WCf rfl ?_
        refine WC.exit ?_
        refine QXe ?_
        refine QXe ?_
        refine QX.block_hit ?_
        refine QXn (gc _ _ ?_)
        refine WCs (fun km gK => ?_)
        refine WCg (WLq 3 [(211, .pointer (some ⟨aa, 0, none⟩)), (210, .pointer (some ⟨aa, 0, none⟩)), (209, .pointer (some ⟨aa, 0, none⟩))] ?_)
        refine WLo 57 (.pointer (some ⟨aa, 0, none⟩)) (.slice ac ps5.length ad) 212 (run_ld (a9.get 0 rfl) rfl) ?_
        refine WLq 1 [(213, .int .i64 (i9 : Int))] ?_
        have io := own_count encPt_len (by decide) spr_m652
        obtain ⟨h3, bK⟩ := get_some (xs := ps5) (i := i9) (by omega)
        obtain ⟨b702, cc⟩ := own_addr (by decide) encPt_len spr_m652 bK
        refine WLi ac ps5.length ad 214 .i64 (i9 : Int) b702 0 i9 1 (by kernel_rfl) cc (by omega) (by omega) i9 (by first | (simp; done) | omega) ?_
        refine WLo 24 (.pointer (some ⟨b702, i9, none⟩)) (.pointer (some ⟨h3, 0, none⟩)) 215 (run_load1 rfl (by simpa [Nat.add_assoc] using Rd.cell (own_rd spr_m652 encPt_len (by decide)) cc bK 0 _ rfl)) ?_
        obtain ⟨F705, c4, _, _⟩ := spsAt_one sps_m652 bK av
        refine WLc rfl rfl rfl rfl rfl (by kernel_rfl) (OpenG_ct F705 _ 5 sg629.o sg629.vs sg629.V gm c4) ?_
        rintro _ kn ⟨rfl, aD⟩
        refine ⟨_, rfl, ?_⟩
        have gL := a9.call aD
        have gM := own_fr spr_m652 aD (by simp)
        have gN := spsAt_fr sps_m652 aD (by simp)
        have gO := lsAt_fr ls_m652 aD (by simp)
        have gP := qAt.fr qu_m652 aD (by simp)
        have gQ := qAt.fr qd_m652 aD (by simp)
        refine WLq 1 [(217, .bool !sg629.o)] (WLd rfl (QXn (gK _ _ ?_)))
        refine WC.know 217 (.bool !sg629.o) (.bool false) rfl (congrArg Value.bool (by rw [hop_]; rfl)) ?_
        refine WCf rfl (WC.skip ?_)
        refine QXb ?_
        refine QXn (fZ _ _ ?_)
        refine WCg (WLq 1 [(218, .int .i64 (IntKind.i64.wrap ((i9 : Int) + 1)))] ?_)
        refine WLt (show (.int .i64 (IntKind.i64.wrap ((i9 : Int) + 1)) : Value) = .int .i64 ((i9 : Int) + 1) from by rw [wrap_in_i64 ((i9 : Int) + 1) (by omega) (by omega)]) ?_
        refine WLq 1 [(176, .int .i64 ((i9 : Int) + 1))] ?_
        refine WLd rfl ?_
        refine QXn ?_
        have gR := gL.pick [0] [0, 1, 2, 3, 4, 5] rfl rfl
        refine fun a_ ha_ => fV _ _ _ ?_ ⟨i9 + 1, rfl, rfl, gR, gM, gN, gO, gP, gQ, by omega⟩ a_ (ha_.weaken (sub_of ⟨rfl, rfl, rfl, rfl, rfl, rfl, trivial⟩))
        omega
     ·
      have hU : (ps5.length : Int) ≤ (i9 : Int) := by have q_ := of_decide_eq_false bF; omega
      refine WCf rfl ?_
      refine WC.exit ?_
      refine QXe ?_
      refine QXe ?_
      refine QX.block_hit ?_
      refine QXn (fT _ _ ?_)
      refine WCs (fun ko gS => ?_)
      refine WCg (WLq 3 [(221, .pointer (some ⟨aa, 1, none⟩)), (220, .pointer (some ⟨aa, 0, none⟩)), (219, .pointer (some ⟨aa, 0, none⟩))] ?_)
      refine WLo 55 (.pointer (some ⟨aa, 1, none⟩)) (.pointer (some ⟨p21, 0, none⟩)) 222 (run_ld (bE.get 0 rfl) rfl) ?_
      refine WLc rfl rfl rfl rfl rfl (by kernel_rfl) (Sessions_ct F410 p21 L9 hT ls_m591) ?_
      rintro _ kp ⟨v_, rfl, aR, bb⟩
      have gT := bE.callN aR (own_ge bb) (own_lt bb)
      obtain ⟨kq, kr, rfl, h4⟩ := own_form bb
      have ip := own_base (b' := 0) bb (fun _ _ => Nat.zero_le _)
      refine ⟨_, rfl, ?_⟩
      have iq := spsAt_fr sps_m591 aR (by simp)
      have ir := lsAt_fr ls_m591 aR (by simp)
      have it := qAt.fr qu_m591 aR (by simp)
      have iu := qAt.fr qd_m591 aR (by simp)
      refine WLq 4 [(6, .bool ((L9.length : Int) == ((1 + dN : Nat) : Int))), (226, .bool ((L9.length : Int) == ((1 + dN : Nat) : Int))), (225, .int .i64 ((1 + dN : Nat) : Int)), (224, .int .i64 (L9.length : Int))] (WLd rfl (QXn (gS _ _ ?_)))
      refine WC.ret ?_
      refine (hret _ _ _ rfl ?_).1
      exact ⟨congrArg (fun b_ => Ending.returned (Value.bool b_)) (show (((L9.length : Int) == ((1 + dN : Nat) : Int)) : Bool) = true from by simp; omega), gT.fr⟩

end Go.Proofs.Ytmahghppojbeoaa
