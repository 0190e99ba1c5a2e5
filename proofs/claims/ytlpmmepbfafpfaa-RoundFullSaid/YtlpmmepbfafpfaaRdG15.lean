/- Contracts of functions of the program, each proved by a walk through its code; conditions stand in the statements. -/
import Derived.Test.YtlpmmepbfafpfaaRdF15
namespace Go.Proofs.Ytlpmmepbfafpfaa
set_option linter.unusedSimpArgs false
set_option linter.unusedVariables false
set_option linter.unusedSectionVars false
open Go Go.RowKit Go.Tw
set_option linter.unusedVariables false
set_option maxRecDepth 20000
theorem New_n (n : Int) (b : Int × Int) (A : Option Addr) (k c : Nat) (want : List Cm) (w : World) (h0 : 1 ≤ n) (h1 : n ≤ 8) (hr : Rd w 12 cellsC A want) (hok : okL want) (hw1 : want.length ≤ 1) (hk : want.length = k) : Calls Try.prog 8 #[.int .i64 n, .agg #[.int .i64 b.1, .int .i64 b.2], .slice A k c] w fun e w' => ∃ p F, e = .returned (.tuple #[.pointer (some ⟨p, 0, none⟩), .nilIface]) ∧ Fr w w' [] ∧ rdAt w' F p (⟨n, [], b.1, b.2, want, 1, 0, 0, []⟩ : Rn) ∧ ∀ x ∈ F, w.heap.size ≤ x := by subst hk; exact New_ct n b A c want w h0 h1 hr hok hw1
theorem Promise_to (F : List Nat) (p : Nat) (T : Rn) (node an ad : Int) (A : Option Addr) (k c : Nat) (log : List Cm) (w : World) (T2 : Rn) (s2 : Int) (hT2 : promT T node an ad log = T2) (hs2 : T2.stage = s2) (ht : rdAt w F p T) (hn0_ : 1 ≤ T.n) (hn1_ : T.n ≤ 8) (hhl_ : T.hv.length ≤ 900) (hwl_ : T.want.length ≤ 1) (hll_ : T.log.length ≤ 256) (hr : Rd w 12 cellsC A log) (hok : okL log) (hk : log.length = k) (hAF : ∀ b off, A = some ⟨b, off, none⟩ → b ∉ F) : Calls Try.prog 9 #[.pointer (some ⟨p, 0, none⟩), .int .i64 node, .agg #[.int .i64 an, .int .i64 ad], .slice A k c] w fun e w' => ∃ F2, e = .returned (.int .i64 s2) ∧ Fr w w' F ∧ rdAt w' F2 p T2 ∧ ∀ x ∈ F2, x ∈ F ∨ w.heap.size ≤ x := by
  subst hT2 hs2 hk; exact Promise_ct F p T node an ad A c log w ht hn0_ hn1_ hhl_ hwl_ hll_ hr hok hAF
theorem Accepted_to (F : List Nat) (p : Nat) (T : Rn) (node : Int) (w : World) (T2 : Rn) (s2 : Int) (hT2 : accT T node = T2) (hs2 : T2.stage = s2) (ht : rdAt w F p T) (hn0_ : 1 ≤ T.n) (hn1_ : T.n ≤ 8) (hhl_ : T.hv.length ≤ 900) (hwl_ : T.want.length ≤ 1) (hll_ : T.log.length ≤ 70000) : Calls Try.prog 13 #[.pointer (some ⟨p, 0, none⟩), .int .i64 node] w fun e w' => ∃ F2, e = .returned (.int .i64 s2) ∧ Fr w w' F ∧ rdAt w' F2 p T2 ∧ ∀ x ∈ F2, x ∈ F ∨ w.heap.size ≤ x := by
  subst hT2 hs2; exact Accepted_ct F p T node w ht hn0_ hn1_ hhl_ hwl_ hll_
theorem Log_to (F : List Nat) (p : Nat) (T : Rn) (w : World) (L : List Cm) (hL : logOf T = L) (ht : rdAt w F p T) (hll_ : T.log.length ≤ 70000) : Calls Try.prog 11 #[.pointer (some ⟨p, 0, none⟩)] w fun e w' => ∃ v, e = .returned v ∧ Fr w w' [] ∧ w'.ownsRow w.heap.size 44 12 v L.length (L.flatMap cellsC) := by subst hL; exact Log_ct F p T w ht hll_
theorem Missing_to (F : List Nat) (p : Nat) (T : Rn) (w : World) (L : List Int) (hL : misOf T = L) (ht : rdAt w F p T) (hv0 : T.hv = []) (h0_ : 0 ≤ T.n) (h1_ : T.n ≤ 8) : Calls Try.prog 14 #[.pointer (some ⟨p, 0, none⟩)] w fun e w' => ∃ v, e = .returned v ∧ Fr w w' [] ∧ w'.ownsRow w.heap.size 3 1 v L.length (L.flatMap (Go.Tw.encI .i64)) := by subst hL; exact Missing_ct F p T w ht hv0 h0_ h1_
theorem Place_to (F : List Nat) (p : Nat) (T : Rn) (w : World) (k : Int) (hk : placeOf T = k) (ht : rdAt w F p T) (hll_ : T.log.length ≤ 70000) : Calls Try.prog 10 #[.pointer (some ⟨p, 0, none⟩)] w fun e w' => e = .returned (.int .i64 k) ∧ Fr w w' [] := by
  subst hk; exact Place_ct F p T w ht hll_ (by unfold logOf; split <;> simp [hll_])
theorem health_ct (node seq : Int) (w : World) : Calls Try.prog 12 #[.int .i64 node, .int .i64 seq] w fun e w' => e = .returned (.agg #[.int .i64 node, .int .i64 0, .int .i64 seq, .int .i64 0, .int .i64 3, .int .u32 0, .int .i64 0, .int .i64 0, .slice none 0 0, .int .u32 167837697, .int .u32 0, .bool true]) ∧ Fr w w' [] := by
  refine enterD (n := 8) Try.func12 rfl rfl (Nat.le_of_ble_eq_true rfl) ?_
  intro Q0 hN hret hret'
  have hC := Cx.start w
  refine WC.seq (fun K1 hK2 => ?_)
  refine WC.region ?_
  refine WL.newM hC (fun b => .pointer (some ⟨b, 0, none⟩)) (.cells #[.int .i64 0, .int .i64 0, .int .i64 0, .int .i64 0, .int .i64 0, .int .u32 0, .int .i64 0, .int .i64 0, .slice none 0 0, .int .u32 0, .int .u32 0, .bool false] 44) 4 (fun _ => by kernel_rfl) (fun g3 w4 hb7 hF5 hC6 => ?_)
  refine WL.done rfl ?_
  refine QX.then_normal (hK2 _ _ ?_)
  refine WC.seq (fun K8 hK9 => ?_)
  refine WC.region ?_
  refine WL.runs 3 [(7, .agg #[.int .i64 node, .int .i64 0, .int .i64 seq, .int .i64 0, .int .i64 3, .int .u32 0, .int .i64 0, .int .i64 0, .slice none 0 0, .int .u32 167837697, .int .u32 0, .bool true]), (6, .int .i64 seq), (5, .int .i64 node)] (fun _ => by kernel_rfl) ?_
  refine WL.storeM (c' := #[.int .i64 node, .int .i64 0, .int .i64 seq, .int .i64 0, .int .i64 3, .int .u32 0, .int .i64 0, .int .i64 0, .slice none 0 0, .int .u32 167837697, .int .u32 0, .bool true]) hC6 0 44 g3 0 (.agg #[.int .i64 node, .int .i64 0, .int .i64 seq, .int .i64 0, .int .i64 3, .int .u32 0, .int .i64 0, .int .i64 0, .slice none 0 0, .int .u32 167837697, .int .u32 0, .bool true]) (by kernel_rfl) rfl (by kernel_rfl) (fun w10 hF12 hC13 => ?_)
  refine WL.done rfl ?_
  refine QX.then_normal (hK9 _ _ ?_)
  refine WC.ret ?_
  refine (hret' _ _ (.agg #[.int .i64 node, .int .i64 0, .int .i64 seq, .int .i64 0, .int .i64 3, .int .u32 0, .int .i64 0, .int .i64 0, .slice none 0 0, .int .u32 167837697, .int .u32 0, .bool true]) (fun a ha => ?_) ?_).1
  · exact res_run ha ((ResR.cell rfl (run_ld (hC13.get 0 rfl) rfl) ResR.nil)) rfl
  clear hN hret hret' hK9 hK2
  exact ⟨rfl, hC13.fr⟩

theorem alive_ct  (w : World) : Calls Try.prog 7 #[] w fun e w' => e = .returned (.bool true) ∧ Fr w w' [] := by
  refine enterD (n := 56) Try.func7 rfl rfl (Nat.le_of_ble_eq_true rfl) ?_
  intro Q0 hN hret hret'
  have hC := Cx.start w
  refine WC.seq (fun K1 hK2 => ?_)
  refine WC.region ?_
  refine WL.runs 1 [(0, .bool false)] (fun _ => by kernel_rfl) ?_
  refine WL.done rfl ?_
  refine QX.then_normal (hK2 _ _ ?_)
  refine WC.seq (fun K3 hK4 => ?_)
  refine WC.region ?_
  refine WL.runs 1 [(7, .agg #[.int .i64 1, .int .i64 16])] (fun _ => by kernel_rfl) ?_
  refine WL.call rfl rfl rfl rfl rfl (by kernel_rfl) (health_ct 16 1 w) ?_
  rintro _ w6 ⟨rfl, hF5⟩
  refine ⟨_, rfl, ?_⟩
  have hC7 := hC.call hF5
  refine WL.newM hC7 (fun b => .slice (some ⟨b, 0, none⟩) 1 1) (.cells #[.int .i64 16, .int .i64 0, .int .i64 1, .int .i64 0, .int .i64 3, .int .u32 0, .int .i64 0, .int .i64 0, .slice none 0 0, .int .u32 167837697, .int .u32 0, .bool true] 44) 9 (fun _ => by kernel_rfl) (fun g8 w9 hb12 hF10 hC11 => ?_)
  refine WL.call rfl rfl rfl rfl rfl (by kernel_rfl) (New_n 3 (1, 16) (some ⟨g8, 0, none⟩) 1 1 [(⟨16, 0, 1, 0, 3, 167837697, 0, true⟩ : Cm)] w9 (by omega) (by omega) (Rd.blk (hC11.get 0 rfl) cellsC_len rfl) (okL_one ⟨by decide, ⟨by decide, by decide⟩, ⟨by decide, by decide⟩, ⟨by decide, by decide⟩, by decide +kernel, by decide, by decide, by decide⟩) (by simp) rfl) ?_
  rintro _ w21 ⟨p13, F14, rfl, hF20, hT18, hge19⟩
  have hC22 := hC11.callN hF20 hge19 (rdAt_lt hT18)
  refine ⟨_, rfl, ?_⟩
  refine WL.runs 5 [(2, .nilIface), (1, .pointer (some ⟨p13, 0, none⟩)), (12, .nilIface), (11, .pointer (some ⟨p13, 0, none⟩)), (6, .tuple #[.pointer (some ⟨p13, 0, none⟩), .nilIface])] (fun _ => by kernel_rfl) ?_
  refine WL.done rfl ?_
  refine QX.then_normal (hK4 _ _ ?_)
  refine WC.seq (fun K24 hK25 => ?_)
  refine WC.seq (fun K26 hK27 => ?_)
  refine WC.region ?_
  refine WL.runs 6 [(18, .bool false), (17, .bool false), (16, .pointer (some ⟨p13, 0, none⟩)), (15, .bool false), (14, .bool false), (13, .nilIface)] (fun _ => by kernel_rfl) ?_
  refine WL.done rfl ?_
  refine QX.then_normal (hK27 _ _ ?_)
  refine WC.cond_false rfl ?_
  refine WC.skip ?_
  refine QX.then_normal (hK25 _ _ ?_)
  refine WC.seq (fun K28 hK29 => ?_)
  refine WC.region ?_
  refine WL.runs 2 [(20, .agg #[.int .i64 0, .int .i64 0]), (19, .pointer (some ⟨p13, 0, none⟩))] (fun _ => by kernel_rfl) ?_
  refine WL.call rfl rfl rfl rfl rfl (by kernel_rfl) (Promise_to F14 p13 (⟨3, [], 1, 16, [(⟨16, 0, 1, 0, 3, 167837697, 0, true⟩ : Cm)], 1, 0, 0, []⟩ : Rn) 16 0 0 none 0 0 [] w21 (⟨3, [16], 1, 16, [(⟨16, 0, 1, 0, 3, 167837697, 0, true⟩ : Cm)], 1, 0, 0, []⟩ : Rn) 1 (by decide +kernel) (rfl) hT18 (by first | decide | (simp; done) | (simp; omega) | omega) (by first | decide | (simp; done) | (simp; omega) | omega) (by first | decide | (simp; done) | (simp; omega) | omega) (by first | decide | (simp; done) | (simp; omega) | omega) (by first | decide | (simp; done) | (simp; omega) | omega) (Rd.nil _ _ _ _) okL_nil rfl (fun _ _ h_ => nomatch h_)) ?_
  rintro _ w31 ⟨F34, rfl, hF30, hT33, hsub35⟩
  have hC32 := hC22.callF 0 rfl hF30 hsub35 (rdAt_lt hT33)
  refine ⟨_, rfl, ?_⟩
  refine WL.runs 1 [(3, .int .i64 1)] (fun _ => by kernel_rfl) ?_
  refine WL.done rfl ?_
  refine QX.then_normal (hK29 _ _ ?_)
  refine WC.seq (fun K36 hK37 => ?_)
  refine WC.region ?_
  refine WL.runs 2 [(23, .agg #[.int .i64 0, .int .i64 0]), (22, .pointer (some ⟨p13, 0, none⟩))] (fun _ => by kernel_rfl) ?_
  refine WL.call rfl rfl rfl rfl rfl (by kernel_rfl) (Promise_to F34 p13 (⟨3, [16], 1, 16, [(⟨16, 0, 1, 0, 3, 167837697, 0, true⟩ : Cm)], 1, 0, 0, []⟩ : Rn) 17 0 0 none 0 0 [] w31 (⟨3, [], 1, 16, [(⟨16, 0, 1, 0, 3, 167837697, 0, true⟩ : Cm)], 2, 0, 0, [(⟨16, 0, 1, 0, 3, 167837697, 0, true⟩ : Cm)]⟩ : Rn) 2 (by decide +kernel) (rfl) hT33 (by first | decide | (simp; done) | (simp; omega) | omega) (by first | decide | (simp; done) | (simp; omega) | omega) (by first | decide | (simp; done) | (simp; omega) | omega) (by first | decide | (simp; done) | (simp; omega) | omega) (by first | decide | (simp; done) | (simp; omega) | omega) (Rd.nil _ _ _ _) okL_nil rfl (fun _ _ h_ => nomatch h_)) ?_
  rintro _ w39 ⟨F42, rfl, hF38, hT41, hsub43⟩
  have hC40 := hC32.callF 0 rfl hF38 hsub43 (rdAt_lt hT41)
  refine ⟨_, rfl, ?_⟩
  refine WL.runs 1 [(4, .int .i64 2)] (fun _ => by kernel_rfl) ?_
  refine WL.done rfl ?_
  refine QX.then_normal (hK37 _ _ ?_)
  refine WC.seq (fun K44 hK45 => ?_)
  refine WC.region ?_
  refine WL.runs 8 [(32, .pointer (some ⟨p13, 0, none⟩)), (31, .bool true), (30, .bool true), (29, .bool true), (28, .int .i64 2), (27, .bool true), (26, .bool true), (25, .int .i64 1)] (fun _ => by kernel_rfl) ?_
  refine WL.call rfl rfl rfl rfl rfl (by kernel_rfl) (Log_to F42 p13 (⟨3, [], 1, 16, [(⟨16, 0, 1, 0, 3, 167837697, 0, true⟩ : Cm)], 2, 0, 0, [(⟨16, 0, 1, 0, 3, 167837697, 0, true⟩ : Cm)]⟩ : Rn) w39 [(⟨16, 0, 1, 0, 3, 167837697, 0, true⟩ : Cm)] (by decide +kernel) hT41 (by first | decide | (simp; done) | (simp; omega) | omega)) ?_
  rintro _ w48 ⟨v_, rfl, hF47, ho46⟩
  have hC49 := hC40.callN hF47 (own_ge ho46) (own_lt ho46)
  obtain ⟨A50, c51, rfl, hle52⟩ := own_form ho46
  have ho54 := own_base (b' := 0) ho46 (fun _ _ => Nat.zero_le _)
  refine ⟨_, rfl, ?_⟩
  have hf55 := rdAt_fr hT41 hF47 (by simp)
  refine WL.runs 4 [(37, .bool (([(⟨16, 0, 1, 0, 3, 167837697, 0, true⟩ : Cm)].length : Int) == 1)), (36, .bool (([(⟨16, 0, 1, 0, 3, 167837697, 0, true⟩ : Cm)].length : Int) == 1)), (35, .bool (([(⟨16, 0, 1, 0, 3, 167837697, 0, true⟩ : Cm)].length : Int) == 1)), (34, .int .i64 ([(⟨16, 0, 1, 0, 3, 167837697, 0, true⟩ : Cm)].length : Int))] (fun _ => by kernel_rfl) ?_
  refine WL.know 37 (.bool (([(⟨16, 0, 1, 0, 3, 167837697, 0, true⟩ : Cm)].length : Int) == 1)) (.bool true) rfl (congrArg Value.bool (by decide +kernel)) ?_
  refine WL.runs 1 [(38, .pointer (some ⟨p13, 0, none⟩))] (fun _ => by kernel_rfl) ?_
  refine WL.call rfl rfl rfl rfl rfl (by kernel_rfl) (Place_to F42 p13 (⟨3, [], 1, 16, [(⟨16, 0, 1, 0, 3, 167837697, 0, true⟩ : Cm)], 2, 0, 0, [(⟨16, 0, 1, 0, 3, 167837697, 0, true⟩ : Cm)]⟩ : Rn) w48 1 (by decide +kernel) hf55 (by first | decide | (simp; done) | (simp; omega) | omega)) ?_
  rintro _ w58 ⟨rfl, hF57⟩
  refine ⟨_, rfl, ?_⟩
  have hC59 := hC49.call hF57
  have hf60 := rdAt_fr hf55 hF57 (by simp)
  have ho61 := own_fr ho54 hF57 (by simp)
  refine WL.runs 4 [(43, .pointer (some ⟨p13, 0, none⟩)), (42, .bool true), (41, .bool true), (40, .bool true)] (fun _ => by kernel_rfl) ?_
  refine WL.call rfl rfl rfl rfl rfl (by kernel_rfl) (Missing_to F42 p13 (⟨3, [], 1, 16, [(⟨16, 0, 1, 0, 3, 167837697, 0, true⟩ : Cm)], 2, 0, 0, [(⟨16, 0, 1, 0, 3, 167837697, 0, true⟩ : Cm)]⟩ : Rn) w58 ([16, 17, 18] : List Int) (by decide +kernel) hf60 rfl (by first | decide | (simp; done) | (simp; omega) | omega) (by first | decide | (simp; done) | (simp; omega) | omega)) ?_
  rintro _ w64 ⟨v_, rfl, hF63, ho62⟩
  have hC65 := hC59.callN hF63 (own_ge ho62) (own_lt ho62)
  obtain ⟨A66, c67, rfl, hle68⟩ := own_form ho62
  have ho70 := own_base (b' := 0) ho62 (fun _ _ => Nat.zero_le _)
  refine ⟨_, rfl, ?_⟩
  have hf71 := rdAt_fr hf60 hF63 (by simp)
  have ho72 := own_fr ho61 hF63 (by simp)
  refine WL.runs 4 [(5, .bool ((([16, 17, 18] : List Int).length : Int) == 3)), (47, .bool ((([16, 17, 18] : List Int).length : Int) == 3)), (46, .bool ((([16, 17, 18] : List Int).length : Int) == 3)), (45, .int .i64 (([16, 17, 18] : List Int).length : Int))] (fun _ => by kernel_rfl) ?_
  refine WL.done rfl ?_
  refine QX.then_normal (hK45 _ _ ?_)
  refine WC.seq (fun K74 hK75 => ?_)
  refine WC.region ?_
  refine WL.runs 1 [(48, .pointer (some ⟨p13, 0, none⟩))] (fun _ => by kernel_rfl) ?_
  refine WL.call rfl rfl rfl rfl rfl (by kernel_rfl) (Accepted_to F42 p13 (⟨3, [], 1, 16, [(⟨16, 0, 1, 0, 3, 167837697, 0, true⟩ : Cm)], 2, 0, 0, [(⟨16, 0, 1, 0, 3, 167837697, 0, true⟩ : Cm)]⟩ : Rn) 18 w64 (⟨3, [18], 1, 16, [(⟨16, 0, 1, 0, 3, 167837697, 0, true⟩ : Cm)], 2, 0, 0, [(⟨16, 0, 1, 0, 3, 167837697, 0, true⟩ : Cm)]⟩ : Rn) 2 (by decide +kernel) (rfl) hf71 (by first | decide | (simp; done) | (simp; omega) | omega) (by first | decide | (simp; done) | (simp; omega) | omega) (by first | decide | (simp; done) | (simp; omega) | omega) (by first | decide | (simp; done) | (simp; omega) | omega) (by first | decide | (simp; done) | (simp; omega) | omega)) ?_
  rintro _ w77 ⟨F80, rfl, hF76, hT79, hsub81⟩
  have hC78 := hC65.callF 0 rfl hF76 hsub81 (rdAt_lt hT79)
  refine ⟨_, rfl, ?_⟩
  have ho82 := own_fr ho72 hF76 (hC65.disj 1 0 rfl rfl (by decide))
  have ho83 := own_fr ho70 hF76 (hC65.disj 2 0 rfl rfl (by decide))
  refine WL.done rfl ?_
  refine QX.then_normal (hK75 _ _ ?_)
  refine WC.seq (fun K84 hK85 => ?_)
  refine WC.region ?_
  refine WL.runs 2 [(51, .bool ((([16, 17, 18] : List Int).length : Int) == 3)), (50, .bool ((([16, 17, 18] : List Int).length : Int) == 3))] (fun _ => by kernel_rfl) ?_
  refine WL.know 51 (.bool ((([16, 17, 18] : List Int).length : Int) == 3)) (.bool true) rfl (congrArg Value.bool (by decide +kernel)) ?_
  refine WL.runs 1 [(52, .pointer (some ⟨p13, 0, none⟩))] (fun _ => by kernel_rfl) ?_
  refine WL.call rfl rfl rfl rfl rfl (by kernel_rfl) (Accepted_to F80 p13 (⟨3, [18], 1, 16, [(⟨16, 0, 1, 0, 3, 167837697, 0, true⟩ : Cm)], 2, 0, 0, [(⟨16, 0, 1, 0, 3, 167837697, 0, true⟩ : Cm)]⟩ : Rn) 16 w77 (⟨3, [18, 16], 1, 16, [(⟨16, 0, 1, 0, 3, 167837697, 0, true⟩ : Cm)], 3, 0, 0, [(⟨16, 0, 1, 0, 3, 167837697, 0, true⟩ : Cm)]⟩ : Rn) 3 (by decide +kernel) (rfl) hT79 (by first | decide | (simp; done) | (simp; omega) | omega) (by first | decide | (simp; done) | (simp; omega) | omega) (by first | decide | (simp; done) | (simp; omega) | omega) (by first | decide | (simp; done) | (simp; omega) | omega) (by first | decide | (simp; done) | (simp; omega) | omega)) ?_
  rintro _ w87 ⟨F90, rfl, hF86, hT89, hsub91⟩
  have hC88 := hC78.callF 0 rfl hF86 hsub91 (rdAt_lt hT89)
  refine ⟨_, rfl, ?_⟩
  have ho92 := own_fr ho82 hF86 (hC78.disj 1 0 rfl rfl (by decide))
  have ho93 := own_fr ho83 hF86 (hC78.disj 2 0 rfl rfl (by decide))
  refine WL.runs 3 [(0, .bool true), (55, .bool true), (54, .bool true)] (fun _ => by kernel_rfl) ?_
  refine WL.done rfl ?_
  refine QX.then_normal (hK85 _ _ ?_)
  refine WC.ret ?_
  refine (hret _ _ _ rfl ?_).1
  clear hN hret hret' hK85 hK75 hK45 hK37 hK29 hK27 hK25 hK4 hK2
  exact ⟨rfl, hC88.fr⟩

theorem RoundNone_ct (node an ad : Int) (w : World) : Calls Try.prog 5 #[.int .i64 node, .agg #[.int .i64 an, .int .i64 ad]] w fun e w' => e = .returned (.bool true) ∧ Fr w w' [] := by
  refine enterD (n := 47) Try.func5 rfl rfl (Nat.le_of_ble_eq_true rfl) ?_
  intro Q0 hN hret hret'
  have hC := Cx.start w
  refine WC.seq (fun K1 hK2 => ?_)
  refine WC.region ?_
  refine WL.newM hC (fun b => .pointer (some ⟨b, 0, none⟩)) (.cells #[.int .i64 an, .int .i64 ad] 31) 3 (fun _ => by kernel_rfl) (fun g3 w4 hb7 hF5 hC6 => ?_)
  refine WL.runs 1 [(4, .bool false)] (fun _ => by kernel_rfl) ?_
  refine WL.done rfl ?_
  refine QX.then_normal (hK2 _ _ ?_)
  refine WC.seq (fun K8 hK9 => ?_)
  refine WC.seq (fun K10 hK11 => ?_)
  refine WC.region ?_
  refine WL.call rfl rfl rfl rfl rfl (by kernel_rfl) (alive_ct w4) ?_
  rintro _ w13 ⟨rfl, hF12⟩
  refine ⟨_, rfl, ?_⟩
  have hC14 := hC6.call hF12
  refine WL.runs 1 [(7, .bool false)] (fun _ => by kernel_rfl) ?_
  refine WL.done rfl ?_
  refine QX.then_normal (hK11 _ _ ?_)
  refine WC.cond_false rfl ?_
  refine WC.skip ?_
  refine QX.then_normal (hK9 _ _ ?_)
  refine WC.seq (fun K15 hK16 => ?_)
  refine WC.region ?_
  refine WL.runs 1 [(5, .pointer none)] (fun _ => by kernel_rfl) ?_
  refine WL.done rfl ?_
  refine QX.then_normal (hK16 _ _ ?_)
  refine WC.seq (fun K17 hK18 => ?_)
  refine WC.region ?_
  refine WL.runs 2 [(9, .int .i64 node), (8, .pointer none)] (fun _ => by kernel_rfl) ?_
  refine WL.load 31 (.pointer (some ⟨g3, 0, none⟩)) (.agg #[.int .i64 an, .int .i64 ad]) 10 (by kernel_rfl) (run_ld (hC14.get 0 rfl) rfl) ?_
  refine WL.call rfl rfl rfl rfl rfl (by kernel_rfl) (Promise_nil node an ad w13) ?_
  rintro _ w20 ⟨rfl, hF19⟩
  refine ⟨_, rfl, ?_⟩
  have hC21 := hC14.call hF19
  refine WL.runs 4 [(15, .int .i64 node), (14, .pointer none), (13, .bool true), (12, .bool true)] (fun _ => by kernel_rfl) ?_
  refine WL.call rfl rfl rfl rfl rfl (by kernel_rfl) (Accepted_nil node w20) ?_
  rintro _ w23 ⟨rfl, hF22⟩
  refine ⟨_, rfl, ?_⟩
  have hC24 := hC21.call hF22
  refine WL.runs 4 [(20, .pointer none), (19, .bool true), (18, .bool true), (17, .bool true)] (fun _ => by kernel_rfl) ?_
  refine WL.call rfl rfl rfl rfl rfl (by kernel_rfl) (Stage_nil w23) ?_
  rintro _ w26 ⟨rfl, hF25⟩
  refine ⟨_, rfl, ?_⟩
  have hC27 := hC24.call hF25
  refine WL.runs 4 [(25, .pointer none), (24, .bool true), (23, .bool true), (22, .bool true)] (fun _ => by kernel_rfl) ?_
  refine WL.call rfl rfl rfl rfl rfl (by kernel_rfl) (Ballot_nil w26) ?_
  rintro _ w29 ⟨rfl, hF28⟩
  refine ⟨_, rfl, ?_⟩
  have hC30 := hC27.call hF28
  refine WL.runs 1 [(27, .agg #[.int .i64 0, .int .i64 0])] (fun _ => by kernel_rfl) ?_
  have hr31 : ∀ w_, Sem.run Try.prog (do eqGuard .eql 31 (Operand.tmp 26) (Operand.tmp 27) (.agg #[.int .i64 0, .int .i64 0]) (.agg #[.int .i64 0, .int .i64 0]); binOp .eql 31 (.agg #[.int .i64 0, .int .i64 0]) (.agg #[.int .i64 0, .int .i64 0])) w_ = .ok (.bool ((0 : Int) == (0 : Int) && ((0 : Int) == (0 : Int) && true))) w_ := fun w_ => (run_eql_S (by kernel_rfl))
  refine WL.sem (do eqGuard .eql 31 (Operand.tmp 26) (Operand.tmp 27) (.agg #[.int .i64 0, .int .i64 0]) (.agg #[.int .i64 0, .int .i64 0]); binOp .eql 31 (.agg #[.int .i64 0, .int .i64 0]) (.agg #[.int .i64 0, .int .i64 0])) 28 (.bool ((0 : Int) == (0 : Int) && ((0 : Int) == (0 : Int) && true))) (by kernel_rfl) (hr31 _) ?_
  refine WL.runs 2 [(30, .bool ((0 : Int) == (0 : Int) && ((0 : Int) == (0 : Int) && true))), (29, .bool ((0 : Int) == (0 : Int) && ((0 : Int) == (0 : Int) && true)))] (fun _ => by kernel_rfl) ?_
  refine WL.know 30 (.bool ((0 : Int) == (0 : Int) && ((0 : Int) == (0 : Int) && true))) (.bool true) rfl (congrArg Value.bool (by decide)) ?_
  refine WL.runs 1 [(31, .pointer none)] (fun _ => by kernel_rfl) ?_
  refine WL.call rfl rfl rfl rfl rfl (by kernel_rfl) (Missing_nil w29) ?_
  rintro _ w33 ⟨rfl, hF32⟩
  refine ⟨_, rfl, ?_⟩
  have hC34 := hC30.call hF32
  refine WL.runs 5 [(37, .pointer none), (36, .bool true), (35, .bool true), (34, .bool true), (33, .int .i64 0)] (fun _ => by kernel_rfl) ?_
  refine WL.call rfl rfl rfl rfl rfl (by kernel_rfl) (Log_nil w33) ?_
  rintro _ w36 ⟨rfl, hF35⟩
  refine ⟨_, rfl, ?_⟩
  have hC37 := hC34.call hF35
  refine WL.runs 5 [(43, .pointer none), (42, .bool true), (41, .bool true), (40, .bool true), (39, .int .i64 0)] (fun _ => by kernel_rfl) ?_
  refine WL.call rfl rfl rfl rfl rfl (by kernel_rfl) (Place_nil w36) ?_
  rintro _ w39 ⟨rfl, hF38⟩
  refine ⟨_, rfl, ?_⟩
  have hC40 := hC37.call hF38
  refine WL.runs 3 [(4, .bool true), (46, .bool true), (45, .bool true)] (fun _ => by kernel_rfl) ?_
  refine WL.done rfl ?_
  refine QX.then_normal (hK18 _ _ ?_)
  refine WC.ret ?_
  refine (hret _ _ _ rfl ?_).1
  clear hN hret hret' hK18 hK16 hK11 hK9 hK2
  exact ⟨rfl, hC40.fr⟩

end Go.Proofs.Ytlpmmepbfafpfaa
