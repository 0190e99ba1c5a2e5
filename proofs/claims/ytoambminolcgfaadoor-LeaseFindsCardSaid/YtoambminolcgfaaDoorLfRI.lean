/- towpathlaw12.LeaseFinds returns true for every input, and changes no argument: the tied card. Conditions: those of the given card alone. -/
import Derived.Test.YtoambminolcgfaaDoorTie
import Derived.Test.YtoambminolcgfaaDoorCards
import Derived.Test.YtoambminolcgfaaDoorLfS
import Derived.Test.YtoambminolcgfaaDoorLfOL
import Derived.Carry
import Derived.ChangeSame
import Derived.ChangeVars
import Derived.JoinedOf
import Derived.RowKit
import Derived.RowKitTokens
import Derived.LaidLaws
import Derived.Lib.LaidTab
import Derived.SevenTiedAt
import Derived.OpenShut
namespace Go.Proofs.YtoambminolcgfaaDoor
set_option linter.unusedSimpArgs false
set_option linter.unusedVariables false
set_option linter.unusedSectionVars false
open Go Go.ChangeShapes Go.WideShapes Go.RowKit Go.Tw
theorem Tryd.own : ownKnob Tryd.prog.godebug = none := by kernel_rfl
theorem Tryd.gT : Tryd.prog.globalNamed "math/bits.deBruijn64tab" = some 0 := by kernel_rfl
theorem Tryd.gTType : (Tryd.prog.globals[0]?).map (·.type) = some 82 := by kernel_rfl
theorem Tryd.underT : Tryd.prog.underlying 82 = some (.array 64 5) := by kernel_rfl
theorem Tryd.underE : Tryd.prog.underlying 5 = some (.int .u8) := by kernel_rfl
theorem Tryd.cells5 : Tryd.prog.cellsOf 5 = 1 := by kernel_rfl
theorem Tryd.cells82 : Tryd.prog.cellsOf 82 = 64 := by kernel_rfl
theorem laid_rd {W : World} (h : laidMet Tryd.prog [("math/bits.deBruijn64tab", Rows.laid_math_bits_deBruijn64tab)] W) : Rd W 1 (encI .u8) (some ⟨0, 0, none⟩) dbTab := by
  have h1 : Lib.TabIs Tryd.prog W "math/bits.deBruijn64tab" .u8 dbTab := Lib.tabIs_of_head Tryd.gT Tryd.gTType Tryd.underT Tryd.underE Tryd.cells5 Tryd.cells82 h
  refine ⟨fun i x hx => ⟨0, 0, rfl, fun j u hu => ?_⟩⟩
  have hi : i < dbTab.length := (List.getElem?_eq_some_iff.1 hx).1
  have h2 := h1.cell Tryd.gT i hi
  cases j with
  | zero =>
    simp [encI] at hu
    subst hu
    have h3 : dbTab.getD i 0 = x := by simp [List.getD, hx]
    rw [h3] at h2
    simpa using h2
  | succ j => simp [encI] at hu
noncomputable def laidWorld (os : Os) : World :=
  let w0 := World.holding Tryd.prog os ⟨#[], #[], []⟩
  { w0 with heap := w0.heap.modify 0 fun
      | .cells _ t frozen => .cells (dbTab.map (Value.int .u8)).toArray t frozen
      | o => o }
theorem laid_met (os : Os) (args : Array Value) : laidMet Tryd.prog [("math/bits.deBruijn64tab", Rows.laid_math_bits_deBruijn64tab)] ((laidWorld os).forCall (fun _ _ => 0) ⟨#[], args, []⟩).memory :=
  laidMet_of_run' 8 (by kernel_rfl) (by kernel_rfl)
theorem Tryd.und23 : Tryd.prog.underlying 23 = some (.int .u32) := by kernel_rfl
theorem Tryd.und3 : Tryd.prog.underlying 3 = some (.int .i64) := by kernel_rfl
theorem Tryd.und4 : Tryd.prog.underlying 4 = some .bool := by kernel_rfl
theorem Tryd.laidOut : laidOutB Tryd.prog = true := by kernel_rfl
theorem Tryd.paramsA : Tryd.f5.params = #[37] := by kernel_rfl
theorem Tryd.und25 : Tryd.prog.underlying 25 = some (.slice 27) := by kernel_rfl
theorem Tryd.cells25 : Tryd.prog.cellsOf 25 = 1 := by kernel_rfl
theorem Tryd.cells37 : Tryd.prog.cellsOf 37 = 5 := by kernel_rfl
theorem T37 : fieldTab Tryd.prog 37 = some [(25, 0), (23, 1), (23, 2), (3, 3), (3, 4)] := by kernel_rfl
theorem open_asked {H : Type} {henc : TypeId × Value → H} {w : World} {base : Nat} {spare : Nat → Bool} {held : Bool} {fuel : Nat} {cs : List Value} {x : DataW H × List MemPlace} (h : DataW.trod henc Tryd.prog w base spare held fuel 37 cs = some x) :
    ∃ (A : Option Addr) (c : Nat) (xs : List Lease) (vip dip first now : Int), cs = [.slice A xs.length c, .int .u32 vip, .int .u32 dip, .int .i64 first, .int .i64 now] ∧ Rd w 4 encL A xs ∧ (∀ l ∈ xs, okL l) ∧ (0 ≤ vip ∧ vip ≤ 4294967295) ∧ (0 ≤ dip ∧ dip ≤ 4294967295) ∧ (-9223372036854775808 ≤ first ∧ first ≤ 9223372036854775807) ∧ (-9223372036854775808 ≤ now ∧ now ≤ 9223372036854775807) := by
  obtain ⟨hl, hf⟩ := trod_tab T37 h
  rw [Tryd.cells37] at hl
  match cs, hl with
  | [a, b, c, d, e], _ =>
    obtain ⟨n0, y0, h0⟩ := hf (25, 0) (by simp)
    obtain ⟨n1, y1, h1⟩ := hf (23, 1) (by simp)
    obtain ⟨n2, y2, h2⟩ := hf (23, 2) (by simp)
    obtain ⟨n3, y3, h3⟩ := hf (3, 3) (by simp)
    obtain ⟨n4, y4, h4⟩ := hf (3, 4) (by simp)
    simp only [Tryd.cells25, C23, C3, List.drop_zero, List.drop_succ_cons, List.take_succ_cons, List.take_zero] at h0 h1 h2 h3 h4
    obtain ⟨A, xs, cp, e0, hr, hok, _, _⟩ := opn_slice Tryd.und25 C27 (by decide) encL_len opn_lease h0
    obtain ⟨v1, e1, _, w1⟩ := DataW.trod_int U23 h1
    obtain ⟨v2, e2, _, w2⟩ := DataW.trod_int U23 h2
    obtain ⟨v3, e3, _, w3⟩ := DataW.trod_int U3 h3
    obtain ⟨v4, e4, _, w4⟩ := DataW.trod_int U3 h4
    simp only [List.cons.injEq, and_true] at e0 e1 e2 e3 e4
    subst e0 e1 e2 e3 e4
    exact ⟨A, cp, xs, v1, v2, v3, v4, rfl, hr, hok, bounds_u32 w1, bounds_u32 w2, bounds_i64 w3, bounds_i64 w4⟩
theorem struct37 : ∃ fs, Tryd.prog.underlying 37 = some (.struct fs) := by
  have h := T37
  unfold fieldTab at h
  split at h
  · rename_i fs hu; exact ⟨fs, hu⟩
  · cases h
set_option maxRecDepth 100000 in
theorem leaseFinds_lifted (os : Os) (started : os.Started) (H : Type) (enc : TypeId × Value → H) :
    ReturnsInHanded {} Tryd.checked os 5 .any (fun w args => (Rows.leaseFindsSpec.pre enc Tryd.prog Tryd.f5 [] false w args ∧ laidMet Tryd.prog [("math/bits.deBruijn64tab", Rows.laid_math_bits_deBruijn64tab)] w) ∧ sizedMet enc Tryd.prog Tryd.f5 (OpenSpec.ofChange Rows.leaseFindsSpec) false w args)
      (Rows.leaseFindsSpec.post enc Tryd.prog Tryd.f5 false true false false) := by
  refine returnsInHanded_of_change_and (C := Tryd.checked) (X := fun w _ => laidMet Tryd.prog [("math/bits.deBruijn64tab", Rows.laid_math_bits_deBruijn64tab)] w) (fun _ _ _ hh h => h.of_heap hh) Tryd.own started (by kernel_rfl) Tryd.func5
    (ChangeSpec.witness_at (enc := enc) (C := Tryd.checked) (os := os) (X := fun w _ => laidMet Tryd.prog [("math/bits.deBruijn64tab", Rows.laid_math_bits_deBruijn64tab)] w) false (laidWorld os) #[.agg #[.slice none 0 0, .int .u32 0, .int .u32 0, .int .i64 0, .int .i64 0]] 8 rfl (by kernel_rfl) (by kernel_rfl) (by kernel_rfl) (by kernel_rfl) (by kernel_rfl) (laid_met os _)) ?_
  intro W base args ds gs before hval0 hW _ _ hL _
  have hval : ∀ (j : Nat) t v, Tryd.f5.params[j]? = some t → args[j]? = some v → Value.okWide Tryd.prog W .any base t v := hval0
  have hW' := hW
  obtain ⟨p, q, hA0, hV0, rfl, hfz, hnd⟩ := hW
  have hA : DataW.TrodAll enc Tryd.prog W 0 (fun _ => true) true Tryd.f5.params.toList args.toList ds p := hA0
  have hV : DataW.TrodVars enc Tryd.prog W (fun _ => true) [] gs q := hV0
  rw [Tryd.paramsA] at hA hval
  obtain ⟨v0, d0, rfl, rfl, h0⟩ := trodAll_one hA
  obtain ⟨rfl, rfl⟩ := trodVars_none hV
  obtain ⟨fs, hfs⟩ := struct37
  obtain ⟨cs, rfl, _⟩ := okWide_struct hfs (hval 0 37 v0 rfl rfl)
  have h0k := h0
  obtain ⟨fuel, hf⟩ := h0
  clear hA0 hval0
  simp only [List.append_nil] at hW'
  have hlt : ∀ x ∈ p, x.block < W.heap.size := fun x hx => by simpa using hW'.lt x (by simp [hx])
  obtain ⟨A, c, xs, vip, dip, first, now, hcs, hr, hwf, hvip, hdip, hfirst, hnow⟩ := open_asked hf
  have hcs' : cs = #[.slice A xs.length c, .int .u32 vip, .int .u32 dip, .int .i64 first, .int .i64 now] := Array.ext' (by simpa [Value.cells] using hcs)
  subst hcs'
  refine (LeaseFinds_ct A c xs vip dip first now W hr hwf hvip hdip hfirst hnow (laid_rd hL)).mono fun e W' ⟨he, hg⟩ => ?_
  subst he
  have e1 : Rows.leaseFindsSpec.fn H ([d0] ++ []) = { results := [.lit (.bool true)], args := [d0] } := rfl
  refine ⟨_, rfl, _, _, _, [], p, [], by simpa using hW', ?_, ?_, ?_, hg.below.frame _, fun h => by cases h⟩
  · rw [e1]; exact trodAll_mk1 (shut_bool Tryd.und4 true)
  · rw [e1]; exact trodAll_mk1 (Below.trod Tryd.laidOut (by kernel_rfl) (of_decide_eq_true (by kernel_rfl)) h0k hg.below hlt)
  · rw [e1]; rfl
theorem leaseFinds_holds : Rows.LeaseFindsSaid :=
  OpenClaim.holds_of_wide 5 Tryd.f5 rfl rfl rfl rfl rfl rfl rfl ⟨rfl, rfl, rfl, rfl, rfl⟩ rfl rfl rfl rfl rfl (by kernel_rfl) Tryd.func5 (by kernel_rfl)
    (of_decide_eq_true (by kernel_rfl)) (by unfold Func.isWrapper; first | (rw [if_pos (by decide +kernel)]; kernel_rfl) | (rw [if_neg (of_decide_eq_false (by kernel_rfl))]; exact ⟨rfl, rfl⟩))
    (fun os started H enc _ => leaseFinds_lifted os started H enc)
theorem leaseFinds_card : Rows.LeaseFindsCardSaid :=
  Claim7.holds_tied_plain_at .later [] [.data] true (true, "560e2b96eb32e5a94babdb9240091338a246cd51ba0e17041370c542afd6e565") true
    leaseFinds_holds (fun _ h => by cases h) (by kernel_rfl) (fun _ h => by cases h) leaseFinds_row_tie rfl ⟨rfl, rfl⟩ (by kernel_rfl) rfl
    (fun f fn hf hfn => by
      obtain rfl : f = 5 := Option.some.inj ((show Tryd.prog.funcNamed "towpath/towpathlaw12.LeaseFinds" = some 5 by kernel_rfl).symm.trans hf) |>.symm
      obtain rfl : fn = Tryd.f5 := (Option.some.inj (Tryd.func5.symm.trans hfn)).symm
      refine ⟨by kernel_rfl, fun j t ht => ?_⟩
      rw [Tryd.paramsA] at ht
      rcases j with _ | j
      · simp at ht; subst ht; exact (show Tryd.prog.wantsStandIn 37 = false by kernel_rfl)
      · simp at ht)
    (by kernel_rfl)
#print axioms leaseFinds_card
end Go.Proofs.YtoambminolcgfaaDoor
