/- towpathlaw12.LeaseAlone returns true for every input, and changes no argument: the tied card. Conditions: those of the given card alone. -/
import Derived.Test.YtoambminolcgfaaDoorTie
import Derived.Test.YtoambminolcgfaaDoorCards
import Derived.Test.YtoambminolcgfaaDoorLsN
import Derived.Test.YtoambminolcgfaaDoorLsOL
import Derived.Carry
import Derived.ChangeSame
import Derived.ChangeVars
import Derived.JoinedOf
import Derived.RowKit
import Derived.RowKitTokens
import Derived.LaidLaws
import Derived.Lib.LaidTab
import Derived.SevenTiedAt
import Derived.OpenShut
namespace Go.Proofs.YtoambminolcgfaaDoor
open Go Go.ChangeShapes Go.WideShapes Go.RowKit Go.Tw
theorem Tryd.own : ownKnob Tryd.prog.godebug = none := by kernel_rfl
theorem Tryd.gT : Tryd.prog.globalNamed "math/bits.deBruijn64tab" = some 0 := by kernel_rfl
theorem Tryd.gTType : (Tryd.prog.globals[0]?).map (·.type) = some 82 := by kernel_rfl
theorem Tryd.underT : Tryd.prog.underlying 82 = some (.array 64 5) := by kernel_rfl
theorem Tryd.underE : Tryd.prog.underlying 5 = some (.int .u8) := by kernel_rfl
theorem Tryd.cells5 : Tryd.prog.cellsOf 5 = 1 := by kernel_rfl
theorem Tryd.cells82 : Tryd.prog.cellsOf 82 = 64 := by kernel_rfl
theorem laid_rd {W : World} (h : laidMet Tryd.prog [("math/bits.deBruijn64tab", Rows.laid_math_bits_deBruijn64tab)] W) : Rd W 1 (encI .u8) (some ⟨0, 0, none⟩) dbTab := by
  have h1 : Lib.TabIs Tryd.prog W "math/bits.deBruijn64tab" .u8 dbTab := Lib.tabIs_of_head Tryd.gT Tryd.gTType Tryd.underT Tryd.underE Tryd.cells5 Tryd.cells82 h
  refine ⟨fun i x hx => ⟨0, 0, rfl, fun j u hu => ?_⟩⟩
  have hi : i < dbTab.length := (List.getElem?_eq_some_iff.1 hx).1
  have h2 := h1.cell Tryd.gT i hi
  cases j with
  | zero =>
    simp [encI] at hu
    subst hu
    have h3 : dbTab.getD i 0 = x := by simp [List.getD, hx]
    rw [h3] at h2
    simpa using h2
  | succ j => simp [encI] at hu
noncomputable def laidWorld (os : Os) : World :=
  let w0 := World.holding Tryd.prog os ⟨#[], #[], []⟩
  { w0 with heap := w0.heap.modify 0 fun
      | .cells _ t frozen => .cells (dbTab.map (Value.int .u8)).toArray t frozen
      | o => o }
theorem laid_met (os : Os) (args : Array Value) : laidMet Tryd.prog [("math/bits.deBruijn64tab", Rows.laid_math_bits_deBruijn64tab)] ((laidWorld os).forCall (fun _ _ => 0) ⟨#[], args, []⟩).memory :=
  laidMet_of_run' 8 (by kernel_rfl) (by kernel_rfl)
theorem Tryd.und23 : Tryd.prog.underlying 23 = some (.int .u32) := by kernel_rfl
theorem Tryd.und3 : Tryd.prog.underlying 3 = some (.int .i64) := by kernel_rfl
theorem Tryd.und4 : Tryd.prog.underlying 4 = some .bool := by kernel_rfl
theorem Tryd.laidOut : laidOutB Tryd.prog = true := by kernel_rfl
theorem Tryd.paramsA : Tryd.f8.params = #[52] := by kernel_rfl
theorem Tryd.und52 : Tryd.prog.underlying 52 = some (.slice 54) := by kernel_rfl
theorem Tryd.cells54 : Tryd.prog.cellsOf 54 = 5 := by kernel_rfl
theorem T54 : fieldTab Tryd.prog 54 = some [(3, 0), (23, 1), (23, 2), (3, 3), (3, 4)] := by kernel_rfl
theorem opn_op {H : Type} {henc : TypeId × Value → H} {w : World} {base : Nat} {spare : Nat → Bool} {held : Bool} : Opn henc Tryd.prog w base spare held 54 encO okO := by
  refine ⟨fun fuel cs x h => ?_⟩
  obtain ⟨hl, hf⟩ := trod_tab T54 h
  rw [Tryd.cells54] at hl
  match cs, hl with
  | [a, b, c, d, e], _ =>
    obtain ⟨n0, y0, h0⟩ := hf (3, 0) (by simp)
    obtain ⟨n1, y1, h1⟩ := hf (23, 1) (by simp)
    obtain ⟨n2, y2, h2⟩ := hf (23, 2) (by simp)
    obtain ⟨n3, y3, h3⟩ := hf (3, 3) (by simp)
    obtain ⟨n4, y4, h4⟩ := hf (3, 4) (by simp)
    simp only [C23, C3, List.drop_zero, List.drop_succ_cons, List.take_succ_cons, List.take_zero] at h0 h1 h2 h3 h4
    obtain ⟨v0, e0, _, w0⟩ := DataW.trod_int U3 h0
    obtain ⟨v1, e1, _, w1⟩ := DataW.trod_int U23 h1
    obtain ⟨v2, e2, _, w2⟩ := DataW.trod_int U23 h2
    obtain ⟨v3, e3, _, w3⟩ := DataW.trod_int U3 h3
    obtain ⟨v4, e4, _, w4⟩ := DataW.trod_int U3 h4
    simp only [List.cons.injEq, and_true] at e0 e1 e2 e3 e4
    subst e0 e1 e2 e3 e4
    have b1 := bounds_u32 w1
    have b2 := bounds_u32 w2
    have b3 := bounds_i64 w3
    have b4 := bounds_i64 w4
    exact ⟨⟨v0, v1, v2, v3, v4⟩, rfl, b1, b2, b3, b4⟩
set_option maxRecDepth 100000 in
theorem alone_lifted (os : Os) (started : os.Started) (H : Type) (enc : TypeId × Value → H) :
    ReturnsInHanded {} Tryd.checked os 8 .any (fun w args => (Rows.leaseAloneSpec.pre enc Tryd.prog Tryd.f8 [] false w args ∧ laidMet Tryd.prog [("math/bits.deBruijn64tab", Rows.laid_math_bits_deBruijn64tab)] w) ∧ sizedMet enc Tryd.prog Tryd.f8 (OpenSpec.ofChange Rows.leaseAloneSpec) false w args)
      (Rows.leaseAloneSpec.post enc Tryd.prog Tryd.f8 false true false false) := by
  refine returnsInHanded_of_change_and (C := Tryd.checked) (X := fun w _ => laidMet Tryd.prog [("math/bits.deBruijn64tab", Rows.laid_math_bits_deBruijn64tab)] w) (fun _ _ _ hh h => h.of_heap hh) Tryd.own started (by kernel_rfl) Tryd.func8
    (ChangeSpec.witness_at (enc := enc) (C := Tryd.checked) (os := os) (X := fun w _ => laidMet Tryd.prog [("math/bits.deBruijn64tab", Rows.laid_math_bits_deBruijn64tab)] w) false (laidWorld os) #[.slice none 0 0] 8 rfl (by kernel_rfl) (by kernel_rfl) (by kernel_rfl) (by kernel_rfl) (by kernel_rfl) (laid_met os _)) ?_
  intro W base args ds gs before hval0 hW _ _ hL _
  have hval : ∀ (j : Nat) t v, Tryd.f8.params[j]? = some t → args[j]? = some v → Value.okWide Tryd.prog W .any base t v := hval0
  have hW' := hW
  obtain ⟨p, q, hA0, hV0, rfl, hfz, hnd⟩ := hW
  have hA : DataW.TrodAll enc Tryd.prog W 0 (fun _ => true) true Tryd.f8.params.toList args.toList ds p := hA0
  have hV : DataW.TrodVars enc Tryd.prog W (fun _ => true) [] gs q := hV0
  rw [Tryd.paramsA] at hA hval
  obtain ⟨v0, d0, rfl, rfl, h0⟩ := trodAll_one hA
  obtain ⟨rfl, rfl⟩ := trodVars_none hV
  obtain ⟨a_, l_, c_, rfl⟩ := okWide_slice Tryd.und52 (hval 0 52 v0 rfl rfl)
  have h0k := h0
  obtain ⟨fuel, hf⟩ := h0
  clear hA0 hval0
  simp only [List.append_nil] at hW'
  have hlt : ∀ x ∈ p, x.block < W.heap.size := fun x hx => by simpa using hW'.lt x (by simp [hx])
  obtain ⟨A, ops, c, hcs, hr, hwf, _, _⟩ := opn_slice Tryd.und52 Tryd.cells54 (by decide) encO_len opn_op hf
  simp only [Value.cells, List.cons.injEq, and_true] at hcs
  obtain ⟨rfl, rfl, rfl⟩ : a_ = A ∧ l_ = ops.length ∧ c_ = c := by simpa using hcs
  refine (LeaseAlone_ct a_ c_ ops W hr hwf (laid_rd hL)).mono fun e W' ⟨he, hg⟩ => ?_
  subst he
  have e1 : Rows.leaseAloneSpec.fn H ([d0] ++ []) = { results := [.lit (.bool true)], args := [d0] } := rfl
  refine ⟨_, rfl, _, _, _, [], p, [], by simpa using hW', ?_, ?_, ?_, hg.below.frame _, fun h => by cases h⟩
  · rw [e1]; exact trodAll_mk1 (shut_bool Tryd.und4 true)
  · rw [e1]; exact trodAll_mk1 (Below.trod Tryd.laidOut (by kernel_rfl) (of_decide_eq_true (by kernel_rfl)) h0k hg.below hlt)
  · rw [e1]; rfl
theorem alone_holds : Rows.LeaseAloneSaid :=
  OpenClaim.holds_of_wide 8 Tryd.f8 rfl rfl rfl rfl rfl rfl rfl ⟨rfl, rfl, rfl, rfl, rfl⟩ rfl rfl rfl rfl rfl (by kernel_rfl) Tryd.func8 (by kernel_rfl)
    (of_decide_eq_true (by kernel_rfl)) (by unfold Func.isWrapper; first | (rw [if_pos (by decide +kernel)]; kernel_rfl) | (rw [if_neg (of_decide_eq_false (by kernel_rfl))]; exact ⟨rfl, rfl⟩))
    (fun os started H enc _ => alone_lifted os started H enc)
theorem leaseAlone_card : Rows.LeaseAloneCardSaid :=
  Claim7.holds_tied_plain_at .later [] [.data] true (true, "560e2b96eb32e5a94babdb9240091338a246cd51ba0e17041370c542afd6e565") true
    alone_holds (fun _ h => by cases h) (by kernel_rfl) (fun _ h => by cases h) leaseAlone_row_tie rfl ⟨rfl, rfl⟩ (by kernel_rfl) rfl
    (fun f fn hf hfn => by
      obtain rfl : f = 8 := Option.some.inj ((show Tryd.prog.funcNamed "towpath/towpathlaw12.LeaseAlone" = some 8 by kernel_rfl).symm.trans hf) |>.symm
      obtain rfl : fn = Tryd.f8 := (Option.some.inj (Tryd.func8.symm.trans hfn)).symm
      refine ⟨by kernel_rfl, fun j t ht => ?_⟩
      rw [Tryd.paramsA] at ht
      rcases j with _ | j
      · simp at ht; subst ht; exact (show Tryd.prog.wantsStandIn 52 = false by kernel_rfl)
      · simp at ht)
    (by kernel_rfl)
#print axioms leaseAlone_card
end Go.Proofs.YtoambminolcgfaaDoor
