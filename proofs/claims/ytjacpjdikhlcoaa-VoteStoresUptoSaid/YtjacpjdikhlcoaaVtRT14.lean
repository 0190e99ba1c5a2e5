/- towpathlaw14.VoteStores returns true for every input whose bulk is at most 1048576, and changes no argument: the given statement. Conditions: those of the given row alone. -/
import Derived.Test.YtjacpjdikhlcoaaRows
import Derived.Test.YtjacpjdikhlcoaaChecked
import Derived.Test.YtjacpjdikhlcoaaVtW14
import Derived.Test.YtjacpjdikhlcoaaTwBulk
import Derived.Carry
import Derived.JoinedCond
import Derived.ReadAgain
import Derived.ChangeSame
import Derived.ChangeVars
import Derived.JoinedOf
import Derived.RowKit
import Derived.RowKitTokens
import Derived.OpenShut
import Derived.ChangeMaps5
namespace Go.Proofs.Ytjacpjdikhlcoaa
set_option linter.unusedSimpArgs false
set_option linter.unusedVariables false
set_option linter.unusedSectionVars false
open Go Go.ChangeShapes Go.WideShapes Go.RowKit Go.Tw
set_option maxRecDepth 100000
theorem voteStores_own : ownKnob Try.prog.godebug = none := by kernel_rfl
theorem voteStores_laidOut : laidOutB Try.prog = true := by kernel_rfl
theorem voteStores_params : Try.f4.params = #[40] := by kernel_rfl
theorem voteStores_und4 : Try.prog.underlying 4 = some .bool := by kernel_rfl

theorem voteStores_b22 : Try.prog.underlying 22 = some (.slice 5) := by kernel_rfl
theorem voteStores_b5 : Try.prog.underlying 5 = some (.int .u8) := by kernel_rfl
theorem voteStores_c5 : Try.prog.cellsOf 5 = 1 := by kernel_rfl
theorem byte_wf {x : Int} (h : (Lit.int .u8 x).wf = true) : 0 ≤ x ∧ x < 256 := by
  have h1 := bounds_u8 h
  omega
theorem voteStores_bslice {H : Type} (l s : List (DataW H)) : Rows.uptoBulk (.slice l s) = Rows.uptoBulkAll l + Rows.uptoBulkAll s + 1 := by simp [Rows.uptoBulk]
theorem voteStores_bcons {H : Type} (d : DataW H) (r : List (DataW H)) : Rows.uptoBulkAll (d :: r) = Rows.uptoBulk d + Rows.uptoBulkAll r := by simp [Rows.uptoBulkAll]
theorem voteStores_bnil {H : Type} : Rows.uptoBulkAll ([] : List (DataW H)) = 0 := by simp [Rows.uptoBulkAll]
theorem voteStores_bagg {H : Type} (l : List (DataW H)) : Rows.uptoBulk (.agg l) = Rows.uptoBulkAll l + 1 := by simp [Rows.uptoBulk]
theorem voteStores_bint {H : Type} (k : IntKind) (n : Int) : Rows.uptoBulk (.lit (.int k n) : DataW H) = 1 := by simp [Rows.uptoBulk]
theorem voteStores_ones {α : Type} : ∀ l : List α, (l.map fun _ => 1).sum = l.length
  | [] => rfl
  | _ :: r => by rw [List.map_cons, List.sum_cons, voteStores_ones r, List.length_cons]; omega
theorem voteStores_T : fieldTab Try.prog 40 = some [(22, 0), (22, 1), (4, 2), (4, 3)] := by kernel_rfl
theorem voteStores_c40 : Try.prog.cellsOf 40 = 4 := by kernel_rfl
theorem voteStores_c22 : Try.prog.cellsOf 22 = 1 := by kernel_rfl
theorem voteStores_c4 : Try.prog.cellsOf 4 = 1 := by kernel_rfl
theorem voteStores_v4 : Try.prog.underlying 4 = some .bool := by kernel_rfl
theorem voteStores_struct : ∃ fs, Try.prog.underlying 40 = some (.struct fs) := by
  have h := voteStores_T
  unfold fieldTab at h
  split at h
  · rename_i fs hu; exact ⟨fs, hu⟩
  · cases h
theorem voteStores_byteB {H : Type} {henc : TypeId × Value → H} {w : World} {base : Nat} {spare : Nat → Bool} {held : Bool} : ∀ fuel cs (x : DataW H × List MemPlace), DataW.trod henc Try.prog w base spare held fuel 5 cs = some x → ∃ n, cs = Go.Tw.encI .u8 n ∧ (0 ≤ n ∧ n < 256) ∧ 1 ≤ Rows.uptoBulk x.1 := by
  intro fuel cs x h
  obtain ⟨n, h1, h2, h3⟩ := DataW.trod_int voteStores_b5 h
  refine ⟨n, h1, byte_wf h3, ?_⟩
  rw [h2, voteStores_bint]; exact Nat.le_refl 1
theorem voteStores_stB {H : Type} {henc : TypeId × Value → H} {w : World} {spare : Nat → Bool} {held : Bool} {fuel : Nat} {cs : List Value} {x : DataW H × List MemPlace} (h : DataW.trod henc Try.prog w 0 spare held fuel 40 cs = some x) : ∃ (A B : Option Addr) (c c2 : Nat) (pr vo : List Int) (has also : Bool), cs = [.slice A pr.length c, .slice B vo.length c2, .bool has, .bool also] ∧ Rd w 1 (Go.Tw.encI .u8) A pr ∧ Rd w 1 (Go.Tw.encI .u8) B vo ∧ byteL pr ∧ byteL vo ∧ pr.length ≤ c ∧ vo.length ≤ c2 ∧ pr.length + vo.length ≤ Rows.uptoBulk x.1 := by
  obtain ⟨hl, ys, hyl, hx, hf⟩ := trod_tabB voteStores_T h
  rw [voteStores_c40] at hl
  match cs, hl with
  | [a, b, c, d], _ =>
    match ys, hyl with
    | [y0, y1, y2, y3], _ =>
      obtain ⟨n0, z0, q0, h0⟩ := hf 0 (22, 0) rfl
      obtain ⟨n1, z1, q1, h1⟩ := hf 1 (22, 1) rfl
      obtain ⟨n2, z2, _, h2⟩ := hf 2 (4, 2) rfl
      obtain ⟨n3, z3, _, h3⟩ := hf 3 (4, 3) rfl
      cases q0
      cases q1
      simp only [voteStores_c22, voteStores_c4, List.drop_zero, List.drop_succ_cons, List.take_succ_cons, List.take_zero] at h0 h1 h2 h3
      obtain ⟨A, pr, ca, e0, r0, w0, k0, _, b0⟩ := opn_sliceB (wt := fun _ : Int => 1) (B := Rows.uptoBulk) (BA := Rows.uptoBulkAll) voteStores_bnil voteStores_bcons voteStores_bslice voteStores_b22 voteStores_c5 (by decide) (Go.Tw.encI_len .u8) voteStores_byteB h0
      obtain ⟨B, vo, cb, e1, r1, w1, k1, _, b1⟩ := opn_sliceB (wt := fun _ : Int => 1) (B := Rows.uptoBulk) (BA := Rows.uptoBulkAll) voteStores_bnil voteStores_bcons voteStores_bslice voteStores_b22 voteStores_c5 (by decide) (Go.Tw.encI_len .u8) voteStores_byteB h1
      obtain ⟨v2, e2, _⟩ := DataW.trod_bool voteStores_v4 h2
      obtain ⟨v3, e3, _⟩ := DataW.trod_bool voteStores_v4 h3
      rw [voteStores_ones] at b0 b1
      simp only [List.cons.injEq, and_true] at e0 e1 e2 e3
      subst e0 e1 e2 e3
      refine ⟨A, B, ca, cb, pr, vo, v2, v3, rfl, r0, r1, w0, w1, k0, k1, ?_⟩
      rw [hx, voteStores_bagg]
      simp only [List.map_cons, List.map_nil, voteStores_bcons, voteStores_bnil]
      omega
set_option maxRecDepth 100000 in
theorem voteStores_lifted (os : Os) (started : os.Started) (H : Type) (enc : TypeId × Value → H) (F0 : Stop.Interp) :
    ReturnsInHanded {} Try.checked os 4 .any ((Rows.OpenSpec.upto Rows.voteStoresSpec).pre6 enc Try.prog Try.f4 Rows.voteStoresUptoRow.domain false) (((Rows.OpenSpec.upto Rows.voteStoresSpec).at F0).post enc Try.prog Try.f4 false true false false) := by
  refine returnsInHanded_of_cond (C := Try.checked) (s := (Rows.OpenSpec.upto Rows.voteStoresSpec)) (k := Rows.uptoSmall) rfl voteStores_own started (by kernel_rfl) Try.func4
    (OpenSpec.witness (enc := enc) (C := Try.checked) (s := (Rows.OpenSpec.upto Rows.voteStoresSpec)) (k := Rows.uptoSmall) rfl false ⟨#[], #[.agg #[.slice none 0 0, .slice none 0 0, .bool false, .bool false]], []⟩ 8 (by kernel_rfl) (by kernel_rfl) (by kernel_rfl) (x := ([.agg [.nil, .nil, .lit (.bool false), .lit (.bool false)]], [], [])) (by kernel_rfl) (by kernel_rfl) (by kernel_rfl)) ?_
  intro W base args ds gs before hval0 hW _ hk _
  have hval : ∀ (j : Nat) t v, Try.f4.params[j]? = some t → args[j]? = some v → Value.okWide Try.prog W .any base t v := hval0
  have hW' := hW
  obtain ⟨p, q, hA0, hV0, rfl, hfz, hnd⟩ := hW
  have hA : DataW.TrodAll enc Try.prog W 0 (fun _ => true) true Try.f4.params.toList args.toList ds p := hA0
  have hV : DataW.TrodVars enc Try.prog W (fun _ => true) [] gs q := hV0
  rw [voteStores_params] at hA hval
  obtain ⟨v0, vs0, d0, ds0, p0, q0, hargs, rfl, rfl, h0, r0⟩ := trodAll_cons hA
  obtain ⟨rfl, rfl, rfl⟩ := trodAll_nil r0
  obtain rfl : args = #[v0] := Array.ext' (by simpa using hargs)
  obtain ⟨rfl, rfl⟩ := trodVars_none hV
  have h0k := h0
  clear hA0 hval0
  have hlt0 : ∀ x ∈ p0, x.block < W.heap.size := fun x hx => hW'.lt x (by simp [hx])
  obtain ⟨fs0, hfs0⟩ := voteStores_struct
  obtain ⟨cs0, rfl, _⟩ := okWide_struct hfs0 (hval 0 40 v0 rfl rfl)
  obtain ⟨fuel0, hf0⟩ := h0
  obtain ⟨A, B, c, c2, pr, vo, has, also, hcs, hr, hr2, hbp, hbv, hk1, hk2, hbk0⟩ := voteStores_stB hf0
  have hcs' : cs0 = #[.slice A pr.length c, .slice B vo.length c2, .bool has, .bool also] := Array.ext' (by simpa [Value.cells] using hcs)
  subst hcs'
  have hbb0 : pr.length + vo.length ≤ 1048576 := by
    have q_ := hk
    unfold Rows.uptoSmall at q_
    rw [decide_eq_true_eq] at q_
    simp only [List.append_nil, voteStores_bcons, voteStores_bnil] at q_
    have z_ : pr.length + vo.length ≤ Rows.uptoBulk d0 := hbk0
    omega
  refine (VoteStores_ct A B c c2 pr vo has also W hr hr2 hbp hbv (by omega) (by omega) hk1 hk2).mono fun e W' ⟨he, hg⟩ => ?_
  subst he
  have e1 : ((Rows.OpenSpec.upto Rows.voteStoresSpec).at F0).fn H ([d0] ++ []) = { results := [.lit (.bool true)], args := [d0] } := rfl
  refine ⟨_, rfl, _, _, _, [], (p0), [], by have q_ := hW'; simp at q_ ⊢; exact q_, ?_, ?_, ?_, hg.below.frame _, fun h => by cases h⟩
  · rw [e1]; exact trodAll_mk1 (shut_bool voteStores_und4 true)
  · rw [e1]; exact trodAll_mk1 (Below.trod voteStores_laidOut (by kernel_rfl) (of_decide_eq_true (by kernel_rfl)) h0k hg.below hlt0)
  · rw [e1]; rfl
theorem voteStores_holds : Rows.VoteStoresUptoSaid :=
  OpenClaim.holds_of_cond 4 Try.f4 rfl rfl rfl rfl rfl rfl rfl ⟨rfl, rfl, rfl, rfl, rfl⟩ rfl rfl rfl rfl rfl (by kernel_rfl) Try.func4 (by kernel_rfl)
    (of_decide_eq_true (by kernel_rfl)) (by unfold Func.isWrapper; first | (rw [if_pos (by decide +kernel)]; kernel_rfl) | (rw [if_neg (of_decide_eq_false (by kernel_rfl))]; exact ⟨rfl, rfl⟩))
    (fun os started H enc _ F0 => voteStores_lifted os started H enc F0)
#print axioms voteStores_holds
end Go.Proofs.Ytjacpjdikhlcoaa
