/- Contracts of functions of the program, each proved by a walk through its code; conditions stand in the statements. -/
import Derived.Test.YtibkndhgeeoidaaRgI
namespace Go.Proofs.Ytibkndhgeeoidaa
set_option linter.unusedSimpArgs false
set_option linter.unusedVariables false
set_option linter.unusedSectionVars false
open Go Go.RowKit Go.Tw
set_option linter.unusedVariables false
set_option maxRecDepth 20000
/-! ### the reference's hash, the reference's choice -/
theorem mixL_app : ∀ (xs ys : List Int) (h : Int), mixL h (xs ++ ys) = mixL (mixL h xs) ys
  | [], _, _ => rfl
  | _ :: r, ys, _ => mixL_app r ys _
def byteR (a : Int) (k : Nat) : Int := IntKind.u8.wrap (a / 2 ^ (24 - 8 * k) % 256)
def b4F (f : FlowV) : List Int := [IntKind.u8.wrap ((f.sp : Int).fdiv (2 ^ 8)), IntKind.u8.wrap f.sp, IntKind.u8.wrap ((f.dp : Int).fdiv (2 ^ 8)), IntKind.u8.wrap f.dp]
def bytesR (f : FlowV) : List Int := [IntKind.u8.wrap f.proto] ++ b4 f.src ++ b4 f.dst ++ b4F f
theorem byte_0 (a : Int) : IntKind.u8.wrap (a / 16777216 % 256) = IntKind.u8.wrap ((a : Int).fdiv (2 ^ 24)) := by
  rw [IntKind.wrap_u8, IntKind.wrap_u8, Int.fdiv_eq_ediv_of_nonneg _ (by decide)]; omega
theorem byte_1 (a : Int) : IntKind.u8.wrap (a / 65536 % 256) = IntKind.u8.wrap ((a : Int).fdiv (2 ^ 16)) := by
  rw [IntKind.wrap_u8, IntKind.wrap_u8, Int.fdiv_eq_ediv_of_nonneg _ (by decide)]; omega
theorem byte_2 (a : Int) : IntKind.u8.wrap (a / 256 % 256) = IntKind.u8.wrap ((a : Int).fdiv (2 ^ 8)) := by
  rw [IntKind.wrap_u8, IntKind.wrap_u8, Int.fdiv_eq_ediv_of_nonneg _ (by decide)]; omega
theorem byte_3 (a : Int) : IntKind.u8.wrap (a / 1 % 256) = IntKind.u8.wrap a := by
  rw [IntKind.wrap_u8, IntKind.wrap_u8]; omega
theorem hash0_eq (s : Int) (f : FlowV) : mixL (Go.bits .xor .u64 s 14695981039346656037) (bytesR f) = hash0 s f := by
  unfold bytesR b4F hash0
  rw [mixL_app, mixL_app, mixL_app]
theorem b4_by (a : Int) : ∀ b ∈ b4 a, 0 ≤ b ∧ b ≤ 255 := by
  intro b hb; unfold b4 at hb
  simp only [List.mem_cons, List.not_mem_nil, or_false] at hb
  rcases hb with rfl | rfl | rfl | rfl <;> exact b8 _
theorem bytesR_by (f : FlowV) : ∀ b ∈ bytesR f, 0 ≤ b ∧ b ≤ 255 := by
  intro b hb; unfold bytesR b4F at hb
  simp only [List.mem_append, List.mem_cons, List.not_mem_nil, or_false] at hb
  rcases hb with ((rfl | hb) | hb) | (rfl | rfl | rfl | rfl)
  · exact b8 _
  · exact b4_by _ _ hb
  · exact b4_by _ _ hb
  all_goals exact b8 _
theorem bytesR_len (f : FlowV) : (bytesR f).length = 13 := rfl
def stI (L : List EndV) (o : Option (Int × EndV)) (best top : Int) : Prop := match o with
  | none => best = -1
  | some (b, c) => ∃ n : Nat, best = (n : Int) ∧ n < L.length ∧ L[n]? = some c ∧ top = b
theorem stI_neg {L : List EndV} {o : Option (Int × EndV)} {best top : Int} (h : stI L o best top) (hb : best < 0) : o = none := by
  cases o with
  | none => rfl
  | some p => obtain ⟨n, h1, _⟩ := h; omega
theorem stI_pos {L : List EndV} {o : Option (Int × EndV)} {best top : Int} (h : stI L o best top) (hb : ¬ best < 0) : ∃ c, o = some (top, c) := by
  cases o with
  | none => unfold stI at h; omega
  | some p => obtain ⟨n, _, _, _, h4⟩ := h; exact ⟨p.2, by rw [h4]⟩
theorem stI_new {f : FlowV} {L : List EndV} {e : EndV} {i j : Nat} {o : Option (Int × EndV)} {best top : Int} (h : stI L (innerC f e j o) best top) (hi : L[i]? = some e) (hb : best < 0 ∨ top < scoreE f e j) : stI L (innerC f e (j + 1) o) (i : Int) (scoreE f e j) := by
  have hil := (List.getElem?_eq_some_iff.1 hi).1
  have h2 : stepC f e j (innerC f e j o) = some (scoreE f e j, e) := by
    by_cases hn : best < 0
    · rw [stI_neg h hn]; rfl
    · obtain ⟨c, hc⟩ := stI_pos h hn
      rw [hc]
      exact if_pos (by omega)
  show stI L (stepC f e j (innerC f e j o)) _ _
  rw [h2]
  exact ⟨i, rfl, hil, hi, rfl⟩
theorem stI_keep {f : FlowV} {L : List EndV} {e : EndV} {j : Nat} {o : Option (Int × EndV)} {best top : Int} (h : stI L (innerC f e j o) best top) (hb : ¬ best < 0) (ht : ¬ top < scoreE f e j) : stI L (innerC f e (j + 1) o) best top := by
  obtain ⟨c, hc⟩ := stI_pos h hb
  show stI L (stepC f e j (innerC f e j o)) _ _
  rw [hc] at h ⊢
  have h2 : stepC f e j (some (top, c)) = some (top, c) := if_neg ht
  rw [h2]; exact h
def chI (f : FlowV) (L : List EndV) (r : Int) : Prop := (foundB f L = true ∧ ∃ n : Nat, r = (n : Int) ∧ n < L.length ∧ L[n]? = some (chosenE f L)) ∨ (foundB f L = false ∧ r = -1 ∧ chosenE f L = zE)
theorem stI_end {f : FlowV} {L : List EndV} {best top : Int} (h : stI L (chooseC f L) best top) : chI f L best := by
  unfold chI foundB chosenE
  cases hc : chooseC f L with
  | none => rw [hc] at h; exact .inr ⟨rfl, h, rfl⟩
  | some p => rw [hc] at h; obtain ⟨n, h1, h2, h3, _⟩ := h; exact .inl ⟨rfl, n, h1, h2, h3⟩
theorem Byte0_ct (a : Int) (w : World) (h0 : 0 ≤ a) (h1 : a ≤ 4294967295) : Calls Try.prog 79 #[.int .u32 a, .int .i64 0] w fun e w' => e = .returned (.int .i64 (a / 16777216 % 256)) ∧ Fr w w' [] := by
 refine enterD (n := 13) Try.func79 rfl rfl (Nat.le_of_ble_eq_true rfl) ?_
 intro Q0 hN hret hret'
 have hC := Cx.start w
 refine WCs (fun K1 hK2 => ?_)
 refine WCg (WLq 1 [(4, .int .i64 0)] (WLd rfl (QXn (hK2 _ _ ?_))))
 refine WCs (fun K3 hK4 => ?_)
 refine WCg (WLq 3 [(7, .int .i64 (IntKind.i64.wrap (8 * 0))), (6, .int .i64 0), (5, .int .u32 a)] ?_)
 refine WLt (show (.int .i64 (IntKind.i64.wrap (8 * 0)) : Value) = .int .i64 0 from by rw [wrap_in_i64 _ (by omega) (by omega)]; rfl) ?_
 refine WLq 1 [(8, .int .i64 (IntKind.i64.wrap (24 - 0)))] ?_
 refine WLt (show (.int .i64 (IntKind.i64.wrap (24 - 0)) : Value) = .int .i64 24 from by rw [wrap_in_i64 _ (by omega) (by omega)]; rfl) ?_
 refine WLq 1 [(9, .int .u64 (IntKind.u64.wrap (24)))] ?_
 refine WLt (show (.int .u64 (IntKind.u64.wrap (24)) : Value) = .int .u64 24 from by rw [wrap_in_u64 _ (by omega) (by omega)]) ?_
 refine WLq 1 [(10, .int .u32 ((a : Int).fdiv (2 ^ 24)))] ?_
 refine WLt (show (.int .u32 ((a : Int).fdiv (2 ^ 24)) : Value) = .int .u32 (a / 16777216) from by congr 1; rw [Int.fdiv_eq_ediv_of_nonneg _ (by decide)]; rfl) ?_
 refine WLq 1 [(11, .int .i64 (IntKind.i64.wrap (a / 16777216)))] ?_
 refine WLt (show (.int .i64 (IntKind.i64.wrap (a / 16777216)) : Value) = .int .i64 (a / 16777216) from by rw [wrap_in_i64 _ (by omega) (by omega)]) ?_
 refine WLq 1 [(12, .int .i64 (Int.tmod (a / 16777216) 256))] ?_
 refine WLt (show (.int .i64 (Int.tmod (a / 16777216) 256) : Value) = .int .i64 (a / 16777216 % 256) from by rw [Int.tmod_eq_emod_of_nonneg (by omega)]) ?_
 refine WLq 1 [(4, .int .i64 (a / 16777216 % 256))] (WLd rfl (QXn (hK4 _ _ ?_)))
 refine WC.ret ?_
 refine (hret _ _ _ rfl ?_).1
 exact ⟨rfl, hC.fr⟩

theorem Byte1_ct (a : Int) (w : World) (h0 : 0 ≤ a) (h1 : a ≤ 4294967295) : Calls Try.prog 79 #[.int .u32 a, .int .i64 1] w fun e w' => e = .returned (.int .i64 (a / 65536 % 256)) ∧ Fr w w' [] := by
 refine enterD (n := 13) Try.func79 rfl rfl (Nat.le_of_ble_eq_true rfl) ?_
 intro Q0 hN hret hret'
 have hC := Cx.start w
 refine WCs (fun K1 hK2 => ?_)
 refine WCg (WLq 1 [(4, .int .i64 0)] (WLd rfl (QXn (hK2 _ _ ?_))))
 refine WCs (fun K3 hK4 => ?_)
 refine WCg (WLq 3 [(7, .int .i64 (IntKind.i64.wrap (8 * 1))), (6, .int .i64 1), (5, .int .u32 a)] ?_)
 refine WLt (show (.int .i64 (IntKind.i64.wrap (8 * 1)) : Value) = .int .i64 8 from by rw [wrap_in_i64 _ (by omega) (by omega)]; rfl) ?_
 refine WLq 1 [(8, .int .i64 (IntKind.i64.wrap (24 - 8)))] ?_
 refine WLt (show (.int .i64 (IntKind.i64.wrap (24 - 8)) : Value) = .int .i64 16 from by rw [wrap_in_i64 _ (by omega) (by omega)]; rfl) ?_
 refine WLq 1 [(9, .int .u64 (IntKind.u64.wrap (16)))] ?_
 refine WLt (show (.int .u64 (IntKind.u64.wrap (16)) : Value) = .int .u64 16 from by rw [wrap_in_u64 _ (by omega) (by omega)]) ?_
 refine WLq 1 [(10, .int .u32 ((a : Int).fdiv (2 ^ 16)))] ?_
 refine WLt (show (.int .u32 ((a : Int).fdiv (2 ^ 16)) : Value) = .int .u32 (a / 65536) from by congr 1; rw [Int.fdiv_eq_ediv_of_nonneg _ (by decide)]; rfl) ?_
 refine WLq 1 [(11, .int .i64 (IntKind.i64.wrap (a / 65536)))] ?_
 refine WLt (show (.int .i64 (IntKind.i64.wrap (a / 65536)) : Value) = .int .i64 (a / 65536) from by rw [wrap_in_i64 _ (by omega) (by omega)]) ?_
 refine WLq 1 [(12, .int .i64 (Int.tmod (a / 65536) 256))] ?_
 refine WLt (show (.int .i64 (Int.tmod (a / 65536) 256) : Value) = .int .i64 (a / 65536 % 256) from by rw [Int.tmod_eq_emod_of_nonneg (by omega)]) ?_
 refine WLq 1 [(4, .int .i64 (a / 65536 % 256))] (WLd rfl (QXn (hK4 _ _ ?_)))
 refine WC.ret ?_
 refine (hret _ _ _ rfl ?_).1
 exact ⟨rfl, hC.fr⟩

theorem Byte2_ct (a : Int) (w : World) (h0 : 0 ≤ a) (h1 : a ≤ 4294967295) : Calls Try.prog 79 #[.int .u32 a, .int .i64 2] w fun e w' => e = .returned (.int .i64 (a / 256 % 256)) ∧ Fr w w' [] := by
 refine enterD (n := 13) Try.func79 rfl rfl (Nat.le_of_ble_eq_true rfl) ?_
 intro Q0 hN hret hret'
 have hC := Cx.start w
 refine WCs (fun K1 hK2 => ?_)
 refine WCg (WLq 1 [(4, .int .i64 0)] (WLd rfl (QXn (hK2 _ _ ?_))))
 refine WCs (fun K3 hK4 => ?_)
 refine WCg (WLq 3 [(7, .int .i64 (IntKind.i64.wrap (8 * 2))), (6, .int .i64 2), (5, .int .u32 a)] ?_)
 refine WLt (show (.int .i64 (IntKind.i64.wrap (8 * 2)) : Value) = .int .i64 16 from by rw [wrap_in_i64 _ (by omega) (by omega)]; rfl) ?_
 refine WLq 1 [(8, .int .i64 (IntKind.i64.wrap (24 - 16)))] ?_
 refine WLt (show (.int .i64 (IntKind.i64.wrap (24 - 16)) : Value) = .int .i64 8 from by rw [wrap_in_i64 _ (by omega) (by omega)]; rfl) ?_
 refine WLq 1 [(9, .int .u64 (IntKind.u64.wrap (8)))] ?_
 refine WLt (show (.int .u64 (IntKind.u64.wrap (8)) : Value) = .int .u64 8 from by rw [wrap_in_u64 _ (by omega) (by omega)]) ?_
 refine WLq 1 [(10, .int .u32 ((a : Int).fdiv (2 ^ 8)))] ?_
 refine WLt (show (.int .u32 ((a : Int).fdiv (2 ^ 8)) : Value) = .int .u32 (a / 256) from by congr 1; rw [Int.fdiv_eq_ediv_of_nonneg _ (by decide)]; rfl) ?_
 refine WLq 1 [(11, .int .i64 (IntKind.i64.wrap (a / 256)))] ?_
 refine WLt (show (.int .i64 (IntKind.i64.wrap (a / 256)) : Value) = .int .i64 (a / 256) from by rw [wrap_in_i64 _ (by omega) (by omega)]) ?_
 refine WLq 1 [(12, .int .i64 (Int.tmod (a / 256) 256))] ?_
 refine WLt (show (.int .i64 (Int.tmod (a / 256) 256) : Value) = .int .i64 (a / 256 % 256) from by rw [Int.tmod_eq_emod_of_nonneg (by omega)]) ?_
 refine WLq 1 [(4, .int .i64 (a / 256 % 256))] (WLd rfl (QXn (hK4 _ _ ?_)))
 refine WC.ret ?_
 refine (hret _ _ _ rfl ?_).1
 exact ⟨rfl, hC.fr⟩

theorem Byte3_ct (a : Int) (w : World) (h0 : 0 ≤ a) (h1 : a ≤ 4294967295) : Calls Try.prog 79 #[.int .u32 a, .int .i64 3] w fun e w' => e = .returned (.int .i64 (a / 1 % 256)) ∧ Fr w w' [] := by
 refine enterD (n := 13) Try.func79 rfl rfl (Nat.le_of_ble_eq_true rfl) ?_
 intro Q0 hN hret hret'
 have hC := Cx.start w
 refine WCs (fun K1 hK2 => ?_)
 refine WCg (WLq 1 [(4, .int .i64 0)] (WLd rfl (QXn (hK2 _ _ ?_))))
 refine WCs (fun K3 hK4 => ?_)
 refine WCg (WLq 3 [(7, .int .i64 (IntKind.i64.wrap (8 * 3))), (6, .int .i64 3), (5, .int .u32 a)] ?_)
 refine WLt (show (.int .i64 (IntKind.i64.wrap (8 * 3)) : Value) = .int .i64 24 from by rw [wrap_in_i64 _ (by omega) (by omega)]; rfl) ?_
 refine WLq 1 [(8, .int .i64 (IntKind.i64.wrap (24 - 24)))] ?_
 refine WLt (show (.int .i64 (IntKind.i64.wrap (24 - 24)) : Value) = .int .i64 0 from by rw [wrap_in_i64 _ (by omega) (by omega)]; rfl) ?_
 refine WLq 1 [(9, .int .u64 (IntKind.u64.wrap (0)))] ?_
 refine WLt (show (.int .u64 (IntKind.u64.wrap (0)) : Value) = .int .u64 0 from by rw [wrap_in_u64 _ (by omega) (by omega)]) ?_
 refine WLq 1 [(10, .int .u32 ((a : Int).fdiv (2 ^ 0)))] ?_
 refine WLt (show (.int .u32 ((a : Int).fdiv (2 ^ 0)) : Value) = .int .u32 (a / 1) from by congr 1; rw [Int.fdiv_eq_ediv_of_nonneg _ (by decide)]; rfl) ?_
 refine WLq 1 [(11, .int .i64 (IntKind.i64.wrap (a / 1)))] ?_
 refine WLt (show (.int .i64 (IntKind.i64.wrap (a / 1)) : Value) = .int .i64 (a / 1) from by rw [wrap_in_i64 _ (by omega) (by omega)]) ?_
 refine WLq 1 [(12, .int .i64 (Int.tmod (a / 1) 256))] ?_
 refine WLt (show (.int .i64 (Int.tmod (a / 1) 256) : Value) = .int .i64 (a / 1 % 256) from by rw [Int.tmod_eq_emod_of_nonneg (by omega)]) ?_
 refine WLq 1 [(4, .int .i64 (a / 1 % 256))] (WLd rfl (QXn (hK4 _ _ ?_)))
 refine WC.ret ?_
 refine (hret _ _ _ rfl ?_).1
 exact ⟨rfl, hC.fr⟩

set_option maxHeartbeats 2000000 in
theorem Bytes_ct (f : FlowV) (w : World) (hwf : wfF f) : Calls Try.prog 62 #[.agg #[.int .i64 f.proto, .int .u32 f.src, .int .i64 f.sp, .int .u32 f.dst, .int .i64 f.dp]] w fun e w' => ∃ v, e = .returned v ∧ Fr w w' [] ∧ w'.ownsRow w.heap.size 5 1 v (bytesR f).length ((bytesR f).flatMap (Go.Tw.encI .u8)) := by
 refine enterD (n := 51) Try.func62 rfl rfl (Nat.le_of_ble_eq_true rfl) ?_
 intro Q0 hN hret hret'
 have hC := Cx.start w
 refine WCs (fun K1 hK2 => ?_)
 refine WCg ?_
 refine WL.newM hC (fun b => .pointer (some ⟨b, 0, none⟩)) (.cells #[.int .i64 f.proto, .int .u32 f.src, .int .i64 f.sp, .int .u32 f.dst, .int .i64 f.dp] 25) 1 (fun _ => by kernel_rfl) (fun g3 w4 hb7 hF5 hC6 => ?_)
 refine WLq 1 [(2, .slice none 0 0)] (WLd rfl (QXn (hK2 _ _ ?_)))
 refine WCs (fun K8 hK9 => ?_)
 refine WCg (WLq 1 [(6, .pointer (some ⟨g3, 0, none⟩))] ?_)
 refine WLo 3 (.pointer (some ⟨g3, 0, none⟩)) (.int .i64 f.proto) 7 (run_ld (hC6.get 0 rfl) rfl) ?_
 refine WLq 1 [(8, .int .u8 (IntKind.u8.wrap (f.proto)))] ?_
 refine WLt (show (.int .u8 (IntKind.u8.wrap (f.proto)) : Value) = .int .u8 (IntKind.u8.wrap (f.proto)) from rfl) ?_
 refine WL.newM hC6 (fun b => .slice (some ⟨b, 0, none⟩) 1 1) (.cells #[.int .u8 (IntKind.u8.wrap (f.proto))] 5) 9 (fun _ => by kernel_rfl) (fun ab dA dB dC bj => ?_)
 refine WLq 1 [(3, .slice (some ⟨ab, 0, none⟩) 1 1)] (WLd rfl (QXn (hK9 _ _ ?_)))
 refine WCs (fun eA bk => ?_)
 refine WCs (fun eB bl => ?_)
 refine WCg (WLq 1 [(4, .int .i64 0)] (WLd rfl (QXn (bl _ _ ?_))))
 refine WC.block ?_
 refine WC.unroll ?_
 refine Rounds.round (fun eC bm => ?_)
 refine WCs (fun eD bn => ?_)
 refine WCs (fun eE bo => ?_)
 refine WCg (WLq 2 [(11, .bool true), (10, .int .i64 0)] (WLd rfl (QXn (bo _ _ ?_))))
 refine WCt rfl ?_
 refine WC.skip ?_
 refine QXn (bn _ _ ?_)
 refine WCs (fun eF bp => ?_)
 refine WC.block ?_
 refine WCg (WLq 2 [(15, .pointer (some ⟨g3, 1, none⟩)), (14, .slice (some ⟨ab, 0, none⟩) 1 1)] ?_)
 refine WLo 23 (.pointer (some ⟨g3, 1, none⟩)) (.int .u32 f.src) 16 (run_ld (bj.get 0 rfl) rfl) ?_
 refine WLq 1 [(17, .int .i64 0)] ?_
 refine WLc rfl rfl rfl rfl rfl (by kernel_rfl) (Byte0_ct f.src dA hwf.src.1 hwf.src.2) ?_
 rintro _ eG ⟨rfl, cJ⟩
 refine ⟨_, rfl, ?_⟩
 have cK := bj.call cJ
 refine WLq 1 [(19, .int .u8 (IntKind.u8.wrap (f.src / 16777216 % 256)))] ?_
 refine WLt (show (.int .u8 (IntKind.u8.wrap (f.src / 16777216 % 256)) : Value) = .int .u8 (IntKind.u8.wrap ((f.src : Int).fdiv (2 ^ 24))) from congrArg (Value.int .u8) (byte_0 f.src)) ?_
 refine WL.newM cK (fun b => .slice (some ⟨b, 0, none⟩) 1 1) (.cells #[.int .u8 (IntKind.u8.wrap ((f.src : Int).fdiv (2 ^ 24)))] 5) 20 (fun _ => by kernel_rfl) (fun dg dD dE dF bq => ?_)
 have cL : World.ownsRow dD 0 5 1 (.slice (some ⟨ab, 0, none⟩) 1 1) 1 ([IntKind.u8.wrap (f.proto)].flatMap (Go.Tw.encI .u8)) := own_of_blk (Nat.zero_le _) (bq.get 1 rfl) (Nat.le_refl _) (by decide) rfl rfl
 have br := bq.toF 1 rfl
 obtain ⟨eH, dG, cM, cN, dH, bs, cO, cP⟩ := app_run Try.prog br 0 (v := .slice (some ⟨ab, 0, none⟩) 1 1) rfl 93 93 5 1 1 1 1 1 (some ⟨dg, 0, none⟩) rfl cL [.int .u8 (IntKind.u8.wrap ((f.src : Int).fdiv (2 ^ 24)))] rfl (srcOk.blk 1 (br.get 1 rfl)) rfl (by simp only [maxLen]; omega) (by omega)
 have bt := own_snoc (enc := (Go.Tw.encI .u8)) (ys := [IntKind.u8.wrap (f.proto)]) (IntKind.u8.wrap ((f.src : Int).fdiv (2 ^ 24))) cN
 obtain ⟨bf, bg, rfl, dh⟩ := own_form bt
 refine WL.sem (Builtin.append_ #[93, 93] 93 #[.slice (some ⟨ab, 0, none⟩) 1 1, .slice (some ⟨dg, 0, none⟩) 1 1]) 21 (.slice bf 2 bg) (by kernel_rfl) cM ?_
 refine WLq 1 [(3, .slice bf 2 bg)] ?_
 refine WLd rfl ?_
 refine QXb ?_
 refine QXn (bp _ _ ?_)
 refine WCg (WLq 3 [(4, .int .i64 1), (13, .int .i64 1), (12, .int .i64 0)] ?_)
 refine WLd rfl ?_
 refine QXn ?_
 refine fun a_ ha_ => bm [(0, .agg #[.int .i64 f.proto, .int .u32 f.src, .int .i64 f.sp, .int .u32 f.dst, .int .i64 f.dp]), (1, .pointer (some ⟨g3, 0, none⟩)), (2, .slice none 0 0), (3, .slice bf 2 bg), (4, .int .i64 1), (6, .pointer (some ⟨g3, 0, none⟩)), (7, .int .i64 f.proto), (8, .int .u8 (IntKind.u8.wrap (f.proto))), (9, .slice (some ⟨ab, 0, none⟩) 1 1)] _ ?_ a_ (ha_.weaken (sub_of ⟨rfl, rfl, rfl, rfl, rfl, rfl, rfl, rfl, rfl, trivial⟩))
 refine Rounds.round (fun eI bu => ?_)
 refine WCs (fun eJ bv => ?_)
 refine WCs (fun eK bw => ?_)
 refine WCg (WLq 2 [(11, .bool true), (10, .int .i64 1)] (WLd rfl (QXn (bw _ _ ?_))))
 refine WCt rfl ?_
 refine WC.skip ?_
 refine QXn (bv _ _ ?_)
 refine WCs (fun eL bx => ?_)
 refine WC.block ?_
 refine WCg (WLq 2 [(15, .pointer (some ⟨g3, 1, none⟩)), (14, .slice bf 2 bg)] ?_)
 refine WLo 23 (.pointer (some ⟨g3, 1, none⟩)) (.int .u32 f.src) 16 (run_ld (bs.get 0 rfl) rfl) ?_
 refine WLq 1 [(17, .int .i64 1)] ?_
 refine WLc rfl rfl rfl rfl rfl (by kernel_rfl) (Byte1_ct f.src dG hwf.src.1 hwf.src.2) ?_
 rintro _ eM ⟨rfl, bz⟩
 refine ⟨_, rfl, ?_⟩
 have cQ := bs.call bz
 have cR := own_fr bt bz (by simp)
 refine WLq 1 [(19, .int .u8 (IntKind.u8.wrap (f.src / 65536 % 256)))] ?_
 refine WLt (show (.int .u8 (IntKind.u8.wrap (f.src / 65536 % 256)) : Value) = .int .u8 (IntKind.u8.wrap ((f.src : Int).fdiv (2 ^ 16))) from congrArg (Value.int .u8) (byte_1 f.src)) ?_
 refine WL.newM cQ (fun b => .slice (some ⟨b, 0, none⟩) 1 1) (.cells #[.int .u8 (IntKind.u8.wrap ((f.src : Int).fdiv (2 ^ 16)))] 5) 20 (fun _ => by kernel_rfl) (fun di eN dI cS bA => ?_)
 have cT := own_fr cR cS (by simp)
 obtain ⟨eO, dJ, cU, cV, dK, bB, cW, cX⟩ := app_run Try.prog bA 0 (v := .slice bf 2 bg) rfl 93 93 5 1 1 2 1 1 (some ⟨di, 0, none⟩) rfl cT [.int .u8 (IntKind.u8.wrap ((f.src : Int).fdiv (2 ^ 16)))] rfl (srcOk.blk 1 (bA.get 2 rfl)) rfl (by simp only [maxLen]; omega) (by omega)
 have bC := own_snoc (enc := (Go.Tw.encI .u8)) (ys := [IntKind.u8.wrap (f.proto)] ++ [IntKind.u8.wrap ((f.src : Int).fdiv (2 ^ 24))]) (IntKind.u8.wrap ((f.src : Int).fdiv (2 ^ 16))) cV
 obtain ⟨bh, bi, rfl, dj⟩ := own_form bC
 refine WL.sem (Builtin.append_ #[93, 93] 93 #[.slice bf 2 bg, .slice (some ⟨di, 0, none⟩) 1 1]) 21 (.slice bh 3 bi) (by kernel_rfl) cU ?_
 refine WLq 1 [(3, .slice bh 3 bi)] ?_
 refine WLd rfl ?_
 refine QXb ?_
 refine QXn (bx _ _ ?_)
 refine WCg (WLq 3 [(4, .int .i64 2), (13, .int .i64 2), (12, .int .i64 1)] ?_)
 refine WLd rfl ?_
 refine QXn ?_
 refine fun a_ ha_ => bu [(0, .agg #[.int .i64 f.proto, .int .u32 f.src, .int .i64 f.sp, .int .u32 f.dst, .int .i64 f.dp]), (1, .pointer (some ⟨g3, 0, none⟩)), (2, .slice none 0 0), (3, .slice bh 3 bi), (4, .int .i64 2), (6, .pointer (some ⟨g3, 0, none⟩)), (7, .int .i64 f.proto), (8, .int .u8 (IntKind.u8.wrap (f.proto))), (9, .slice (some ⟨ab, 0, none⟩) 1 1)] _ ?_ a_ (ha_.weaken (sub_of ⟨rfl, rfl, rfl, rfl, rfl, rfl, rfl, rfl, rfl, trivial⟩))
 refine Rounds.round (fun eP bD => ?_)
 refine WCs (fun eQ bE => ?_)
 refine WCs (fun eR bF => ?_)
 refine WCg (WLq 2 [(11, .bool true), (10, .int .i64 2)] (WLd rfl (QXn (bF _ _ ?_))))
 refine WCt rfl ?_
 refine WC.skip ?_
 refine QXn (bE _ _ ?_)
 refine WCs (fun eS bG => ?_)
 refine WC.block ?_
 refine WCg (WLq 2 [(15, .pointer (some ⟨g3, 1, none⟩)), (14, .slice bh 3 bi)] ?_)
 refine WLo 23 (.pointer (some ⟨g3, 1, none⟩)) (.int .u32 f.src) 16 (run_ld (bB.get 0 rfl) rfl) ?_
 refine WLq 1 [(17, .int .i64 2)] ?_
 refine WLc rfl rfl rfl rfl rfl (by kernel_rfl) (Byte2_ct f.src dJ hwf.src.1 hwf.src.2) ?_
 rintro _ eT ⟨rfl, bH⟩
 refine ⟨_, rfl, ?_⟩
 have cY := bB.call bH
 have cZ := own_fr bC bH (by simp)
 refine WLq 1 [(19, .int .u8 (IntKind.u8.wrap (f.src / 256 % 256)))] ?_
 refine WLt (show (.int .u8 (IntKind.u8.wrap (f.src / 256 % 256)) : Value) = .int .u8 (IntKind.u8.wrap ((f.src : Int).fdiv (2 ^ 8))) from congrArg (Value.int .u8) (byte_2 f.src)) ?_
 refine WL.newM cY (fun b => .slice (some ⟨b, 0, none⟩) 1 1) (.cells #[.int .u8 (IntKind.u8.wrap ((f.src : Int).fdiv (2 ^ 8)))] 5) 20 (fun _ => by kernel_rfl) (fun dk eU dL c3 bI => ?_)
 have c4 := own_fr cZ c3 (by simp)
 obtain ⟨eV, dM, bJ, bK, dl, ao, cv, cw⟩ := app_run Try.prog bI 0 (v := .slice bh 3 bi) rfl 93 93 5 1 1 3 1 1 (some ⟨dk, 0, none⟩) rfl c4 [.int .u8 (IntKind.u8.wrap ((f.src : Int).fdiv (2 ^ 8)))] rfl (srcOk.blk 1 (bI.get 3 rfl)) rfl (by simp only [maxLen]; omega) (by omega)
 have ap := own_snoc (enc := (Go.Tw.encI .u8)) (ys := [IntKind.u8.wrap (f.proto)] ++ [IntKind.u8.wrap ((f.src : Int).fdiv (2 ^ 24))] ++ [IntKind.u8.wrap ((f.src : Int).fdiv (2 ^ 16))]) (IntKind.u8.wrap ((f.src : Int).fdiv (2 ^ 8))) bK
 obtain ⟨ac, ad, rfl, c5⟩ := own_form ap
 refine WL.sem (Builtin.append_ #[93, 93] 93 #[.slice bh 3 bi, .slice (some ⟨dk, 0, none⟩) 1 1]) 21 (.slice ac 4 ad) (by kernel_rfl) bJ ?_
 refine WLq 1 [(3, .slice ac 4 ad)] ?_
 refine WLd rfl ?_
 refine QXb ?_
 refine QXn (bG _ _ ?_)
 refine WCg (WLq 3 [(4, .int .i64 3), (13, .int .i64 3), (12, .int .i64 2)] ?_)
 refine WLd rfl ?_
 refine QXn ?_
 refine fun a_ ha_ => bD [(0, .agg #[.int .i64 f.proto, .int .u32 f.src, .int .i64 f.sp, .int .u32 f.dst, .int .i64 f.dp]), (1, .pointer (some ⟨g3, 0, none⟩)), (2, .slice none 0 0), (3, .slice ac 4 ad), (4, .int .i64 3), (6, .pointer (some ⟨g3, 0, none⟩)), (7, .int .i64 f.proto), (8, .int .u8 (IntKind.u8.wrap (f.proto))), (9, .slice (some ⟨ab, 0, none⟩) 1 1)] _ ?_ a_ (ha_.weaken (sub_of ⟨rfl, rfl, rfl, rfl, rfl, rfl, rfl, rfl, rfl, trivial⟩))
 refine Rounds.round (fun dN aq => ?_)
 refine WCs (fun dO ar => ?_)
 refine WCs (fun dP au => ?_)
 refine WCg (WLq 2 [(11, .bool true), (10, .int .i64 3)] (WLd rfl (QXn (au _ _ ?_))))
 refine WCt rfl ?_
 refine WC.skip ?_
 refine QXn (ar _ _ ?_)
 refine WCs (fun dQ av => ?_)
 refine WC.block ?_
 refine WCg (WLq 2 [(15, .pointer (some ⟨g3, 1, none⟩)), (14, .slice ac 4 ad)] ?_)
 refine WLo 23 (.pointer (some ⟨g3, 1, none⟩)) (.int .u32 f.src) 16 (run_ld (ao.get 0 rfl) rfl) ?_
 refine WLq 1 [(17, .int .i64 3)] ?_
 refine WLc rfl rfl rfl rfl rfl (by kernel_rfl) (Byte3_ct f.src dM hwf.src.1 hwf.src.2) ?_
 rintro _ dR ⟨rfl, aw⟩
 refine ⟨_, rfl, ?_⟩
 have bL := ao.call aw
 have bM := own_fr ap aw (by simp)
 refine WLq 1 [(19, .int .u8 (IntKind.u8.wrap (f.src / 1 % 256)))] ?_
 refine WLt (show (.int .u8 (IntKind.u8.wrap (f.src / 1 % 256)) : Value) = .int .u8 (IntKind.u8.wrap (f.src)) from congrArg (Value.int .u8) (byte_3 f.src)) ?_
 refine WL.newM bL (fun b => .slice (some ⟨b, 0, none⟩) 1 1) (.cells #[.int .u8 (IntKind.u8.wrap (f.src))] 5) 20 (fun _ => by kernel_rfl) (fun bN dS dm bO ax => ?_)
 have bP := own_fr bM bO (by simp)
 obtain ⟨dT, c6, bQ, bR, dn, ay, cx, cy⟩ := app_run Try.prog ax 0 (v := .slice ac 4 ad) rfl 93 93 5 1 1 4 1 1 (some ⟨bN, 0, none⟩) rfl bP [.int .u8 (IntKind.u8.wrap (f.src))] rfl (srcOk.blk 1 (ax.get 4 rfl)) rfl (by simp only [maxLen]; omega) (by omega)
 have az := own_snoc (enc := (Go.Tw.encI .u8)) (ys := [IntKind.u8.wrap (f.proto)] ++ [IntKind.u8.wrap ((f.src : Int).fdiv (2 ^ 24))] ++ [IntKind.u8.wrap ((f.src : Int).fdiv (2 ^ 16))] ++ [IntKind.u8.wrap ((f.src : Int).fdiv (2 ^ 8))]) (IntKind.u8.wrap (f.src)) bR
 obtain ⟨ae, af, rfl, c7⟩ := own_form az
 refine WL.sem (Builtin.append_ #[93, 93] 93 #[.slice ac 4 ad, .slice (some ⟨bN, 0, none⟩) 1 1]) 21 (.slice ae 5 af) (by kernel_rfl) bQ ?_
 refine WLq 1 [(3, .slice ae 5 af)] ?_
 refine WLd rfl ?_
 refine QXb ?_
 refine QXn (av _ _ ?_)
 refine WCg (WLq 3 [(4, .int .i64 4), (13, .int .i64 4), (12, .int .i64 3)] ?_)
 refine WLd rfl ?_
 refine QXn ?_
 refine fun a_ ha_ => aq [(0, .agg #[.int .i64 f.proto, .int .u32 f.src, .int .i64 f.sp, .int .u32 f.dst, .int .i64 f.dp]), (1, .pointer (some ⟨g3, 0, none⟩)), (2, .slice none 0 0), (3, .slice ae 5 af), (4, .int .i64 4), (6, .pointer (some ⟨g3, 0, none⟩)), (7, .int .i64 f.proto), (8, .int .u8 (IntKind.u8.wrap (f.proto))), (9, .slice (some ⟨ab, 0, none⟩) 1 1)] _ ?_ a_ (ha_.weaken (sub_of ⟨rfl, rfl, rfl, rfl, rfl, rfl, rfl, rfl, rfl, trivial⟩))
 refine Rounds.round (fun dU bS => ?_)
 refine WCs (fun dV bT => ?_)
 refine WCs (fun dW aA => ?_)
 refine WCg (WLq 2 [(11, .bool false), (10, .int .i64 4)] (WLd rfl (QXn (aA _ _ ?_))))
 refine WCf rfl ?_
 refine WC.exit ?_
 refine QXe ?_
 refine QXe ?_
 refine QX.block_hit ?_
 refine QXn (bk _ _ ?_)
 refine WCs (fun dX aB => ?_)
 refine WCs (fun dY aC => ?_)
 refine WCg (WLq 1 [(5, .int .i64 0)] (WLd rfl (QXn (aC _ _ ?_))))
 refine WC.block ?_
 refine WC.unroll ?_
 refine Rounds.round (fun dZ aD => ?_)
 refine WCs (fun d0 aE => ?_)
 refine WCs (fun d1 aF => ?_)
 refine WCg (WLq 2 [(23, .bool true), (22, .int .i64 0)] (WLd rfl (QXn (aF _ _ ?_))))
 refine WCt rfl ?_
 refine WC.skip ?_
 refine QXn (aE _ _ ?_)
 refine WCs (fun d2 aG => ?_)
 refine WC.block ?_
 refine WCg (WLq 2 [(27, .pointer (some ⟨g3, 3, none⟩)), (26, .slice ae 5 af)] ?_)
 refine WLo 23 (.pointer (some ⟨g3, 3, none⟩)) (.int .u32 f.dst) 28 (run_ld (ay.get 0 rfl) rfl) ?_
 refine WLq 1 [(29, .int .i64 0)] ?_
 refine WLc rfl rfl rfl rfl rfl (by kernel_rfl) (Byte0_ct f.dst c6 hwf.dst.1 hwf.dst.2) ?_
 rintro _ d3 ⟨rfl, aH⟩
 refine ⟨_, rfl, ?_⟩
 have bU := ay.call aH
 have bV := own_fr az aH (by simp)
 refine WLq 1 [(31, .int .u8 (IntKind.u8.wrap (f.dst / 16777216 % 256)))] ?_
 refine WLt (show (.int .u8 (IntKind.u8.wrap (f.dst / 16777216 % 256)) : Value) = .int .u8 (IntKind.u8.wrap ((f.dst : Int).fdiv (2 ^ 24))) from congrArg (Value.int .u8) (byte_0 f.dst)) ?_
 refine WL.newM bU (fun b => .slice (some ⟨b, 0, none⟩) 1 1) (.cells #[.int .u8 (IntKind.u8.wrap ((f.dst : Int).fdiv (2 ^ 24)))] 5) 32 (fun _ => by kernel_rfl) (fun bW d4 dq bX aI => ?_)
 have bY := own_fr bV bX (by simp)
 obtain ⟨d5, c8, bZ, b0, dr, aJ, cz, cA⟩ := app_run Try.prog aI 0 (v := .slice ae 5 af) rfl 93 93 5 1 1 5 1 1 (some ⟨bW, 0, none⟩) rfl bY [.int .u8 (IntKind.u8.wrap ((f.dst : Int).fdiv (2 ^ 24)))] rfl (srcOk.blk 1 (aI.get 5 rfl)) rfl (by simp only [maxLen]; omega) (by omega)
 have aK := own_snoc (enc := (Go.Tw.encI .u8)) (ys := [IntKind.u8.wrap (f.proto)] ++ [IntKind.u8.wrap ((f.src : Int).fdiv (2 ^ 24))] ++ [IntKind.u8.wrap ((f.src : Int).fdiv (2 ^ 16))] ++ [IntKind.u8.wrap ((f.src : Int).fdiv (2 ^ 8))] ++ [IntKind.u8.wrap (f.src)]) (IntKind.u8.wrap ((f.dst : Int).fdiv (2 ^ 24))) b0
 obtain ⟨ag, ah, rfl, c9⟩ := own_form aK
 refine WL.sem (Builtin.append_ #[93, 93] 93 #[.slice ae 5 af, .slice (some ⟨bW, 0, none⟩) 1 1]) 33 (.slice ag 6 ah) (by kernel_rfl) bZ ?_
 refine WLq 1 [(3, .slice ag 6 ah)] ?_
 refine WLd rfl ?_
 refine QXb ?_
 refine QXn (aG _ _ ?_)
 refine WCg (WLq 3 [(5, .int .i64 1), (25, .int .i64 1), (24, .int .i64 0)] ?_)
 refine WLd rfl ?_
 refine QXn ?_
 refine fun a_ ha_ => aD [(0, .agg #[.int .i64 f.proto, .int .u32 f.src, .int .i64 f.sp, .int .u32 f.dst, .int .i64 f.dp]), (1, .pointer (some ⟨g3, 0, none⟩)), (2, .slice none 0 0), (3, .slice ag 6 ah), (4, .int .i64 4), (5, .int .i64 1), (6, .pointer (some ⟨g3, 0, none⟩)), (7, .int .i64 f.proto), (8, .int .u8 (IntKind.u8.wrap (f.proto))), (9, .slice (some ⟨ab, 0, none⟩) 1 1), (10, .int .i64 4), (11, .bool false)] _ ?_ a_ (ha_.weaken (sub_of ⟨rfl, rfl, rfl, rfl, rfl, rfl, rfl, rfl, rfl, rfl, rfl, rfl, trivial⟩))
 refine Rounds.round (fun d6 aL => ?_)
 refine WCs (fun d7 aM => ?_)
 refine WCs (fun d8 aN => ?_)
 refine WCg (WLq 2 [(23, .bool true), (22, .int .i64 1)] (WLd rfl (QXn (aN _ _ ?_))))
 refine WCt rfl ?_
 refine WC.skip ?_
 refine QXn (aM _ _ ?_)
 refine WCs (fun d9 aO => ?_)
 refine WC.block ?_
 refine WCg (WLq 2 [(27, .pointer (some ⟨g3, 3, none⟩)), (26, .slice ag 6 ah)] ?_)
 refine WLo 23 (.pointer (some ⟨g3, 3, none⟩)) (.int .u32 f.dst) 28 (run_ld (aJ.get 0 rfl) rfl) ?_
 refine WLq 1 [(29, .int .i64 1)] ?_
 refine WLc rfl rfl rfl rfl rfl (by kernel_rfl) (Byte1_ct f.dst c8 hwf.dst.1 hwf.dst.2) ?_
 rintro _ ea ⟨rfl, aP⟩
 refine ⟨_, rfl, ?_⟩
 have b1 := aJ.call aP
 have b2 := own_fr aK aP (by simp)
 refine WLq 1 [(31, .int .u8 (IntKind.u8.wrap (f.dst / 65536 % 256)))] ?_
 refine WLt (show (.int .u8 (IntKind.u8.wrap (f.dst / 65536 % 256)) : Value) = .int .u8 (IntKind.u8.wrap ((f.dst : Int).fdiv (2 ^ 16))) from congrArg (Value.int .u8) (byte_1 f.dst)) ?_
 refine WL.newM b1 (fun b => .slice (some ⟨b, 0, none⟩) 1 1) (.cells #[.int .u8 (IntKind.u8.wrap ((f.dst : Int).fdiv (2 ^ 16)))] 5) 32 (fun _ => by kernel_rfl) (fun b3 eb ds b5 aQ => ?_)
 have b6 := own_fr b2 b5 (by simp)
 obtain ⟨ec, da, b7, b9, dt, aR, cB, cC⟩ := app_run Try.prog aQ 0 (v := .slice ag 6 ah) rfl 93 93 5 1 1 6 1 1 (some ⟨b3, 0, none⟩) rfl b6 [.int .u8 (IntKind.u8.wrap ((f.dst : Int).fdiv (2 ^ 16)))] rfl (srcOk.blk 1 (aQ.get 6 rfl)) rfl (by simp only [maxLen]; omega) (by omega)
 have aS := own_snoc (enc := (Go.Tw.encI .u8)) (ys := [IntKind.u8.wrap (f.proto)] ++ [IntKind.u8.wrap ((f.src : Int).fdiv (2 ^ 24))] ++ [IntKind.u8.wrap ((f.src : Int).fdiv (2 ^ 16))] ++ [IntKind.u8.wrap ((f.src : Int).fdiv (2 ^ 8))] ++ [IntKind.u8.wrap (f.src)] ++ [IntKind.u8.wrap ((f.dst : Int).fdiv (2 ^ 24))]) (IntKind.u8.wrap ((f.dst : Int).fdiv (2 ^ 16))) b9
 obtain ⟨ai, aj, rfl, db⟩ := own_form aS
 refine WL.sem (Builtin.append_ #[93, 93] 93 #[.slice ag 6 ah, .slice (some ⟨b3, 0, none⟩) 1 1]) 33 (.slice ai 7 aj) (by kernel_rfl) b7 ?_
 refine WLq 1 [(3, .slice ai 7 aj)] ?_
 refine WLd rfl ?_
 refine QXb ?_
 refine QXn (aO _ _ ?_)
 refine WCg (WLq 3 [(5, .int .i64 2), (25, .int .i64 2), (24, .int .i64 1)] ?_)
 refine WLd rfl ?_
 refine QXn ?_
 refine fun a_ ha_ => aL [(0, .agg #[.int .i64 f.proto, .int .u32 f.src, .int .i64 f.sp, .int .u32 f.dst, .int .i64 f.dp]), (1, .pointer (some ⟨g3, 0, none⟩)), (2, .slice none 0 0), (3, .slice ai 7 aj), (4, .int .i64 4), (5, .int .i64 2), (6, .pointer (some ⟨g3, 0, none⟩)), (7, .int .i64 f.proto), (8, .int .u8 (IntKind.u8.wrap (f.proto))), (9, .slice (some ⟨ab, 0, none⟩) 1 1), (10, .int .i64 4), (11, .bool false)] _ ?_ a_ (ha_.weaken (sub_of ⟨rfl, rfl, rfl, rfl, rfl, rfl, rfl, rfl, rfl, rfl, rfl, rfl, trivial⟩))
 refine Rounds.round (fun ed aT => ?_)
 refine WCs (fun ee aU => ?_)
 refine WCs (fun ef aV => ?_)
 refine WCg (WLq 2 [(23, .bool true), (22, .int .i64 2)] (WLd rfl (QXn (aV _ _ ?_))))
 refine WCt rfl ?_
 refine WC.skip ?_
 refine QXn (aU _ _ ?_)
 refine WCs (fun eg aW => ?_)
 refine WC.block ?_
 refine WCg (WLq 2 [(27, .pointer (some ⟨g3, 3, none⟩)), (26, .slice ai 7 aj)] ?_)
 refine WLo 23 (.pointer (some ⟨g3, 3, none⟩)) (.int .u32 f.dst) 28 (run_ld (aR.get 0 rfl) rfl) ?_
 refine WLq 1 [(29, .int .i64 2)] ?_
 refine WLc rfl rfl rfl rfl rfl (by kernel_rfl) (Byte2_ct f.dst da hwf.dst.1 hwf.dst.2) ?_
 rintro _ eh ⟨rfl, aX⟩
 refine ⟨_, rfl, ?_⟩
 have ca := aR.call aX
 have cb := own_fr aS aX (by simp)
 refine WLq 1 [(31, .int .u8 (IntKind.u8.wrap (f.dst / 256 % 256)))] ?_
 refine WLt (show (.int .u8 (IntKind.u8.wrap (f.dst / 256 % 256)) : Value) = .int .u8 (IntKind.u8.wrap ((f.dst : Int).fdiv (2 ^ 8))) from congrArg (Value.int .u8) (byte_2 f.dst)) ?_
 refine WL.newM ca (fun b => .slice (some ⟨b, 0, none⟩) 1 1) (.cells #[.int .u8 (IntKind.u8.wrap ((f.dst : Int).fdiv (2 ^ 8)))] 5) 32 (fun _ => by kernel_rfl) (fun cc ei du cd aY => ?_)
 have ce := own_fr cb cd (by simp)
 obtain ⟨ej, dc, cf, cg, dv, aZ, cD, cE⟩ := app_run Try.prog aY 0 (v := .slice ai 7 aj) rfl 93 93 5 1 1 7 1 1 (some ⟨cc, 0, none⟩) rfl ce [.int .u8 (IntKind.u8.wrap ((f.dst : Int).fdiv (2 ^ 8)))] rfl (srcOk.blk 1 (aY.get 7 rfl)) rfl (by simp only [maxLen]; omega) (by omega)
 have a0 := own_snoc (enc := (Go.Tw.encI .u8)) (ys := [IntKind.u8.wrap (f.proto)] ++ [IntKind.u8.wrap ((f.src : Int).fdiv (2 ^ 24))] ++ [IntKind.u8.wrap ((f.src : Int).fdiv (2 ^ 16))] ++ [IntKind.u8.wrap ((f.src : Int).fdiv (2 ^ 8))] ++ [IntKind.u8.wrap (f.src)] ++ [IntKind.u8.wrap ((f.dst : Int).fdiv (2 ^ 24))] ++ [IntKind.u8.wrap ((f.dst : Int).fdiv (2 ^ 16))]) (IntKind.u8.wrap ((f.dst : Int).fdiv (2 ^ 8))) cg
 obtain ⟨ak, al, rfl, dd⟩ := own_form a0
 refine WL.sem (Builtin.append_ #[93, 93] 93 #[.slice ai 7 aj, .slice (some ⟨cc, 0, none⟩) 1 1]) 33 (.slice ak 8 al) (by kernel_rfl) cf ?_
 refine WLq 1 [(3, .slice ak 8 al)] ?_
 refine WLd rfl ?_
 refine QXb ?_
 refine QXn (aW _ _ ?_)
 refine WCg (WLq 3 [(5, .int .i64 3), (25, .int .i64 3), (24, .int .i64 2)] ?_)
 refine WLd rfl ?_
 refine QXn ?_
 refine fun a_ ha_ => aT [(0, .agg #[.int .i64 f.proto, .int .u32 f.src, .int .i64 f.sp, .int .u32 f.dst, .int .i64 f.dp]), (1, .pointer (some ⟨g3, 0, none⟩)), (2, .slice none 0 0), (3, .slice ak 8 al), (4, .int .i64 4), (5, .int .i64 3), (6, .pointer (some ⟨g3, 0, none⟩)), (7, .int .i64 f.proto), (8, .int .u8 (IntKind.u8.wrap (f.proto))), (9, .slice (some ⟨ab, 0, none⟩) 1 1), (10, .int .i64 4), (11, .bool false)] _ ?_ a_ (ha_.weaken (sub_of ⟨rfl, rfl, rfl, rfl, rfl, rfl, rfl, rfl, rfl, rfl, rfl, rfl, trivial⟩))
 refine Rounds.round (fun ek a1 => ?_)
 refine WCs (fun el a2 => ?_)
 refine WCs (fun em a3 => ?_)
 refine WCg (WLq 2 [(23, .bool true), (22, .int .i64 3)] (WLd rfl (QXn (a3 _ _ ?_))))
 refine WCt rfl ?_
 refine WC.skip ?_
 refine QXn (a2 _ _ ?_)
 refine WCs (fun en a4 => ?_)
 refine WC.block ?_
 refine WCg (WLq 2 [(27, .pointer (some ⟨g3, 3, none⟩)), (26, .slice ak 8 al)] ?_)
 refine WLo 23 (.pointer (some ⟨g3, 3, none⟩)) (.int .u32 f.dst) 28 (run_ld (aZ.get 0 rfl) rfl) ?_
 refine WLq 1 [(29, .int .i64 3)] ?_
 refine WLc rfl rfl rfl rfl rfl (by kernel_rfl) (Byte3_ct f.dst dc hwf.dst.1 hwf.dst.2) ?_
 rintro _ eo ⟨rfl, a5⟩
 refine ⟨_, rfl, ?_⟩
 have ch := aZ.call a5
 have ci := own_fr a0 a5 (by simp)
 refine WLq 1 [(31, .int .u8 (IntKind.u8.wrap (f.dst / 1 % 256)))] ?_
 refine WLt (show (.int .u8 (IntKind.u8.wrap (f.dst / 1 % 256)) : Value) = .int .u8 (IntKind.u8.wrap (f.dst)) from congrArg (Value.int .u8) (byte_3 f.dst)) ?_
 refine WL.newM ch (fun b => .slice (some ⟨b, 0, none⟩) 1 1) (.cells #[.int .u8 (IntKind.u8.wrap (f.dst))] 5) 32 (fun _ => by kernel_rfl) (fun cj ep dw ck a6 => ?_)
 have cl := own_fr ci ck (by simp)
 obtain ⟨er, es, cm, cn, dx, aa, cF, cG⟩ := app_run Try.prog a6 0 (v := .slice ak 8 al) rfl 93 93 5 1 1 8 1 1 (some ⟨cj, 0, none⟩) rfl cl [.int .u8 (IntKind.u8.wrap (f.dst))] rfl (srcOk.blk 1 (a6.get 8 rfl)) rfl (by simp only [maxLen]; omega) (by omega)
 have a7 := own_snoc (enc := (Go.Tw.encI .u8)) (ys := [IntKind.u8.wrap (f.proto)] ++ [IntKind.u8.wrap ((f.src : Int).fdiv (2 ^ 24))] ++ [IntKind.u8.wrap ((f.src : Int).fdiv (2 ^ 16))] ++ [IntKind.u8.wrap ((f.src : Int).fdiv (2 ^ 8))] ++ [IntKind.u8.wrap (f.src)] ++ [IntKind.u8.wrap ((f.dst : Int).fdiv (2 ^ 24))] ++ [IntKind.u8.wrap ((f.dst : Int).fdiv (2 ^ 16))] ++ [IntKind.u8.wrap ((f.dst : Int).fdiv (2 ^ 8))]) (IntKind.u8.wrap (f.dst)) cn
 obtain ⟨am, an, rfl, de⟩ := own_form a7
 refine WL.sem (Builtin.append_ #[93, 93] 93 #[.slice ak 8 al, .slice (some ⟨cj, 0, none⟩) 1 1]) 33 (.slice am 9 an) (by kernel_rfl) cm ?_
 refine WLq 1 [(3, .slice am 9 an)] ?_
 refine WLd rfl ?_
 refine QXb ?_
 refine QXn (a4 _ _ ?_)
 refine WCg (WLq 3 [(5, .int .i64 4), (25, .int .i64 4), (24, .int .i64 3)] ?_)
 refine WLd rfl ?_
 refine QXn ?_
 refine fun a_ ha_ => a1 [(0, .agg #[.int .i64 f.proto, .int .u32 f.src, .int .i64 f.sp, .int .u32 f.dst, .int .i64 f.dp]), (1, .pointer (some ⟨g3, 0, none⟩)), (2, .slice none 0 0), (3, .slice am 9 an), (4, .int .i64 4), (5, .int .i64 4), (6, .pointer (some ⟨g3, 0, none⟩)), (7, .int .i64 f.proto), (8, .int .u8 (IntKind.u8.wrap (f.proto))), (9, .slice (some ⟨ab, 0, none⟩) 1 1), (10, .int .i64 4), (11, .bool false)] _ ?_ a_ (ha_.weaken (sub_of ⟨rfl, rfl, rfl, rfl, rfl, rfl, rfl, rfl, rfl, rfl, rfl, rfl, trivial⟩))
 refine Rounds.round (fun et co => ?_)
 refine WCs (fun eu cp => ?_)
 refine WCs (fun ev a8 => ?_)
 refine WCg (WLq 2 [(23, .bool false), (22, .int .i64 4)] (WLd rfl (QXn (a8 _ _ ?_))))
 refine WCf rfl ?_
 refine WC.exit ?_
 refine QXe ?_
 refine QXe ?_
 refine QX.block_hit ?_
 refine QXn (aB _ _ ?_)
 refine WCs (fun ew a9 => ?_)
 refine WCg (WLq 2 [(35, .pointer (some ⟨g3, 2, none⟩)), (34, .slice am 9 an)] ?_)
 refine WLo 3 (.pointer (some ⟨g3, 2, none⟩)) (.int .i64 f.sp) 36 (run_ld (aa.get 0 rfl) rfl) ?_
 refine WLq 1 [(37, .int .i64 ((f.sp : Int).fdiv (2 ^ 8)))] ?_
 refine WLt (show (.int .i64 ((f.sp : Int).fdiv (2 ^ 8)) : Value) = .int .i64 ((f.sp : Int).fdiv (2 ^ 8)) from rfl) ?_
 refine WLq 1 [(38, .int .u8 (IntKind.u8.wrap ((f.sp : Int).fdiv (2 ^ 8))))] ?_
 refine WLt (show (.int .u8 (IntKind.u8.wrap ((f.sp : Int).fdiv (2 ^ 8))) : Value) = .int .u8 (IntKind.u8.wrap ((f.sp : Int).fdiv (2 ^ 8))) from rfl) ?_
 refine WLq 1 [(39, .pointer (some ⟨g3, 2, none⟩))] ?_
 refine WLo 3 (.pointer (some ⟨g3, 2, none⟩)) (.int .i64 f.sp) 40 (run_ld (aa.get 0 rfl) rfl) ?_
 refine WLq 1 [(41, .int .u8 (IntKind.u8.wrap (f.sp)))] ?_
 refine WLt (show (.int .u8 (IntKind.u8.wrap (f.sp)) : Value) = .int .u8 (IntKind.u8.wrap (f.sp)) from rfl) ?_
 refine WLq 1 [(42, .pointer (some ⟨g3, 4, none⟩))] ?_
 refine WLo 3 (.pointer (some ⟨g3, 4, none⟩)) (.int .i64 f.dp) 43 (run_ld (aa.get 0 rfl) rfl) ?_
 refine WLq 1 [(44, .int .i64 ((f.dp : Int).fdiv (2 ^ 8)))] ?_
 refine WLt (show (.int .i64 ((f.dp : Int).fdiv (2 ^ 8)) : Value) = .int .i64 ((f.dp : Int).fdiv (2 ^ 8)) from rfl) ?_
 refine WLq 1 [(45, .int .u8 (IntKind.u8.wrap ((f.dp : Int).fdiv (2 ^ 8))))] ?_
 refine WLt (show (.int .u8 (IntKind.u8.wrap ((f.dp : Int).fdiv (2 ^ 8))) : Value) = .int .u8 (IntKind.u8.wrap ((f.dp : Int).fdiv (2 ^ 8))) from rfl) ?_
 refine WLq 1 [(46, .pointer (some ⟨g3, 4, none⟩))] ?_
 refine WLo 3 (.pointer (some ⟨g3, 4, none⟩)) (.int .i64 f.dp) 47 (run_ld (aa.get 0 rfl) rfl) ?_
 refine WLq 1 [(48, .int .u8 (IntKind.u8.wrap (f.dp)))] ?_
 refine WLt (show (.int .u8 (IntKind.u8.wrap (f.dp)) : Value) = .int .u8 (IntKind.u8.wrap (f.dp)) from rfl) ?_
 refine WL.newM aa (fun b => .slice (some ⟨b, 0, none⟩) 4 4) (.cells #[.int .u8 (IntKind.u8.wrap ((f.sp : Int).fdiv (2 ^ 8))), .int .u8 (IntKind.u8.wrap (f.sp)), .int .u8 (IntKind.u8.wrap ((f.dp : Int).fdiv (2 ^ 8))), .int .u8 (IntKind.u8.wrap (f.dp))] 5) 49 (fun _ => by kernel_rfl) (fun cq ex dy cr ba => ?_)
 have cs := own_fr a7 cr (by simp)
 obtain ⟨ey, ez, ct, cu, dz, bb, cH, cI⟩ := app_run Try.prog ba 0 (v := .slice am 9 an) rfl 93 93 5 1 1 9 4 4 (some ⟨cq, 0, none⟩) rfl cs [.int .u8 (IntKind.u8.wrap ((f.sp : Int).fdiv (2 ^ 8))), .int .u8 (IntKind.u8.wrap (f.sp)), .int .u8 (IntKind.u8.wrap ((f.dp : Int).fdiv (2 ^ 8))), .int .u8 (IntKind.u8.wrap (f.dp))] rfl (srcOk.blk 4 (ba.get 9 rfl)) rfl (by simp only [maxLen]; omega) (by omega)
 have bc := own_app (enc := (Go.Tw.encI .u8)) (ys := [IntKind.u8.wrap (f.proto)] ++ [IntKind.u8.wrap ((f.src : Int).fdiv (2 ^ 24))] ++ [IntKind.u8.wrap ((f.src : Int).fdiv (2 ^ 16))] ++ [IntKind.u8.wrap ((f.src : Int).fdiv (2 ^ 8))] ++ [IntKind.u8.wrap (f.src)] ++ [IntKind.u8.wrap ((f.dst : Int).fdiv (2 ^ 24))] ++ [IntKind.u8.wrap ((f.dst : Int).fdiv (2 ^ 16))] ++ [IntKind.u8.wrap ((f.dst : Int).fdiv (2 ^ 8))] ++ [IntKind.u8.wrap (f.dst)]) (zs := [IntKind.u8.wrap ((f.sp : Int).fdiv (2 ^ 8)), IntKind.u8.wrap (f.sp), IntKind.u8.wrap ((f.dp : Int).fdiv (2 ^ 8)), IntKind.u8.wrap (f.dp)]) cu
 obtain ⟨bd, be, rfl, df⟩ := own_form bc
 refine WL.sem (Builtin.append_ #[93, 93] 93 #[.slice am 9 an, .slice (some ⟨cq, 0, none⟩) 4 4]) 50 (.slice bd 13 be) (by kernel_rfl) ct ?_
 refine WLq 1 [(2, .slice bd 13 be)] (WLd rfl (QXn (a9 _ _ ?_)))
 refine WC.ret ?_
 refine (hret _ _ _ rfl ?_).1
 clear hN hret hret' a9 a8 cp co a4 a3 a2 a1 aW aV aU aT aO aN aM aL aG aF aE aD aC aB aA bT bS av au ar aq bG bF bE bD bx bw bv bu bp bo bn bm bl bk hK9 hK2
 have hb_ := bc
 exact ⟨_, rfl, bb.fr, own_base (show World.ownsRow _ 0 _ _ (.slice bd 13 be) (bytesR f).length ((bytesR f).flatMap (Go.Tw.encI .u8)) from by simpa [bytesR, b4, b4F] using hb_) (bb.geF 0 rfl)⟩

set_option maxHeartbeats 2000000 in
theorem RHash_ct (s : Int) (f : FlowV) (w : World) (hwf : wfF f) : Calls Try.prog 42 #[.int .u64 s, .agg #[.int .i64 f.proto, .int .u32 f.src, .int .i64 f.sp, .int .u32 f.dst, .int .i64 f.dp]] w fun e w' => e = .returned (.int .u64 (hashU s f)) ∧ Fr w w' [] := by
 refine enterD (n := 37) Try.func42 rfl rfl (Nat.le_of_ble_eq_true rfl) ?_
 intro Q0 hN hret hret'
 have hbl_ := bytesR_len f
 have hC := Cx.start w
 refine WCs (fun K1 hK2 => ?_)
 refine WCg ?_
 refine WL.newM hC (fun b => .pointer (some ⟨b, 0, none⟩)) (.cells #[.int .i64 f.proto, .int .u32 f.src, .int .i64 f.sp, .int .u32 f.dst, .int .i64 f.dp] 25) 3 (fun _ => by kernel_rfl) (fun g3 w4 hb7 hF5 hC6 => ?_)
 refine WLq 1 [(4, .int .u64 0)] (WLd rfl (QXn (hK2 _ _ ?_)))
 refine WCs (fun K8 hK9 => ?_)
 refine WCg (WLq 3 [(5, .int .u64 (Go.bits .xor .u64 s 14695981039346656037)), (9, .int .u64 (Go.bits .xor .u64 s 14695981039346656037)), (8, .int .u64 s)] (WLd rfl (QXn (hK9 _ _ ?_))))
 refine WCs (fun aD ai => ?_)
 refine WCg ?_
 refine WLo 25 (.pointer (some ⟨g3, 0, none⟩)) (.agg #[.int .i64 f.proto, .int .u32 f.src, .int .i64 f.sp, .int .u32 f.dst, .int .i64 f.dp]) 10 (run_ld (hC6.get 0 rfl) rfl) ?_
 refine WLc rfl rfl rfl rfl rfl (by kernel_rfl) (Bytes_ct f w4 hwf) ?_
 rintro _ aE ⟨v_, rfl, aj, aa⟩
 have ak := hC6.callN aj (own_ge aa) (own_lt aa)
 obtain ⟨ad, ae, rfl, aA⟩ := own_form aa
 have al := own_base (b' := 0) aa (fun _ _ => Nat.zero_le _)
 refine ⟨_, rfl, ?_⟩
 refine WLq 1 [(6, .slice ad 13 ae)] (WLd rfl (QXn (ai _ _ ?_)))
 refine WCs (fun aF am => ?_)
 refine WCs (fun aG an => ?_)
 refine WCg (WLq 1 [(7, .int .i64 0)] (WLd rfl (QXn (an _ _ ?_))))
 refine WC.block ?_
 refine WC.loop (fun m_ E_ w_ => ∃ (i : Nat), m_ = 13 - i ∧ E_ = [(3, .pointer (some ⟨g3, 0, none⟩)), (4, .int .u64 0), (5, .int .u64 (mixL (Go.bits .xor .u64 s 14695981039346656037) ((bytesR f).take i))), (6, .slice ad 13 ae), (7, .int .i64 (i : Int))] ∧ Cx w [] w_ [(g3, .cells #[.int .i64 f.proto, .int .u32 f.src, .int .i64 f.sp, .int .u32 f.dst, .int .i64 f.dp] 25)] [blk (.slice ad 13 ae)] ∧ World.ownsRow w_ 0 5 1 (.slice ad 13 ae) 13 ((bytesR f).flatMap (Go.Tw.encI .u8)) ∧ (i ≤ 13)) ⟨_, _, ⟨0, rfl, rfl, ak, al, Nat.zero_le _⟩, sub_of ⟨rfl, rfl, rfl, rfl, rfl, trivial⟩⟩ (fun m29 E_ aH aI ao ap => ?_)
 obtain ⟨i, rfl, rfl, ag, row21_m29, hi⟩ := ap
 refine WCs (fun aJ aq => ?_)
 refine WCs (fun aK ar => ?_)
 refine WCg (WLq 4 [(15, .bool (decide ((i : Int) < 13))), (14, .int .i64 13), (13, .slice ad 13 ae), (12, .int .i64 (i : Int))] (WLd rfl (QXn (ar _ _ ?_))))
 refine WCa 15 (decide ((i : Int) < 13)) rfl (fun af => ?_) (fun af => ?_)
 ·
  have aB : (i : Int) < 13 := by have q_ := of_decide_eq_true af; omega
  refine WCt rfl ?_
  refine WC.skip ?_
  refine QXn (aq _ _ ?_)
  refine WCs (fun aL au => ?_)
  refine WC.block ?_
  refine WCs (fun aM av => ?_)
  refine WCg (WLq 3 [(20, .int .i64 (i : Int)), (19, .slice ad 13 ae), (18, .int .u64 (mixL (Go.bits .xor .u64 s 14695981039346656037) ((bytesR f).take i)))] ?_)
  have aC := own_count (Go.Tw.encI_len _) (by decide) row21_m29
  obtain ⟨ab, ac⟩ := get_some (xs := (bytesR f)) (i := i) (by omega)
  obtain ⟨b43, ah⟩ := own_addr (by decide) (Go.Tw.encI_len _) row21_m29 ac
  refine WLi ad 13 ae 21 .i64 (i : Int) b43 0 i 1 (by kernel_rfl) ah (by omega) (by omega) i (by first | (simp; done) | omega) ?_
  refine WLo 5 (.pointer (some ⟨b43, i, none⟩)) (.int .u8 ab) 22 (run_load1 rfl (by simpa [Nat.add_assoc] using Rd.cell (own_rd row21_m29 (Go.Tw.encI_len _) (by decide)) ah ac 0 _ rfl)) ?_
  have hbl_ := bytesR_len f
  refine WLq 1 [(23, .int .u64 (IntKind.u64.wrap (ab)))] ?_
  refine WLt (show (.int .u64 (IntKind.u64.wrap (ab)) : Value) = .int .u64 ab from by have q_ := bytesR_by f _ (List.mem_of_getElem? ac); rw [wrap_in_u64 _ (by omega) (by omega)]) ?_
  refine WLq 2 [(5, .int .u64 (Go.bits .xor .u64 (mixL (Go.bits .xor .u64 s 14695981039346656037) ((bytesR f).take i)) ab)), (24, .int .u64 (Go.bits .xor .u64 (mixL (Go.bits .xor .u64 s 14695981039346656037) ((bytesR f).take i)) ab))] (WLd rfl (QXn (av _ _ ?_)))
  refine WCg (WLq 2 [(26, .int .u64 (IntKind.u64.wrap ((Go.bits .xor .u64 (mixL (Go.bits .xor .u64 s 14695981039346656037) ((bytesR f).take i)) ab) * 1099511628211))), (25, .int .u64 (Go.bits .xor .u64 (mixL (Go.bits .xor .u64 s 14695981039346656037) ((bytesR f).take i)) ab))] ?_)
  refine WLt (show (.int .u64 (IntKind.u64.wrap ((Go.bits .xor .u64 (mixL (Go.bits .xor .u64 s 14695981039346656037) ((bytesR f).take i)) ab) * 1099511628211)) : Value) = .int .u64 (mixL (Go.bits .xor .u64 s 14695981039346656037) ((bytesR f).take (i + 1))) from congrArg (Value.int .u64) (mixL_take ac).symm) ?_
  refine WLq 1 [(5, .int .u64 (mixL (Go.bits .xor .u64 s 14695981039346656037) ((bytesR f).take (i + 1))))] ?_
  refine WLd rfl ?_
  refine QXb ?_
  refine QXn (au _ _ ?_)
  refine WCg (WLq 2 [(17, .int .i64 (IntKind.i64.wrap ((i : Int) + 1))), (16, .int .i64 (i : Int))] ?_)
  refine WLt (show (.int .i64 (IntKind.i64.wrap ((i : Int) + 1)) : Value) = .int .i64 ((i : Int) + 1) from by rw [wrap_in_i64 ((i : Int) + 1) (by omega) (by omega)]) ?_
  refine WLq 1 [(7, .int .i64 ((i : Int) + 1))] ?_
  refine WLd rfl ?_
  refine QXn ?_
  have aw := ag.pick [0] [0] rfl rfl
  refine fun a_ ha_ => ao _ _ _ ?_ ⟨i + 1, rfl, rfl, aw, row21_m29, by omega⟩ a_ (ha_.weaken (sub_of ⟨rfl, rfl, rfl, rfl, rfl, trivial⟩))
  omega
 ·
  have aB : (13 : Int) ≤ (i : Int) := by have q_ := of_decide_eq_false af; omega
  refine WCf rfl ?_
  refine WC.exit ?_
  refine QXe ?_
  refine QXe ?_
  refine QX.block_hit ?_
  refine QXn (am _ _ ?_)
  refine WCs (fun aN ax => ?_)
  refine WCg (WLq 3 [(29, .int .u64 ((mixL (Go.bits .xor .u64 s 14695981039346656037) ((bytesR f).take i)).fdiv (2 ^ 32))), (28, .int .u64 (mixL (Go.bits .xor .u64 s 14695981039346656037) ((bytesR f).take i))), (27, .int .u64 (mixL (Go.bits .xor .u64 s 14695981039346656037) ((bytesR f).take i)))] ?_)
  refine WLt (show (.int .u64 ((mixL (Go.bits .xor .u64 s 14695981039346656037) ((bytesR f).take i)).fdiv (2 ^ 32)) : Value) = .int .u64 ((mixL (Go.bits .xor .u64 s 14695981039346656037) ((bytesR f).take i)).fdiv (2 ^ 32)) from rfl) ?_
  refine WLq 1 [(30, .int .u64 (Go.bits .xor .u64 (mixL (Go.bits .xor .u64 s 14695981039346656037) ((bytesR f).take i)) ((mixL (Go.bits .xor .u64 s 14695981039346656037) ((bytesR f).take i)).fdiv (2 ^ 32))))] ?_
  refine WLt (show (.int .u64 (Go.bits .xor .u64 (mixL (Go.bits .xor .u64 s 14695981039346656037) ((bytesR f).take i)) ((mixL (Go.bits .xor .u64 s 14695981039346656037) ((bytesR f).take i)).fdiv (2 ^ 32))) : Value) = .int .u64 (hash1 s f) from by rw [show i = 13 from by omega, List.take_of_length_le (by rw [bytesR_len]; omega), hash0_eq]; rfl) ?_
  refine WLq 1 [(5, .int .u64 (hash1 s f))] (WLd rfl (QXn (ax _ _ ?_)))
  refine WCs (fun aO ay => ?_)
  refine WCg (WLq 2 [(32, .int .u64 (IntKind.u64.wrap ((hash1 s f) * 11400714819323198485))), (31, .int .u64 (hash1 s f))] ?_)
  refine WLt (show (.int .u64 (IntKind.u64.wrap ((hash1 s f) * 11400714819323198485)) : Value) = .int .u64 (hash2 s f) from rfl) ?_
  refine WLq 1 [(5, .int .u64 (hash2 s f))] (WLd rfl (QXn (ay _ _ ?_)))
  refine WCs (fun aP az => ?_)
  refine WCg (WLq 3 [(35, .int .u64 ((hash2 s f).fdiv (2 ^ 29))), (34, .int .u64 (hash2 s f)), (33, .int .u64 (hash2 s f))] ?_)
  refine WLt (show (.int .u64 ((hash2 s f).fdiv (2 ^ 29)) : Value) = .int .u64 ((hash2 s f).fdiv (2 ^ 29)) from rfl) ?_
  refine WLq 1 [(36, .int .u64 (Go.bits .xor .u64 (hash2 s f) ((hash2 s f).fdiv (2 ^ 29))))] ?_
  refine WLt (show (.int .u64 (Go.bits .xor .u64 (hash2 s f) ((hash2 s f).fdiv (2 ^ 29))) : Value) = .int .u64 (hashU s f) from rfl) ?_
  refine WLq 1 [(4, .int .u64 (hashU s f))] (WLd rfl (QXn (az _ _ ?_)))
  refine WC.ret ?_
  refine (hret _ _ _ rfl ?_).1
  exact ⟨rfl, ag.fr⟩

set_option maxHeartbeats 1000000 in
theorem RChoose_ct (f : FlowV) (A : Option Addr) (c : Nat) (ends : List EndV) (w : World) (hwF : wfF f) (hr : Rd w 3 cellsE A ends) (hwf : ∀ e ∈ ends, wfE e) (hl : ends.length ≤ 1099511627776) : Calls Try.prog 20 #[.agg #[.int .i64 f.proto, .int .u32 f.src, .int .i64 f.sp, .int .u32 f.dst, .int .i64 f.dp], .slice A ends.length c] w fun e w' => ∃ r : Int, e = .returned (.int .i64 r) ∧ Fr w w' [] ∧ chI f ends r := by
 refine enterD (n := 51) Try.func20 rfl rfl (Nat.le_of_ble_eq_true rfl) ?_
 intro Q0 hN hret hret'
 have hC := Cx.start w
 refine WCs (fun K1 hK2 => ?_)
 refine WCg ?_
 refine WL.newM hC (fun b => .pointer (some ⟨b, 0, none⟩)) (.cells #[.int .i64 f.proto, .int .u32 f.src, .int .i64 f.sp, .int .u32 f.dst, .int .i64 f.dp] 25) 2 (fun _ => by kernel_rfl) (fun g3 w4 hb7 hF5 hC6 => ?_)
 refine WLq 1 [(4, .int .i64 0)] (WLd rfl (QXn (hK2 _ _ ?_)))
 refine WCs (fun K8 hK9 => ?_)
 refine WCg (WLq 1 [(5, .int .i64 (-1))] (WLd rfl (QXn (hK9 _ _ ?_))))
 refine WCs (fun aX an => ?_)
 refine WCg (WLq 1 [(6, .int .u64 0)] (WLd rfl (QXn (an _ _ ?_))))
 refine WCs (fun aY ao => ?_)
 refine WCs (fun aZ ap => ?_)
 refine WCg (WLq 1 [(7, .int .i64 0)] (WLd rfl (QXn (ap _ _ ?_))))
 refine WC.block ?_
 refine WC.loop (fun m_ E_ w_ => ∃ (i : Nat) (b tp : Int), m_ = ends.length - i ∧ E_ = [(1, .slice A ends.length c), (2, .pointer (some ⟨g3, 0, none⟩)), (4, .int .i64 0), (5, .int .i64 b), (6, .int .u64 tp), (7, .int .i64 (i : Int))] ∧ Cx w [] w_ [(g3, .cells #[.int .i64 f.proto, .int .u32 f.src, .int .i64 f.sp, .int .u32 f.dst, .int .i64 f.dp] 25)] [] ∧ (i ≤ ends.length ∧ stI ends (chooseC f (ends.take i)) b tp)) ⟨_, _, ⟨0, -1, 0, rfl, rfl, hC6, Nat.zero_le _, rfl⟩, sub_of ⟨rfl, rfl, rfl, rfl, rfl, rfl, trivial⟩⟩ (fun m19 E_ a0 a1 aq aE => ?_)
 obtain ⟨i, b, tp, rfl, rfl, ar, hi, hst⟩ := aE
 refine WCs (fun a2 au => ?_)
 refine WCs (fun a3 av => ?_)
 refine WCg (WLq 4 [(13, .bool (decide ((i : Int) < (ends.length : Int)))), (12, .int .i64 (ends.length : Int)), (11, .slice A ends.length c), (10, .int .i64 (i : Int))] (WLd rfl (QXn (av _ _ ?_))))
 refine WCa 13 (decide ((i : Int) < (ends.length : Int))) rfl (fun ae => ?_) (fun ae => ?_)
 ·
  have aQ : (i : Int) < (ends.length : Int) := by have q_ := of_decide_eq_true ae; omega
  refine WCt rfl ?_
  refine WC.skip ?_
  refine QXn (au _ _ ?_)
  refine WCs (fun a4 aw => ?_)
  refine WC.block ?_
  refine WCs (fun a5 aF => ?_)
  refine WCg (WLq 1 [(8, .int .i64 0)] (WLd rfl (QXn (aF _ _ ?_))))
  refine WC.block ?_
  obtain ⟨aa, ac⟩ := get_some (xs := ends) (i := i) (by omega)
  obtain ⟨b33, o35, ax, ay⟩ := hr.at_ _ _ ac
  obtain ⟨⟨hwd0_e31, hwd1_e31⟩, _, _⟩ := hwf _ (List.mem_of_getElem? ac)
  refine WC.loop (fun m_ E_ w_ => ∃ (j : Nat) (b2 tp2 : Int), m_ = (min aa.weight 16).toNat - j ∧ E_ = [(1, .slice A ends.length c), (2, .pointer (some ⟨g3, 0, none⟩)), (4, .int .i64 0), (5, .int .i64 b2), (6, .int .u64 tp2), (7, .int .i64 (i : Int)), (8, .int .i64 (j : Int))] ∧ Cx w [] w_ [(g3, .cells #[.int .i64 f.proto, .int .u32 f.src, .int .i64 f.sp, .int .u32 f.dst, .int .i64 f.dp] 25)] [] ∧ (j ≤ (min aa.weight 16).toNat ∧ stI ends (innerC f aa j (chooseC f (ends.take i))) b2 tp2)) ⟨_, _, ⟨0, b, tp, rfl, rfl, ar, Nat.zero_le _, hst⟩, sub_of ⟨rfl, rfl, rfl, rfl, rfl, rfl, rfl, trivial⟩⟩ (fun m40 E_ a6 a7 af aG => ?_)
  obtain ⟨j, b2, tp2, rfl, rfl, ad, hj, hst2⟩ := aG
  refine WCs (fun a8 aH => ?_)
  refine WCs (fun a9 az => ?_)
  refine WCg (WLq 3 [(18, .int .i64 (i : Int)), (17, .slice A ends.length c), (16, .int .i64 (j : Int))] ?_)
  refine WLi A ends.length c 19 .i64 (i : Int) b33 o35 i 3 (by kernel_rfl) ax (by omega) (by omega) (o35 + i * 3) (by first | (simp; done) | omega) ?_
  refine WLq 1 [(20, .pointer (some ⟨b33, o35 + i * 3 + 2, none⟩))] ?_
  refine WLo 3 (.pointer (some ⟨b33, o35 + i * 3 + 2, none⟩)) (.int .i64 aa.weight) 21 (run_load1 rfl (by simpa [Nat.add_assoc] using ad.fr.cell (ay 2 _ rfl) (by simp))) ?_
  refine WLq 2 [(23, .bool (decide ((j : Int) < aa.weight))), (22, .bool (decide ((j : Int) < aa.weight)))] ?_
  refine WLa 23 (decide ((j : Int) < aa.weight)) rfl (fun ag => ?_) (fun ag => ?_)
  ·
   have aR : (j : Int) < aa.weight := by have q_ := of_decide_eq_true ag; omega
   refine WLq 3 [(26, .bool (decide ((j : Int) < 16))), (25, .bool (decide ((j : Int) < 16))), (24, .int .i64 (j : Int))] (WLd rfl (QXn (az _ _ ?_)))
   refine WCa 26 (decide ((j : Int) < 16)) rfl (fun ah => ?_) (fun ah => ?_)
   ·
    have aS : (j : Int) < 16 := by have q_ := of_decide_eq_true ah; omega
    refine WCt rfl ?_
    refine WC.skip ?_
    refine QXn (aH _ _ ?_)
    refine WCs (fun ba ai => ?_)
    refine WC.block ?_
    refine WCs (fun bb aI => ?_)
    refine WC.drawC ad [] (by kernel_rfl) (fun aT aU aj ab => ?_)
    refine WDq (NPt (NPb (NPt (NPt (NPb (NPb (NPt (NPt (NPb (NPt hN)))))))))) 0 29 (.slice A ends.length c) ab ?_
    refine WDq (NPt (NPb (NPt (NPt (NPb (NPb (NPt (NPt (NPb (NPt hN)))))))))) 1 30 (.int .i64 (i : Int)) ab ?_
    refine WDi (NPt (NPb (NPt (NPt (NPb (NPb (NPt (NPt (NPb (NPt hN)))))))))) 2 A ends.length c 31 .i64 (i : Int) b33 o35 i 3 (by kernel_rfl) (by kernel_rfl) ax (by omega) (by omega) (o35 + i * 3) (by first | (simp; done) | omega) ab ?_
    refine WDq (NPt (NPb (NPt (NPt (NPb (NPb (NPt (NPt (NPb (NPt hN)))))))))) 3 32 (.pointer (some ⟨b33, o35 + i * 3, none⟩)) ab ?_
    refine WDq (NPt (NPb (NPt (NPt (NPb (NPb (NPt (NPt (NPb (NPt hN)))))))))) 7 36 (.int .i64 (j : Int)) ab ?_
    refine WDq (NPt (NPb (NPt (NPt (NPb (NPb (NPt (NPt (NPb (NPt hN)))))))))) 8 37 (.int .u64 (IntKind.u64.wrap ((j : Int)))) ab ?_
    refine WD.recast (show (.int .u64 (IntKind.u64.wrap ((j : Int))) : Value) = .int .u64 (j : Int) from by rw [wrap_in_u64 ((j : Int)) (by omega) (by omega)]) ?_
    refine WDm (NPt (NPb (NPt (NPt (NPb (NPb (NPt (NPt (NPb (NPt hN)))))))))) 4 23 (.pointer (some ⟨b33, o35 + i * 3, none⟩)) (.int .u32 aa.dip) 33 (fun _ hS_ => run_load1 rfl (by simpa [Nat.add_assoc] using Fr.cell hS_ (aj.fr.cell (ay 0 _ rfl) (by simp)) (by simp))) ab ?_
    refine WDq (NPt (NPb (NPt (NPt (NPb (NPb (NPt (NPt (NPb (NPt hN)))))))))) 5 34 (.int .u64 (IntKind.u64.wrap (aa.dip))) ab ?_
    refine WD.recast (show (.int .u64 (IntKind.u64.wrap (aa.dip)) : Value) = .int .u64 aa.dip from by rw [wrap_in_u64 (aa.dip) (by omega) (by omega)]) ?_
    refine WDq (NPt (NPb (NPt (NPt (NPb (NPb (NPt (NPt (NPb (NPt hN)))))))))) 6 35 (.int .u64 (IntKind.u64.wrap (aa.dip * 256))) ab ?_
    refine WD.recast (show (.int .u64 (IntKind.u64.wrap (aa.dip * 256)) : Value) = .int .u64 (aa.dip * 256) from by rw [wrap_in_u64 _ (by omega) (by omega)]) ?_
    refine WDq (NPt (NPb (NPt (NPt (NPb (NPb (NPt (NPt (NPb (NPt hN)))))))))) 9 38 (.int .u64 (IntKind.u64.wrap ((aa.dip * 256) + (j : Int)))) ab ?_
    refine WD.recast (show (.int .u64 (IntKind.u64.wrap ((aa.dip * 256) + (j : Int))) : Value) = .int .u64 (aa.dip * 256 + (j : Int)) from by rw [wrap_in_u64 _ (by omega) (by omega)]) ?_
    refine WDm (NPt (NPb (NPt (NPt (NPb (NPb (NPt (NPt (NPb (NPt hN)))))))))) 10 25 (.pointer (some ⟨g3, 0, none⟩)) (.agg #[.int .i64 f.proto, .int .u32 f.src, .int .i64 f.sp, .int .u32 f.dst, .int .i64 f.dp]) 39 (fun _ hS_ => run_ld (Fr.has hS_ (aj.get 0 rfl) (by simp)) rfl) ab ?_
    refine WD.call 11 (by kernel_rfl) rfl rfl rfl rfl rfl (by kernel_rfl) (RHash_ct (aa.dip * 256 + (j : Int)) f aT hwF) ?_
    rintro _ bc ⟨rfl, aA⟩
    have aB := ab.trans aA (by simp)
    refine ⟨_, rfl, aB, ?_⟩
    have ak := aj.call aA
    refine WDq (NPt (NPb (NPt (NPt (NPb (NPb (NPt (NPt (NPb (NPt hN)))))))))) 12 9 (.int .u64 (scoreE f aa j)) aB ?_
    refine WD.done (by kernel_rfl) ?_
    refine QXn (aI _ _ ?_)
    refine WCs (fun bd aC => ?_)
    refine WCg (WLq 3 [(43, .bool (decide (b2 < 0))), (42, .bool (decide (b2 < 0))), (41, .int .i64 b2)] ?_)
    refine WLa 43 (decide (b2 < 0)) rfl (fun al => ?_) (fun al => ?_)
    ·
     have aV : b2 < 0 := by have q_ := of_decide_eq_true al; omega
     refine WLq 4 [(47, .bool true), (46, undef), (45, undef), (44, undef)] (WLd rfl (QXn (aC _ _ ?_)))
     refine WCt rfl ?_
     refine WCs (fun be aJ => ?_)
     refine WCg (WLq 2 [(5, .int .i64 (i : Int)), (48, .int .i64 (i : Int))] (WLd rfl (QXn (aJ _ _ ?_))))
     refine WCg (WLq 2 [(6, .int .u64 (scoreE f aa j)), (49, .int .u64 (scoreE f aa j))] ?_)
     refine WLd rfl ?_
     refine QXb ?_
     refine QXn (ai _ _ ?_)
     refine WCg (WLq 2 [(28, .int .i64 (IntKind.i64.wrap ((j : Int) + 1))), (27, .int .i64 (j : Int))] ?_)
     refine WLt (show (.int .i64 (IntKind.i64.wrap ((j : Int) + 1)) : Value) = .int .i64 ((j : Int) + 1) from by rw [wrap_in_i64 ((j : Int) + 1) (by omega) (by omega)]) ?_
     refine WLq 1 [(8, .int .i64 ((j : Int) + 1))] ?_
     refine WLd rfl ?_
     refine QXn ?_
     have aK := ak.pick [0] [] rfl rfl
     refine fun a_ ha_ => af _ _ _ ?_ ⟨j + 1, (i : Int), scoreE f aa j, rfl, rfl, aK, by omega, stI_new hst2 ac (.inl (by omega))⟩ a_ (ha_.weaken (sub_of ⟨rfl, rfl, rfl, rfl, rfl, rfl, rfl, trivial⟩))
     omega
    ·
     have aV : (0 : Int) ≤ b2 := by have q_ := of_decide_eq_false al; omega
     refine WLq 4 [(47, .bool (decide ((scoreE f aa j) > tp2))), (46, .bool (decide ((scoreE f aa j) > tp2))), (45, .int .u64 tp2), (44, .int .u64 (scoreE f aa j))] (WLd rfl (QXn (aC _ _ ?_)))
     refine WCa 47 (decide ((scoreE f aa j) > tp2)) rfl (fun am => ?_) (fun am => ?_)
     ·
      have aW : tp2 < (scoreE f aa j) := by have q_ := of_decide_eq_true am; omega
      refine WCt rfl ?_
      refine WCs (fun bf aL => ?_)
      refine WCg (WLq 2 [(5, .int .i64 (i : Int)), (48, .int .i64 (i : Int))] (WLd rfl (QXn (aL _ _ ?_))))
      refine WCg (WLq 2 [(6, .int .u64 (scoreE f aa j)), (49, .int .u64 (scoreE f aa j))] ?_)
      refine WLd rfl ?_
      refine QXb ?_
      refine QXn (ai _ _ ?_)
      refine WCg (WLq 2 [(28, .int .i64 (IntKind.i64.wrap ((j : Int) + 1))), (27, .int .i64 (j : Int))] ?_)
      refine WLt (show (.int .i64 (IntKind.i64.wrap ((j : Int) + 1)) : Value) = .int .i64 ((j : Int) + 1) from by rw [wrap_in_i64 ((j : Int) + 1) (by omega) (by omega)]) ?_
      refine WLq 1 [(8, .int .i64 ((j : Int) + 1))] ?_
      refine WLd rfl ?_
      refine QXn ?_
      have aM := ak.pick [0] [] rfl rfl
      refine fun a_ ha_ => af _ _ _ ?_ ⟨j + 1, (i : Int), scoreE f aa j, rfl, rfl, aM, by omega, stI_new hst2 ac (.inr (by omega))⟩ a_ (ha_.weaken (sub_of ⟨rfl, rfl, rfl, rfl, rfl, rfl, rfl, trivial⟩))
      omega
     ·
      have aW : (scoreE f aa j) ≤ tp2 := by have q_ := of_decide_eq_false am; omega
      refine WCf rfl (WC.skip ?_)
      refine QXb ?_
      refine QXn (ai _ _ ?_)
      refine WCg (WLq 2 [(28, .int .i64 (IntKind.i64.wrap ((j : Int) + 1))), (27, .int .i64 (j : Int))] ?_)
      refine WLt (show (.int .i64 (IntKind.i64.wrap ((j : Int) + 1)) : Value) = .int .i64 ((j : Int) + 1) from by rw [wrap_in_i64 ((j : Int) + 1) (by omega) (by omega)]) ?_
      refine WLq 1 [(8, .int .i64 ((j : Int) + 1))] ?_
      refine WLd rfl ?_
      refine QXn ?_
      have aN := ak.pick [0] [] rfl rfl
      refine fun a_ ha_ => af _ _ _ ?_ ⟨j + 1, b2, tp2, rfl, rfl, aN, by omega, stI_keep hst2 (by omega) (by omega)⟩ a_ (ha_.weaken (sub_of ⟨rfl, rfl, rfl, rfl, rfl, rfl, rfl, trivial⟩))
      omega
   ·
    have aS : (16 : Int) ≤ (j : Int) := by have q_ := of_decide_eq_false ah; omega
    refine WCf rfl ?_
    refine WC.exit ?_
    refine QXe ?_
    refine QXe ?_
    refine QX.block_hit ?_
    refine QXb ?_
    refine QXn (aw _ _ ?_)
    refine WCg (WLq 2 [(15, .int .i64 (IntKind.i64.wrap ((i : Int) + 1))), (14, .int .i64 (i : Int))] ?_)
    refine WLt (show (.int .i64 (IntKind.i64.wrap ((i : Int) + 1)) : Value) = .int .i64 ((i : Int) + 1) from by rw [wrap_in_i64 ((i : Int) + 1) (by omega) (by omega)]) ?_
    refine WLq 1 [(7, .int .i64 ((i : Int) + 1))] ?_
    refine WLd rfl ?_
    refine QXn ?_
    have aO := ad.pick [0] [] rfl rfl
    refine fun a_ ha_ => aq _ _ _ ?_ ⟨i + 1, b2, tp2, rfl, rfl, aO, by omega, by rw [choose_step ac, show wE aa = j from by unfold wE; omega]; exact hst2⟩ a_ (ha_.weaken (sub_of ⟨rfl, rfl, rfl, rfl, rfl, rfl, trivial⟩))
    omega
  ·
   have aR : aa.weight ≤ (j : Int) := by have q_ := of_decide_eq_false ag; omega
   refine WLq 3 [(26, .bool false), (25, undef), (24, undef)] (WLd rfl (QXn (az _ _ ?_)))
   refine WCf rfl ?_
   refine WC.exit ?_
   refine QXe ?_
   refine QXe ?_
   refine QX.block_hit ?_
   refine QXb ?_
   refine QXn (aw _ _ ?_)
   refine WCg (WLq 2 [(15, .int .i64 (IntKind.i64.wrap ((i : Int) + 1))), (14, .int .i64 (i : Int))] ?_)
   refine WLt (show (.int .i64 (IntKind.i64.wrap ((i : Int) + 1)) : Value) = .int .i64 ((i : Int) + 1) from by rw [wrap_in_i64 ((i : Int) + 1) (by omega) (by omega)]) ?_
   refine WLq 1 [(7, .int .i64 ((i : Int) + 1))] ?_
   refine WLd rfl ?_
   refine QXn ?_
   have aP := ad.pick [0] [] rfl rfl
   refine fun a_ ha_ => aq _ _ _ ?_ ⟨i + 1, b2, tp2, rfl, rfl, aP, by omega, by rw [choose_step ac, show wE aa = j from by unfold wE; omega]; exact hst2⟩ a_ (ha_.weaken (sub_of ⟨rfl, rfl, rfl, rfl, rfl, rfl, trivial⟩))
   omega
 ·
  have aQ : (ends.length : Int) ≤ (i : Int) := by have q_ := of_decide_eq_false ae; omega
  refine WCf rfl ?_
  refine WC.exit ?_
  refine QXe ?_
  refine QXe ?_
  refine QX.block_hit ?_
  refine QXn (ao _ _ ?_)
  refine WCs (fun bg aD => ?_)
  refine WCg (WLq 2 [(4, .int .i64 b), (50, .int .i64 b)] (WLd rfl (QXn (aD _ _ ?_))))
  refine WC.ret ?_
  refine (hret _ _ _ rfl ?_).1
  clear hN hret hret' aD av au ap ao an hK9 hK2
  have hie_ : i = ends.length := by omega
  rw [hie_, List.take_length] at hst
  exact ⟨_, rfl, ar.fr, stI_end hst⟩

end Go.Proofs.Ytibkndhgeeoidaa
