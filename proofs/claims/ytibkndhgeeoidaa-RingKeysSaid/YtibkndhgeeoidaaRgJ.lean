/- Contracts of functions of the program, each proved by a walk through its code; conditions stand in the statements. -/
import Derived.Test.YtibkndhgeeoidaaRgI
namespace Go.Proofs.Ytibkndhgeeoidaa
set_option linter.unusedSimpArgs false
set_option linter.unusedVariables false
set_option linter.unusedSectionVars false
open Go Go.RowKit Go.Tw
set_option linter.unusedVariables false
set_option maxRecDepth 20000
/-! ### the reference's hash, the reference's choice -/
theorem mixL_app : ∀ (xs ys : List Int) (h : Int), mixL h (xs ++ ys) = mixL (mixL h xs) ys
  | [], _, _ => rfl
  | _ :: r, ys, _ => mixL_app r ys _
def byteR (a : Int) (k : Nat) : Int := IntKind.u8.wrap (a / 2 ^ (24 - 8 * k) % 256)
def b4F (f : FlowV) : List Int := [IntKind.u8.wrap ((f.sp : Int).fdiv (2 ^ 8)), IntKind.u8.wrap f.sp, IntKind.u8.wrap ((f.dp : Int).fdiv (2 ^ 8)), IntKind.u8.wrap f.dp]
def bytesR (f : FlowV) : List Int := [IntKind.u8.wrap f.proto] ++ b4 f.src ++ b4 f.dst ++ b4F f
theorem byte_0 (a : Int) : IntKind.u8.wrap (a / 16777216 % 256) = IntKind.u8.wrap ((a : Int).fdiv (2 ^ 24)) := by
  rw [IntKind.wrap_u8, IntKind.wrap_u8, Int.fdiv_eq_ediv_of_nonneg _ (by decide)]; omega
theorem byte_1 (a : Int) : IntKind.u8.wrap (a / 65536 % 256) = IntKind.u8.wrap ((a : Int).fdiv (2 ^ 16)) := by
  rw [IntKind.wrap_u8, IntKind.wrap_u8, Int.fdiv_eq_ediv_of_nonneg _ (by decide)]; omega
theorem byte_2 (a : Int) : IntKind.u8.wrap (a / 256 % 256) = IntKind.u8.wrap ((a : Int).fdiv (2 ^ 8)) := by
  rw [IntKind.wrap_u8, IntKind.wrap_u8, Int.fdiv_eq_ediv_of_nonneg _ (by decide)]; omega
theorem byte_3 (a : Int) : IntKind.u8.wrap (a / 1 % 256) = IntKind.u8.wrap a := by
  rw [IntKind.wrap_u8, IntKind.wrap_u8]; omega
theorem hash0_eq (s : Int) (f : FlowV) : mixL (Go.bits .xor .u64 s 14695981039346656037) (bytesR f) = hash0 s f := by
  unfold bytesR b4F hash0
  rw [mixL_app, mixL_app, mixL_app]
theorem b4_by (a : Int) : ∀ b ∈ b4 a, 0 ≤ b ∧ b ≤ 255 := by
  intro b hb; unfold b4 at hb
  simp only [List.mem_cons, List.not_mem_nil, or_false] at hb
  rcases hb with rfl | rfl | rfl | rfl <;> exact b8 _
theorem bytesR_by (f : FlowV) : ∀ b ∈ bytesR f, 0 ≤ b ∧ b ≤ 255 := by
  intro b hb; unfold bytesR b4F at hb
  simp only [List.mem_append, List.mem_cons, List.not_mem_nil, or_false] at hb
  rcases hb with ((rfl | hb) | hb) | (rfl | rfl | rfl | rfl)
  · exact b8 _
  · exact b4_by _ _ hb
  · exact b4_by _ _ hb
  all_goals exact b8 _
theorem bytesR_len (f : FlowV) : (bytesR f).length = 13 := rfl
def stI (L : List EndV) (o : Option (Int × EndV)) (best top : Int) : Prop := match o with
  | none => best = -1
  | some (b, c) => ∃ n : Nat, best = (n : Int) ∧ n < L.length ∧ L[n]? = some c ∧ top = b
def chI (f : FlowV) (L : List EndV) (r : Int) : Prop := (foundB f L = true ∧ ∃ n : Nat, r = (n : Int) ∧ n < L.length ∧ L[n]? = some (chosenE f L)) ∨ (foundB f L = false ∧ r = -1 ∧ chosenE f L = zE)
theorem Byte0_ct (a : Int) (w : World) (h0 : 0 ≤ a) (h1 : a ≤ 4294967295) : Calls Try.prog 79 #[.int .u32 a, .int .i64 0] w fun e w' => e = .returned (.int .i64 (a / 16777216 % 256)) ∧ Fr w w' [] := by
 refine enterD (n := 13) Try.func79 rfl rfl (Nat.le_of_ble_eq_true rfl) ?_
 intro Q0 hN hret hret'
 have hC := Cx.start w
 refine WCs (fun K1 hK2 => ?_)
 refine WCg (WLq 1 [(4, .int .i64 0)] (WLd rfl (QXn (hK2 _ _ ?_))))
 refine WCs (fun K3 hK4 => ?_)
 refine WCg (WLq 3 [(7, .int .i64 (IntKind.i64.wrap (8 * 0))), (6, .int .i64 0), (5, .int .u32 a)] ?_)
 refine WLt (show (.int .i64 (IntKind.i64.wrap (8 * 0)) : Value) = .int .i64 0 from by rw [wrap_in_i64 _ (by omega) (by omega)]; rfl) ?_
 refine WLq 1 [(8, .int .i64 (IntKind.i64.wrap (24 - 0)))] ?_
 refine WLt (show (.int .i64 (IntKind.i64.wrap (24 - 0)) : Value) = .int .i64 24 from by rw [wrap_in_i64 _ (by omega) (by omega)]; rfl) ?_
 refine WLq 1 [(9, .int .u64 (IntKind.u64.wrap (24)))] ?_
 refine WLt (show (.int .u64 (IntKind.u64.wrap (24)) : Value) = .int .u64 24 from by rw [wrap_in_u64 _ (by omega) (by omega)]) ?_
 refine WLq 1 [(10, .int .u32 ((a : Int).fdiv (2 ^ 24)))] ?_
 refine WLt (show (.int .u32 ((a : Int).fdiv (2 ^ 24)) : Value) = .int .u32 (a / 16777216) from by congr 1; rw [Int.fdiv_eq_ediv_of_nonneg _ (by decide)]; rfl) ?_
 refine WLq 1 [(11, .int .i64 (IntKind.i64.wrap (a / 16777216)))] ?_
 refine WLt (show (.int .i64 (IntKind.i64.wrap (a / 16777216)) : Value) = .int .i64 (a / 16777216) from by rw [wrap_in_i64 _ (by omega) (by omega)]) ?_
 refine WLq 1 [(12, .int .i64 (Int.tmod (a / 16777216) 256))] ?_
 refine WLt (show (.int .i64 (Int.tmod (a / 16777216) 256) : Value) = .int .i64 (a / 16777216 % 256) from by rw [Int.tmod_eq_emod_of_nonneg (by omega)]) ?_
 refine WLq 1 [(4, .int .i64 (a / 16777216 % 256))] (WLd rfl (QXn (hK4 _ _ ?_)))
 refine WC.ret ?_
 refine (hret _ _ _ rfl ?_).1
 exact ⟨rfl, hC.fr⟩

theorem Byte1_ct (a : Int) (w : World) (h0 : 0 ≤ a) (h1 : a ≤ 4294967295) : Calls Try.prog 79 #[.int .u32 a, .int .i64 1] w fun e w' => e = .returned (.int .i64 (a / 65536 % 256)) ∧ Fr w w' [] := by
 refine enterD (n := 13) Try.func79 rfl rfl (Nat.le_of_ble_eq_true rfl) ?_
 intro Q0 hN hret hret'
 have hC := Cx.start w
 refine WCs (fun K1 hK2 => ?_)
 refine WCg (WLq 1 [(4, .int .i64 0)] (WLd rfl (QXn (hK2 _ _ ?_))))
 refine WCs (fun K3 hK4 => ?_)
 refine WCg (WLq 3 [(7, .int .i64 (IntKind.i64.wrap (8 * 1))), (6, .int .i64 1), (5, .int .u32 a)] ?_)
 refine WLt (show (.int .i64 (IntKind.i64.wrap (8 * 1)) : Value) = .int .i64 8 from by rw [wrap_in_i64 _ (by omega) (by omega)]; rfl) ?_
 refine WLq 1 [(8, .int .i64 (IntKind.i64.wrap (24 - 8)))] ?_
 refine WLt (show (.int .i64 (IntKind.i64.wrap (24 - 8)) : Value) = .int .i64 16 from by rw [wrap_in_i64 _ (by omega) (by omega)]; rfl) ?_
 refine WLq 1 [(9, .int .u64 (IntKind.u64.wrap (16)))] ?_
 refine WLt (show (.int .u64 (IntKind.u64.wrap (16)) : Value) = .int .u64 16 from by rw [wrap_in_u64 _ (by omega) (by omega)]) ?_
 refine WLq 1 [(10, .int .u32 ((a : Int).fdiv (2 ^ 16)))] ?_
 refine WLt (show (.int .u32 ((a : Int).fdiv (2 ^ 16)) : Value) = .int .u32 (a / 65536) from by congr 1; rw [Int.fdiv_eq_ediv_of_nonneg _ (by decide)]; rfl) ?_
 refine WLq 1 [(11, .int .i64 (IntKind.i64.wrap (a / 65536)))] ?_
 refine WLt (show (.int .i64 (IntKind.i64.wrap (a / 65536)) : Value) = .int .i64 (a / 65536) from by rw [wrap_in_i64 _ (by omega) (by omega)]) ?_
 refine WLq 1 [(12, .int .i64 (Int.tmod (a / 65536) 256))] ?_
 refine WLt (show (.int .i64 (Int.tmod (a / 65536) 256) : Value) = .int .i64 (a / 65536 % 256) from by rw [Int.tmod_eq_emod_of_nonneg (by omega)]) ?_
 refine WLq 1 [(4, .int .i64 (a / 65536 % 256))] (WLd rfl (QXn (hK4 _ _ ?_)))
 refine WC.ret ?_
 refine (hret _ _ _ rfl ?_).1
 exact ⟨rfl, hC.fr⟩

theorem Byte2_ct (a : Int) (w : World) (h0 : 0 ≤ a) (h1 : a ≤ 4294967295) : Calls Try.prog 79 #[.int .u32 a, .int .i64 2] w fun e w' => e = .returned (.int .i64 (a / 256 % 256)) ∧ Fr w w' [] := by
 refine enterD (n := 13) Try.func79 rfl rfl (Nat.le_of_ble_eq_true rfl) ?_
 intro Q0 hN hret hret'
 have hC := Cx.start w
 refine WCs (fun K1 hK2 => ?_)
 refine WCg (WLq 1 [(4, .int .i64 0)] (WLd rfl (QXn (hK2 _ _ ?_))))
 refine WCs (fun K3 hK4 => ?_)
 refine WCg (WLq 3 [(7, .int .i64 (IntKind.i64.wrap (8 * 2))), (6, .int .i64 2), (5, .int .u32 a)] ?_)
 refine WLt (show (.int .i64 (IntKind.i64.wrap (8 * 2)) : Value) = .int .i64 16 from by rw [wrap_in_i64 _ (by omega) (by omega)]; rfl) ?_
 refine WLq 1 [(8, .int .i64 (IntKind.i64.wrap (24 - 16)))] ?_
 refine WLt (show (.int .i64 (IntKind.i64.wrap (24 - 16)) : Value) = .int .i64 8 from by rw [wrap_in_i64 _ (by omega) (by omega)]; rfl) ?_
 refine WLq 1 [(9, .int .u64 (IntKind.u64.wrap (8)))] ?_
 refine WLt (show (.int .u64 (IntKind.u64.wrap (8)) : Value) = .int .u64 8 from by rw [wrap_in_u64 _ (by omega) (by omega)]) ?_
 refine WLq 1 [(10, .int .u32 ((a : Int).fdiv (2 ^ 8)))] ?_
 refine WLt (show (.int .u32 ((a : Int).fdiv (2 ^ 8)) : Value) = .int .u32 (a / 256) from by congr 1; rw [Int.fdiv_eq_ediv_of_nonneg _ (by decide)]; rfl) ?_
 refine WLq 1 [(11, .int .i64 (IntKind.i64.wrap (a / 256)))] ?_
 refine WLt (show (.int .i64 (IntKind.i64.wrap (a / 256)) : Value) = .int .i64 (a / 256) from by rw [wrap_in_i64 _ (by omega) (by omega)]) ?_
 refine WLq 1 [(12, .int .i64 (Int.tmod (a / 256) 256))] ?_
 refine WLt (show (.int .i64 (Int.tmod (a / 256) 256) : Value) = .int .i64 (a / 256 % 256) from by rw [Int.tmod_eq_emod_of_nonneg (by omega)]) ?_
 refine WLq 1 [(4, .int .i64 (a / 256 % 256))] (WLd rfl (QXn (hK4 _ _ ?_)))
 refine WC.ret ?_
 refine (hret _ _ _ rfl ?_).1
 exact ⟨rfl, hC.fr⟩

theorem Byte3_ct (a : Int) (w : World) (h0 : 0 ≤ a) (h1 : a ≤ 4294967295) : Calls Try.prog 79 #[.int .u32 a, .int .i64 3] w fun e w' => e = .returned (.int .i64 (a / 1 % 256)) ∧ Fr w w' [] := by
 refine enterD (n := 13) Try.func79 rfl rfl (Nat.le_of_ble_eq_true rfl) ?_
 intro Q0 hN hret hret'
 have hC := Cx.start w
 refine WCs (fun K1 hK2 => ?_)
 refine WCg (WLq 1 [(4, .int .i64 0)] (WLd rfl (QXn (hK2 _ _ ?_))))
 refine WCs (fun K3 hK4 => ?_)
 refine WCg (WLq 3 [(7, .int .i64 (IntKind.i64.wrap (8 * 3))), (6, .int .i64 3), (5, .int .u32 a)] ?_)
 refine WLt (show (.int .i64 (IntKind.i64.wrap (8 * 3)) : Value) = .int .i64 24 from by rw [wrap_in_i64 _ (by omega) (by omega)]; rfl) ?_
 refine WLq 1 [(8, .int .i64 (IntKind.i64.wrap (24 - 24)))] ?_
 refine WLt (show (.int .i64 (IntKind.i64.wrap (24 - 24)) : Value) = .int .i64 0 from by rw [wrap_in_i64 _ (by omega) (by omega)]; rfl) ?_
 refine WLq 1 [(9, .int .u64 (IntKind.u64.wrap (0)))] ?_
 refine WLt (show (.int .u64 (IntKind.u64.wrap (0)) : Value) = .int .u64 0 from by rw [wrap_in_u64 _ (by omega) (by omega)]) ?_
 refine WLq 1 [(10, .int .u32 ((a : Int).fdiv (2 ^ 0)))] ?_
 refine WLt (show (.int .u32 ((a : Int).fdiv (2 ^ 0)) : Value) = .int .u32 (a / 1) from by congr 1; rw [Int.fdiv_eq_ediv_of_nonneg _ (by decide)]; rfl) ?_
 refine WLq 1 [(11, .int .i64 (IntKind.i64.wrap (a / 1)))] ?_
 refine WLt (show (.int .i64 (IntKind.i64.wrap (a / 1)) : Value) = .int .i64 (a / 1) from by rw [wrap_in_i64 _ (by omega) (by omega)]) ?_
 refine WLq 1 [(12, .int .i64 (Int.tmod (a / 1) 256))] ?_
 refine WLt (show (.int .i64 (Int.tmod (a / 1) 256) : Value) = .int .i64 (a / 1 % 256) from by rw [Int.tmod_eq_emod_of_nonneg (by omega)]) ?_
 refine WLq 1 [(4, .int .i64 (a / 1 % 256))] (WLd rfl (QXn (hK4 _ _ ?_)))
 refine WC.ret ?_
 refine (hret _ _ _ rfl ?_).1
 exact ⟨rfl, hC.fr⟩

set_option maxHeartbeats 2000000 in
theorem Bytes_ct (f : FlowV) (w : World) (hwf : wfF f) : Calls Try.prog 62 #[.agg #[.int .i64 f.proto, .int .u32 f.src, .int .i64 f.sp, .int .u32 f.dst, .int .i64 f.dp]] w fun e w' => ∃ v, e = .returned v ∧ Fr w w' [] ∧ w'.ownsRow w.heap.size 5 1 v (bytesR f).length ((bytesR f).flatMap (Go.Tw.encI .u8)) := by
 refine enterD (n := 51) Try.func62 rfl rfl (Nat.le_of_ble_eq_true rfl) ?_
 intro Q0 hN hret hret'
 have hC := Cx.start w
 refine WCs (fun K1 hK2 => ?_)
 refine WCg ?_
 refine WL.newM hC (fun b => .pointer (some ⟨b, 0, none⟩)) (.cells #[.int .i64 f.proto, .int .u32 f.src, .int .i64 f.sp, .int .u32 f.dst, .int .i64 f.dp] 25) 1 (fun _ => by kernel_rfl) (fun g3 w4 hb7 hF5 hC6 => ?_)
 refine WLq 1 [(2, .slice none 0 0)] (WLd rfl (QXn (hK2 _ _ ?_)))
 refine WCs (fun K8 hK9 => ?_)
 refine WCg (WLq 1 [(6, .pointer (some ⟨g3, 0, none⟩))] ?_)
 refine WLo 3 (.pointer (some ⟨g3, 0, none⟩)) (.int .i64 f.proto) 7 (run_ld (hC6.get 0 rfl) rfl) ?_
 refine WLq 1 [(8, .int .u8 (IntKind.u8.wrap (f.proto)))] ?_
 refine WLt (show (.int .u8 (IntKind.u8.wrap (f.proto)) : Value) = .int .u8 (IntKind.u8.wrap (f.proto)) from rfl) ?_
 refine WL.newM hC6 (fun b => .slice (some ⟨b, 0, none⟩) 1 1) (.cells #[.int .u8 (IntKind.u8.wrap (f.proto))] 5) 9 (fun _ => by kernel_rfl) (fun ab dA dB dC bj => ?_)
 refine WLq 1 [(3, .slice (some ⟨ab, 0, none⟩) 1 1)] (WLd rfl (QXn (hK9 _ _ ?_)))
 refine WCs (fun eB bk => ?_)
 refine WCs (fun eC bl => ?_)
 refine WCg (WLq 1 [(4, .int .i64 0)] (WLd rfl (QXn (bl _ _ ?_))))
 refine WC.block ?_
 refine WC.unroll ?_
 refine Rounds.round (fun eD bm => ?_)
 refine WCs (fun eE bn => ?_)
 refine WCs (fun eF bo => ?_)
 refine WCg (WLq 2 [(11, .bool true), (10, .int .i64 0)] (WLd rfl (QXn (bo _ _ ?_))))
 refine WCt rfl ?_
 refine WC.skip ?_
 refine QXn (bn _ _ ?_)
 refine WCs (fun eG bp => ?_)
 refine WC.block ?_
 refine WCg (WLq 2 [(15, .pointer (some ⟨g3, 1, none⟩)), (14, .slice (some ⟨ab, 0, none⟩) 1 1)] ?_)
 refine WLo 23 (.pointer (some ⟨g3, 1, none⟩)) (.int .u32 f.src) 16 (run_ld (bj.get 0 rfl) rfl) ?_
 refine WLq 1 [(17, .int .i64 0)] ?_
 refine WLc rfl rfl rfl rfl rfl (by kernel_rfl) (Byte0_ct f.src dA hwf.src.1 hwf.src.2) ?_
 rintro _ eH ⟨rfl, cJ⟩
 refine ⟨_, rfl, ?_⟩
 have cK := bj.call cJ
 refine WLq 1 [(19, .int .u8 (IntKind.u8.wrap (f.src / 16777216 % 256)))] ?_
 refine WLt (show (.int .u8 (IntKind.u8.wrap (f.src / 16777216 % 256)) : Value) = .int .u8 (IntKind.u8.wrap ((f.src : Int).fdiv (2 ^ 24))) from congrArg (Value.int .u8) (byte_0 f.src)) ?_
 refine WL.newM cK (fun b => .slice (some ⟨b, 0, none⟩) 1 1) (.cells #[.int .u8 (IntKind.u8.wrap ((f.src : Int).fdiv (2 ^ 24)))] 5) 20 (fun _ => by kernel_rfl) (fun dg dD dE dF bq => ?_)
 have cL : World.ownsRow dD 0 5 1 (.slice (some ⟨ab, 0, none⟩) 1 1) 1 ([IntKind.u8.wrap (f.proto)].flatMap (Go.Tw.encI .u8)) := own_of_blk (Nat.zero_le _) (bq.get 1 rfl) (Nat.le_refl _) (by decide) rfl rfl
 have br := bq.toF 1 rfl
 obtain ⟨eI, dG, cM, cN, dH, bs, cO, cP⟩ := app_run Try.prog br 0 (v := .slice (some ⟨ab, 0, none⟩) 1 1) rfl 93 93 5 1 1 1 1 1 (some ⟨dg, 0, none⟩) rfl cL [.int .u8 (IntKind.u8.wrap ((f.src : Int).fdiv (2 ^ 24)))] rfl (srcOk.blk 1 (br.get 1 rfl)) rfl (by simp only [maxLen]; omega) (by omega)
 have bt := own_snoc (enc := (Go.Tw.encI .u8)) (ys := [IntKind.u8.wrap (f.proto)]) (IntKind.u8.wrap ((f.src : Int).fdiv (2 ^ 24))) cN
 obtain ⟨bf, bg, rfl, dh⟩ := own_form bt
 refine WL.sem (Builtin.append_ #[93, 93] 93 #[.slice (some ⟨ab, 0, none⟩) 1 1, .slice (some ⟨dg, 0, none⟩) 1 1]) 21 (.slice bf 2 bg) (by kernel_rfl) cM ?_
 refine WLq 1 [(3, .slice bf 2 bg)] ?_
 refine WLd rfl ?_
 refine QXb ?_
 refine QXn (bp _ _ ?_)
 refine WCg (WLq 3 [(4, .int .i64 1), (13, .int .i64 1), (12, .int .i64 0)] ?_)
 refine WLd rfl ?_
 refine QXn ?_
 refine fun a_ ha_ => bm [(0, .agg #[.int .i64 f.proto, .int .u32 f.src, .int .i64 f.sp, .int .u32 f.dst, .int .i64 f.dp]), (1, .pointer (some ⟨g3, 0, none⟩)), (2, .slice none 0 0), (3, .slice bf 2 bg), (4, .int .i64 1), (6, .pointer (some ⟨g3, 0, none⟩)), (7, .int .i64 f.proto), (8, .int .u8 (IntKind.u8.wrap (f.proto))), (9, .slice (some ⟨ab, 0, none⟩) 1 1)] _ ?_ a_ (ha_.weaken (sub_of ⟨rfl, rfl, rfl, rfl, rfl, rfl, rfl, rfl, rfl, trivial⟩))
 refine Rounds.round (fun eJ bu => ?_)
 refine WCs (fun eK bv => ?_)
 refine WCs (fun eL bw => ?_)
 refine WCg (WLq 2 [(11, .bool true), (10, .int .i64 1)] (WLd rfl (QXn (bw _ _ ?_))))
 refine WCt rfl ?_
 refine WC.skip ?_
 refine QXn (bv _ _ ?_)
 refine WCs (fun eM bx => ?_)
 refine WC.block ?_
 refine WCg (WLq 2 [(15, .pointer (some ⟨g3, 1, none⟩)), (14, .slice bf 2 bg)] ?_)
 refine WLo 23 (.pointer (some ⟨g3, 1, none⟩)) (.int .u32 f.src) 16 (run_ld (bs.get 0 rfl) rfl) ?_
 refine WLq 1 [(17, .int .i64 1)] ?_
 refine WLc rfl rfl rfl rfl rfl (by kernel_rfl) (Byte1_ct f.src dG hwf.src.1 hwf.src.2) ?_
 rintro _ eN ⟨rfl, bz⟩
 refine ⟨_, rfl, ?_⟩
 have cQ := bs.call bz
 have cR := own_fr bt bz (by simp)
 refine WLq 1 [(19, .int .u8 (IntKind.u8.wrap (f.src / 65536 % 256)))] ?_
 refine WLt (show (.int .u8 (IntKind.u8.wrap (f.src / 65536 % 256)) : Value) = .int .u8 (IntKind.u8.wrap ((f.src : Int).fdiv (2 ^ 16))) from congrArg (Value.int .u8) (byte_1 f.src)) ?_
 refine WL.newM cQ (fun b => .slice (some ⟨b, 0, none⟩) 1 1) (.cells #[.int .u8 (IntKind.u8.wrap ((f.src : Int).fdiv (2 ^ 16)))] 5) 20 (fun _ => by kernel_rfl) (fun di eO dI cS bA => ?_)
 have cT := own_fr cR cS (by simp)
 obtain ⟨eP, dJ, cU, cV, dK, bB, cW, cX⟩ := app_run Try.prog bA 0 (v := .slice bf 2 bg) rfl 93 93 5 1 1 2 1 1 (some ⟨di, 0, none⟩) rfl cT [.int .u8 (IntKind.u8.wrap ((f.src : Int).fdiv (2 ^ 16)))] rfl (srcOk.blk 1 (bA.get 2 rfl)) rfl (by simp only [maxLen]; omega) (by omega)
 have bC := own_snoc (enc := (Go.Tw.encI .u8)) (ys := [IntKind.u8.wrap (f.proto)] ++ [IntKind.u8.wrap ((f.src : Int).fdiv (2 ^ 24))]) (IntKind.u8.wrap ((f.src : Int).fdiv (2 ^ 16))) cV
 obtain ⟨bh, bi, rfl, dj⟩ := own_form bC
 refine WL.sem (Builtin.append_ #[93, 93] 93 #[.slice bf 2 bg, .slice (some ⟨di, 0, none⟩) 1 1]) 21 (.slice bh 3 bi) (by kernel_rfl) cU ?_
 refine WLq 1 [(3, .slice bh 3 bi)] ?_
 refine WLd rfl ?_
 refine QXb ?_
 refine QXn (bx _ _ ?_)
 refine WCg (WLq 3 [(4, .int .i64 2), (13, .int .i64 2), (12, .int .i64 1)] ?_)
 refine WLd rfl ?_
 refine QXn ?_
 refine fun a_ ha_ => bu [(0, .agg #[.int .i64 f.proto, .int .u32 f.src, .int .i64 f.sp, .int .u32 f.dst, .int .i64 f.dp]), (1, .pointer (some ⟨g3, 0, none⟩)), (2, .slice none 0 0), (3, .slice bh 3 bi), (4, .int .i64 2), (6, .pointer (some ⟨g3, 0, none⟩)), (7, .int .i64 f.proto), (8, .int .u8 (IntKind.u8.wrap (f.proto))), (9, .slice (some ⟨ab, 0, none⟩) 1 1)] _ ?_ a_ (ha_.weaken (sub_of ⟨rfl, rfl, rfl, rfl, rfl, rfl, rfl, rfl, rfl, trivial⟩))
 refine Rounds.round (fun eQ bD => ?_)
 refine WCs (fun eR bE => ?_)
 refine WCs (fun eS bF => ?_)
 refine WCg (WLq 2 [(11, .bool true), (10, .int .i64 2)] (WLd rfl (QXn (bF _ _ ?_))))
 refine WCt rfl ?_
 refine WC.skip ?_
 refine QXn (bE _ _ ?_)
 refine WCs (fun eT bG => ?_)
 refine WC.block ?_
 refine WCg (WLq 2 [(15, .pointer (some ⟨g3, 1, none⟩)), (14, .slice bh 3 bi)] ?_)
 refine WLo 23 (.pointer (some ⟨g3, 1, none⟩)) (.int .u32 f.src) 16 (run_ld (bB.get 0 rfl) rfl) ?_
 refine WLq 1 [(17, .int .i64 2)] ?_
 refine WLc rfl rfl rfl rfl rfl (by kernel_rfl) (Byte2_ct f.src dJ hwf.src.1 hwf.src.2) ?_
 rintro _ eU ⟨rfl, bH⟩
 refine ⟨_, rfl, ?_⟩
 have cY := bB.call bH
 have cZ := own_fr bC bH (by simp)
 refine WLq 1 [(19, .int .u8 (IntKind.u8.wrap (f.src / 256 % 256)))] ?_
 refine WLt (show (.int .u8 (IntKind.u8.wrap (f.src / 256 % 256)) : Value) = .int .u8 (IntKind.u8.wrap ((f.src : Int).fdiv (2 ^ 8))) from congrArg (Value.int .u8) (byte_2 f.src)) ?_
 refine WL.newM cY (fun b => .slice (some ⟨b, 0, none⟩) 1 1) (.cells #[.int .u8 (IntKind.u8.wrap ((f.src : Int).fdiv (2 ^ 8)))] 5) 20 (fun _ => by kernel_rfl) (fun dk eV dL c3 bI => ?_)
 have c4 := own_fr cZ c3 (by simp)
 obtain ⟨eW, dM, bJ, bK, dl, ao, cv, cw⟩ := app_run Try.prog bI 0 (v := .slice bh 3 bi) rfl 93 93 5 1 1 3 1 1 (some ⟨dk, 0, none⟩) rfl c4 [.int .u8 (IntKind.u8.wrap ((f.src : Int).fdiv (2 ^ 8)))] rfl (srcOk.blk 1 (bI.get 3 rfl)) rfl (by simp only [maxLen]; omega) (by omega)
 have ap := own_snoc (enc := (Go.Tw.encI .u8)) (ys := [IntKind.u8.wrap (f.proto)] ++ [IntKind.u8.wrap ((f.src : Int).fdiv (2 ^ 24))] ++ [IntKind.u8.wrap ((f.src : Int).fdiv (2 ^ 16))]) (IntKind.u8.wrap ((f.src : Int).fdiv (2 ^ 8))) bK
 obtain ⟨ac, ad, rfl, c5⟩ := own_form ap
 refine WL.sem (Builtin.append_ #[93, 93] 93 #[.slice bh 3 bi, .slice (some ⟨dk, 0, none⟩) 1 1]) 21 (.slice ac 4 ad) (by kernel_rfl) bJ ?_
 refine WLq 1 [(3, .slice ac 4 ad)] ?_
 refine WLd rfl ?_
 refine QXb ?_
 refine QXn (bG _ _ ?_)
 refine WCg (WLq 3 [(4, .int .i64 3), (13, .int .i64 3), (12, .int .i64 2)] ?_)
 refine WLd rfl ?_
 refine QXn ?_
 refine fun a_ ha_ => bD [(0, .agg #[.int .i64 f.proto, .int .u32 f.src, .int .i64 f.sp, .int .u32 f.dst, .int .i64 f.dp]), (1, .pointer (some ⟨g3, 0, none⟩)), (2, .slice none 0 0), (3, .slice ac 4 ad), (4, .int .i64 3), (6, .pointer (some ⟨g3, 0, none⟩)), (7, .int .i64 f.proto), (8, .int .u8 (IntKind.u8.wrap (f.proto))), (9, .slice (some ⟨ab, 0, none⟩) 1 1)] _ ?_ a_ (ha_.weaken (sub_of ⟨rfl, rfl, rfl, rfl, rfl, rfl, rfl, rfl, rfl, trivial⟩))
 refine Rounds.round (fun dN aq => ?_)
 refine WCs (fun dO ar => ?_)
 refine WCs (fun dP au => ?_)
 refine WCg (WLq 2 [(11, .bool true), (10, .int .i64 3)] (WLd rfl (QXn (au _ _ ?_))))
 refine WCt rfl ?_
 refine WC.skip ?_
 refine QXn (ar _ _ ?_)
 refine WCs (fun dQ av => ?_)
 refine WC.block ?_
 refine WCg (WLq 2 [(15, .pointer (some ⟨g3, 1, none⟩)), (14, .slice ac 4 ad)] ?_)
 refine WLo 23 (.pointer (some ⟨g3, 1, none⟩)) (.int .u32 f.src) 16 (run_ld (ao.get 0 rfl) rfl) ?_
 refine WLq 1 [(17, .int .i64 3)] ?_
 refine WLc rfl rfl rfl rfl rfl (by kernel_rfl) (Byte3_ct f.src dM hwf.src.1 hwf.src.2) ?_
 rintro _ dR ⟨rfl, aw⟩
 refine ⟨_, rfl, ?_⟩
 have bL := ao.call aw
 have bM := own_fr ap aw (by simp)
 refine WLq 1 [(19, .int .u8 (IntKind.u8.wrap (f.src / 1 % 256)))] ?_
 refine WLt (show (.int .u8 (IntKind.u8.wrap (f.src / 1 % 256)) : Value) = .int .u8 (IntKind.u8.wrap (f.src)) from congrArg (Value.int .u8) (byte_3 f.src)) ?_
 refine WL.newM bL (fun b => .slice (some ⟨b, 0, none⟩) 1 1) (.cells #[.int .u8 (IntKind.u8.wrap (f.src))] 5) 20 (fun _ => by kernel_rfl) (fun bN dS dm bO ax => ?_)
 have bP := own_fr bM bO (by simp)
 obtain ⟨dT, c6, bQ, bR, dn, ay, cx, cy⟩ := app_run Try.prog ax 0 (v := .slice ac 4 ad) rfl 93 93 5 1 1 4 1 1 (some ⟨bN, 0, none⟩) rfl bP [.int .u8 (IntKind.u8.wrap (f.src))] rfl (srcOk.blk 1 (ax.get 4 rfl)) rfl (by simp only [maxLen]; omega) (by omega)
 have az := own_snoc (enc := (Go.Tw.encI .u8)) (ys := [IntKind.u8.wrap (f.proto)] ++ [IntKind.u8.wrap ((f.src : Int).fdiv (2 ^ 24))] ++ [IntKind.u8.wrap ((f.src : Int).fdiv (2 ^ 16))] ++ [IntKind.u8.wrap ((f.src : Int).fdiv (2 ^ 8))]) (IntKind.u8.wrap (f.src)) bR
 obtain ⟨ae, af, rfl, c7⟩ := own_form az
 refine WL.sem (Builtin.append_ #[93, 93] 93 #[.slice ac 4 ad, .slice (some ⟨bN, 0, none⟩) 1 1]) 21 (.slice ae 5 af) (by kernel_rfl) bQ ?_
 refine WLq 1 [(3, .slice ae 5 af)] ?_
 refine WLd rfl ?_
 refine QXb ?_
 refine QXn (av _ _ ?_)
 refine WCg (WLq 3 [(4, .int .i64 4), (13, .int .i64 4), (12, .int .i64 3)] ?_)
 refine WLd rfl ?_
 refine QXn ?_
 refine fun a_ ha_ => aq [(0, .agg #[.int .i64 f.proto, .int .u32 f.src, .int .i64 f.sp, .int .u32 f.dst, .int .i64 f.dp]), (1, .pointer (some ⟨g3, 0, none⟩)), (2, .slice none 0 0), (3, .slice ae 5 af), (4, .int .i64 4), (6, .pointer (some ⟨g3, 0, none⟩)), (7, .int .i64 f.proto), (8, .int .u8 (IntKind.u8.wrap (f.proto))), (9, .slice (some ⟨ab, 0, none⟩) 1 1)] _ ?_ a_ (ha_.weaken (sub_of ⟨rfl, rfl, rfl, rfl, rfl, rfl, rfl, rfl, rfl, trivial⟩))
 refine Rounds.round (fun dU bS => ?_)
 refine WCs (fun dV bT => ?_)
 refine WCs (fun dW aA => ?_)
 refine WCg (WLq 2 [(11, .bool false), (10, .int .i64 4)] (WLd rfl (QXn (aA _ _ ?_))))
 refine WCf rfl ?_
 refine WC.exit ?_
 refine QXe ?_
 refine QXe ?_
 refine QX.block_hit ?_
 refine QXn (bk _ _ ?_)
 refine WCs (fun dX aB => ?_)
 refine WCs (fun dY aC => ?_)
 refine WCg (WLq 1 [(5, .int .i64 0)] (WLd rfl (QXn (aC _ _ ?_))))
 refine WC.block ?_
 refine WC.unroll ?_
 refine Rounds.round (fun dZ aD => ?_)
 refine WCs (fun d0 aE => ?_)
 refine WCs (fun d1 aF => ?_)
 refine WCg (WLq 2 [(23, .bool true), (22, .int .i64 0)] (WLd rfl (QXn (aF _ _ ?_))))
 refine WCt rfl ?_
 refine WC.skip ?_
 refine QXn (aE _ _ ?_)
 refine WCs (fun d2 aG => ?_)
 refine WC.block ?_
 refine WCg (WLq 2 [(27, .pointer (some ⟨g3, 3, none⟩)), (26, .slice ae 5 af)] ?_)
 refine WLo 23 (.pointer (some ⟨g3, 3, none⟩)) (.int .u32 f.dst) 28 (run_ld (ay.get 0 rfl) rfl) ?_
 refine WLq 1 [(29, .int .i64 0)] ?_
 refine WLc rfl rfl rfl rfl rfl (by kernel_rfl) (Byte0_ct f.dst c6 hwf.dst.1 hwf.dst.2) ?_
 rintro _ d3 ⟨rfl, aH⟩
 refine ⟨_, rfl, ?_⟩
 have bU := ay.call aH
 have bV := own_fr az aH (by simp)
 refine WLq 1 [(31, .int .u8 (IntKind.u8.wrap (f.dst / 16777216 % 256)))] ?_
 refine WLt (show (.int .u8 (IntKind.u8.wrap (f.dst / 16777216 % 256)) : Value) = .int .u8 (IntKind.u8.wrap ((f.dst : Int).fdiv (2 ^ 24))) from congrArg (Value.int .u8) (byte_0 f.dst)) ?_
 refine WL.newM bU (fun b => .slice (some ⟨b, 0, none⟩) 1 1) (.cells #[.int .u8 (IntKind.u8.wrap ((f.dst : Int).fdiv (2 ^ 24)))] 5) 32 (fun _ => by kernel_rfl) (fun bW d4 dq bX aI => ?_)
 have bY := own_fr bV bX (by simp)
 obtain ⟨d5, c8, bZ, b0, dr, aJ, cz, cA⟩ := app_run Try.prog aI 0 (v := .slice ae 5 af) rfl 93 93 5 1 1 5 1 1 (some ⟨bW, 0, none⟩) rfl bY [.int .u8 (IntKind.u8.wrap ((f.dst : Int).fdiv (2 ^ 24)))] rfl (srcOk.blk 1 (aI.get 5 rfl)) rfl (by simp only [maxLen]; omega) (by omega)
 have aK := own_snoc (enc := (Go.Tw.encI .u8)) (ys := [IntKind.u8.wrap (f.proto)] ++ [IntKind.u8.wrap ((f.src : Int).fdiv (2 ^ 24))] ++ [IntKind.u8.wrap ((f.src : Int).fdiv (2 ^ 16))] ++ [IntKind.u8.wrap ((f.src : Int).fdiv (2 ^ 8))] ++ [IntKind.u8.wrap (f.src)]) (IntKind.u8.wrap ((f.dst : Int).fdiv (2 ^ 24))) b0
 obtain ⟨ag, ah, rfl, c9⟩ := own_form aK
 refine WL.sem (Builtin.append_ #[93, 93] 93 #[.slice ae 5 af, .slice (some ⟨bW, 0, none⟩) 1 1]) 33 (.slice ag 6 ah) (by kernel_rfl) bZ ?_
 refine WLq 1 [(3, .slice ag 6 ah)] ?_
 refine WLd rfl ?_
 refine QXb ?_
 refine QXn (aG _ _ ?_)
 refine WCg (WLq 3 [(5, .int .i64 1), (25, .int .i64 1), (24, .int .i64 0)] ?_)
 refine WLd rfl ?_
 refine QXn ?_
 refine fun a_ ha_ => aD [(0, .agg #[.int .i64 f.proto, .int .u32 f.src, .int .i64 f.sp, .int .u32 f.dst, .int .i64 f.dp]), (1, .pointer (some ⟨g3, 0, none⟩)), (2, .slice none 0 0), (3, .slice ag 6 ah), (4, .int .i64 4), (5, .int .i64 1), (6, .pointer (some ⟨g3, 0, none⟩)), (7, .int .i64 f.proto), (8, .int .u8 (IntKind.u8.wrap (f.proto))), (9, .slice (some ⟨ab, 0, none⟩) 1 1), (10, .int .i64 4), (11, .bool false)] _ ?_ a_ (ha_.weaken (sub_of ⟨rfl, rfl, rfl, rfl, rfl, rfl, rfl, rfl, rfl, rfl, rfl, rfl, trivial⟩))
 refine Rounds.round (fun d6 aL => ?_)
 refine WCs (fun d7 aM => ?_)
 refine WCs (fun d8 aN => ?_)
 refine WCg (WLq 2 [(23, .bool true), (22, .int .i64 1)] (WLd rfl (QXn (aN _ _ ?_))))
 refine WCt rfl ?_
 refine WC.skip ?_
 refine QXn (aM _ _ ?_)
 refine WCs (fun d9 aO => ?_)
 refine WC.block ?_
 refine WCg (WLq 2 [(27, .pointer (some ⟨g3, 3, none⟩)), (26, .slice ag 6 ah)] ?_)
 refine WLo 23 (.pointer (some ⟨g3, 3, none⟩)) (.int .u32 f.dst) 28 (run_ld (aJ.get 0 rfl) rfl) ?_
 refine WLq 1 [(29, .int .i64 1)] ?_
 refine WLc rfl rfl rfl rfl rfl (by kernel_rfl) (Byte1_ct f.dst c8 hwf.dst.1 hwf.dst.2) ?_
 rintro _ ea ⟨rfl, aP⟩
 refine ⟨_, rfl, ?_⟩
 have b1 := aJ.call aP
 have b2 := own_fr aK aP (by simp)
 refine WLq 1 [(31, .int .u8 (IntKind.u8.wrap (f.dst / 65536 % 256)))] ?_
 refine WLt (show (.int .u8 (IntKind.u8.wrap (f.dst / 65536 % 256)) : Value) = .int .u8 (IntKind.u8.wrap ((f.dst : Int).fdiv (2 ^ 16))) from congrArg (Value.int .u8) (byte_1 f.dst)) ?_
 refine WL.newM b1 (fun b => .slice (some ⟨b, 0, none⟩) 1 1) (.cells #[.int .u8 (IntKind.u8.wrap ((f.dst : Int).fdiv (2 ^ 16)))] 5) 32 (fun _ => by kernel_rfl) (fun b3 eb ds b5 aQ => ?_)
 have b6 := own_fr b2 b5 (by simp)
 obtain ⟨ec, da, b7, b9, dt, aR, cB, cC⟩ := app_run Try.prog aQ 0 (v := .slice ag 6 ah) rfl 93 93 5 1 1 6 1 1 (some ⟨b3, 0, none⟩) rfl b6 [.int .u8 (IntKind.u8.wrap ((f.dst : Int).fdiv (2 ^ 16)))] rfl (srcOk.blk 1 (aQ.get 6 rfl)) rfl (by simp only [maxLen]; omega) (by omega)
 have aS := own_snoc (enc := (Go.Tw.encI .u8)) (ys := [IntKind.u8.wrap (f.proto)] ++ [IntKind.u8.wrap ((f.src : Int).fdiv (2 ^ 24))] ++ [IntKind.u8.wrap ((f.src : Int).fdiv (2 ^ 16))] ++ [IntKind.u8.wrap ((f.src : Int).fdiv (2 ^ 8))] ++ [IntKind.u8.wrap (f.src)] ++ [IntKind.u8.wrap ((f.dst : Int).fdiv (2 ^ 24))]) (IntKind.u8.wrap ((f.dst : Int).fdiv (2 ^ 16))) b9
 obtain ⟨ai, aj, rfl, db⟩ := own_form aS
 refine WL.sem (Builtin.append_ #[93, 93] 93 #[.slice ag 6 ah, .slice (some ⟨b3, 0, none⟩) 1 1]) 33 (.slice ai 7 aj) (by kernel_rfl) b7 ?_
 refine WLq 1 [(3, .slice ai 7 aj)] ?_
 refine WLd rfl ?_
 refine QXb ?_
 refine QXn (aO _ _ ?_)
 refine WCg (WLq 3 [(5, .int .i64 2), (25, .int .i64 2), (24, .int .i64 1)] ?_)
 refine WLd rfl ?_
 refine QXn ?_
 refine fun a_ ha_ => aL [(0, .agg #[.int .i64 f.proto, .int .u32 f.src, .int .i64 f.sp, .int .u32 f.dst, .int .i64 f.dp]), (1, .pointer (some ⟨g3, 0, none⟩)), (2, .slice none 0 0), (3, .slice ai 7 aj), (4, .int .i64 4), (5, .int .i64 2), (6, .pointer (some ⟨g3, 0, none⟩)), (7, .int .i64 f.proto), (8, .int .u8 (IntKind.u8.wrap (f.proto))), (9, .slice (some ⟨ab, 0, none⟩) 1 1), (10, .int .i64 4), (11, .bool false)] _ ?_ a_ (ha_.weaken (sub_of ⟨rfl, rfl, rfl, rfl, rfl, rfl, rfl, rfl, rfl, rfl, rfl, rfl, trivial⟩))
 refine Rounds.round (fun ed aT => ?_)
 refine WCs (fun ee aU => ?_)
 refine WCs (fun ef aV => ?_)
 refine WCg (WLq 2 [(23, .bool true), (22, .int .i64 2)] (WLd rfl (QXn (aV _ _ ?_))))
 refine WCt rfl ?_
 refine WC.skip ?_
 refine QXn (aU _ _ ?_)
 refine WCs (fun eg aW => ?_)
 refine WC.block ?_
 refine WCg (WLq 2 [(27, .pointer (some ⟨g3, 3, none⟩)), (26, .slice ai 7 aj)] ?_)
 refine WLo 23 (.pointer (some ⟨g3, 3, none⟩)) (.int .u32 f.dst) 28 (run_ld (aR.get 0 rfl) rfl) ?_
 refine WLq 1 [(29, .int .i64 2)] ?_
 refine WLc rfl rfl rfl rfl rfl (by kernel_rfl) (Byte2_ct f.dst da hwf.dst.1 hwf.dst.2) ?_
 rintro _ eh ⟨rfl, aX⟩
 refine ⟨_, rfl, ?_⟩
 have ca := aR.call aX
 have cb := own_fr aS aX (by simp)
 refine WLq 1 [(31, .int .u8 (IntKind.u8.wrap (f.dst / 256 % 256)))] ?_
 refine WLt (show (.int .u8 (IntKind.u8.wrap (f.dst / 256 % 256)) : Value) = .int .u8 (IntKind.u8.wrap ((f.dst : Int).fdiv (2 ^ 8))) from congrArg (Value.int .u8) (byte_2 f.dst)) ?_
 refine WL.newM ca (fun b => .slice (some ⟨b, 0, none⟩) 1 1) (.cells #[.int .u8 (IntKind.u8.wrap ((f.dst : Int).fdiv (2 ^ 8)))] 5) 32 (fun _ => by kernel_rfl) (fun cc ei du cd aY => ?_)
 have ce := own_fr cb cd (by simp)
 obtain ⟨ej, dc, cf, cg, dv, aZ, cD, cE⟩ := app_run Try.prog aY 0 (v := .slice ai 7 aj) rfl 93 93 5 1 1 7 1 1 (some ⟨cc, 0, none⟩) rfl ce [.int .u8 (IntKind.u8.wrap ((f.dst : Int).fdiv (2 ^ 8)))] rfl (srcOk.blk 1 (aY.get 7 rfl)) rfl (by simp only [maxLen]; omega) (by omega)
 have a0 := own_snoc (enc := (Go.Tw.encI .u8)) (ys := [IntKind.u8.wrap (f.proto)] ++ [IntKind.u8.wrap ((f.src : Int).fdiv (2 ^ 24))] ++ [IntKind.u8.wrap ((f.src : Int).fdiv (2 ^ 16))] ++ [IntKind.u8.wrap ((f.src : Int).fdiv (2 ^ 8))] ++ [IntKind.u8.wrap (f.src)] ++ [IntKind.u8.wrap ((f.dst : Int).fdiv (2 ^ 24))] ++ [IntKind.u8.wrap ((f.dst : Int).fdiv (2 ^ 16))]) (IntKind.u8.wrap ((f.dst : Int).fdiv (2 ^ 8))) cg
 obtain ⟨ak, al, rfl, dd⟩ := own_form a0
 refine WL.sem (Builtin.append_ #[93, 93] 93 #[.slice ai 7 aj, .slice (some ⟨cc, 0, none⟩) 1 1]) 33 (.slice ak 8 al) (by kernel_rfl) cf ?_
 refine WLq 1 [(3, .slice ak 8 al)] ?_
 refine WLd rfl ?_
 refine QXb ?_
 refine QXn (aW _ _ ?_)
 refine WCg (WLq 3 [(5, .int .i64 3), (25, .int .i64 3), (24, .int .i64 2)] ?_)
 refine WLd rfl ?_
 refine QXn ?_
 refine fun a_ ha_ => aT [(0, .agg #[.int .i64 f.proto, .int .u32 f.src, .int .i64 f.sp, .int .u32 f.dst, .int .i64 f.dp]), (1, .pointer (some ⟨g3, 0, none⟩)), (2, .slice none 0 0), (3, .slice ak 8 al), (4, .int .i64 4), (5, .int .i64 3), (6, .pointer (some ⟨g3, 0, none⟩)), (7, .int .i64 f.proto), (8, .int .u8 (IntKind.u8.wrap (f.proto))), (9, .slice (some ⟨ab, 0, none⟩) 1 1), (10, .int .i64 4), (11, .bool false)] _ ?_ a_ (ha_.weaken (sub_of ⟨rfl, rfl, rfl, rfl, rfl, rfl, rfl, rfl, rfl, rfl, rfl, rfl, trivial⟩))
 refine Rounds.round (fun ek a1 => ?_)
 refine WCs (fun em a2 => ?_)
 refine WCs (fun en a3 => ?_)
 refine WCg (WLq 2 [(23, .bool true), (22, .int .i64 3)] (WLd rfl (QXn (a3 _ _ ?_))))
 refine WCt rfl ?_
 refine WC.skip ?_
 refine QXn (a2 _ _ ?_)
 refine WCs (fun eo a4 => ?_)
 refine WC.block ?_
 refine WCg (WLq 2 [(27, .pointer (some ⟨g3, 3, none⟩)), (26, .slice ak 8 al)] ?_)
 refine WLo 23 (.pointer (some ⟨g3, 3, none⟩)) (.int .u32 f.dst) 28 (run_ld (aZ.get 0 rfl) rfl) ?_
 refine WLq 1 [(29, .int .i64 3)] ?_
 refine WLc rfl rfl rfl rfl rfl (by kernel_rfl) (Byte3_ct f.dst dc hwf.dst.1 hwf.dst.2) ?_
 rintro _ ep ⟨rfl, a5⟩
 refine ⟨_, rfl, ?_⟩
 have ch := aZ.call a5
 have ci := own_fr a0 a5 (by simp)
 refine WLq 1 [(31, .int .u8 (IntKind.u8.wrap (f.dst / 1 % 256)))] ?_
 refine WLt (show (.int .u8 (IntKind.u8.wrap (f.dst / 1 % 256)) : Value) = .int .u8 (IntKind.u8.wrap (f.dst)) from congrArg (Value.int .u8) (byte_3 f.dst)) ?_
 refine WL.newM ch (fun b => .slice (some ⟨b, 0, none⟩) 1 1) (.cells #[.int .u8 (IntKind.u8.wrap (f.dst))] 5) 32 (fun _ => by kernel_rfl) (fun cj er dw ck a6 => ?_)
 have cl := own_fr ci ck (by simp)
 obtain ⟨es, et, cm, cn, dx, aa, cF, cG⟩ := app_run Try.prog a6 0 (v := .slice ak 8 al) rfl 93 93 5 1 1 8 1 1 (some ⟨cj, 0, none⟩) rfl cl [.int .u8 (IntKind.u8.wrap (f.dst))] rfl (srcOk.blk 1 (a6.get 8 rfl)) rfl (by simp only [maxLen]; omega) (by omega)
 have a7 := own_snoc (enc := (Go.Tw.encI .u8)) (ys := [IntKind.u8.wrap (f.proto)] ++ [IntKind.u8.wrap ((f.src : Int).fdiv (2 ^ 24))] ++ [IntKind.u8.wrap ((f.src : Int).fdiv (2 ^ 16))] ++ [IntKind.u8.wrap ((f.src : Int).fdiv (2 ^ 8))] ++ [IntKind.u8.wrap (f.src)] ++ [IntKind.u8.wrap ((f.dst : Int).fdiv (2 ^ 24))] ++ [IntKind.u8.wrap ((f.dst : Int).fdiv (2 ^ 16))] ++ [IntKind.u8.wrap ((f.dst : Int).fdiv (2 ^ 8))]) (IntKind.u8.wrap (f.dst)) cn
 obtain ⟨am, an, rfl, de⟩ := own_form a7
 refine WL.sem (Builtin.append_ #[93, 93] 93 #[.slice ak 8 al, .slice (some ⟨cj, 0, none⟩) 1 1]) 33 (.slice am 9 an) (by kernel_rfl) cm ?_
 refine WLq 1 [(3, .slice am 9 an)] ?_
 refine WLd rfl ?_
 refine QXb ?_
 refine QXn (a4 _ _ ?_)
 refine WCg (WLq 3 [(5, .int .i64 4), (25, .int .i64 4), (24, .int .i64 3)] ?_)
 refine WLd rfl ?_
 refine QXn ?_
 refine fun a_ ha_ => a1 [(0, .agg #[.int .i64 f.proto, .int .u32 f.src, .int .i64 f.sp, .int .u32 f.dst, .int .i64 f.dp]), (1, .pointer (some ⟨g3, 0, none⟩)), (2, .slice none 0 0), (3, .slice am 9 an), (4, .int .i64 4), (5, .int .i64 4), (6, .pointer (some ⟨g3, 0, none⟩)), (7, .int .i64 f.proto), (8, .int .u8 (IntKind.u8.wrap (f.proto))), (9, .slice (some ⟨ab, 0, none⟩) 1 1), (10, .int .i64 4), (11, .bool false)] _ ?_ a_ (ha_.weaken (sub_of ⟨rfl, rfl, rfl, rfl, rfl, rfl, rfl, rfl, rfl, rfl, rfl, rfl, trivial⟩))
 refine Rounds.round (fun eu co => ?_)
 refine WCs (fun ev cp => ?_)
 refine WCs (fun ew a8 => ?_)
 refine WCg (WLq 2 [(23, .bool false), (22, .int .i64 4)] (WLd rfl (QXn (a8 _ _ ?_))))
 refine WCf rfl ?_
 refine WC.exit ?_
 refine QXe ?_
 refine QXe ?_
 refine QX.block_hit ?_
 refine QXn (aB _ _ ?_)
 refine WCs (fun ex a9 => ?_)
 refine WCg (WLq 2 [(35, .pointer (some ⟨g3, 2, none⟩)), (34, .slice am 9 an)] ?_)
 refine WLo 3 (.pointer (some ⟨g3, 2, none⟩)) (.int .i64 f.sp) 36 (run_ld (aa.get 0 rfl) rfl) ?_
 refine WLq 1 [(37, .int .i64 ((f.sp : Int).fdiv (2 ^ 8)))] ?_
 refine WLt (show (.int .i64 ((f.sp : Int).fdiv (2 ^ 8)) : Value) = .int .i64 ((f.sp : Int).fdiv (2 ^ 8)) from rfl) ?_
 refine WLq 1 [(38, .int .u8 (IntKind.u8.wrap ((f.sp : Int).fdiv (2 ^ 8))))] ?_
 refine WLt (show (.int .u8 (IntKind.u8.wrap ((f.sp : Int).fdiv (2 ^ 8))) : Value) = .int .u8 (IntKind.u8.wrap ((f.sp : Int).fdiv (2 ^ 8))) from rfl) ?_
 refine WLq 1 [(39, .pointer (some ⟨g3, 2, none⟩))] ?_
 refine WLo 3 (.pointer (some ⟨g3, 2, none⟩)) (.int .i64 f.sp) 40 (run_ld (aa.get 0 rfl) rfl) ?_
 refine WLq 1 [(41, .int .u8 (IntKind.u8.wrap (f.sp)))] ?_
 refine WLt (show (.int .u8 (IntKind.u8.wrap (f.sp)) : Value) = .int .u8 (IntKind.u8.wrap (f.sp)) from rfl) ?_
 refine WLq 1 [(42, .pointer (some ⟨g3, 4, none⟩))] ?_
 refine WLo 3 (.pointer (some ⟨g3, 4, none⟩)) (.int .i64 f.dp) 43 (run_ld (aa.get 0 rfl) rfl) ?_
 refine WLq 1 [(44, .int .i64 ((f.dp : Int).fdiv (2 ^ 8)))] ?_
 refine WLt (show (.int .i64 ((f.dp : Int).fdiv (2 ^ 8)) : Value) = .int .i64 ((f.dp : Int).fdiv (2 ^ 8)) from rfl) ?_
 refine WLq 1 [(45, .int .u8 (IntKind.u8.wrap ((f.dp : Int).fdiv (2 ^ 8))))] ?_
 refine WLt (show (.int .u8 (IntKind.u8.wrap ((f.dp : Int).fdiv (2 ^ 8))) : Value) = .int .u8 (IntKind.u8.wrap ((f.dp : Int).fdiv (2 ^ 8))) from rfl) ?_
 refine WLq 1 [(46, .pointer (some ⟨g3, 4, none⟩))] ?_
 refine WLo 3 (.pointer (some ⟨g3, 4, none⟩)) (.int .i64 f.dp) 47 (run_ld (aa.get 0 rfl) rfl) ?_
 refine WLq 1 [(48, .int .u8 (IntKind.u8.wrap (f.dp)))] ?_
 refine WLt (show (.int .u8 (IntKind.u8.wrap (f.dp)) : Value) = .int .u8 (IntKind.u8.wrap (f.dp)) from rfl) ?_
 refine WL.newM aa (fun b => .slice (some ⟨b, 0, none⟩) 4 4) (.cells #[.int .u8 (IntKind.u8.wrap ((f.sp : Int).fdiv (2 ^ 8))), .int .u8 (IntKind.u8.wrap (f.sp)), .int .u8 (IntKind.u8.wrap ((f.dp : Int).fdiv (2 ^ 8))), .int .u8 (IntKind.u8.wrap (f.dp))] 5) 49 (fun _ => by kernel_rfl) (fun cq ey dy cr ba => ?_)
 have cs := own_fr a7 cr (by simp)
 obtain ⟨ez, eA, ct, cu, dz, bb, cH, cI⟩ := app_run Try.prog ba 0 (v := .slice am 9 an) rfl 93 93 5 1 1 9 4 4 (some ⟨cq, 0, none⟩) rfl cs [.int .u8 (IntKind.u8.wrap ((f.sp : Int).fdiv (2 ^ 8))), .int .u8 (IntKind.u8.wrap (f.sp)), .int .u8 (IntKind.u8.wrap ((f.dp : Int).fdiv (2 ^ 8))), .int .u8 (IntKind.u8.wrap (f.dp))] rfl (srcOk.blk 4 (ba.get 9 rfl)) rfl (by simp only [maxLen]; omega) (by omega)
 have bc := own_app (enc := (Go.Tw.encI .u8)) (ys := [IntKind.u8.wrap (f.proto)] ++ [IntKind.u8.wrap ((f.src : Int).fdiv (2 ^ 24))] ++ [IntKind.u8.wrap ((f.src : Int).fdiv (2 ^ 16))] ++ [IntKind.u8.wrap ((f.src : Int).fdiv (2 ^ 8))] ++ [IntKind.u8.wrap (f.src)] ++ [IntKind.u8.wrap ((f.dst : Int).fdiv (2 ^ 24))] ++ [IntKind.u8.wrap ((f.dst : Int).fdiv (2 ^ 16))] ++ [IntKind.u8.wrap ((f.dst : Int).fdiv (2 ^ 8))] ++ [IntKind.u8.wrap (f.dst)]) (zs := [IntKind.u8.wrap ((f.sp : Int).fdiv (2 ^ 8)), IntKind.u8.wrap (f.sp), IntKind.u8.wrap ((f.dp : Int).fdiv (2 ^ 8)), IntKind.u8.wrap (f.dp)]) cu
 obtain ⟨bd, be, rfl, df⟩ := own_form bc
 refine WL.sem (Builtin.append_ #[93, 93] 93 #[.slice am 9 an, .slice (some ⟨cq, 0, none⟩) 4 4]) 50 (.slice bd 13 be) (by kernel_rfl) ct ?_
 refine WLq 1 [(2, .slice bd 13 be)] (WLd rfl (QXn (a9 _ _ ?_)))
 refine WC.ret ?_
 refine (hret _ _ _ rfl ?_).1
 clear hN hret hret' a9 a8 cp co a4 a3 a2 a1 aW aV aU aT aO aN aM aL aG aF aE aD aC aB aA bT bS av au ar aq bG bF bE bD bx bw bv bu bp bo bn bm bl bk hK9 hK2
 have hb_ := bc
 exact ⟨_, rfl, bb.fr, own_base (show World.ownsRow _ 0 _ _ (.slice bd 13 be) (bytesR f).length ((bytesR f).flatMap (Go.Tw.encI .u8)) from by simpa [bytesR, b4, b4F] using hb_) (bb.geF 0 rfl)⟩

set_option maxHeartbeats 2000000 in
theorem RHash_ct (s : Int) (f : FlowV) (w : World) (hwf : wfF f) : Calls Try.prog 42 #[.int .u64 s, .agg #[.int .i64 f.proto, .int .u32 f.src, .int .i64 f.sp, .int .u32 f.dst, .int .i64 f.dp]] w fun e w' => e = .returned (.int .u64 (hashU s f)) ∧ Fr w w' [] := by
 refine enterD (n := 37) Try.func42 rfl rfl (Nat.le_of_ble_eq_true rfl) ?_
 intro Q0 hN hret hret'
 have hbl_ := bytesR_len f
 have hC := Cx.start w
 refine WCs (fun K1 hK2 => ?_)
 refine WCg ?_
 refine WL.newM hC (fun b => .pointer (some ⟨b, 0, none⟩)) (.cells #[.int .i64 f.proto, .int .u32 f.src, .int .i64 f.sp, .int .u32 f.dst, .int .i64 f.dp] 25) 3 (fun _ => by kernel_rfl) (fun g3 w4 hb7 hF5 hC6 => ?_)
 refine WLq 1 [(4, .int .u64 0)] (WLd rfl (QXn (hK2 _ _ ?_)))
 refine WCs (fun K8 hK9 => ?_)
 refine WCg (WLq 3 [(5, .int .u64 (Go.bits .xor .u64 s 14695981039346656037)), (9, .int .u64 (Go.bits .xor .u64 s 14695981039346656037)), (8, .int .u64 s)] (WLd rfl (QXn (hK9 _ _ ?_))))
 refine WCs (fun aD ai => ?_)
 refine WCg ?_
 refine WLo 25 (.pointer (some ⟨g3, 0, none⟩)) (.agg #[.int .i64 f.proto, .int .u32 f.src, .int .i64 f.sp, .int .u32 f.dst, .int .i64 f.dp]) 10 (run_ld (hC6.get 0 rfl) rfl) ?_
 refine WLc rfl rfl rfl rfl rfl (by kernel_rfl) (Bytes_ct f w4 hwf) ?_
 rintro _ aE ⟨v_, rfl, aj, aa⟩
 have ak := hC6.callN aj (own_ge aa) (own_lt aa)
 obtain ⟨ad, ae, rfl, aA⟩ := own_form aa
 have al := own_base (b' := 0) aa (fun _ _ => Nat.zero_le _)
 refine ⟨_, rfl, ?_⟩
 refine WLq 1 [(6, .slice ad 13 ae)] (WLd rfl (QXn (ai _ _ ?_)))
 refine WCs (fun aF am => ?_)
 refine WCs (fun aG an => ?_)
 refine WCg (WLq 1 [(7, .int .i64 0)] (WLd rfl (QXn (an _ _ ?_))))
 refine WC.block ?_
 refine WC.loop (fun m_ E_ w_ => ∃ (i : Nat), m_ = 13 - i ∧ E_ = [(3, .pointer (some ⟨g3, 0, none⟩)), (4, .int .u64 0), (5, .int .u64 (mixL (Go.bits .xor .u64 s 14695981039346656037) ((bytesR f).take i))), (6, .slice ad 13 ae), (7, .int .i64 (i : Int))] ∧ Cx w [] w_ [(g3, .cells #[.int .i64 f.proto, .int .u32 f.src, .int .i64 f.sp, .int .u32 f.dst, .int .i64 f.dp] 25)] [blk (.slice ad 13 ae)] ∧ World.ownsRow w_ 0 5 1 (.slice ad 13 ae) 13 ((bytesR f).flatMap (Go.Tw.encI .u8)) ∧ (i ≤ 13)) ⟨_, _, ⟨0, rfl, rfl, ak, al, Nat.zero_le _⟩, sub_of ⟨rfl, rfl, rfl, rfl, rfl, trivial⟩⟩ (fun m29 E_ aH aI ao ap => ?_)
 obtain ⟨i, rfl, rfl, ag, row21_m29, hi⟩ := ap
 refine WCs (fun aJ aq => ?_)
 refine WCs (fun aK ar => ?_)
 refine WCg (WLq 4 [(15, .bool (decide ((i : Int) < 13))), (14, .int .i64 13), (13, .slice ad 13 ae), (12, .int .i64 (i : Int))] (WLd rfl (QXn (ar _ _ ?_))))
 refine WCa 15 (decide ((i : Int) < 13)) rfl (fun af => ?_) (fun af => ?_)
 ·
  have aB : (i : Int) < 13 := by have q_ := of_decide_eq_true af; omega
  refine WCt rfl ?_
  refine WC.skip ?_
  refine QXn (aq _ _ ?_)
  refine WCs (fun aL au => ?_)
  refine WC.block ?_
  refine WCs (fun aM av => ?_)
  refine WCg (WLq 3 [(20, .int .i64 (i : Int)), (19, .slice ad 13 ae), (18, .int .u64 (mixL (Go.bits .xor .u64 s 14695981039346656037) ((bytesR f).take i)))] ?_)
  have aC := own_count (Go.Tw.encI_len _) (by decide) row21_m29
  obtain ⟨ab, ac⟩ := get_some (xs := (bytesR f)) (i := i) (by omega)
  obtain ⟨b43, ah⟩ := own_addr (by decide) (Go.Tw.encI_len _) row21_m29 ac
  refine WLi ad 13 ae 21 .i64 (i : Int) b43 0 i 1 (by kernel_rfl) ah (by omega) (by omega) i (by first | (simp; done) | omega) ?_
  refine WLo 5 (.pointer (some ⟨b43, i, none⟩)) (.int .u8 ab) 22 (run_load1 rfl (by simpa [Nat.add_assoc] using Rd.cell (own_rd row21_m29 (Go.Tw.encI_len _) (by decide)) ah ac 0 _ rfl)) ?_
  have hbl_ := bytesR_len f
  refine WLq 1 [(23, .int .u64 (IntKind.u64.wrap (ab)))] ?_
  refine WLt (show (.int .u64 (IntKind.u64.wrap (ab)) : Value) = .int .u64 ab from by have q_ := bytesR_by f _ (List.mem_of_getElem? ac); rw [wrap_in_u64 _ (by omega) (by omega)]) ?_
  refine WLq 2 [(5, .int .u64 (Go.bits .xor .u64 (mixL (Go.bits .xor .u64 s 14695981039346656037) ((bytesR f).take i)) ab)), (24, .int .u64 (Go.bits .xor .u64 (mixL (Go.bits .xor .u64 s 14695981039346656037) ((bytesR f).take i)) ab))] (WLd rfl (QXn (av _ _ ?_)))
  refine WCg (WLq 2 [(26, .int .u64 (IntKind.u64.wrap ((Go.bits .xor .u64 (mixL (Go.bits .xor .u64 s 14695981039346656037) ((bytesR f).take i)) ab) * 1099511628211))), (25, .int .u64 (Go.bits .xor .u64 (mixL (Go.bits .xor .u64 s 14695981039346656037) ((bytesR f).take i)) ab))] ?_)
  refine WLt (show (.int .u64 (IntKind.u64.wrap ((Go.bits .xor .u64 (mixL (Go.bits .xor .u64 s 14695981039346656037) ((bytesR f).take i)) ab) * 1099511628211)) : Value) = .int .u64 (mixL (Go.bits .xor .u64 s 14695981039346656037) ((bytesR f).take (i + 1))) from congrArg (Value.int .u64) (mixL_take ac).symm) ?_
  refine WLq 1 [(5, .int .u64 (mixL (Go.bits .xor .u64 s 14695981039346656037) ((bytesR f).take (i + 1))))] ?_
  refine WLd rfl ?_
  refine QXb ?_
  refine QXn (au _ _ ?_)
  refine WCg (WLq 2 [(17, .int .i64 (IntKind.i64.wrap ((i : Int) + 1))), (16, .int .i64 (i : Int))] ?_)
  refine WLt (show (.int .i64 (IntKind.i64.wrap ((i : Int) + 1)) : Value) = .int .i64 ((i : Int) + 1) from by rw [wrap_in_i64 ((i : Int) + 1) (by omega) (by omega)]) ?_
  refine WLq 1 [(7, .int .i64 ((i : Int) + 1))] ?_
  refine WLd rfl ?_
  refine QXn ?_
  have aw := ag.pick [0] [0] rfl rfl
  refine fun a_ ha_ => ao _ _ _ ?_ ⟨i + 1, rfl, rfl, aw, row21_m29, by omega⟩ a_ (ha_.weaken (sub_of ⟨rfl, rfl, rfl, rfl, rfl, trivial⟩))
  omega
 ·
  have aB : (13 : Int) ≤ (i : Int) := by have q_ := of_decide_eq_false af; omega
  refine WCf rfl ?_
  refine WC.exit ?_
  refine QXe ?_
  refine QXe ?_
  refine QX.block_hit ?_
  refine QXn (am _ _ ?_)
  refine WCs (fun aN ax => ?_)
  refine WCg (WLq 3 [(29, .int .u64 ((mixL (Go.bits .xor .u64 s 14695981039346656037) ((bytesR f).take i)).fdiv (2 ^ 32))), (28, .int .u64 (mixL (Go.bits .xor .u64 s 14695981039346656037) ((bytesR f).take i))), (27, .int .u64 (mixL (Go.bits .xor .u64 s 14695981039346656037) ((bytesR f).take i)))] ?_)
  refine WLt (show (.int .u64 ((mixL (Go.bits .xor .u64 s 14695981039346656037) ((bytesR f).take i)).fdiv (2 ^ 32)) : Value) = .int .u64 ((mixL (Go.bits .xor .u64 s 14695981039346656037) ((bytesR f).take i)).fdiv (2 ^ 32)) from rfl) ?_
  refine WLq 1 [(30, .int .u64 (Go.bits .xor .u64 (mixL (Go.bits .xor .u64 s 14695981039346656037) ((bytesR f).take i)) ((mixL (Go.bits .xor .u64 s 14695981039346656037) ((bytesR f).take i)).fdiv (2 ^ 32))))] ?_
  refine WLt (show (.int .u64 (Go.bits .xor .u64 (mixL (Go.bits .xor .u64 s 14695981039346656037) ((bytesR f).take i)) ((mixL (Go.bits .xor .u64 s 14695981039346656037) ((bytesR f).take i)).fdiv (2 ^ 32))) : Value) = .int .u64 (hash1 s f) from by rw [show i = 13 from by omega, List.take_of_length_le (by rw [bytesR_len]; omega), hash0_eq]; rfl) ?_
  refine WLq 1 [(5, .int .u64 (hash1 s f))] (WLd rfl (QXn (ax _ _ ?_)))
  refine WCs (fun aO ay => ?_)
  refine WCg (WLq 2 [(32, .int .u64 (IntKind.u64.wrap ((hash1 s f) * 11400714819323198485))), (31, .int .u64 (hash1 s f))] ?_)
  refine WLt (show (.int .u64 (IntKind.u64.wrap ((hash1 s f) * 11400714819323198485)) : Value) = .int .u64 (hash2 s f) from rfl) ?_
  refine WLq 1 [(5, .int .u64 (hash2 s f))] (WLd rfl (QXn (ay _ _ ?_)))
  refine WCs (fun aP az => ?_)
  refine WCg (WLq 3 [(35, .int .u64 ((hash2 s f).fdiv (2 ^ 29))), (34, .int .u64 (hash2 s f)), (33, .int .u64 (hash2 s f))] ?_)
  refine WLt (show (.int .u64 ((hash2 s f).fdiv (2 ^ 29)) : Value) = .int .u64 ((hash2 s f).fdiv (2 ^ 29)) from rfl) ?_
  refine WLq 1 [(36, .int .u64 (Go.bits .xor .u64 (hash2 s f) ((hash2 s f).fdiv (2 ^ 29))))] ?_
  refine WLt (show (.int .u64 (Go.bits .xor .u64 (hash2 s f) ((hash2 s f).fdiv (2 ^ 29))) : Value) = .int .u64 (hashU s f) from rfl) ?_
  refine WLq 1 [(4, .int .u64 (hashU s f))] (WLd rfl (QXn (az _ _ ?_)))
  refine WC.ret ?_
  refine (hret _ _ _ rfl ?_).1
  exact ⟨rfl, ag.fr⟩

end Go.Proofs.Ytibkndhgeeoidaa
