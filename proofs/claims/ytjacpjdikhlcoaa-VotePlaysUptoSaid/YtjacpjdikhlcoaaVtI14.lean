/- Contracts of functions of the program, each proved by a walk through its code; conditions stand in the statements. -/
import Derived.Test.YtjacpjdikhlcoaaVtH14
namespace Go.Proofs.Ytjacpjdikhlcoaa
set_option linter.unusedSimpArgs false
set_option linter.unusedVariables false
set_option linter.unusedSectionVars false
open Go Go.RowKit Go.Tw
set_option linter.unusedVariables false
set_option maxRecDepth 20000
abbrev kP : ByteArray := ⟨#[112, 114, 111, 109, 105, 115, 101]⟩
abbrev kV : ByteArray := ⟨#[118, 111, 116, 101]⟩
structure Vo where
  pn : Int
  pd : Int
  an : Int
  ad : Int
  log : List CmdV
  node : Int
def goodBal (n d : Int) : Bool := decide (1 ≤ n ∧ n ≤ 1099511627776) && mgrB d
def lessB (a b c d : Int) : Bool := decide (a < c ∨ a = c ∧ b < d)
theorem less_eq (a b c d : Int) : decide (orI [cmpI a c, cmpI b d] < 0) = lessB a b c d := by
  unfold lessB
  rw [decide_eq_decide]
  unfold orI orI orI cmpI
  (repeat' split) <;> omega
def balR (bs : List Int) : Int × Int := if bs.length < 16 then (0, 0) else (numR bs, numR (resR bs))
def balOk (bs : List Int) : Bool := if bs.length < 16 then false else goodBal (numR bs) (numR (resR bs))
def lookB (N : Ct) (k : ByteArray) (f : List Int → Bool) : Bool := match lookL N k with | none => true | some b => f b
def lookX {α : Type} (N : Ct) (k : ByteArray) (d : α) (f : List Int → α) : α := match lookL N k with | none => d | some b => f b
def proOk (b : List Int) : Bool := balOk b && decide (b.length = 16)
def votOk (b : List Int) : Bool := balOk b && readOk (b.drop 16)
def openOk (N : Ct) : Bool := lookB N kP proOk && lookB N kV votOk
def openV (N : Ct) (node : Int) : Vo := ⟨(lookX N kP (0, 0) balR).1, (lookX N kP (0, 0) balR).2, (lookX N kV (0, 0) balR).1, (lookX N kV (0, 0) balR).2, lookX N kV [] (fun b => readL (b.drop 16)), node⟩
def askedE (V : Vo) (n d : Int) : Int := if goodBal n d = false then 9 else if lessB n d V.pn V.pd then 8 else 0
def acceptE (V : Vo) (n d : Int) (L : List CmdV) : Int := if goodBal n d = false ∨ goodL L = false then 9 else askedE V n d
def claimN (V : Vo) (ns : List Int) : Int := min (max (ns.foldl max V.pn) 0) 1099511627775 + 1
theorem goodBal_i64 {n d : Int} (h : goodBal n d = true) : isI64 n ∧ isI64 d := by
  unfold goodBal mgrB at h
  rw [Bool.and_eq_true, decide_eq_true_eq, decide_eq_true_eq] at h
  exact ⟨⟨by omega, by omega⟩, ⟨by omega, by omega⟩⟩
theorem balR_bytes {n d : Int} (hn : isI64 n) (hd : isI64 d) (r : List Int) : balR (bytesN [n, d] ++ r) = (n, d) ∧ balOk (bytesN [n, d] ++ r) = goodBal n d ∧ (bytesN [n, d] ++ r).drop 16 = r := by
  have e : bytesN [n, d] ++ r = numB n ++ (numB d ++ r) := by simp [bytesN]
  have hl : ¬ (bytesN [n, d] ++ r).length < 16 := by rw [List.length_append, bytesN_len]; simp only [List.length_cons, List.length_nil]; omega
  refine ⟨?_, ?_, ?_⟩
  · unfold balR; rw [if_neg hl, e, numR_num hn, resR_num, numR_num hd]
  · unfold balOk; rw [if_neg hl, e, numR_num hn, resR_num, numR_num hd]
  · rw [List.drop_append_of_le_length (by rw [bytesN_len]; exact Nat.le_refl _), List.drop_of_length_le (by rw [bytesN_len]; exact Nat.le_refl _), List.nil_append]
/-- a voter: block p, its log's blocks, the store that it names -/
def voAt (w : World) (FV : List Nat) (p : Nat) (V : Vo) (sp : Nat) : Prop :=
  ∃ (A : Option Addr) (c : Nat) (L : List Cmd) (R : List Nat), w.heap[p]? = some (.cells #[.int .i64 V.pn, .int .i64 V.pd, .int .i64 V.an, .int .i64 V.ad, .slice A L.length c, .pointer (some ⟨sp, 0, none⟩), .int .i64 V.node] 112 (0, 0)) ∧ Rd w 12 cellsC A L ∧ logIn w R L ∧ vals L = V.log ∧ L.length ≤ 1099511627776 ∧ FV = p :: (blk (.slice A L.length c) ++ R) ∧ p ∉ blk (.slice A L.length c) ++ R ∧ (∀ x ∈ FV, x < w.heap.size) ∧ isI64 V.pn ∧ isI64 V.pd ∧ isI64 V.an ∧ isI64 V.ad ∧ isI64 V.node
theorem voAt_lt {w : World} {FV : List Nat} {p : Nat} {V : Vo} {sp : Nat} (h : voAt w FV p V sp) : ∀ x ∈ FV, x < w.heap.size := by
  obtain ⟨A, c, L, R, _, _, _, _, _, _, _, h8, _⟩ := h; exact h8
theorem voAt_fr {w w' : World} {FV : List Nat} {p : Nat} {V : Vo} {sp : Nat} {G : List Nat} (h : voAt w FV p V sp) (hf : Fr w w' G) (hd : ∀ x ∈ FV, x ∉ G) : voAt w' FV p V sp := by
  obtain ⟨A, c, L, R, h1, h2, h3, h4, h4b, rfl, h6, h7, h8⟩ := h
  refine ⟨A, c, L, R, hf.has h1 (hd p (by simp)), h2.frN hf fun b off e => hd b (by simp [blk_in e]), h3.fr hf fun x hx => hd x (by simp [hx]), h4, h4b, rfl, h6, fun x hx => Nat.lt_of_lt_of_le (h7 x hx) hf.size, h8⟩
/-- a voter and its store, side by side -/
def vsAt (w : World) (FA : List Nat) (p : Nat) (V : Vo) (sp : Nat) (N Y : Ct) (size : Int) : Prop :=
  ∃ FV F, voAt w FV p V sp ∧ stAt w F sp N Y size ∧ (∀ x ∈ FV, x ∉ F) ∧ FA = F ++ FV
theorem vsAt_lt {w : World} {FA : List Nat} {p : Nat} {V : Vo} {sp : Nat} {N Y : Ct} {size : Int} (h : vsAt w FA p V sp N Y size) : ∀ x ∈ FA, x < w.heap.size := by
  obtain ⟨FV, F, h1, h2, _, rfl⟩ := h
  exact fun x hx => (List.mem_append.1 hx).elim (stAt_lt h2 x) (voAt_lt h1 x)
theorem vsAt_fr {w w' : World} {FA : List Nat} {p : Nat} {V : Vo} {sp : Nat} {N Y : Ct} {size : Int} {G : List Nat} (h : vsAt w FA p V sp N Y size) (hf : Fr w w' G) (hd : ∀ x ∈ FA, x ∉ G) : vsAt w' FA p V sp N Y size := by
  obtain ⟨FV, F, h1, h2, h3, rfl⟩ := h
  exact ⟨FV, F, voAt_fr h1 hf (fun x hx => hd x (by simp [hx])), stAt_fr h2 hf (fun x hx => hd x (by simp [hx])), h3, rfl⟩
theorem compare_ct (a b c d : Int) (w : World) : Calls Try.prog 54 #[.agg #[.int .i64 a, .int .i64 b], .agg #[.int .i64 c, .int .i64 d]] w fun e w' => e = .returned (.int .i64 (orI [cmpI a c, cmpI b d])) ∧ Fr w w' [] := by
 refine enterD (n := 17) Try.func54 rfl rfl (Nat.le_of_ble_eq_true rfl) ?_
 intro Q0 hN hret hret'
 have hC := Cx.start w
 refine WCs (fun K1 hK2 => ?_)
 refine WCg ?_
 refine WL.newM hC (fun b => .pointer (some ⟨b, 0, none⟩)) (.cells #[.int .i64 a, .int .i64 b] 50) 2 (fun _ => by kernel_rfl) (fun g3 w4 hb7 hF5 hC6 => ?_)
 refine WL.newM hC6 (fun b => .pointer (some ⟨b, 0, none⟩)) (.cells #[.int .i64 c, .int .i64 d] 50) 3 (fun _ => by kernel_rfl) (fun g8 w9 hb12 hF10 hC11 => ?_)
 refine WLr 1 [(4, .int .i64 0)] (fun _ => by kernel_rfl) (WLd rfl (QXn (hK2 _ _ ?_)))
 refine WCs (fun K13 hK14 => ?_)
 refine WC.drawC hC11 [] (by kernel_rfl) (fun w15 hF16 hC17 hS18 => ?_)
 refine WDp (NPt hN) 0 5 (.pointer (some ⟨g3, 0, none⟩)) (by kernel_rfl) (fun _ => by kernel_rfl) hS18 ?_
 refine WDp (NPt hN) 2 7 (.pointer (some ⟨g8, 0, none⟩)) (by kernel_rfl) (fun _ => by kernel_rfl) hS18 ?_
 refine WDp (NPt hN) 5 10 (.pointer (some ⟨g3, 1, none⟩)) (by kernel_rfl) (fun _ => by kernel_rfl) hS18 ?_
 refine WDp (NPt hN) 7 12 (.pointer (some ⟨g8, 1, none⟩)) (by kernel_rfl) (fun _ => by kernel_rfl) hS18 ?_
 refine WDl (NPt hN) 1 3 (.pointer (some ⟨g3, 0, none⟩)) (.int .i64 a) 6 (by kernel_rfl) (by kernel_rfl) (fun _ hS_ => run_ld (Fr.has hS_ (hC17.get 0 rfl) (by simp)) rfl) hS18 ?_
 refine WDl (NPt hN) 3 3 (.pointer (some ⟨g8, 0, none⟩)) (.int .i64 c) 8 (by kernel_rfl) (by kernel_rfl) (fun _ hS_ => run_ld (Fr.has hS_ (hC17.get 1 rfl) (by simp)) rfl) hS18 ?_
 refine WDl (NPt hN) 6 3 (.pointer (some ⟨g3, 1, none⟩)) (.int .i64 b) 11 (by kernel_rfl) (by kernel_rfl) (fun _ hS_ => run_ld (Fr.has hS_ (hC17.get 0 rfl) (by simp)) rfl) hS18 ?_
 refine WDl (NPt hN) 8 3 (.pointer (some ⟨g8, 1, none⟩)) (.int .i64 d) 13 (by kernel_rfl) (by kernel_rfl) (fun _ hS_ => run_ld (Fr.has hS_ (hC17.get 1 rfl) (by simp)) rfl) hS18 ?_
 refine WD.call 4 (by kernel_rfl) rfl rfl rfl rfl rfl (by kernel_rfl) (compare_int a c w15) ?_
 rintro _ w20 ⟨rfl, hF19⟩
 have hS22 := hS18.trans hF19 (by simp)
 refine ⟨_, rfl, hS22, ?_⟩
 have hC21 := hC17.call hF19
 refine WD.call 9 (by kernel_rfl) rfl rfl rfl rfl rfl (by kernel_rfl) (compare_int b d w20) ?_
 rintro _ w24 ⟨rfl, hF23⟩
 have hS26 := hS22.trans hF23 (by simp)
 refine ⟨_, rfl, hS26, ?_⟩
 have hC25 := hC21.call hF23
 refine WD.new 10 (fun b => .slice (some ⟨b, 0, none⟩) 2 2) (.cells #[.int .i64 (cmpI a c), .int .i64 (cmpI b d)] 3) (by kernel_rfl) rfl rfl rfl rfl rfl (fun _ => by kernel_rfl) (fun g27 w28 hb31 hl32 hF29 ho33 => ?_)
 have hC30 := hC25.callB hF29 hb31 ho33
 have hS34 := hS26.trans hF29 (by simp)
 refine ⟨hS34, ?_⟩
 refine WD.call 11 (by kernel_rfl) rfl rfl rfl rfl rfl (by kernel_rfl) (or_int (some ⟨g27, 0, none⟩) 2 [cmpI a c, cmpI b d] w28 (Rd.blk (hC30.get 2 rfl) (encI_len _) rfl) (by simp)) ?_
 rintro _ w36 ⟨rfl, hF35⟩
 have hS38 := hS34.trans hF35 (by simp)
 refine ⟨_, rfl, hS38, ?_⟩
 have hC37 := hC30.call hF35
 refine WDp (NPt hN) 12 4 (.int .i64 (orI [cmpI a c, cmpI b d])) (by kernel_rfl) (fun _ => by kernel_rfl) hS38 ?_
 refine WD.done (by kernel_rfl) ?_
 refine QXn (hK14 _ _ ?_)
 refine WC.ret ?_
 refine (hret _ _ _ rfl ?_).1
 exact ⟨rfl, hC37.fr⟩

theorem Less_ct (a b c d : Int) (w : World) : Calls Try.prog 25 #[.agg #[.int .i64 a, .int .i64 b], .agg #[.int .i64 c, .int .i64 d]] w fun e w' => e = .returned (.bool (lessB a b c d)) ∧ Fr w w' [] := by
 refine enterD (n := 9) Try.func25 rfl rfl (Nat.le_of_ble_eq_true rfl) ?_
 intro Q0 hN hret hret'
 have hC := Cx.start w
 refine WCs (fun K1 hK2 => ?_)
 refine WCg ?_
 refine WL.newM hC (fun b => .pointer (some ⟨b, 0, none⟩)) (.cells #[.int .i64 a, .int .i64 b] 50) 2 (fun _ => by kernel_rfl) (fun g3 w4 hb7 hF5 hC6 => ?_)
 refine WL.newM hC6 (fun b => .pointer (some ⟨b, 0, none⟩)) (.cells #[.int .i64 c, .int .i64 d] 50) 3 (fun _ => by kernel_rfl) (fun g8 w9 hb12 hF10 hC11 => ?_)
 refine WLr 1 [(4, .bool false)] (fun _ => by kernel_rfl) (WLd rfl (QXn (hK2 _ _ ?_)))
 refine WCs (fun K13 hK14 => ?_)
 refine WCg ?_
 refine WL.load 50 (.pointer (some ⟨g3, 0, none⟩)) (.agg #[.int .i64 a, .int .i64 b]) 5 (by kernel_rfl) (run_ld (hC11.get 0 rfl) rfl) ?_
 refine WL.load 50 (.pointer (some ⟨g8, 0, none⟩)) (.agg #[.int .i64 c, .int .i64 d]) 6 (by kernel_rfl) (run_ld (hC11.get 1 rfl) rfl) ?_
 refine WLc rfl rfl rfl rfl rfl (by kernel_rfl) (compare_ct a b c d w9) ?_
 rintro _ w16 ⟨rfl, hF15⟩
 refine ⟨_, rfl, ?_⟩
 have hC17 := hC11.call hF15
 refine WLr 2 [(4, .bool (decide ((orI [cmpI a c, cmpI b d]) < 0))), (8, .bool (decide ((orI [cmpI a c, cmpI b d]) < 0)))] (fun _ => by kernel_rfl) (WLd rfl (QXn (hK14 _ _ ?_)))
 refine WC.ret ?_
 refine (hret _ _ _ rfl ?_).1
 exact ⟨congrArg (fun b_ => Ending.returned (Value.bool b_)) (less_eq a b c d), hC17.fr⟩

theorem goodBallot_ct (n d : Int) (w : World) (hw : isI64 d) : Calls Try.prog 51 #[.agg #[.int .i64 n, .int .i64 d]] w fun e w' => e = .returned (.bool (goodBal n d)) ∧ Fr w w' [] := by
 refine enterD (n := 16) Try.func51 rfl rfl (Nat.le_of_ble_eq_true rfl) ?_
 intro Q0 hN hret hret'
 have hC := Cx.start w
 refine WCs (fun K1 hK2 => ?_)
 refine WCg ?_
 refine WL.newM hC (fun b => .pointer (some ⟨b, 0, none⟩)) (.cells #[.int .i64 n, .int .i64 d] 50) 1 (fun _ => by kernel_rfl) (fun g3 w4 hb7 hF5 hC6 => ?_)
 refine WLr 1 [(2, .bool false)] (fun _ => by kernel_rfl) (WLd rfl (QXn (hK2 _ _ ?_)))
 refine WCs (fun K8 hK9 => ?_)
 refine WCg (WLr 1 [(3, .pointer (some ⟨g3, 0, none⟩))] (fun _ => by kernel_rfl) ?_)
 refine WL.load 3 (.pointer (some ⟨g3, 0, none⟩)) (.int .i64 n) 4 (by kernel_rfl) (run_ld (hC6.get 0 rfl) rfl) ?_
 refine WLr 2 [(6, .bool (decide (n ≥ 1))), (5, .bool (decide (n ≥ 1)))] (fun _ => by kernel_rfl) ?_
 refine WLa 6 (decide (n ≥ 1)) rfl (fun t10b => ?_) (fun t10b => ?_)
 ·
  have t10 : (1 : Int) ≤ n := by have q_ := of_decide_eq_true t10b; omega
  refine WLr 1 [(7, .pointer (some ⟨g3, 0, none⟩))] (fun _ => by kernel_rfl) ?_
  refine WL.load 3 (.pointer (some ⟨g3, 0, none⟩)) (.int .i64 n) 8 (by kernel_rfl) (run_ld (hC6.get 0 rfl) rfl) ?_
  refine WLr 3 [(11, .bool (decide (n ≤ 1099511627776))), (10, .bool (decide (n ≤ 1099511627776))), (9, .bool (decide (n ≤ 1099511627776)))] (fun _ => by kernel_rfl) ?_
  refine WLa 11 (decide (n ≤ 1099511627776)) rfl (fun t11b => ?_) (fun t11b => ?_)
  ·
   have t11 : n ≤ 1099511627776 := by have q_ := of_decide_eq_true t11b; omega
   refine WLr 1 [(12, .pointer (some ⟨g3, 1, none⟩))] (fun _ => by kernel_rfl) ?_
   refine WL.load 3 (.pointer (some ⟨g3, 1, none⟩)) (.int .i64 d) 13 (by kernel_rfl) (run_ld (hC6.get 0 rfl) rfl) ?_
   refine WLc rfl rfl rfl rfl rfl (by kernel_rfl) (manager_ct d w4 hw) ?_
   rintro _ w13 ⟨rfl, hF12⟩
   refine ⟨_, rfl, ?_⟩
   have hC14 := hC6.call hF12
   refine WLr 2 [(2, .bool (mgrB d)), (15, .bool (mgrB d))] (fun _ => by kernel_rfl) (WLd rfl (QXn (hK9 _ _ ?_)))
   refine WC.ret ?_
   refine (hret _ _ _ rfl ?_).1
   exact ⟨congrArg (fun b_ => Ending.returned (Value.bool b_)) (show ((mgrB d) : Bool) = goodBal n d from by unfold goodBal; rw [decide_eq_true (by omega)]; rfl), hC14.fr⟩
  ·
   have t11 : (1099511627776 : Int) < n := by have q_ := of_decide_eq_false t11b; omega
   refine WLr 5 [(2, .bool false), (15, .bool false), (14, undef), (13, undef), (12, undef)] (fun _ => by kernel_rfl) (WLd rfl (QXn (hK9 _ _ ?_)))
   refine WC.ret ?_
   refine (hret _ _ _ rfl ?_).1
   exact ⟨congrArg (fun b_ => Ending.returned (Value.bool b_)) (show (false : Bool) = goodBal n d from by unfold goodBal; rw [decide_eq_false (by omega)]; rfl), hC6.fr⟩
 ·
  have t10 : n < 1 := by have q_ := of_decide_eq_false t10b; omega
  refine WLr 10 [(2, .bool false), (15, .bool false), (14, undef), (13, undef), (12, undef), (11, .bool false), (10, .bool false), (9, undef), (8, undef), (7, undef)] (fun _ => by kernel_rfl) (WLd rfl (QXn (hK9 _ _ ?_)))
  refine WC.ret ?_
  refine (hret _ _ _ rfl ?_).1
  exact ⟨congrArg (fun b_ => Ending.returned (Value.bool b_)) (show (false : Bool) = goodBal n d from by unfold goodBal; rw [decide_eq_false (by omega)]; rfl), hC6.fr⟩

theorem ballotOf_ct (n d : Int) (w : World) : Calls Try.prog 76 #[.agg #[.int .i64 n, .int .i64 d]] w fun e w' => ∃ v, e = .returned v ∧ Fr w w' [] ∧ w'.ownsRow w.heap.size 5 1 v (bytesN [n, d]).length ((bytesN [n, d]).flatMap (Go.Tw.encI .u8)) := by
 refine enterD (n := 9) Try.func76 rfl rfl (Nat.le_of_ble_eq_true rfl) ?_
 intro Q0 hN hret hret'
 have hC := Cx.start w
 refine WCs (fun K1 hK2 => ?_)
 refine WCg ?_
 refine WL.newM hC (fun b => .pointer (some ⟨b, 0, none⟩)) (.cells #[.int .i64 n, .int .i64 d] 50) 1 (fun _ => by kernel_rfl) (fun g3 w4 hb7 hF5 hC6 => ?_)
 refine WLr 1 [(2, .slice none 0 0)] (fun _ => by kernel_rfl) (WLd rfl (QXn (hK2 _ _ ?_)))
 refine WCs (fun K8 hK9 => ?_)
 refine WCg (WLr 1 [(3, .pointer (some ⟨g3, 0, none⟩))] (fun _ => by kernel_rfl) ?_)
 refine WL.load 3 (.pointer (some ⟨g3, 0, none⟩)) (.int .i64 n) 4 (by kernel_rfl) (run_ld (hC6.get 0 rfl) rfl) ?_
 refine WLr 1 [(5, .pointer (some ⟨g3, 1, none⟩))] (fun _ => by kernel_rfl) ?_
 refine WL.load 3 (.pointer (some ⟨g3, 1, none⟩)) (.int .i64 d) 6 (by kernel_rfl) (run_ld (hC6.get 0 rfl) rfl) ?_
 refine WL.newM hC6 (fun b => .slice (some ⟨b, 0, none⟩) 2 2) (.cells #[.int .i64 n, .int .i64 d] 3) 7 (fun _ => by kernel_rfl) (fun g10 w11 hb14 hF12 hC13 => ?_)
 have hC15 := hC13.addNil
 refine WLc rfl rfl rfl rfl rfl (by kernel_rfl) (nums_ct none 0 0 ([] : List Int) (some ⟨g10, 0, none⟩) 2 [n, d] w11 (own_nil w11 0 5 1) (Rd.blk (hC15.get 1 rfl) (Go.Tw.encI_len _) rfl) (fun b_ off_ e_ => by cases e_; exact hC15.notin 0 1 rfl rfl) (by simp only [List.length_cons, List.length_nil]; omega)) ?_
 rintro _ w18 ⟨v25, rfl, hF17, ho20, hsub21⟩
 refine ⟨_, rfl, ?_⟩
 have hC19 := hC15.callF 0 rfl hF17 hsub21 (own_lt ho20)
 obtain ⟨A22, c23, rfl, hle24⟩ := own_form ho20
 have ho26 : World.ownsRow w18 0 5 1 (.slice A22 16 c23) 16 ((([] : List Int) ++ bytesN [n, d]).flatMap (Go.Tw.encI .u8)) := ho20
 refine WLr 1 [(2, .slice A22 16 c23)] (fun _ => by kernel_rfl) (WLd rfl (QXn (hK9 _ _ ?_)))
 refine WC.ret ?_
 refine (hret _ _ _ rfl ?_).1
 clear hN hret hret' hK9 hK2
 have ho_ := ho26
 rw [List.nil_append] at ho_
 exact ⟨_, rfl, hC19.fr, own_base ho_ (newF_of hC19 0 rfl (fun _ h_ => nomatch h_) (fun _ h_ => nomatch h_))⟩

theorem ballot_ct (A : Option Addr) (c : Nat) (bs : List Int) (w : World) (hr : Rd w 1 (Go.Tw.encI .u8) A bs) (hb : byteL bs) (hlc : bs.length ≤ c) (hcl : c ≤ 9223372036854775807) : Calls Try.prog 72 #[.slice A bs.length c] w fun e w' => e = .returned (.tuple #[.agg #[.int .i64 (balR bs).1, .int .i64 (balR bs).2], .bool (balOk bs)]) ∧ Fr w w' [] := by
 refine enterD (n := 21) Try.func72 rfl rfl (Nat.le_of_ble_eq_true rfl) ?_
 intro Q0 hN hret hret'
 have hC := Cx.start w
 refine WCs (fun K1 hK2 => ?_)
 refine WCg ?_
 refine WL.newM hC (fun b => .pointer (some ⟨b, 0, none⟩)) (.cells #[.int .i64 0, .int .i64 0] 50) 2 (fun _ => by kernel_rfl) (fun g3 w4 hb7 hF5 hC6 => ?_)
 refine WLr 1 [(3, .bool false)] (fun _ => by kernel_rfl) (WLd rfl (QXn (hK2 _ _ ?_)))
 refine WCs (fun K8 hK9 => ?_)
 refine WCs (fun K10 hK11 => ?_)
 refine WCg (WLr 3 [(8, .bool (decide ((bs.length : Int) < 16))), (7, .int .i64 (bs.length : Int)), (6, .slice A bs.length c)] (fun _ => by kernel_rfl) (WLd rfl (QXn (hK11 _ _ ?_))))
 refine WCa 8 (decide ((bs.length : Int) < 16)) rfl (fun t12b => ?_) (fun t12b => ?_)
 ·
  have t12 : (bs.length : Int) < 16 := by have q_ := of_decide_eq_true t12b; omega
  refine WCt rfl ?_
  refine WCs (fun K13 hK14 => ?_)
  refine WCg (WLr 1 [(9, .agg #[.int .i64 0, .int .i64 0])] (fun _ => by kernel_rfl) ?_)
  refine WLs (c' := #[.int .i64 0, .int .i64 0]) hC6 0 50 g3 0 (.agg #[.int .i64 0, .int .i64 0]) (by kernel_rfl) rfl (by kernel_rfl) (fun w15 hF17 hC18 => ?_)
  refine WLr 1 [(3, .bool false)] (fun _ => by kernel_rfl) (WLd rfl (QXn (hK14 _ _ ?_)))
  refine WC.ret ?_
  refine QXr ?_
  refine (hret' _ _ (.tuple #[.agg #[.int .i64 0, .int .i64 0], .bool false]) (fun a ha => ?_) ?_).1
  ·
   exact res_run ha ((ResR.cell rfl (run_ld (hC18.get 0 rfl) rfl) (ResR.tmp rfl ResR.nil))) rfl
  clear hN hret hret' hK14 hK11 hK9 hK2
  have h1_ : balR bs = (0, 0) := by unfold balR; rw [if_pos (by omega)]
  have h2_ : balOk bs = false := by unfold balOk; rw [if_pos (by omega)]
  rw [h1_, h2_]
  exact ⟨rfl, hC18.fr⟩
 ·
  have t12 : (16 : Int) ≤ (bs.length : Int) := by have q_ := of_decide_eq_false t12b; omega
  refine WCf rfl (WC.skip (QXn (hK9 _ _ ?_)))
  refine WCs (fun K19 hK20 => ?_)
  refine WCg (WLr 2 [(11, .agg #[.slice A bs.length c]), (10, .slice A bs.length c)] (fun _ => by kernel_rfl) ?_)
  refine WL.newM hC6 (fun b => .pointer (some ⟨b, 0, none⟩)) (.cells #[.slice A bs.length c] 99) 12 (fun _ => by kernel_rfl) (fun g21 w22 hb25 hF23 hC24 => ?_)
  have hsub0_ : 0 < bs.length → ∀ b_ off_, A = some ⟨b_, off_, none⟩ → b_ ≠ g21 := fun hn_ b_ off_ e_ h_ => by subst h_; exact absurd (rd_lt hr (Go.Tw.encI_len _) (by decide) hn_ e_) (Nat.not_lt.2 ((hC24.new_ge 1 rfl).resolve_left (fun h_ => nomatch h_)))
  refine WLr 1 [(4, .pointer (some ⟨g21, 0, none⟩))] (fun _ => by kernel_rfl) (WLd rfl (QXn (hK20 _ _ ?_)))
  refine WCs (fun K26 hK27 => ?_)
  refine WCg (WLr 1 [(13, .pointer (some ⟨g21, 0, none⟩))] (fun _ => by kernel_rfl) ?_)
  refine WLc rfl rfl rfl rfl rfl (by kernel_rfl) (num_ct g21 A c bs w22 (hC24.get 1 rfl) (Rd.fr ((fun _ h_ => h_) w hr) hC24.fr) hb hlc hcl) ?_
  rintro _ w30 ⟨A28, c29, rfl, hF31, hp32, hr33, hc34, hcc35, hs36⟩
  have hC37 := hC24.callM 1 rfl hF31 hp32
  refine ⟨_, rfl, ?_⟩
  have hrd38 : ∀ w0_, Rd w0_ 1 (Go.Tw.encI .u8) A bs → Rd w0_ 1 (Go.Tw.encI .u8) A28 (resR bs) := fun w0_ h_ => hr33 w0_ ((fun _ h_ => h_) w0_ h_)
  have hby39 := resR_byte hb
  have hcl40 := Nat.le_trans hcc35 hcl
  have hsub41 : 0 < (resR bs).length → ∀ b_ off_, A28 = some ⟨b_, off_, none⟩ → b_ ≠ g21 := fun hn_ b_ off_ h_ => (hs36 b_ off_ h_).elim (fun o2_ h2_ => hsub0_ (resR_pos hn_) b_ o2_ h2_)
  obtain ⟨bs42, hbs43⟩ : ∃ x_, resR bs = x_ := ⟨_, rfl⟩
  rw [hbs43] at hC37 hrd38 hby39 hc34 hsub41
  refine WLr 1 [(15, .pointer (some ⟨g21, 0, none⟩))] (fun _ => by kernel_rfl) ?_
  refine WLc rfl rfl rfl rfl rfl (by kernel_rfl) (num_ct g21 A28 c29 bs42 w30 (hC37.get 1 rfl) (Rd.fr (hrd38 w hr) hC37.fr) hby39 hc34 hcl40) ?_
  rintro _ w46 ⟨A44, c45, rfl, hF47, hp48, hr49, hc50, hcc51, hs52⟩
  have hC53 := hC37.callM 1 rfl hF47 hp48
  refine ⟨_, rfl, ?_⟩
  have hrd54 : ∀ w0_, Rd w0_ 1 (Go.Tw.encI .u8) A bs → Rd w0_ 1 (Go.Tw.encI .u8) A44 (resR bs42) := fun w0_ h_ => hr49 w0_ (hrd38 w0_ h_)
  have hby55 := resR_byte hby39
  have hcl56 := Nat.le_trans hcc51 hcl40
  have hsub57 : 0 < (resR bs42).length → ∀ b_ off_, A44 = some ⟨b_, off_, none⟩ → b_ ≠ g21 := fun hn_ b_ off_ h_ => (hs52 b_ off_ h_).elim (fun o2_ h2_ => hsub41 (resR_pos hn_) b_ o2_ h2_)
  obtain ⟨bs58, hbs59⟩ : ∃ x_, resR bs42 = x_ := ⟨_, rfl⟩
  rw [hbs59] at hC53 hrd54 hby55 hc50 hsub57
  refine WLr 1 [(17, .agg #[.int .i64 (numR bs), .int .i64 (numR bs42)])] (fun _ => by kernel_rfl) ?_
  refine WL.newM hC53 (fun b => .pointer (some ⟨b, 0, none⟩)) (.cells #[.int .i64 0, .int .i64 0] 50) 5 (fun _ => by kernel_rfl) (fun g60 w61 hb64 hF62 hC63 => ?_)
  refine WLs (c' := #[.int .i64 (numR bs), .int .i64 (numR bs42)]) hC63 2 50 g60 0 (.agg #[.int .i64 (numR bs), .int .i64 (numR bs42)]) (by kernel_rfl) rfl (by kernel_rfl) (fun w65 hF67 hC68 => ?_)
  refine WLd rfl (QXn (hK27 _ _ ?_))
  refine WCs (fun K69 hK70 => ?_)
  refine WC.drawC hC68 [g3] (by kernel_rfl) (fun w71 hF72 hC73 hS74 => ?_)
  refine WDl (NPt hN) 0 50 (.pointer (some ⟨g60, 0, none⟩)) (.agg #[.int .i64 (numR bs), .int .i64 (numR bs42)]) 18 (by kernel_rfl) (by kernel_rfl) (fun _ hS_ => run_ld (Fr.has hS_ (hC73.get 2 rfl) (by simpa using hC73.ne 2 0 rfl rfl (by decide))) rfl) hS74 ?_
  refine WD.sem 1 (Instr.loadAt 50 (.pointer (some ⟨g60, 0, none⟩))) 19 (.agg #[.int .i64 (numR bs), .int .i64 (numR bs42)]) (by kernel_rfl) (by kernel_rfl) (run_ld (hC73.get 2 rfl) rfl) hS74 ?_
  refine WD.call 2 (by kernel_rfl) rfl rfl rfl rfl rfl (by kernel_rfl) (goodBallot_ct (numR bs) (numR bs42) w71 (numR_i64 _)) ?_
  rintro _ w76 ⟨rfl, hF75⟩
  have hS78 := hS74.trans hF75 (by simp)
  refine ⟨_, rfl, hS78, ?_⟩
  have hC77 := hC73.call hF75
  obtain ⟨w79, hr80, hF81, hC82⟩ := sto_run (c' := #[.int .i64 (numR bs), .int .i64 (numR bs42)]) Try.prog hC77 0 50 g3 0 (.agg #[.int .i64 (numR bs), .int .i64 (numR bs42)]) rfl (by kernel_rfl)
  have hS83 := hS78.trans hF81 (by first | (simp; done) | (simp [*]; done) | (have q_ := hS78.size; simp; omega))
  refine WD.semU 3 (Instr.storeAt 50 (.pointer (some ⟨g3, 0, none⟩)) (.agg #[.int .i64 (numR bs), .int .i64 (numR bs42)])) (by kernel_rfl) (by kernel_rfl) hr80 hS83 ?_
  refine WDp (NPt hN) 4 3 (.bool (goodBal (numR bs) (numR bs42))) (by kernel_rfl) (fun _ => by kernel_rfl) hS83 ?_
  refine WD.done (by kernel_rfl) ?_
  refine QXn (hK70 _ _ ?_)
  refine WC.ret ?_
  refine (hret' _ _ (.tuple #[.agg #[.int .i64 (numR bs), .int .i64 (numR bs42)], .bool (goodBal (numR bs) (numR bs42))]) (fun a ha => ?_) ?_).1
  ·
   exact res_run ha ((ResR.cell rfl (run_ld (hC82.get 0 rfl) rfl) (ResR.tmp rfl ResR.nil))) rfl
  clear hN hret hret' hK70 hK27 hK20 hK11 hK9 hK2
  have h1_ : balR bs = (numR bs, numR bs42) := by unfold balR; rw [if_neg (by omega), hbs43]
  have h2_ : balOk bs = goodBal (numR bs) (numR bs42) := by unfold balOk; rw [if_neg (by omega), hbs43]
  rw [h1_, h2_]
  exact ⟨rfl, hC82.fr⟩

theorem own_max {w : World} {base e sz n c : Nat} {A : Option Addr} {X : List Value} (h : w.ownsRow base e sz (.slice A n c) n X) : c ≤ 9223372036854775807 := by
  rcases h.2 with ⟨e1, _⟩ | ⟨g, c', cur, e1, _, _, _, hc, _⟩
  · cases e1; exact Nat.zero_le _
  · cases e1; exact hc
theorem ballot_n (A : Option Addr) (n c : Nat) (bs : List Int) (w : World) (hr : Rd w 1 (Go.Tw.encI .u8) A bs) (hn : bs.length = n) (hb : byteL bs) (hlc : n ≤ c) (hcl : c ≤ 9223372036854775807) : Calls Try.prog 72 #[.slice A n c] w fun e w' => e = .returned (.tuple #[.agg #[.int .i64 (balR bs).1, .int .i64 (balR bs).2], .bool (balOk bs)]) ∧ Fr w w' [] := by subst hn; exact ballot_ct A c bs w hr hb hlc hcl
end Go.Proofs.Ytjacpjdikhlcoaa
