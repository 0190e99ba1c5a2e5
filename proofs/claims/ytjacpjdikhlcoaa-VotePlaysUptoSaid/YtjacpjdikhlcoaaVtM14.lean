/- Contracts of functions of the program, each proved by a walk through its code; conditions stand in the statements. -/
import Derived.Test.YtjacpjdikhlcoaaVtL14
namespace Go.Proofs.Ytjacpjdikhlcoaa
set_option linter.unusedSimpArgs false
set_option linter.unusedVariables false
set_option linter.unusedSectionVars false
open Go Go.RowKit Go.Tw
set_option linter.unusedVariables false
set_option maxRecDepth 20000
theorem Open_form (sp : Nat) (node : Int) (w : World) (hw : isI64 node) (hm : mgrB node = false) : Calls Try.prog 40 #[.pointer (some ⟨sp, 0, none⟩), .int .i64 node] w fun e w' => e = .returned (.tuple #[.pointer none, .iface 35 (.int .i64 9)]) ∧ Fr w w' [] := by
 refine enterD (n := 82) Try.func40 rfl rfl (Nat.le_of_ble_eq_true rfl) ?_
 intro Q0 hN hret hret'
 have hC := Cx.start w
 refine WCs (fun K1 hK2 => ?_)
 refine WCg (WLr 2 [(5, .nilIface), (4, .pointer none)] (fun _ => by kernel_rfl) (WLd rfl (QXn (hK2 _ _ ?_))))
 refine WCs (fun K3 hK4 => ?_)
 refine WCs (fun K5 hK6 => ?_)
 refine WCg (WLr 4 [(15, .int .i64 node), (14, .bool false), (13, .bool false), (12, .pointer (some ⟨sp, 0, none⟩))] (fun _ => by kernel_rfl) ?_)
 refine WLc rfl rfl rfl rfl rfl (by kernel_rfl) (manager_ct node w hw) ?_
 rintro _ w8 ⟨rfl, hF7⟩
 refine ⟨_, rfl, ?_⟩
 have hC9 := hC.call hF7
 refine WLr 2 [(18, .bool (!(mgrB node))), (17, .bool (!(mgrB node)))] (fun _ => by kernel_rfl) (WLd rfl (QXn (hK6 _ _ ?_)))
 refine WC.know 18 (.bool (!(mgrB node))) (.bool true) rfl (congrArg Value.bool (by simp [hm])) ?_
 refine WCt rfl ?_
 refine WCs (fun K10 hK11 => ?_)
 refine WCg (WLr 3 [(5, .iface 35 (.int .i64 9)), (4, .pointer none), (19, .iface 35 (.int .i64 9))] (fun _ => by kernel_rfl) (WLd rfl (QXn (hK11 _ _ ?_))))
 refine WC.ret ?_
 refine QXr ?_
 refine (hret _ _ _ rfl ?_).1
 exact ⟨rfl, hC9.fr⟩

theorem i64_0 : isI64 0 := ⟨by decide, by decide⟩
theorem balR_i64 (bs : List Int) : isI64 (balR bs).1 ∧ isI64 (balR bs).2 := by
  unfold balR; split
  · exact ⟨⟨by decide, by decide⟩, ⟨by decide, by decide⟩⟩
  · exact ⟨numR_i64 _, numR_i64 _⟩
theorem Read_n (A : Option Addr) (n c : Nat) (bs : List Int) (w : World) (hr : Rd w 1 (Go.Tw.encI .u8) A bs) (hn : bs.length = n) (hb : byteL bs) (hlc : n ≤ c) (hcl : c ≤ 9223372036854775807) : Calls Try.prog 12 #[.slice A n c] w fun e w' => ∃ (A2 : Option Addr) (c2 : Nat) (L2 : List Cmd) (R2 : List Nat), e = .returned (.tuple #[.slice A2 L2.length c2, errV 35 (if readOk bs then 0 else 3)]) ∧ Fr w w' [] ∧ w'.ownsRow w.heap.size 61 12 (.slice A2 L2.length c2) L2.length (L2.flatMap cellsC) ∧ logIn w' R2 L2 ∧ vals L2 = (if readOk bs then readL bs else []) ∧ (∀ x ∈ R2, w.heap.size ≤ x ∧ x < w'.heap.size) ∧ (∀ x ∈ blk (.slice A2 L2.length c2), x ∉ R2) := by subst hn; exact Read_ct A c bs w hr hb hlc hcl
theorem readL_len (bs : List Int) : (if readOk bs then readL bs else []).length ≤ 257 := by
  have h : ∀ (k : Nat) (n : Int) (b : List Int), (logR k n b).length ≤ k := by
    intro k
    induction k with
    | zero => intro n b; simp [logR]
    | succ k ih => intro n b; unfold logR; split
                   · have := ih (n - 1) (cmdR b).2; simp only [List.length_cons]; omega
                   · simp
  split
  · exact h 257 _ _
  · simp
theorem balOk_len {bs : List Int} (h : balOk bs = true) : 16 ≤ bs.length := by
  unfold balOk at h; split at h
  · cases h
  · omega
set_option maxHeartbeats 1000000 in
theorem Open_ct (F : List Nat) (sp : Nat) (N Y : Ct) (size node : Int) (w : World) (ht : stAt w F sp N Y size) (hw : isI64 node) (hm : mgrB node = true) : Calls Try.prog 40 #[.pointer (some ⟨sp, 0, none⟩), .int .i64 node] w fun e w' => (openOk N = true ∧ ∃ g FV, e = .returned (.tuple #[.pointer (some ⟨g, 0, none⟩), .nilIface]) ∧ Fr w w' [] ∧ voAt w' FV g (openV N node) sp ∧ ∀ x ∈ FV, w.heap.size ≤ x) ∨ (openOk N = false ∧ e = .returned (.tuple #[.pointer none, .iface 35 (.int .i64 3)]) ∧ Fr w w' []) := by
 refine enterD (n := 82) Try.func40 rfl rfl (Nat.le_of_ble_eq_true rfl) ?_
 intro Q0 hN hret hret'
 have hC := Cx.start w
 refine WCs (fun K1 hK2 => ?_)
 refine WCg (WLr 2 [(5, .nilIface), (4, .pointer none)] (fun _ => by kernel_rfl) (WLd rfl (QXn (hK2 _ _ ?_))))
 refine WCs (fun K3 hK4 => ?_)
 refine WCs (fun K5 hK6 => ?_)
 refine WCg (WLr 4 [(15, .int .i64 node), (14, .bool false), (13, .bool false), (12, .pointer (some ⟨sp, 0, none⟩))] (fun _ => by kernel_rfl) ?_)
 refine WLc rfl rfl rfl rfl rfl (by kernel_rfl) (manager_ct node w hw) ?_
 rintro _ w8 ⟨rfl, hF7⟩
 refine ⟨_, rfl, ?_⟩
 have hC9 := hC.call hF7
 have hf10 := stAt_fr ht hF7 (by simp)
 refine WLr 2 [(18, .bool (!(mgrB node))), (17, .bool (!(mgrB node)))] (fun _ => by kernel_rfl) (WLd rfl (QXn (hK6 _ _ ?_)))
 refine WC.know 18 (.bool (!(mgrB node))) (.bool false) rfl (congrArg Value.bool (by simp [hm])) ?_
 refine WCf rfl (WC.skip (QXn (hK4 _ _ ?_)))
 refine WCs (fun K11 hK12 => ?_)
 refine WCg (WLr 3 [(22, .agg #[.int .i64 0, .int .i64 0, .int .i64 0, .int .i64 0, .slice none 0 0, .pointer (some ⟨sp, 0, none⟩), .int .i64 node]), (21, .int .i64 node), (20, .pointer (some ⟨sp, 0, none⟩))] (fun _ => by kernel_rfl) ?_)
 refine WL.newM hC9 (fun b => .pointer (some ⟨b, 0, none⟩)) (.cells #[.int .i64 0, .int .i64 0, .int .i64 0, .int .i64 0, .slice none 0 0, .pointer (some ⟨sp, 0, none⟩), .int .i64 node] 112) 23 (fun _ => by kernel_rfl) (fun g13 w14 hb17 hF15 hC16 => ?_)
 have hf18 := stAt_fr hf10 hF15 (by simp)
 refine WLr 1 [(6, .pointer (some ⟨g13, 0, none⟩))] (fun _ => by kernel_rfl) (WLd rfl (QXn (hK12 _ _ ?_)))
 refine WCs (fun K19 hK20 => ?_)
 refine WCg (WLr 1 [(7, .bool true)] (fun _ => by kernel_rfl) (WLd rfl (QXn (hK20 _ _ ?_))))
 refine WCs (fun K21 hK22 => ?_)
 refine WCs (fun K23 hK24 => ?_)
 refine WCg (WLr 1 [(25, .pointer (some ⟨sp, 0, none⟩))] (fun _ => by kernel_rfl) ?_)
 rcases hlkp_ : lookL N kP with _ | pr_
 ·
  refine WLc rfl rfl rfl rfl rfl (by kernel_rfl) (Get_no F sp N Y size kP w14 hf18 (hlkp_)) ?_
  rintro _ w27 ⟨v_, rfl, hF26, ho25⟩
  have hC28 := hC16.callN hF26 (own_ge ho25) (own_lt ho25)
  obtain ⟨A29, c30, rfl, hle31⟩ := own_form ho25
  have ho33 := own_base (b' := 0) ho25 (fun _ _ => Nat.zero_le _)
  refine ⟨_, rfl, ?_⟩
  have hf34 := stAt_fr hf18 hF26 (by simp)
  refine WLr 5 [(9, .iface 35 (.int .i64 6)), (8, .slice A29 (([] : List Int).length) c30), (28, .iface 35 (.int .i64 6)), (27, .slice A29 (([] : List Int).length) c30), (24, .tuple #[.slice A29 (([] : List Int).length) c30, .iface 35 (.int .i64 6)])] (fun _ => by kernel_rfl) (WLd rfl (QXn (hK24 _ _ ?_)))
  refine WCs (fun K36 hK37 => ?_)
  refine WCg (WLr 2 [(30, .bool false), (29, .iface 35 (.int .i64 6))] (fun _ => by kernel_rfl) (WLd rfl (QXn (hK37 _ _ ?_))))
  refine WCf rfl (WC.skip (QXn (hK22 _ _ ?_)))
  refine WCs (fun K38 hK39 => ?_)
  refine WCs (fun K40 hK41 => ?_)
  refine WCg (WLr 1 [(47, .pointer (some ⟨sp, 0, none⟩))] (fun _ => by kernel_rfl) ?_)
  rcases hlkv_ : lookL N kV with _ | vo_
  ·
   refine WLc rfl rfl rfl rfl rfl (by kernel_rfl) (Get_no F sp N Y size kV w27 hf34 (hlkv_)) ?_
   rintro _ w44 ⟨v_, rfl, hF43, ho42⟩
   have hC45 := hC28.callN hF43 (own_ge ho42) (own_lt ho42)
   obtain ⟨A46, c47, rfl, hle48⟩ := own_form ho42
   have ho50 := own_base (b' := 0) ho42 (fun _ _ => Nat.zero_le _)
   refine ⟨_, rfl, ?_⟩
   refine WLr 5 [(11, .iface 35 (.int .i64 6)), (10, .slice A46 (([] : List Int).length) c47), (50, .iface 35 (.int .i64 6)), (49, .slice A46 (([] : List Int).length) c47), (46, .tuple #[.slice A46 (([] : List Int).length) c47, .iface 35 (.int .i64 6)])] (fun _ => by kernel_rfl) (WLd rfl (QXn (hK41 _ _ ?_)))
   refine WCs (fun K54 hK55 => ?_)
   refine WCg (WLr 5 [(55, .bool false), (54, undef), (53, .bool false), (52, .bool false), (51, .iface 35 (.int .i64 6))] (fun _ => by kernel_rfl) (WLd rfl (QXn (hK55 _ _ ?_))))
   refine WCf rfl (WC.skip (QXn (hK39 _ _ ?_)))
   refine WCs (fun K56 hK57 => ?_)
   refine WCs (fun K58 hK59 => ?_)
   refine WCg (WLr 2 [(79, .bool false), (78, .bool true)] (fun _ => by kernel_rfl) (WLd rfl (QXn (hK59 _ _ ?_))))
   refine WCf rfl (WC.skip (QXn (hK57 _ _ ?_)))
   refine WCs (fun K60 hK61 => ?_)
   refine WCg (WLr 3 [(5, .nilIface), (4, .pointer (some ⟨g13, 0, none⟩)), (81, .pointer (some ⟨g13, 0, none⟩))] (fun _ => by kernel_rfl) (WLd rfl (QXn (hK61 _ _ ?_))))
   refine WC.ret ?_
   refine (hret _ _ _ rfl ?_).1
   clear hN hret hret' hK61 hK59 hK57 hK55 hK41 hK39 hK37 hK24 hK22 hK20 hK12 hK6 hK4 hK2
   have hok_ : openOk N = true := by unfold openOk lookB; rw [hlkp_, hlkv_]; simp_all [proOk, votOk]
   have hV_ : openV N node = ⟨0, 0, 0, 0, [], node⟩ := by unfold openV lookX; rw [hlkp_, hlkv_]
   rw [hV_]
   obtain ⟨FV_, hvo_, hfv_⟩ : ∃ FV, voAt w44 FV g13 ⟨0, 0, 0, 0, [], node⟩ sp ∧ ∀ x ∈ FV, w.heap.size ≤ x := ⟨g13 :: (blk (.slice none 0 0) ++ []), ⟨none, 0, [], [], hC45.get 0 rfl, Rd.nil _ _ _ _, logIn.nil _ _, rfl, Nat.zero_le _, rfl, (fun h_ => nomatch h_), (fun x_ hx_ => by simp [blk, Value.ownBlock] at hx_; subst hx_; exact lt_of_heap (hC45.get 0 rfl)), i64_0, i64_0, i64_0, i64_0, hw⟩, (fun x_ hx_ => by simp [blk, Value.ownBlock] at hx_; subst hx_; exact (hC45.new_ge 0 rfl).resolve_left (fun h_ => nomatch h_))⟩
   exact .inl ⟨hok_, g13, FV_, rfl, hC45.fr, hvo_, hfv_⟩
  ·
   have hobvo_ := rowBytes ht hlkv_
   have hbivo_ := balR_i64 vo_
   refine WLc rfl rfl rfl rfl rfl (by kernel_rfl) (Get_yes F sp N Y size kV vo_ w27 hf34 (hlkv_)) ?_
   rintro _ w64 ⟨v_, rfl, hF63, ho62⟩
   have hC65 := hC28.callN hF63 (own_ge ho62) (own_lt ho62)
   obtain ⟨A66, c67, rfl, hle68⟩ := own_form ho62
   have ho70 := own_base (b' := 0) ho62 (fun _ _ => Nat.zero_le _)
   refine ⟨_, rfl, ?_⟩
   refine WLr 5 [(11, .nilIface), (10, .slice A66 vo_.length c67), (50, .nilIface), (49, .slice A66 vo_.length c67), (46, .tuple #[.slice A66 vo_.length c67, .nilIface])] (fun _ => by kernel_rfl) (WLd rfl (QXn (hK41 _ _ ?_)))
   refine WCs (fun K74 hK75 => ?_)
   refine WCg (WLr 5 [(55, .bool true), (54, .bool true), (53, .bool true), (52, .bool true), (51, .nilIface)] (fun _ => by kernel_rfl) (WLd rfl (QXn (hK75 _ _ ?_))))
   refine WCt rfl ?_
   refine WCs (fun K76 hK77 => ?_)
   refine WCg (WLr 2 [(58, .slice A66 vo_.length c67), (57, .pointer (some ⟨g13, 0, none⟩))] (fun _ => by kernel_rfl) ?_)
   have hle_ := own_le ho70
   have hmx_ := own_max ho70
   refine WLc rfl rfl rfl rfl rfl (by kernel_rfl) (ballot_n A66 vo_.length c67 vo_ w64 (own_rd ho70 (Go.Tw.encI_len _) (by decide)) (own_count (Go.Tw.encI_len _) (by decide) ho70) hobvo_ hle_ hmx_) ?_
   rintro _ w79 ⟨rfl, hF78⟩
   refine ⟨_, rfl, ?_⟩
   have hC80 := hC65.call hF78
   have ho83 := own_fr ho70 hF78 (by simp)
   refine WLr 6 [(64, .pointer (some ⟨g13, 2, none⟩)), (63, .pointer (some ⟨g13, 0, none⟩)), (62, .pointer (some ⟨g13, 0, none⟩)), (61, .bool (balOk vo_)), (60, .agg #[.int .i64 ((balR vo_).1), .int .i64 ((balR vo_).2)]), (56, .tuple #[.agg #[.int .i64 ((balR vo_).1), .int .i64 ((balR vo_).2)], .bool (balOk vo_)])] (fun _ => by kernel_rfl) ?_
   refine WLs (c' := #[.int .i64 0, .int .i64 0, .int .i64 ((balR vo_).1), .int .i64 ((balR vo_).2), .slice none 0 0, .pointer (some ⟨sp, 0, none⟩), .int .i64 node]) hC80 0 50 g13 2 (.agg #[.int .i64 ((balR vo_).1), .int .i64 ((balR vo_).2)]) (by kernel_rfl) rfl (by kernel_rfl) (fun w84 hF86 hC87 => ?_)
   have ho90 := own_fr ho83 hF86 (hC80.apartM 1 0 rfl rfl)
   refine WLr 1 [(7, .bool (balOk vo_))] (fun _ => by kernel_rfl) (WLd rfl (QXn (hK77 _ _ ?_)))
   refine WCs (fun K91 hK92 => ?_)
   refine WCg (WLr 1 [(65, .bool (balOk vo_))] (fun _ => by kernel_rfl) (WLd rfl (QXn (hK92 _ _ ?_))))
   refine WCa 65 (balOk vo_) rfl (fun t93b => ?_) (fun t93b => ?_)
   ·
    have h16_ : 16 ≤ vo_.length := balOk_len t93b
    refine WCt rfl ?_
    refine WCs (fun K94 hK95 => ?_)
    refine WCg (WLr 2 [(68, .slice A66 vo_.length c67), (67, .pointer (some ⟨g13, 0, none⟩))] (fun _ => by kernel_rfl) ?_)
    obtain ⟨A96, hA97⟩ : ∃ A_, slcAt A66 16 c67 1 = A_ := ⟨_, rfl⟩
    have hle_ := own_le ho90
    have hb98 : vo_.length ≤ c67 := by omega
    refine WL.slc 22 5 1 A66 A96 vo_.length c67 16 vo_.length (vo_.length - 16) (c67 - 16) (some (.int .i64 16)) none 69 (by kernel_rfl) (by kernel_rfl) (bnd.yes (by omega)) bnd.no (by omega) hb98 hA97 (by first | rfl | omega) (by first | rfl | omega) ?_
    have hle_ := own_le ho90
    have hmx_ := own_max ho90
    have hcn_ := own_count (Go.Tw.encI_len _) (by decide) ho90
    have hrs_ := Rd.slc (own_rd ho90 (Go.Tw.encI_len _) (by decide)) 16 vo_.length c67 hb98 hA97
    rw [List.take_of_length_le (by omega)] at hrs_
    refine WLc rfl rfl rfl rfl rfl (by kernel_rfl) (Read_n A96 (vo_.length - 16) (c67 - 16) (vo_.drop 16) w84 hrs_ (by rw [List.length_drop]) (fun x_ hx_ => hobvo_ x_ (List.mem_of_mem_drop hx_)) (by omega) (by omega)) ?_
    rintro _ w104 ⟨A99, c100, L101, R102, rfl, hF103, ho106, hli107, hvv108, hRg109, hdd110⟩
    have hC105 := callNN hC87 hF103 (own_ge ho106) (own_lt ho106) (fun x_ h_ => (hRg109 x_ h_).1) (fun x_ h_ => (hRg109 x_ h_).2) hdd110
    have ho111 := own_base (b' := 0) ho106 (fun _ _ => Nat.zero_le _)
    refine ⟨_, rfl, ?_⟩
    refine WLr 6 [(75, .pointer (some ⟨g13, 4, none⟩)), (74, .pointer (some ⟨g13, 0, none⟩)), (73, .pointer (some ⟨g13, 0, none⟩)), (72, errV 35 (if readOk (vo_.drop 16) then 0 else 3)), (71, .slice A99 L101.length c100), (66, .tuple #[.slice A99 L101.length c100, errV 35 (if readOk (vo_.drop 16) then 0 else 3)])] (fun _ => by kernel_rfl) ?_
    refine WLs (c' := #[.int .i64 0, .int .i64 0, .int .i64 ((balR vo_).1), .int .i64 ((balR vo_).2), .slice A99 L101.length c100, .pointer (some ⟨sp, 0, none⟩), .int .i64 node]) hC105 0 25 g13 4 (.slice A99 L101.length c100) (by kernel_rfl) rfl (by kernel_rfl) (fun w116 hF118 hC119 => ?_)
    have ho123 := own_fr ho111 hF118 (hC105.apartM 2 0 rfl rfl)
    have hl124 := logIn.fr hli107 hF118 (hC105.apartM 3 0 rfl rfl)
    refine WLr 1 [(11, errV 35 (if readOk (vo_.drop 16) then 0 else 3))] (fun _ => by kernel_rfl) (WLd rfl (QXn (hK95 _ _ ?_)))
    refine WCg (WLr 1 [(76, errV 35 (if readOk (vo_.drop 16) then 0 else 3))] (fun _ => by kernel_rfl) ?_)
    have hr125 : ∀ w_, Sem.run Try.prog (do eqGuard .eql 27 (Operand.tmp 76) (Operand.const (.nilIface)) (errV 35 (if readOk (vo_.drop 16) then 0 else 3)) (.nilIface); binOp .eql 27 (errV 35 (if readOk (vo_.drop 16) then 0 else 3)) (.nilIface)) w_ = .ok (.bool (readOk (vo_.drop 16))) w_ := fun w_ => (err_eql _ (if readOk (vo_.drop 16) then 0 else 3) (readOk (vo_.drop 16)) (by cases readOk (vo_.drop 16) <;> rfl) _)
    refine WL.sem (do eqGuard .eql 27 (Operand.tmp 76) (Operand.const (.nilIface)) (errV 35 (if readOk (vo_.drop 16) then 0 else 3)) (.nilIface); binOp .eql 27 (errV 35 (if readOk (vo_.drop 16) then 0 else 3)) (.nilIface)) 77 (.bool (readOk (vo_.drop 16))) (by kernel_rfl) (hr125 _) ?_
    refine WLr 1 [(7, .bool (readOk (vo_.drop 16)))] (fun _ => by kernel_rfl) (WLd rfl (QXn (hK39 _ _ ?_)))
    refine WCs (fun K126 hK127 => ?_)
    refine WCs (fun K128 hK129 => ?_)
    refine WCg (WLr 2 [(79, .bool (!(readOk (vo_.drop 16)))), (78, .bool (readOk (vo_.drop 16)))] (fun _ => by kernel_rfl) (WLd rfl (QXn (hK129 _ _ ?_))))
    refine WCa 79 (!(readOk (vo_.drop 16))) rfl (fun t130b => ?_) (fun t130b => ?_)
    ·
     have t130 : (readOk (vo_.drop 16)) = false := by first | (simpa only [Bool.not_eq_true', Bool.not_eq_false'] using t130b) | simpa using t130b
     refine WCt rfl ?_
     refine WCs (fun K131 hK132 => ?_)
     refine WCg (WLr 3 [(5, .iface 35 (.int .i64 3)), (4, .pointer none), (80, .iface 35 (.int .i64 3))] (fun _ => by kernel_rfl) (WLd rfl (QXn (hK132 _ _ ?_))))
     refine WC.ret ?_
     refine QXr ?_
     refine (hret _ _ _ rfl ?_).1
     clear hN hret hret' hK132 hK129 hK127 hK95 hK92 hK77 hK75 hK41 hK39 hK37 hK24 hK22 hK20 hK12 hK6 hK4 hK2
     refine .inr ⟨?_, rfl, hC119.fr⟩
     unfold openOk lookB
     rw [hlkp_, hlkv_]
     have hz_ : True := trivial
     simp_all [proOk, votOk]
    ·
     have t130 : (readOk (vo_.drop 16)) = true := by first | (simpa only [Bool.not_eq_true', Bool.not_eq_false'] using t130b) | simpa using t130b
     refine WCf rfl (WC.skip (QXn (hK127 _ _ ?_)))
     refine WCs (fun K133 hK134 => ?_)
     refine WCg (WLr 3 [(5, .nilIface), (4, .pointer (some ⟨g13, 0, none⟩)), (81, .pointer (some ⟨g13, 0, none⟩))] (fun _ => by kernel_rfl) (WLd rfl (QXn (hK134 _ _ ?_))))
     refine WC.ret ?_
     refine (hret _ _ _ rfl ?_).1
     clear hN hret hret' hK134 hK129 hK127 hK95 hK92 hK77 hK75 hK41 hK39 hK37 hK24 hK22 hK20 hK12 hK6 hK4 hK2
     have hok_ : openOk N = true := by unfold openOk lookB; rw [hlkp_, hlkv_]; simp_all [proOk, votOk]
     have hV_ : openV N node = ⟨0, 0, (balR vo_).1, (balR vo_).2, readL (vo_.drop 16), node⟩ := by unfold openV lookX; rw [hlkp_, hlkv_]
     have hvr_ : vals L101 = readL (vo_.drop 16) := by rw [hvv108]; simp_all
     rw [hV_]
     obtain ⟨FV_, hvo_, hfv_⟩ : ∃ FV, voAt w116 FV g13 ⟨0, 0, (balR vo_).1, (balR vo_).2, readL (vo_.drop 16), node⟩ sp ∧ ∀ x ∈ FV, w.heap.size ≤ x := ⟨g13 :: (blk (.slice A99 L101.length c100) ++ R102), ⟨A99, c100, L101, R102, hC119.get 0 rfl, own_rd ho123 cellsC_len (by decide), hl124, hvr_, by have z_ := congrArg List.length hvv108; rw [vals_len] at z_; have z2_ := readL_len (vo_.drop 16); omega, rfl, (fun h_ => (List.mem_append.1 h_).elim (hC119.notin 2 0 rfl rfl) (hC119.notin 3 0 rfl rfl)), (fun x_ hx_ => (List.mem_cons.1 hx_).elim (fun e_ => by subst e_; exact lt_of_heap (hC119.get 0 rfl)) (fun h_ => (List.mem_append.1 h_).elim (hC119.ltF 2 rfl x_) (hC119.ltF 3 rfl x_))), i64_0, i64_0, hbivo_.1, hbivo_.2, hw⟩, (fun x_ hx_ => (List.mem_cons.1 hx_).elim (fun e_ => by subst e_; exact (hC119.new_ge 0 rfl).resolve_left (fun h_ => nomatch h_)) (fun h_ => (List.mem_append.1 h_).elim (newF_of hC119 2 rfl (fun _ h_ => nomatch h_) (fun _ h_ => nomatch h_) x_) (newF_of hC119 3 rfl (fun _ h_ => nomatch h_) (fun _ h_ => nomatch h_) x_)))⟩
     exact .inl ⟨hok_, g13, FV_, rfl, hC119.fr, hvo_, hfv_⟩
   ·
    refine WCf rfl (WC.skip (QXn (hK39 _ _ ?_)))
    refine WCs (fun K135 hK136 => ?_)
    refine WCs (fun K137 hK138 => ?_)
    refine WCg (WLr 2 [(79, .bool (!(balOk vo_))), (78, .bool (balOk vo_))] (fun _ => by kernel_rfl) (WLd rfl (QXn (hK138 _ _ ?_))))
    refine WC.know 79 (.bool (!(balOk vo_))) (.bool true) rfl (congrArg Value.bool (by rw [t93b]; rfl)) ?_
    refine WCt rfl ?_
    refine WCs (fun K139 hK140 => ?_)
    refine WCg (WLr 3 [(5, .iface 35 (.int .i64 3)), (4, .pointer none), (80, .iface 35 (.int .i64 3))] (fun _ => by kernel_rfl) (WLd rfl (QXn (hK140 _ _ ?_))))
    refine WC.ret ?_
    refine QXr ?_
    refine (hret _ _ _ rfl ?_).1
    clear hN hret hret' hK140 hK138 hK136 hK92 hK77 hK75 hK41 hK39 hK37 hK24 hK22 hK20 hK12 hK6 hK4 hK2
    refine .inr ⟨?_, rfl, hC87.fr⟩
    unfold openOk lookB
    rw [hlkp_, hlkv_]
    have hz_ : True := trivial
    simp_all [proOk, votOk]
 ·
  have hobpr_ := rowBytes ht hlkp_
  have hbipr_ := balR_i64 pr_
  refine WLc rfl rfl rfl rfl rfl (by kernel_rfl) (Get_yes F sp N Y size kP pr_ w14 hf18 (hlkp_)) ?_
  rintro _ w143 ⟨v_, rfl, hF142, ho141⟩
  have hC144 := hC16.callN hF142 (own_ge ho141) (own_lt ho141)
  obtain ⟨A145, c146, rfl, hle147⟩ := own_form ho141
  have ho149 := own_base (b' := 0) ho141 (fun _ _ => Nat.zero_le _)
  refine ⟨_, rfl, ?_⟩
  have hf150 := stAt_fr hf18 hF142 (by simp)
  refine WLr 5 [(9, .nilIface), (8, .slice A145 pr_.length c146), (28, .nilIface), (27, .slice A145 pr_.length c146), (24, .tuple #[.slice A145 pr_.length c146, .nilIface])] (fun _ => by kernel_rfl) (WLd rfl (QXn (hK24 _ _ ?_)))
  refine WCs (fun K152 hK153 => ?_)
  refine WCg (WLr 2 [(30, .bool true), (29, .nilIface)] (fun _ => by kernel_rfl) (WLd rfl (QXn (hK153 _ _ ?_))))
  refine WCt rfl ?_
  refine WCs (fun K154 hK155 => ?_)
  refine WCg (WLr 2 [(33, .slice A145 pr_.length c146), (32, .pointer (some ⟨g13, 0, none⟩))] (fun _ => by kernel_rfl) ?_)
  have hle_ := own_le ho149
  have hmx_ := own_max ho149
  refine WLc rfl rfl rfl rfl rfl (by kernel_rfl) (ballot_n A145 pr_.length c146 pr_ w143 (own_rd ho149 (Go.Tw.encI_len _) (by decide)) (own_count (Go.Tw.encI_len _) (by decide) ho149) hobpr_ hle_ hmx_) ?_
  rintro _ w157 ⟨rfl, hF156⟩
  refine ⟨_, rfl, ?_⟩
  have hC158 := hC144.call hF156
  have hf159 := stAt_fr hf150 hF156 (by simp)
  refine WLr 6 [(39, .pointer (some ⟨g13, 0, none⟩)), (38, .pointer (some ⟨g13, 0, none⟩)), (37, .pointer (some ⟨g13, 0, none⟩)), (36, .bool (balOk pr_)), (35, .agg #[.int .i64 ((balR pr_).1), .int .i64 ((balR pr_).2)]), (31, .tuple #[.agg #[.int .i64 ((balR pr_).1), .int .i64 ((balR pr_).2)], .bool (balOk pr_)])] (fun _ => by kernel_rfl) ?_
  refine WLs (c' := #[.int .i64 ((balR pr_).1), .int .i64 ((balR pr_).2), .int .i64 0, .int .i64 0, .slice none 0 0, .pointer (some ⟨sp, 0, none⟩), .int .i64 node]) hC158 0 50 g13 0 (.agg #[.int .i64 ((balR pr_).1), .int .i64 ((balR pr_).2)]) (by kernel_rfl) rfl (by kernel_rfl) (fun w161 hF163 hC164 => ?_)
  have hf165 := stAt_fr hf159 hF163 (fun x_ hx_ h_ => by obtain rfl := List.mem_singleton.1 h_; exact absurd ((hC158.new_ge 0 rfl).resolve_left (fun q_ => nomatch q_)) (Nat.not_le.2 (stAt_lt ht _ hx_)))
  refine WLr 1 [(7, .bool (balOk pr_))] (fun _ => by kernel_rfl) (WLd rfl (QXn (hK155 _ _ ?_)))
  refine WCg (WLr 2 [(41, .bool (balOk pr_)), (40, .bool (balOk pr_))] (fun _ => by kernel_rfl) ?_)
  refine WLa 41 (balOk pr_) rfl (fun t167b => ?_) (fun t167b => ?_)
  ·
   refine WLr 3 [(44, .bool ((pr_.length : Int) == 16)), (43, .int .i64 (pr_.length : Int)), (42, .slice A145 pr_.length c146)] (fun _ => by kernel_rfl) ?_
   refine WLt (show (.bool ((pr_.length : Int) == 16) : Value) = .bool (decide (pr_.length = 16)) from congrArg Value.bool (by rw [Bool.eq_iff_iff, beq_iff_eq, decide_eq_true_eq]; omega)) ?_
   refine WLr 2 [(7, .bool (decide (pr_.length = 16))), (45, .bool (decide (pr_.length = 16)))] (fun _ => by kernel_rfl) (WLd rfl (QXn (hK22 _ _ ?_)))
   refine WCs (fun K168 hK169 => ?_)
   refine WCs (fun K170 hK171 => ?_)
   refine WCg (WLr 1 [(47, .pointer (some ⟨sp, 0, none⟩))] (fun _ => by kernel_rfl) ?_)
   rcases hlkv_ : lookL N kV with _ | vo_
   ·
    refine WLc rfl rfl rfl rfl rfl (by kernel_rfl) (Get_no F sp N Y size kV w161 hf165 (hlkv_)) ?_
    rintro _ w174 ⟨v_, rfl, hF173, ho172⟩
    have hC175 := hC164.callN hF173 (own_ge ho172) (own_lt ho172)
    obtain ⟨A176, c177, rfl, hle178⟩ := own_form ho172
    have ho180 := own_base (b' := 0) ho172 (fun _ _ => Nat.zero_le _)
    refine ⟨_, rfl, ?_⟩
    refine WLr 5 [(11, .iface 35 (.int .i64 6)), (10, .slice A176 (([] : List Int).length) c177), (50, .iface 35 (.int .i64 6)), (49, .slice A176 (([] : List Int).length) c177), (46, .tuple #[.slice A176 (([] : List Int).length) c177, .iface 35 (.int .i64 6)])] (fun _ => by kernel_rfl) (WLd rfl (QXn (hK171 _ _ ?_)))
    refine WCs (fun K184 hK185 => ?_)
    refine WCg (WLr 5 [(55, .bool false), (54, undef), (53, .bool false), (52, .bool false), (51, .iface 35 (.int .i64 6))] (fun _ => by kernel_rfl) (WLd rfl (QXn (hK185 _ _ ?_))))
    refine WCf rfl (WC.skip (QXn (hK169 _ _ ?_)))
    refine WCs (fun K186 hK187 => ?_)
    refine WCs (fun K188 hK189 => ?_)
    refine WCg (WLr 2 [(79, .bool (!(decide (pr_.length = 16)))), (78, .bool (decide (pr_.length = 16)))] (fun _ => by kernel_rfl) (WLd rfl (QXn (hK189 _ _ ?_))))
    refine WCa 79 (!(decide (pr_.length = 16))) rfl (fun t190b => ?_) (fun t190b => ?_)
    ·
     have t190 : (decide (pr_.length = 16)) = false := by first | (simpa only [Bool.not_eq_true', Bool.not_eq_false'] using t190b) | simpa using t190b
     refine WCt rfl ?_
     refine WCs (fun K191 hK192 => ?_)
     refine WCg (WLr 3 [(5, .iface 35 (.int .i64 3)), (4, .pointer none), (80, .iface 35 (.int .i64 3))] (fun _ => by kernel_rfl) (WLd rfl (QXn (hK192 _ _ ?_))))
     refine WC.ret ?_
     refine QXr ?_
     refine (hret _ _ _ rfl ?_).1
     clear hN hret hret' hK192 hK189 hK187 hK185 hK171 hK169 hK155 hK153 hK24 hK22 hK20 hK12 hK6 hK4 hK2
     refine .inr ⟨?_, rfl, hC175.fr⟩
     unfold openOk lookB
     rw [hlkp_, hlkv_]
     have hz_ : True := trivial
     simp_all [proOk, votOk]
    ·
     have t190 : (decide (pr_.length = 16)) = true := by first | (simpa only [Bool.not_eq_true', Bool.not_eq_false'] using t190b) | simpa using t190b
     refine WCf rfl (WC.skip (QXn (hK187 _ _ ?_)))
     refine WCs (fun K193 hK194 => ?_)
     refine WCg (WLr 3 [(5, .nilIface), (4, .pointer (some ⟨g13, 0, none⟩)), (81, .pointer (some ⟨g13, 0, none⟩))] (fun _ => by kernel_rfl) (WLd rfl (QXn (hK194 _ _ ?_))))
     refine WC.ret ?_
     refine (hret _ _ _ rfl ?_).1
     clear hN hret hret' hK194 hK189 hK187 hK185 hK171 hK169 hK155 hK153 hK24 hK22 hK20 hK12 hK6 hK4 hK2
     have hok_ : openOk N = true := by unfold openOk lookB; rw [hlkp_, hlkv_]; simp_all [proOk, votOk]
     have hV_ : openV N node = ⟨(balR pr_).1, (balR pr_).2, 0, 0, [], node⟩ := by unfold openV lookX; rw [hlkp_, hlkv_]
     rw [hV_]
     obtain ⟨FV_, hvo_, hfv_⟩ : ∃ FV, voAt w174 FV g13 ⟨(balR pr_).1, (balR pr_).2, 0, 0, [], node⟩ sp ∧ ∀ x ∈ FV, w.heap.size ≤ x := ⟨g13 :: (blk (.slice none 0 0) ++ []), ⟨none, 0, [], [], hC175.get 0 rfl, Rd.nil _ _ _ _, logIn.nil _ _, rfl, Nat.zero_le _, rfl, (fun h_ => nomatch h_), (fun x_ hx_ => by simp [blk, Value.ownBlock] at hx_; subst hx_; exact lt_of_heap (hC175.get 0 rfl)), hbipr_.1, hbipr_.2, i64_0, i64_0, hw⟩, (fun x_ hx_ => by simp [blk, Value.ownBlock] at hx_; subst hx_; exact (hC175.new_ge 0 rfl).resolve_left (fun h_ => nomatch h_))⟩
     exact .inl ⟨hok_, g13, FV_, rfl, hC175.fr, hvo_, hfv_⟩
   ·
    have hobvo_ := rowBytes ht hlkv_
    have hbivo_ := balR_i64 vo_
    refine WLc rfl rfl rfl rfl rfl (by kernel_rfl) (Get_yes F sp N Y size kV vo_ w161 hf165 (hlkv_)) ?_
    rintro _ w197 ⟨v_, rfl, hF196, ho195⟩
    have hC198 := hC164.callN hF196 (own_ge ho195) (own_lt ho195)
    obtain ⟨A199, c200, rfl, hle201⟩ := own_form ho195
    have ho203 := own_base (b' := 0) ho195 (fun _ _ => Nat.zero_le _)
    refine ⟨_, rfl, ?_⟩
    refine WLr 5 [(11, .nilIface), (10, .slice A199 vo_.length c200), (50, .nilIface), (49, .slice A199 vo_.length c200), (46, .tuple #[.slice A199 vo_.length c200, .nilIface])] (fun _ => by kernel_rfl) (WLd rfl (QXn (hK171 _ _ ?_)))
    refine WCs (fun K207 hK208 => ?_)
    refine WCg (WLr 5 [(55, .bool (decide (pr_.length = 16))), (54, .bool (decide (pr_.length = 16))), (53, .bool true), (52, .bool true), (51, .nilIface)] (fun _ => by kernel_rfl) (WLd rfl (QXn (hK208 _ _ ?_))))
    refine WCa 55 (decide (pr_.length = 16)) rfl (fun t209b => ?_) (fun t209b => ?_)
    ·
     refine WCt rfl ?_
     refine WCs (fun K210 hK211 => ?_)
     refine WCg (WLr 2 [(58, .slice A199 vo_.length c200), (57, .pointer (some ⟨g13, 0, none⟩))] (fun _ => by kernel_rfl) ?_)
     have hle_ := own_le ho203
     have hmx_ := own_max ho203
     refine WLc rfl rfl rfl rfl rfl (by kernel_rfl) (ballot_n A199 vo_.length c200 vo_ w197 (own_rd ho203 (Go.Tw.encI_len _) (by decide)) (own_count (Go.Tw.encI_len _) (by decide) ho203) hobvo_ hle_ hmx_) ?_
     rintro _ w213 ⟨rfl, hF212⟩
     refine ⟨_, rfl, ?_⟩
     have hC214 := hC198.call hF212
     have ho217 := own_fr ho203 hF212 (by simp)
     refine WLr 6 [(64, .pointer (some ⟨g13, 2, none⟩)), (63, .pointer (some ⟨g13, 0, none⟩)), (62, .pointer (some ⟨g13, 0, none⟩)), (61, .bool (balOk vo_)), (60, .agg #[.int .i64 ((balR vo_).1), .int .i64 ((balR vo_).2)]), (56, .tuple #[.agg #[.int .i64 ((balR vo_).1), .int .i64 ((balR vo_).2)], .bool (balOk vo_)])] (fun _ => by kernel_rfl) ?_
     refine WLs (c' := #[.int .i64 ((balR pr_).1), .int .i64 ((balR pr_).2), .int .i64 ((balR vo_).1), .int .i64 ((balR vo_).2), .slice none 0 0, .pointer (some ⟨sp, 0, none⟩), .int .i64 node]) hC214 0 50 g13 2 (.agg #[.int .i64 ((balR vo_).1), .int .i64 ((balR vo_).2)]) (by kernel_rfl) rfl (by kernel_rfl) (fun w218 hF220 hC221 => ?_)
     have ho224 := own_fr ho217 hF220 (hC214.apartM 1 0 rfl rfl)
     refine WLr 1 [(7, .bool (balOk vo_))] (fun _ => by kernel_rfl) (WLd rfl (QXn (hK211 _ _ ?_)))
     refine WCs (fun K225 hK226 => ?_)
     refine WCg (WLr 1 [(65, .bool (balOk vo_))] (fun _ => by kernel_rfl) (WLd rfl (QXn (hK226 _ _ ?_))))
     refine WCa 65 (balOk vo_) rfl (fun t227b => ?_) (fun t227b => ?_)
     ·
      have h16_ : 16 ≤ vo_.length := balOk_len t227b
      refine WCt rfl ?_
      refine WCs (fun K228 hK229 => ?_)
      refine WCg (WLr 2 [(68, .slice A199 vo_.length c200), (67, .pointer (some ⟨g13, 0, none⟩))] (fun _ => by kernel_rfl) ?_)
      obtain ⟨A230, hA231⟩ : ∃ A_, slcAt A199 16 c200 1 = A_ := ⟨_, rfl⟩
      have hle_ := own_le ho224
      have hb232 : vo_.length ≤ c200 := by omega
      refine WL.slc 22 5 1 A199 A230 vo_.length c200 16 vo_.length (vo_.length - 16) (c200 - 16) (some (.int .i64 16)) none 69 (by kernel_rfl) (by kernel_rfl) (bnd.yes (by omega)) bnd.no (by omega) hb232 hA231 (by first | rfl | omega) (by first | rfl | omega) ?_
      have hle_ := own_le ho224
      have hmx_ := own_max ho224
      have hcn_ := own_count (Go.Tw.encI_len _) (by decide) ho224
      have hrs_ := Rd.slc (own_rd ho224 (Go.Tw.encI_len _) (by decide)) 16 vo_.length c200 hb232 hA231
      rw [List.take_of_length_le (by omega)] at hrs_
      refine WLc rfl rfl rfl rfl rfl (by kernel_rfl) (Read_n A230 (vo_.length - 16) (c200 - 16) (vo_.drop 16) w218 hrs_ (by rw [List.length_drop]) (fun x_ hx_ => hobvo_ x_ (List.mem_of_mem_drop hx_)) (by omega) (by omega)) ?_
      rintro _ w238 ⟨A233, c234, L235, R236, rfl, hF237, ho240, hli241, hvv242, hRg243, hdd244⟩
      have hC239 := callNN hC221 hF237 (own_ge ho240) (own_lt ho240) (fun x_ h_ => (hRg243 x_ h_).1) (fun x_ h_ => (hRg243 x_ h_).2) hdd244
      have ho245 := own_base (b' := 0) ho240 (fun _ _ => Nat.zero_le _)
      refine ⟨_, rfl, ?_⟩
      refine WLr 6 [(75, .pointer (some ⟨g13, 4, none⟩)), (74, .pointer (some ⟨g13, 0, none⟩)), (73, .pointer (some ⟨g13, 0, none⟩)), (72, errV 35 (if readOk (vo_.drop 16) then 0 else 3)), (71, .slice A233 L235.length c234), (66, .tuple #[.slice A233 L235.length c234, errV 35 (if readOk (vo_.drop 16) then 0 else 3)])] (fun _ => by kernel_rfl) ?_
      refine WLs (c' := #[.int .i64 ((balR pr_).1), .int .i64 ((balR pr_).2), .int .i64 ((balR vo_).1), .int .i64 ((balR vo_).2), .slice A233 L235.length c234, .pointer (some ⟨sp, 0, none⟩), .int .i64 node]) hC239 0 25 g13 4 (.slice A233 L235.length c234) (by kernel_rfl) rfl (by kernel_rfl) (fun w250 hF252 hC253 => ?_)
      have ho257 := own_fr ho245 hF252 (hC239.apartM 2 0 rfl rfl)
      have hl258 := logIn.fr hli241 hF252 (hC239.apartM 3 0 rfl rfl)
      refine WLr 1 [(11, errV 35 (if readOk (vo_.drop 16) then 0 else 3))] (fun _ => by kernel_rfl) (WLd rfl (QXn (hK229 _ _ ?_)))
      refine WCg (WLr 1 [(76, errV 35 (if readOk (vo_.drop 16) then 0 else 3))] (fun _ => by kernel_rfl) ?_)
      have hr259 : ∀ w_, Sem.run Try.prog (do eqGuard .eql 27 (Operand.tmp 76) (Operand.const (.nilIface)) (errV 35 (if readOk (vo_.drop 16) then 0 else 3)) (.nilIface); binOp .eql 27 (errV 35 (if readOk (vo_.drop 16) then 0 else 3)) (.nilIface)) w_ = .ok (.bool (readOk (vo_.drop 16))) w_ := fun w_ => (err_eql _ (if readOk (vo_.drop 16) then 0 else 3) (readOk (vo_.drop 16)) (by cases readOk (vo_.drop 16) <;> rfl) _)
      refine WL.sem (do eqGuard .eql 27 (Operand.tmp 76) (Operand.const (.nilIface)) (errV 35 (if readOk (vo_.drop 16) then 0 else 3)) (.nilIface); binOp .eql 27 (errV 35 (if readOk (vo_.drop 16) then 0 else 3)) (.nilIface)) 77 (.bool (readOk (vo_.drop 16))) (by kernel_rfl) (hr259 _) ?_
      refine WLr 1 [(7, .bool (readOk (vo_.drop 16)))] (fun _ => by kernel_rfl) (WLd rfl (QXn (hK169 _ _ ?_)))
      refine WCs (fun K260 hK261 => ?_)
      refine WCs (fun K262 hK263 => ?_)
      refine WCg (WLr 2 [(79, .bool (!(readOk (vo_.drop 16)))), (78, .bool (readOk (vo_.drop 16)))] (fun _ => by kernel_rfl) (WLd rfl (QXn (hK263 _ _ ?_))))
      refine WCa 79 (!(readOk (vo_.drop 16))) rfl (fun t264b => ?_) (fun t264b => ?_)
      ·
       have t264 : (readOk (vo_.drop 16)) = false := by first | (simpa only [Bool.not_eq_true', Bool.not_eq_false'] using t264b) | simpa using t264b
       refine WCt rfl ?_
       refine WCs (fun K265 hK266 => ?_)
       refine WCg (WLr 3 [(5, .iface 35 (.int .i64 3)), (4, .pointer none), (80, .iface 35 (.int .i64 3))] (fun _ => by kernel_rfl) (WLd rfl (QXn (hK266 _ _ ?_))))
       refine WC.ret ?_
       refine QXr ?_
       refine (hret _ _ _ rfl ?_).1
       clear hN hret hret' hK266 hK263 hK261 hK229 hK226 hK211 hK208 hK171 hK169 hK155 hK153 hK24 hK22 hK20 hK12 hK6 hK4 hK2
       refine .inr ⟨?_, rfl, hC253.fr⟩
       unfold openOk lookB
       rw [hlkp_, hlkv_]
       have hz_ : True := trivial
       simp_all [proOk, votOk]
      ·
       have t264 : (readOk (vo_.drop 16)) = true := by first | (simpa only [Bool.not_eq_true', Bool.not_eq_false'] using t264b) | simpa using t264b
       refine WCf rfl (WC.skip (QXn (hK261 _ _ ?_)))
       refine WCs (fun K267 hK268 => ?_)
       refine WCg (WLr 3 [(5, .nilIface), (4, .pointer (some ⟨g13, 0, none⟩)), (81, .pointer (some ⟨g13, 0, none⟩))] (fun _ => by kernel_rfl) (WLd rfl (QXn (hK268 _ _ ?_))))
       refine WC.ret ?_
       refine (hret _ _ _ rfl ?_).1
       clear hN hret hret' hK268 hK263 hK261 hK229 hK226 hK211 hK208 hK171 hK169 hK155 hK153 hK24 hK22 hK20 hK12 hK6 hK4 hK2
       have hok_ : openOk N = true := by unfold openOk lookB; rw [hlkp_, hlkv_]; simp_all [proOk, votOk]
       have hV_ : openV N node = ⟨(balR pr_).1, (balR pr_).2, (balR vo_).1, (balR vo_).2, readL (vo_.drop 16), node⟩ := by unfold openV lookX; rw [hlkp_, hlkv_]
       have hvr_ : vals L235 = readL (vo_.drop 16) := by rw [hvv242]; simp_all
       rw [hV_]
       obtain ⟨FV_, hvo_, hfv_⟩ : ∃ FV, voAt w250 FV g13 ⟨(balR pr_).1, (balR pr_).2, (balR vo_).1, (balR vo_).2, readL (vo_.drop 16), node⟩ sp ∧ ∀ x ∈ FV, w.heap.size ≤ x := ⟨g13 :: (blk (.slice A233 L235.length c234) ++ R236), ⟨A233, c234, L235, R236, hC253.get 0 rfl, own_rd ho257 cellsC_len (by decide), hl258, hvr_, by have z_ := congrArg List.length hvv242; rw [vals_len] at z_; have z2_ := readL_len (vo_.drop 16); omega, rfl, (fun h_ => (List.mem_append.1 h_).elim (hC253.notin 2 0 rfl rfl) (hC253.notin 3 0 rfl rfl)), (fun x_ hx_ => (List.mem_cons.1 hx_).elim (fun e_ => by subst e_; exact lt_of_heap (hC253.get 0 rfl)) (fun h_ => (List.mem_append.1 h_).elim (hC253.ltF 2 rfl x_) (hC253.ltF 3 rfl x_))), hbipr_.1, hbipr_.2, hbivo_.1, hbivo_.2, hw⟩, (fun x_ hx_ => (List.mem_cons.1 hx_).elim (fun e_ => by subst e_; exact (hC253.new_ge 0 rfl).resolve_left (fun h_ => nomatch h_)) (fun h_ => (List.mem_append.1 h_).elim (newF_of hC253 2 rfl (fun _ h_ => nomatch h_) (fun _ h_ => nomatch h_) x_) (newF_of hC253 3 rfl (fun _ h_ => nomatch h_) (fun _ h_ => nomatch h_) x_)))⟩
       exact .inl ⟨hok_, g13, FV_, rfl, hC253.fr, hvo_, hfv_⟩
     ·
      refine WCf rfl (WC.skip (QXn (hK169 _ _ ?_)))
      refine WCs (fun K269 hK270 => ?_)
      refine WCs (fun K271 hK272 => ?_)
      refine WCg (WLr 2 [(79, .bool (!(balOk vo_))), (78, .bool (balOk vo_))] (fun _ => by kernel_rfl) (WLd rfl (QXn (hK272 _ _ ?_))))
      refine WC.know 79 (.bool (!(balOk vo_))) (.bool true) rfl (congrArg Value.bool (by rw [t227b]; rfl)) ?_
      refine WCt rfl ?_
      refine WCs (fun K273 hK274 => ?_)
      refine WCg (WLr 3 [(5, .iface 35 (.int .i64 3)), (4, .pointer none), (80, .iface 35 (.int .i64 3))] (fun _ => by kernel_rfl) (WLd rfl (QXn (hK274 _ _ ?_))))
      refine WC.ret ?_
      refine QXr ?_
      refine (hret _ _ _ rfl ?_).1
      clear hN hret hret' hK274 hK272 hK270 hK226 hK211 hK208 hK171 hK169 hK155 hK153 hK24 hK22 hK20 hK12 hK6 hK4 hK2
      refine .inr ⟨?_, rfl, hC221.fr⟩
      unfold openOk lookB
      rw [hlkp_, hlkv_]
      have hz_ : True := trivial
      simp_all [proOk, votOk]
    ·
     refine WCf rfl (WC.skip (QXn (hK169 _ _ ?_)))
     refine WCs (fun K275 hK276 => ?_)
     refine WCs (fun K277 hK278 => ?_)
     refine WCg (WLr 2 [(79, .bool (!(decide (pr_.length = 16)))), (78, .bool (decide (pr_.length = 16)))] (fun _ => by kernel_rfl) (WLd rfl (QXn (hK278 _ _ ?_))))
     refine WC.know 79 (.bool (!(decide (pr_.length = 16)))) (.bool true) rfl (congrArg Value.bool (by rw [t209b]; rfl)) ?_
     refine WCt rfl ?_
     refine WCs (fun K279 hK280 => ?_)
     refine WCg (WLr 3 [(5, .iface 35 (.int .i64 3)), (4, .pointer none), (80, .iface 35 (.int .i64 3))] (fun _ => by kernel_rfl) (WLd rfl (QXn (hK280 _ _ ?_))))
     refine WC.ret ?_
     refine QXr ?_
     refine (hret _ _ _ rfl ?_).1
     clear hN hret hret' hK280 hK278 hK276 hK208 hK171 hK169 hK155 hK153 hK24 hK22 hK20 hK12 hK6 hK4 hK2
     refine .inr ⟨?_, rfl, hC198.fr⟩
     unfold openOk lookB
     rw [hlkp_, hlkv_]
     have hz_ : True := trivial
     simp_all [proOk, votOk]
  ·
   refine WLr 5 [(7, .bool false), (45, .bool false), (44, undef), (43, undef), (42, undef)] (fun _ => by kernel_rfl) (WLd rfl (QXn (hK22 _ _ ?_)))
   refine WCs (fun K281 hK282 => ?_)
   refine WCs (fun K283 hK284 => ?_)
   refine WCg (WLr 1 [(47, .pointer (some ⟨sp, 0, none⟩))] (fun _ => by kernel_rfl) ?_)
   rcases hlkv_ : lookL N kV with _ | vo_
   ·
    refine WLc rfl rfl rfl rfl rfl (by kernel_rfl) (Get_no F sp N Y size kV w161 hf165 (hlkv_)) ?_
    rintro _ w287 ⟨v_, rfl, hF286, ho285⟩
    have hC288 := hC164.callN hF286 (own_ge ho285) (own_lt ho285)
    obtain ⟨A289, c290, rfl, hle291⟩ := own_form ho285
    have ho293 := own_base (b' := 0) ho285 (fun _ _ => Nat.zero_le _)
    refine ⟨_, rfl, ?_⟩
    refine WLr 5 [(11, .iface 35 (.int .i64 6)), (10, .slice A289 (([] : List Int).length) c290), (50, .iface 35 (.int .i64 6)), (49, .slice A289 (([] : List Int).length) c290), (46, .tuple #[.slice A289 (([] : List Int).length) c290, .iface 35 (.int .i64 6)])] (fun _ => by kernel_rfl) (WLd rfl (QXn (hK284 _ _ ?_)))
    refine WCs (fun K297 hK298 => ?_)
    refine WCg (WLr 5 [(55, .bool false), (54, undef), (53, .bool false), (52, .bool false), (51, .iface 35 (.int .i64 6))] (fun _ => by kernel_rfl) (WLd rfl (QXn (hK298 _ _ ?_))))
    refine WCf rfl (WC.skip (QXn (hK282 _ _ ?_)))
    refine WCs (fun K299 hK300 => ?_)
    refine WCs (fun K301 hK302 => ?_)
    refine WCg (WLr 2 [(79, .bool true), (78, .bool false)] (fun _ => by kernel_rfl) (WLd rfl (QXn (hK302 _ _ ?_))))
    refine WCt rfl ?_
    refine WCs (fun K303 hK304 => ?_)
    refine WCg (WLr 3 [(5, .iface 35 (.int .i64 3)), (4, .pointer none), (80, .iface 35 (.int .i64 3))] (fun _ => by kernel_rfl) (WLd rfl (QXn (hK304 _ _ ?_))))
    refine WC.ret ?_
    refine QXr ?_
    refine (hret _ _ _ rfl ?_).1
    clear hN hret hret' hK304 hK302 hK300 hK298 hK284 hK282 hK155 hK153 hK24 hK22 hK20 hK12 hK6 hK4 hK2
    refine .inr ⟨?_, rfl, hC288.fr⟩
    unfold openOk lookB
    rw [hlkp_, hlkv_]
    have hz_ : True := trivial
    simp_all [proOk, votOk]
   ·
    have hobvo_ := rowBytes ht hlkv_
    have hbivo_ := balR_i64 vo_
    refine WLc rfl rfl rfl rfl rfl (by kernel_rfl) (Get_yes F sp N Y size kV vo_ w161 hf165 (hlkv_)) ?_
    rintro _ w307 ⟨v_, rfl, hF306, ho305⟩
    have hC308 := hC164.callN hF306 (own_ge ho305) (own_lt ho305)
    obtain ⟨A309, c310, rfl, hle311⟩ := own_form ho305
    have ho313 := own_base (b' := 0) ho305 (fun _ _ => Nat.zero_le _)
    refine ⟨_, rfl, ?_⟩
    refine WLr 5 [(11, .nilIface), (10, .slice A309 vo_.length c310), (50, .nilIface), (49, .slice A309 vo_.length c310), (46, .tuple #[.slice A309 vo_.length c310, .nilIface])] (fun _ => by kernel_rfl) (WLd rfl (QXn (hK284 _ _ ?_)))
    refine WCs (fun K317 hK318 => ?_)
    refine WCg (WLr 5 [(55, .bool false), (54, .bool false), (53, .bool true), (52, .bool true), (51, .nilIface)] (fun _ => by kernel_rfl) (WLd rfl (QXn (hK318 _ _ ?_))))
    refine WCf rfl (WC.skip (QXn (hK282 _ _ ?_)))
    refine WCs (fun K319 hK320 => ?_)
    refine WCs (fun K321 hK322 => ?_)
    refine WCg (WLr 2 [(79, .bool true), (78, .bool false)] (fun _ => by kernel_rfl) (WLd rfl (QXn (hK322 _ _ ?_))))
    refine WCt rfl ?_
    refine WCs (fun K323 hK324 => ?_)
    refine WCg (WLr 3 [(5, .iface 35 (.int .i64 3)), (4, .pointer none), (80, .iface 35 (.int .i64 3))] (fun _ => by kernel_rfl) (WLd rfl (QXn (hK324 _ _ ?_))))
    refine WC.ret ?_
    refine QXr ?_
    refine (hret _ _ _ rfl ?_).1
    clear hN hret hret' hK324 hK322 hK320 hK318 hK284 hK282 hK155 hK153 hK24 hK22 hK20 hK12 hK6 hK4 hK2
    refine .inr ⟨?_, rfl, hC308.fr⟩
    unfold openOk lookB
    rw [hlkp_, hlkv_]
    have hz_ : True := trivial
    simp_all [proOk, votOk]

end Go.Proofs.Ytjacpjdikhlcoaa
