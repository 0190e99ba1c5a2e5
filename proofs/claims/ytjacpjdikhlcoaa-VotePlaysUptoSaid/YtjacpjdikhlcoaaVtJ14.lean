/- Contracts of functions of the program, each proved by a walk through its code; conditions stand in the statements. -/
import Derived.Test.YtjacpjdikhlcoaaVtI14
namespace Go.Proofs.Ytjacpjdikhlcoaa
set_option linter.unusedSimpArgs false
set_option linter.unusedVariables false
set_option linter.unusedSectionVars false
open Go Go.RowKit Go.Tw
set_option linter.unusedVariables false
set_option maxRecDepth 20000
def syncN (N Y : Ct) (e : Int) (N2 : Ct) : Ct := if e = 0 then N2 else Y
theorem stAt_size {w : World} {F : List Nat} {p : Nat} {N Y : Ct} {size : Int} (h : stAt w F p N Y size) : (usedL N : Int) ≤ size ∧ (usedL Y : Int) ≤ size ∧ 0 ≤ size ∧ size ≤ 67108864 := by
  obtain ⟨b1, b2, m1, m2, _, _, _, rfl, rfl, _, _, _, h1, h2, h3, h4⟩ := h; exact ⟨h3, h4, h1, h2⟩
theorem bytes2_len (a b : Int) : (bytesN [a, b]).length = 16 := by rw [bytesN_len]; rfl
theorem rowBytes {w : World} {F : List Nat} {p : Nat} {N Y : Ct} {size : Int} (h : stAt w F p N Y size) {k : ByteArray} {xs : List Int} (hl : lookL N k = some xs) : byteL xs := by
  obtain ⟨b1, b2, m1, m2, _, h1, h2, rfl, rfl, _⟩ := h
  obtain ⟨y, hy, e⟩ := List.mem_map.1 (look_mem hl)
  have := (h1.rows y hy).byt
  cases e; exact this
set_option maxHeartbeats 1000000 in
theorem keep0_ct (p sp : Nat) (F : List Nat) (N Y : Ct) (size pn pd an ad nd rn rd ra rb : Int) (va : Option Addr) (vn vc : Nat) (la : Option Addr) (ln lc : Nat) (w : World) (hp : w.heap[p]? = some (.cells #[.int .i64 pn, .int .i64 pd, .int .i64 an, .int .i64 ad, .slice va vn vc, .pointer (some ⟨sp, 0, none⟩), .int .i64 nd] 112 (0, 0))) (ht : stAt w F sp N Y size) (hpF : p ∉ F) : Calls Try.prog 53 #[.pointer (some ⟨p, 0, none⟩), .agg #[.int .i64 rn, .int .i64 rd, .int .i64 ra, .int .i64 rb, .slice la ln lc], .bool false] w fun e w' => ∃ F2, e = .returned (errV 35 (putE N size kP 16)) ∧ Fr w w' (p :: F) ∧ stAt w' F2 sp (putS N size kP (bytesN [rn, rd])) (if putE N size kP 16 = 0 then putS N size kP (bytesN [rn, rd]) else Y) size ∧ (∀ x ∈ F2, x ∈ F ∨ w.heap.size ≤ x) ∧ p ∉ F2 ∧ w'.heap[p]? = some (.cells (if putE N size kP 16 = 0 then #[.int .i64 rn, .int .i64 rd, .int .i64 ra, .int .i64 rb, .slice la ln lc, .pointer (some ⟨sp, 0, none⟩), .int .i64 nd] else #[.int .i64 pn, .int .i64 pd, .int .i64 an, .int .i64 ad, .slice va vn vc, .pointer (some ⟨sp, 0, none⟩), .int .i64 nd]) 112 (0, 0)) := by
 refine enterD (n := 74) Try.func53 rfl rfl (Nat.le_of_ble_eq_true rfl) ?_
 intro Q0 hN hret hret'
 have hC := Cx.openR hp (stAt_lt ht) hpF
 obtain ⟨hnd_, _⟩ := stAt_nodup ht
 obtain ⟨hsz0_, hsz1_, hsz2_, hsz3_⟩ := stAt_size ht
 refine WCs (fun K1 hK2 => ?_)
 refine WCg ?_
 refine WL.newM hC (fun b => .pointer (some ⟨b, 0, none⟩)) (.cells #[.int .i64 rn, .int .i64 rd, .int .i64 ra, .int .i64 rb, .slice la ln lc] 110) 4 (fun _ => by kernel_rfl) (fun g3 w4 hb7 hF5 hC6 => ?_)
 have hf8 := stAt_fr ht hF5 (by simp)
 refine WLr 1 [(6, .nilIface)] (fun _ => by kernel_rfl) (WLd rfl (QXn (hK2 _ _ ?_)))
 refine WCs (fun K9 hK10 => ?_)
 refine WCg (WLr 3 [(14, .pointer (some ⟨p, 5, none⟩)), (13, .pointer (some ⟨p, 0, none⟩)), (12, .pointer (some ⟨p, 0, none⟩))] (fun _ => by kernel_rfl) ?_)
 refine WL.load 45 (.pointer (some ⟨p, 5, none⟩)) (.pointer (some ⟨sp, 0, none⟩)) 15 (by kernel_rfl) (run_ld (hC6.get 0 rfl) rfl) ?_
 rcases hlk_ : lookL N kP with _ | old_
 ·
  refine WLc rfl rfl rfl rfl rfl (by kernel_rfl) (Get_no F sp N Y size kP w4 hf8 (hlk_)) ?_
  rintro _ w13 ⟨v_, rfl, hF12, ho11⟩
  have hC14 := hC6.callN hF12 (own_ge ho11) (own_lt ho11)
  obtain ⟨A15, c16, rfl, hle17⟩ := own_form ho11
  have ho19 := own_base (b' := 0) ho11 (fun _ _ => Nat.zero_le _)
  refine ⟨_, rfl, ?_⟩
  have hf20 := stAt_fr hf8 hF12 (by simp)
  refine WLr 5 [(8, .iface 35 (.int .i64 6)), (7, .slice A15 (([] : List Int).length) c16), (18, .iface 35 (.int .i64 6)), (17, .slice A15 (([] : List Int).length) c16), (11, .tuple #[.slice A15 (([] : List Int).length) c16, .iface 35 (.int .i64 6)])] (fun _ => by kernel_rfl) (WLd rfl (QXn (hK10 _ _ ?_)))
  refine WCs (fun K22 hK23 => ?_)
  refine WCs (fun K24 hK25 => ?_)
  refine WC.drawC hC14 F (by kernel_rfl) (fun w26 hF27 hC28 hS29 => ?_)
  have hf30 := stAt_fr hf20 hF27 (by simp)
  refine WDp (NPt (NPt hN)) 0 19 (.pointer (some ⟨p, 0, none⟩)) (by kernel_rfl) (fun _ => by kernel_rfl) hS29 ?_
  refine WDp (NPt (NPt hN)) 1 20 (.pointer (some ⟨p, 0, none⟩)) (by kernel_rfl) (fun _ => by kernel_rfl) hS29 ?_
  refine WDp (NPt (NPt hN)) 2 21 (.pointer (some ⟨p, 5, none⟩)) (by kernel_rfl) (fun _ => by kernel_rfl) hS29 ?_
  refine WDp (NPt (NPt hN)) 4 23 (.pointer (some ⟨g3, 0, none⟩)) (by kernel_rfl) (fun _ => by kernel_rfl) hS29 ?_
  refine WDl (NPt (NPt hN)) 3 45 (.pointer (some ⟨p, 5, none⟩)) (.pointer (some ⟨sp, 0, none⟩)) 22 (by kernel_rfl) (by kernel_rfl) (fun _ hS_ => run_ld (Fr.has hS_ (hC28.get 0 rfl) (hC28.notin 0 0 rfl rfl)) rfl) hS29 ?_
  refine WD.sem 5 (Instr.loadAt 50 (.pointer (some ⟨g3, 0, none⟩))) 24 (.agg #[.int .i64 rn, .int .i64 rd]) (by kernel_rfl) (by kernel_rfl) (run_ld (hC28.get 1 rfl) rfl) hS29 ?_
  refine WD.call 6 (by kernel_rfl) rfl rfl rfl rfl rfl (by kernel_rfl) (ballotOf_ct rn rd w26) ?_
  rintro _ w34 ⟨v_, rfl, hF33, ho32⟩
  have hC35 := hC28.callN hF33 (own_ge ho32) (own_lt ho32)
  obtain ⟨A36, c37, rfl, hle38⟩ := own_form ho32
  have ho40 := own_base (b' := 0) ho32 (fun _ _ => Nat.zero_le _)
  have hS41 := hS29.trans hF33 (by simp)
  refine ⟨_, rfl, hS41, ?_⟩
  have hf42 := stAt_fr hf30 hF33 (by simp)
  refine WD.new 7 (fun b => .slice (some ⟨b, 0, none⟩) 1 1) (.cells #[.slice A36 ((bytesN [rn, rd]).length) c37] 22) (by kernel_rfl) rfl rfl rfl rfl rfl (fun _ => by kernel_rfl) (fun g45 w46 hb49 hl50 hF47 ho51 => ?_)
  have hC48 := hC35.callB hF47 hb49 ho51
  have hS52 := hS41.trans hF47 (by simp)
  refine ⟨hS52, ?_⟩
  have hf53 := stAt_fr hf42 hF47 (by simp)
  have ho55 := own_fr ho40 hF47 (by simp)
  have hr56 : ∀ r_ ∈ ([(⟨A36, (bytesN [rn, rd]).length, c37, (bytesN [rn, rd])⟩ : BRow)] : List BRow), rowAt w46 r_ := by
   intro r_ hr_; simp only [List.mem_cons, List.not_mem_nil, or_false] at hr_
   rcases hr_ with rfl
   ·
    exact ⟨(own_rd ho55 (Go.Tw.encI_len _) (by decide)), (own_count (Go.Tw.encI_len _) (by decide) ho55), (bytesN_byte _)⟩
  refine WD.call 8 (by kernel_rfl) rfl rfl rfl rfl rfl (by kernel_rfl) (Put_any F sp N Y size kP (some ⟨g45, 0, none⟩) 1 [(⟨A36, (bytesN [rn, rd]).length, c37, (bytesN [rn, rd])⟩ : BRow)] (bytesN [rn, rd]) w46 hf53 (Rd.blk (hC48.get 2 rfl) cellB_len rfl) hr56 (by simp) (cat1 _ _ _ _)) ?_
  rintro _ w58 ⟨F61, rfl, hF57, hT60, hsub62⟩
  have hT60' : stAt w58 F61 sp (putS N size kP (bytesN [rn, rd])) Y size := hT60
  have hC59 := hC48.callF 0 rfl hF57 hsub62 (stAt_lt hT60')
  have hge65 : ∀ x_ ∈ F, x_ ∈ F ∨ w26.heap.size ≤ x_ := fun x_ hx_ => .inl (by simp [hx_])
  have hge64 : ∀ x_ ∈ F61, x_ ∈ F ∨ w26.heap.size ≤ x_ := fun x_ hx_ => (hsub62 x_ hx_).elim (hge65 x_) (fun h_ => .inr (Nat.le_trans hS52.size h_))
  have hS63 := hS52.trans hF57 hge65
  refine ⟨_, rfl, hS63, ?_⟩
  refine WDp (NPt (NPt hN)) 9 9 (errV 35 (putE N size kP (bytesN [rn, rd]).length)) (by kernel_rfl) (fun _ => by kernel_rfl) hS63 ?_
  refine WD.done (by kernel_rfl) ?_
  refine QXn (hK25 _ _ ?_)
  refine WCs (fun K68 hK69 => ?_)
  refine WCg (WLr 1 [(28, errV 35 (putE N size kP (bytesN [rn, rd]).length))] (fun _ => by kernel_rfl) ?_)
  have hr70 : ∀ w_, Sem.run Try.prog (do eqGuard .neq 27 (Operand.tmp 28) (Operand.const (.nilIface)) (errV 35 (putE N size kP (bytesN [rn, rd]).length)) (.nilIface); binOp .neq 27 (errV 35 (putE N size kP (bytesN [rn, rd]).length)) (.nilIface)) w_ = .ok (.bool (!(decide (putE N size kP (bytesN [rn, rd]).length = 0)))) w_ := fun w_ => (err_neq _ (putE N size kP (bytesN [rn, rd]).length) (decide (putE N size kP (bytesN [rn, rd]).length = 0)) (by rfl) _)
  refine WL.sem (do eqGuard .neq 27 (Operand.tmp 28) (Operand.const (.nilIface)) (errV 35 (putE N size kP (bytesN [rn, rd]).length)) (.nilIface); binOp .neq 27 (errV 35 (putE N size kP (bytesN [rn, rd]).length)) (.nilIface)) 29 (.bool (!(decide (putE N size kP (bytesN [rn, rd]).length = 0)))) (by kernel_rfl) (hr70 _) ?_
  refine WLd rfl (QXn (hK69 _ _ ?_))
  refine WCa 29 (!(decide (putE N size kP (bytesN [rn, rd]).length = 0))) rfl (fun t71b => ?_) (fun t71b => ?_)
  ·
   have t71 : (decide (putE N size kP (bytesN [rn, rd]).length = 0)) = false := by first | (simpa only [Bool.not_eq_true', Bool.not_eq_false'] using t71b) | simpa using t71b
   refine WCt rfl ?_
   refine WCs (fun K72 hK73 => ?_)
   refine WCg (WLr 2 [(6, errV 35 (putE N size kP (bytesN [rn, rd]).length)), (30, errV 35 (putE N size kP (bytesN [rn, rd]).length))] (fun _ => by kernel_rfl) (WLd rfl (QXn (hK73 _ _ ?_))))
   refine WC.ret ?_
   refine QXr ?_
   refine (hret _ _ _ rfl ?_).1
   clear hN hret hret' hK73 hK69 hK25 hK23 hK10 hK2
   have e0_ : ¬ putE N size kP (bytesN [rn, rd]).length = 0 := (by simpa using t71b)
   rw [bytes2_len] at e0_
   rw [if_neg e0_, if_neg e0_]
   exact ⟨F61, congrArg (fun n_ => Ending.returned (errV 35 (putE N size kP n_))) (bytes2_len rn rd), hC59.fr, hT60', (fun x_ h_ => (hC59.ownF _ (List.mem_of_getElem? (show _[0]? = some F61 from rfl)) x_ h_).elim (fun h2_ => (List.mem_cons.1 h2_).elim (fun e_ => absurd (e_ ▸ h_) (hC59.notin 0 0 rfl rfl)) .inl) .inr), hC59.notin 0 0 rfl rfl, hC59.get 0 rfl⟩
  ·
   have t71 : (decide (putE N size kP (bytesN [rn, rd]).length = 0)) = true := by first | (simpa only [Bool.not_eq_true', Bool.not_eq_false'] using t71b) | simpa using t71b
   refine WCf rfl (WC.skip (QXn (hK23 _ _ ?_)))
   refine WCs (fun K74 hK75 => ?_)
   refine WCs (fun K76 hK77 => ?_)
   refine WCg (WLr 1 [(31, .bool false)] (fun _ => by kernel_rfl) (WLd rfl (QXn (hK77 _ _ ?_))))
   refine WCf rfl (WC.skip (QXn (hK75 _ _ ?_)))
   refine WCs (fun K78 hK79 => ?_)
   refine WCg (WLr 3 [(67, .pointer (some ⟨p, 5, none⟩)), (66, .pointer (some ⟨p, 0, none⟩)), (65, .pointer (some ⟨p, 0, none⟩))] (fun _ => by kernel_rfl) ?_)
   refine WL.load 45 (.pointer (some ⟨p, 5, none⟩)) (.pointer (some ⟨sp, 0, none⟩)) 68 (by kernel_rfl) (run_ld (hC59.get 0 rfl) rfl) ?_
   refine WLc rfl rfl rfl rfl rfl (by kernel_rfl) (Sync_ct F61 sp (putS N size kP (bytesN [rn, rd])) Y size w58 hT60') ?_
   rintro _ w81 ⟨F84, rfl, hF80, hT83, hsub85⟩
   have hT83' : stAt w81 F84 sp (putS N size kP (bytesN [rn, rd])) (putS N size kP (bytesN [rn, rd])) size := hT83
   have hC82 := hC59.callF 0 rfl hF80 hsub85 (stAt_lt hT83')
   refine ⟨_, rfl, ?_⟩
   refine WLd rfl (QXn (hK79 _ _ ?_))
   refine WCs (fun K88 hK89 => ?_)
   refine WCg (WLr 1 [(70, .pointer (some ⟨p, 0, none⟩))] (fun _ => by kernel_rfl) ?_)
   refine WL.load 110 (.pointer (some ⟨g3, 0, none⟩)) (.agg #[.int .i64 rn, .int .i64 rd, .int .i64 ra, .int .i64 rb, .slice la ln lc]) 71 (by kernel_rfl) (run_ld (hC82.get 1 rfl) rfl) ?_
   refine WLr 2 [(73, .pointer (some ⟨p, 0, none⟩)), (72, .pointer (some ⟨p, 0, none⟩))] (fun _ => by kernel_rfl) ?_
   refine WLs (c' := #[.int .i64 rn, .int .i64 rd, .int .i64 ra, .int .i64 rb, .slice la ln lc, .pointer (some ⟨sp, 0, none⟩), .int .i64 nd]) hC82 0 110 p 0 (.agg #[.int .i64 rn, .int .i64 rd, .int .i64 ra, .int .i64 rb, .slice la ln lc]) (by kernel_rfl) rfl (by kernel_rfl) (fun w90 hF92 hC93 => ?_)
   have hf94 := stAt_fr hT83' hF92 (hC82.apartM 0 0 rfl rfl)
   refine WLd rfl (QXn (hK89 _ _ ?_))
   refine WCs (fun K97 hK98 => ?_)
   refine WCg (WLr 1 [(6, .nilIface)] (fun _ => by kernel_rfl) (WLd rfl (QXn (hK98 _ _ ?_))))
   refine WC.ret ?_
   refine (hret _ _ _ rfl ?_).1
   clear hN hret hret' hK98 hK89 hK79 hK77 hK75 hK69 hK25 hK23 hK10 hK2
   have e0_ : putE N size kP (bytesN [rn, rd]).length = 0 := (by simpa using t71b)
   rw [bytes2_len] at e0_
   rw [e0_, if_pos rfl, if_pos rfl]
   exact ⟨F84, rfl, hC93.fr, by have h_ := hf94; exact h_, (fun x_ h_ => (hC93.ownF _ (List.mem_of_getElem? (show _[0]? = some F84 from rfl)) x_ h_).elim (fun h2_ => (List.mem_cons.1 h2_).elim (fun e_ => absurd (e_ ▸ h_) (hC93.notin 0 0 rfl rfl)) .inl) .inr), hC93.notin 0 0 rfl rfl, hC93.get 0 rfl⟩
 ·
  have hxl_ := used_del hlk_
  have hob_ := rowBytes ht hlk_
  refine WLc rfl rfl rfl rfl rfl (by kernel_rfl) (Get_yes F sp N Y size kP old_ w4 hf8 (hlk_)) ?_
  rintro _ w101 ⟨v_, rfl, hF100, ho99⟩
  have hC102 := hC6.callN hF100 (own_ge ho99) (own_lt ho99)
  obtain ⟨A103, c104, rfl, hle105⟩ := own_form ho99
  have ho107 := own_base (b' := 0) ho99 (fun _ _ => Nat.zero_le _)
  refine ⟨_, rfl, ?_⟩
  have hf108 := stAt_fr hf8 hF100 (by simp)
  refine WLr 5 [(8, .nilIface), (7, .slice A103 old_.length c104), (18, .nilIface), (17, .slice A103 old_.length c104), (11, .tuple #[.slice A103 old_.length c104, .nilIface])] (fun _ => by kernel_rfl) (WLd rfl (QXn (hK10 _ _ ?_)))
  refine WCs (fun K110 hK111 => ?_)
  refine WCs (fun K112 hK113 => ?_)
  refine WC.drawC hC102 F (by kernel_rfl) (fun w114 hF115 hC116 hS117 => ?_)
  have hf118 := stAt_fr hf108 hF115 (by simp)
  refine WDp (NPt (NPt hN)) 0 19 (.pointer (some ⟨p, 0, none⟩)) (by kernel_rfl) (fun _ => by kernel_rfl) hS117 ?_
  refine WDp (NPt (NPt hN)) 1 20 (.pointer (some ⟨p, 0, none⟩)) (by kernel_rfl) (fun _ => by kernel_rfl) hS117 ?_
  refine WDp (NPt (NPt hN)) 2 21 (.pointer (some ⟨p, 5, none⟩)) (by kernel_rfl) (fun _ => by kernel_rfl) hS117 ?_
  refine WDp (NPt (NPt hN)) 4 23 (.pointer (some ⟨g3, 0, none⟩)) (by kernel_rfl) (fun _ => by kernel_rfl) hS117 ?_
  refine WDl (NPt (NPt hN)) 3 45 (.pointer (some ⟨p, 5, none⟩)) (.pointer (some ⟨sp, 0, none⟩)) 22 (by kernel_rfl) (by kernel_rfl) (fun _ hS_ => run_ld (Fr.has hS_ (hC116.get 0 rfl) (hC116.notin 0 0 rfl rfl)) rfl) hS117 ?_
  refine WD.sem 5 (Instr.loadAt 50 (.pointer (some ⟨g3, 0, none⟩))) 24 (.agg #[.int .i64 rn, .int .i64 rd]) (by kernel_rfl) (by kernel_rfl) (run_ld (hC116.get 1 rfl) rfl) hS117 ?_
  refine WD.call 6 (by kernel_rfl) rfl rfl rfl rfl rfl (by kernel_rfl) (ballotOf_ct rn rd w114) ?_
  rintro _ w122 ⟨v_, rfl, hF121, ho120⟩
  have hC123 := hC116.callN hF121 (own_ge ho120) (own_lt ho120)
  obtain ⟨A124, c125, rfl, hle126⟩ := own_form ho120
  have ho128 := own_base (b' := 0) ho120 (fun _ _ => Nat.zero_le _)
  have hS129 := hS117.trans hF121 (by simp)
  refine ⟨_, rfl, hS129, ?_⟩
  have hf130 := stAt_fr hf118 hF121 (by simp)
  refine WD.new 7 (fun b => .slice (some ⟨b, 0, none⟩) 1 1) (.cells #[.slice A124 ((bytesN [rn, rd]).length) c125] 22) (by kernel_rfl) rfl rfl rfl rfl rfl (fun _ => by kernel_rfl) (fun g133 w134 hb137 hl138 hF135 ho139 => ?_)
  have hC136 := hC123.callB hF135 hb137 ho139
  have hS140 := hS129.trans hF135 (by simp)
  refine ⟨hS140, ?_⟩
  have hf141 := stAt_fr hf130 hF135 (by simp)
  have ho143 := own_fr ho128 hF135 (by simp)
  have hr144 : ∀ r_ ∈ ([(⟨A124, (bytesN [rn, rd]).length, c125, (bytesN [rn, rd])⟩ : BRow)] : List BRow), rowAt w134 r_ := by
   intro r_ hr_; simp only [List.mem_cons, List.not_mem_nil, or_false] at hr_
   rcases hr_ with rfl
   ·
    exact ⟨(own_rd ho143 (Go.Tw.encI_len _) (by decide)), (own_count (Go.Tw.encI_len _) (by decide) ho143), (bytesN_byte _)⟩
  refine WD.call 8 (by kernel_rfl) rfl rfl rfl rfl rfl (by kernel_rfl) (Put_any F sp N Y size kP (some ⟨g133, 0, none⟩) 1 [(⟨A124, (bytesN [rn, rd]).length, c125, (bytesN [rn, rd])⟩ : BRow)] (bytesN [rn, rd]) w134 hf141 (Rd.blk (hC136.get 2 rfl) cellB_len rfl) hr144 (by simp) (cat1 _ _ _ _)) ?_
  rintro _ w146 ⟨F149, rfl, hF145, hT148, hsub150⟩
  have hT148' : stAt w146 F149 sp (putS N size kP (bytesN [rn, rd])) Y size := hT148
  have hC147 := hC136.callF 0 rfl hF145 hsub150 (stAt_lt hT148')
  have hge153 : ∀ x_ ∈ F, x_ ∈ F ∨ w114.heap.size ≤ x_ := fun x_ hx_ => .inl (by simp [hx_])
  have hge152 : ∀ x_ ∈ F149, x_ ∈ F ∨ w114.heap.size ≤ x_ := fun x_ hx_ => (hsub150 x_ hx_).elim (hge153 x_) (fun h_ => .inr (Nat.le_trans hS140.size h_))
  have hS151 := hS140.trans hF145 hge153
  refine ⟨_, rfl, hS151, ?_⟩
  refine WDp (NPt (NPt hN)) 9 9 (errV 35 (putE N size kP (bytesN [rn, rd]).length)) (by kernel_rfl) (fun _ => by kernel_rfl) hS151 ?_
  refine WD.done (by kernel_rfl) ?_
  refine QXn (hK113 _ _ ?_)
  refine WCs (fun K156 hK157 => ?_)
  refine WCg (WLr 1 [(28, errV 35 (putE N size kP (bytesN [rn, rd]).length))] (fun _ => by kernel_rfl) ?_)
  have hr158 : ∀ w_, Sem.run Try.prog (do eqGuard .neq 27 (Operand.tmp 28) (Operand.const (.nilIface)) (errV 35 (putE N size kP (bytesN [rn, rd]).length)) (.nilIface); binOp .neq 27 (errV 35 (putE N size kP (bytesN [rn, rd]).length)) (.nilIface)) w_ = .ok (.bool (!(decide (putE N size kP (bytesN [rn, rd]).length = 0)))) w_ := fun w_ => (err_neq _ (putE N size kP (bytesN [rn, rd]).length) (decide (putE N size kP (bytesN [rn, rd]).length = 0)) (by rfl) _)
  refine WL.sem (do eqGuard .neq 27 (Operand.tmp 28) (Operand.const (.nilIface)) (errV 35 (putE N size kP (bytesN [rn, rd]).length)) (.nilIface); binOp .neq 27 (errV 35 (putE N size kP (bytesN [rn, rd]).length)) (.nilIface)) 29 (.bool (!(decide (putE N size kP (bytesN [rn, rd]).length = 0)))) (by kernel_rfl) (hr158 _) ?_
  refine WLd rfl (QXn (hK157 _ _ ?_))
  refine WCa 29 (!(decide (putE N size kP (bytesN [rn, rd]).length = 0))) rfl (fun t159b => ?_) (fun t159b => ?_)
  ·
   have t159 : (decide (putE N size kP (bytesN [rn, rd]).length = 0)) = false := by first | (simpa only [Bool.not_eq_true', Bool.not_eq_false'] using t159b) | simpa using t159b
   refine WCt rfl ?_
   refine WCs (fun K160 hK161 => ?_)
   refine WCg (WLr 2 [(6, errV 35 (putE N size kP (bytesN [rn, rd]).length)), (30, errV 35 (putE N size kP (bytesN [rn, rd]).length))] (fun _ => by kernel_rfl) (WLd rfl (QXn (hK161 _ _ ?_))))
   refine WC.ret ?_
   refine QXr ?_
   refine (hret _ _ _ rfl ?_).1
   clear hN hret hret' hK161 hK157 hK113 hK111 hK10 hK2
   have e0_ : ¬ putE N size kP (bytesN [rn, rd]).length = 0 := (by simpa using t159b)
   rw [bytes2_len] at e0_
   rw [if_neg e0_, if_neg e0_]
   exact ⟨F149, congrArg (fun n_ => Ending.returned (errV 35 (putE N size kP n_))) (bytes2_len rn rd), hC147.fr, hT148', (fun x_ h_ => (hC147.ownF _ (List.mem_of_getElem? (show _[0]? = some F149 from rfl)) x_ h_).elim (fun h2_ => (List.mem_cons.1 h2_).elim (fun e_ => absurd (e_ ▸ h_) (hC147.notin 0 0 rfl rfl)) .inl) .inr), hC147.notin 0 0 rfl rfl, hC147.get 0 rfl⟩
  ·
   have t159 : (decide (putE N size kP (bytesN [rn, rd]).length = 0)) = true := by first | (simpa only [Bool.not_eq_true', Bool.not_eq_false'] using t159b) | simpa using t159b
   refine WCf rfl (WC.skip (QXn (hK111 _ _ ?_)))
   refine WCs (fun K162 hK163 => ?_)
   refine WCs (fun K164 hK165 => ?_)
   refine WCg (WLr 1 [(31, .bool false)] (fun _ => by kernel_rfl) (WLd rfl (QXn (hK165 _ _ ?_))))
   refine WCf rfl (WC.skip (QXn (hK163 _ _ ?_)))
   refine WCs (fun K166 hK167 => ?_)
   refine WCg (WLr 3 [(67, .pointer (some ⟨p, 5, none⟩)), (66, .pointer (some ⟨p, 0, none⟩)), (65, .pointer (some ⟨p, 0, none⟩))] (fun _ => by kernel_rfl) ?_)
   refine WL.load 45 (.pointer (some ⟨p, 5, none⟩)) (.pointer (some ⟨sp, 0, none⟩)) 68 (by kernel_rfl) (run_ld (hC147.get 0 rfl) rfl) ?_
   refine WLc rfl rfl rfl rfl rfl (by kernel_rfl) (Sync_ct F149 sp (putS N size kP (bytesN [rn, rd])) Y size w146 hT148') ?_
   rintro _ w169 ⟨F172, rfl, hF168, hT171, hsub173⟩
   have hT171' : stAt w169 F172 sp (putS N size kP (bytesN [rn, rd])) (putS N size kP (bytesN [rn, rd])) size := hT171
   have hC170 := hC147.callF 0 rfl hF168 hsub173 (stAt_lt hT171')
   refine ⟨_, rfl, ?_⟩
   refine WLd rfl (QXn (hK167 _ _ ?_))
   refine WCs (fun K176 hK177 => ?_)
   refine WCg (WLr 1 [(70, .pointer (some ⟨p, 0, none⟩))] (fun _ => by kernel_rfl) ?_)
   refine WL.load 110 (.pointer (some ⟨g3, 0, none⟩)) (.agg #[.int .i64 rn, .int .i64 rd, .int .i64 ra, .int .i64 rb, .slice la ln lc]) 71 (by kernel_rfl) (run_ld (hC170.get 1 rfl) rfl) ?_
   refine WLr 2 [(73, .pointer (some ⟨p, 0, none⟩)), (72, .pointer (some ⟨p, 0, none⟩))] (fun _ => by kernel_rfl) ?_
   refine WLs (c' := #[.int .i64 rn, .int .i64 rd, .int .i64 ra, .int .i64 rb, .slice la ln lc, .pointer (some ⟨sp, 0, none⟩), .int .i64 nd]) hC170 0 110 p 0 (.agg #[.int .i64 rn, .int .i64 rd, .int .i64 ra, .int .i64 rb, .slice la ln lc]) (by kernel_rfl) rfl (by kernel_rfl) (fun w178 hF180 hC181 => ?_)
   have hf182 := stAt_fr hT171' hF180 (hC170.apartM 0 0 rfl rfl)
   refine WLd rfl (QXn (hK177 _ _ ?_))
   refine WCs (fun K185 hK186 => ?_)
   refine WCg (WLr 1 [(6, .nilIface)] (fun _ => by kernel_rfl) (WLd rfl (QXn (hK186 _ _ ?_))))
   refine WC.ret ?_
   refine (hret _ _ _ rfl ?_).1
   clear hN hret hret' hK186 hK177 hK167 hK165 hK163 hK157 hK113 hK111 hK10 hK2
   have e0_ : putE N size kP (bytesN [rn, rd]).length = 0 := (by simpa using t159b)
   rw [bytes2_len] at e0_
   rw [e0_, if_pos rfl, if_pos rfl]
   exact ⟨F172, rfl, hC181.fr, by have h_ := hf182; exact h_, (fun x_ h_ => (hC181.ownF _ (List.mem_of_getElem? (show _[0]? = some F172 from rfl)) x_ h_).elim (fun h2_ => (List.mem_cons.1 h2_).elim (fun e_ => absurd (e_ ▸ h_) (hC181.notin 0 0 rfl rfl)) .inl) .inr), hC181.notin 0 0 rfl rfl, hC181.get 0 rfl⟩

set_option maxHeartbeats 1000000 in
theorem keep1_ct (p sp : Nat) (F : List Nat) (N Y : Ct) (size pn pd an ad nd rn rd ra rb : Int) (va : Option Addr) (vn vc : Nat) (A : Option Addr) (c : Nat) (L : List Cmd)  (w : World) (hp : w.heap[p]? = some (.cells #[.int .i64 pn, .int .i64 pd, .int .i64 an, .int .i64 ad, .slice va vn vc, .pointer (some ⟨sp, 0, none⟩), .int .i64 nd] 112 (0, 0))) (ht : stAt w F sp N Y size) (hpF : p ∉ F) (hr : Rd w 12 cellsC A L) (hL : ∀ m ∈ L, cmdAt w m) (hlim : totE L ≤ 1099511627776) (hAF : 0 < L.length → ∀ b off, A = some ⟨b, off, none⟩ → b ∉ p :: F) (hLF : ∀ m ∈ L, ∀ x ∈ endsB m, x ∉ p :: F) (h1 : putE N size kP 16 = 0) (h2 : putE (putL N kP (bytesN [rn, rd])) size kV (bytesN [ra, rb] ++ bytesL (vals L)).length = 0) : Calls Try.prog 53 #[.pointer (some ⟨p, 0, none⟩), .agg #[.int .i64 rn, .int .i64 rd, .int .i64 ra, .int .i64 rb, .slice A L.length c], .bool true] w fun e w' => ∃ F2, e = .returned .nilIface ∧ Fr w w' (p :: F) ∧ stAt w' F2 sp (putL (putL N kP (bytesN [rn, rd])) kV (bytesN [ra, rb] ++ bytesL (vals L))) (putL (putL N kP (bytesN [rn, rd])) kV (bytesN [ra, rb] ++ bytesL (vals L))) size ∧ (∀ x ∈ F2, x ∈ F ∨ w.heap.size ≤ x) ∧ p ∉ F2 ∧ w'.heap[p]? = some (.cells #[.int .i64 rn, .int .i64 rd, .int .i64 ra, .int .i64 rb, .slice A L.length c, .pointer (some ⟨sp, 0, none⟩), .int .i64 nd] 112 (0, 0)) := by
 refine enterD (n := 74) Try.func53 rfl rfl (Nat.le_of_ble_eq_true rfl) ?_
 intro Q0 hN hret hret'
 have hC := Cx.openR hp (stAt_lt ht) hpF
 obtain ⟨hnd_, _⟩ := stAt_nodup ht
 obtain ⟨hsz0_, hsz1_, hsz2_, hsz3_⟩ := stAt_size ht
 refine WCs (fun K1 hK2 => ?_)
 refine WCg ?_
 refine WL.newM hC (fun b => .pointer (some ⟨b, 0, none⟩)) (.cells #[.int .i64 rn, .int .i64 rd, .int .i64 ra, .int .i64 rb, .slice A L.length c] 110) 4 (fun _ => by kernel_rfl) (fun g3 w4 hb7 hF5 hC6 => ?_)
 have hf8 := stAt_fr ht hF5 (by simp)
 refine WLr 1 [(6, .nilIface)] (fun _ => by kernel_rfl) (WLd rfl (QXn (hK2 _ _ ?_)))
 refine WCs (fun K9 hK10 => ?_)
 refine WCg (WLr 3 [(14, .pointer (some ⟨p, 5, none⟩)), (13, .pointer (some ⟨p, 0, none⟩)), (12, .pointer (some ⟨p, 0, none⟩))] (fun _ => by kernel_rfl) ?_)
 refine WL.load 45 (.pointer (some ⟨p, 5, none⟩)) (.pointer (some ⟨sp, 0, none⟩)) 15 (by kernel_rfl) (run_ld (hC6.get 0 rfl) rfl) ?_
 rcases hlk_ : lookL N kP with _ | old_
 ·
  refine WLc rfl rfl rfl rfl rfl (by kernel_rfl) (Get_no F sp N Y size kP w4 hf8 (hlk_)) ?_
  rintro _ w13 ⟨v_, rfl, hF12, ho11⟩
  have hC14 := hC6.callN hF12 (own_ge ho11) (own_lt ho11)
  obtain ⟨A15, c16, rfl, hle17⟩ := own_form ho11
  have ho19 := own_base (b' := 0) ho11 (fun _ _ => Nat.zero_le _)
  refine ⟨_, rfl, ?_⟩
  have hf20 := stAt_fr hf8 hF12 (by simp)
  refine WLr 5 [(8, .iface 35 (.int .i64 6)), (7, .slice A15 (([] : List Int).length) c16), (18, .iface 35 (.int .i64 6)), (17, .slice A15 (([] : List Int).length) c16), (11, .tuple #[.slice A15 (([] : List Int).length) c16, .iface 35 (.int .i64 6)])] (fun _ => by kernel_rfl) (WLd rfl (QXn (hK10 _ _ ?_)))
  refine WCs (fun K22 hK23 => ?_)
  refine WCs (fun K24 hK25 => ?_)
  refine WC.drawC hC14 F (by kernel_rfl) (fun w26 hF27 hC28 hS29 => ?_)
  have hf30 := stAt_fr hf20 hF27 (by simp)
  refine WDp (NPt (NPt hN)) 0 19 (.pointer (some ⟨p, 0, none⟩)) (by kernel_rfl) (fun _ => by kernel_rfl) hS29 ?_
  refine WDp (NPt (NPt hN)) 1 20 (.pointer (some ⟨p, 0, none⟩)) (by kernel_rfl) (fun _ => by kernel_rfl) hS29 ?_
  refine WDp (NPt (NPt hN)) 2 21 (.pointer (some ⟨p, 5, none⟩)) (by kernel_rfl) (fun _ => by kernel_rfl) hS29 ?_
  refine WDp (NPt (NPt hN)) 4 23 (.pointer (some ⟨g3, 0, none⟩)) (by kernel_rfl) (fun _ => by kernel_rfl) hS29 ?_
  refine WDl (NPt (NPt hN)) 3 45 (.pointer (some ⟨p, 5, none⟩)) (.pointer (some ⟨sp, 0, none⟩)) 22 (by kernel_rfl) (by kernel_rfl) (fun _ hS_ => run_ld (Fr.has hS_ (hC28.get 0 rfl) (hC28.notin 0 0 rfl rfl)) rfl) hS29 ?_
  refine WD.sem 5 (Instr.loadAt 50 (.pointer (some ⟨g3, 0, none⟩))) 24 (.agg #[.int .i64 rn, .int .i64 rd]) (by kernel_rfl) (by kernel_rfl) (run_ld (hC28.get 1 rfl) rfl) hS29 ?_
  refine WD.call 6 (by kernel_rfl) rfl rfl rfl rfl rfl (by kernel_rfl) (ballotOf_ct rn rd w26) ?_
  rintro _ w34 ⟨v_, rfl, hF33, ho32⟩
  have hC35 := hC28.callN hF33 (own_ge ho32) (own_lt ho32)
  obtain ⟨A36, c37, rfl, hle38⟩ := own_form ho32
  have ho40 := own_base (b' := 0) ho32 (fun _ _ => Nat.zero_le _)
  have hS41 := hS29.trans hF33 (by simp)
  refine ⟨_, rfl, hS41, ?_⟩
  have hf42 := stAt_fr hf30 hF33 (by simp)
  refine WD.new 7 (fun b => .slice (some ⟨b, 0, none⟩) 1 1) (.cells #[.slice A36 ((bytesN [rn, rd]).length) c37] 22) (by kernel_rfl) rfl rfl rfl rfl rfl (fun _ => by kernel_rfl) (fun g45 w46 hb49 hl50 hF47 ho51 => ?_)
  have hC48 := hC35.callB hF47 hb49 ho51
  have hS52 := hS41.trans hF47 (by simp)
  refine ⟨hS52, ?_⟩
  have hf53 := stAt_fr hf42 hF47 (by simp)
  have ho55 := own_fr ho40 hF47 (by simp)
  have hr56 : ∀ r_ ∈ ([(⟨A36, (bytesN [rn, rd]).length, c37, (bytesN [rn, rd])⟩ : BRow)] : List BRow), rowAt w46 r_ := by
   intro r_ hr_; simp only [List.mem_cons, List.not_mem_nil, or_false] at hr_
   rcases hr_ with rfl
   ·
    exact ⟨(own_rd ho55 (Go.Tw.encI_len _) (by decide)), (own_count (Go.Tw.encI_len _) (by decide) ho55), (bytesN_byte _)⟩
  refine WD.call 8 (by kernel_rfl) rfl rfl rfl rfl rfl (by kernel_rfl) (Put_any F sp N Y size kP (some ⟨g45, 0, none⟩) 1 [(⟨A36, (bytesN [rn, rd]).length, c37, (bytesN [rn, rd])⟩ : BRow)] (bytesN [rn, rd]) w46 hf53 (Rd.blk (hC48.get 2 rfl) cellB_len rfl) hr56 (by simp) (cat1 _ _ _ _)) ?_
  rintro _ w58 ⟨F61, rfl, hF57, hT60, hsub62⟩
  have hT60' : stAt w58 F61 sp (putS N size kP (bytesN [rn, rd])) Y size := hT60
  have hC59 := hC48.callF 0 rfl hF57 hsub62 (stAt_lt hT60')
  have hge65 : ∀ x_ ∈ F, x_ ∈ F ∨ w26.heap.size ≤ x_ := fun x_ hx_ => .inl (by simp [hx_])
  have hge64 : ∀ x_ ∈ F61, x_ ∈ F ∨ w26.heap.size ≤ x_ := fun x_ hx_ => (hsub62 x_ hx_).elim (hge65 x_) (fun h_ => .inr (Nat.le_trans hS52.size h_))
  have hS63 := hS52.trans hF57 hge65
  refine ⟨_, rfl, hS63, ?_⟩
  refine WDp (NPt (NPt hN)) 9 9 (errV 35 (putE N size kP (bytesN [rn, rd]).length)) (by kernel_rfl) (fun _ => by kernel_rfl) hS63 ?_
  refine WD.done (by kernel_rfl) ?_
  refine QXn (hK25 _ _ ?_)
  refine WCs (fun K68 hK69 => ?_)
  refine WCg (WLr 1 [(28, errV 35 (putE N size kP (bytesN [rn, rd]).length))] (fun _ => by kernel_rfl) ?_)
  have hr70 : ∀ w_, Sem.run Try.prog (do eqGuard .neq 27 (Operand.tmp 28) (Operand.const (.nilIface)) (errV 35 (putE N size kP (bytesN [rn, rd]).length)) (.nilIface); binOp .neq 27 (errV 35 (putE N size kP (bytesN [rn, rd]).length)) (.nilIface)) w_ = .ok (.bool (!(decide (putE N size kP (bytesN [rn, rd]).length = 0)))) w_ := fun w_ => (err_neq _ (putE N size kP (bytesN [rn, rd]).length) (decide (putE N size kP (bytesN [rn, rd]).length = 0)) (by rfl) _)
  refine WL.sem (do eqGuard .neq 27 (Operand.tmp 28) (Operand.const (.nilIface)) (errV 35 (putE N size kP (bytesN [rn, rd]).length)) (.nilIface); binOp .neq 27 (errV 35 (putE N size kP (bytesN [rn, rd]).length)) (.nilIface)) 29 (.bool (!(decide (putE N size kP (bytesN [rn, rd]).length = 0)))) (by kernel_rfl) (hr70 _) ?_
  refine WLd rfl (QXn (hK69 _ _ ?_))
  refine WC.know 29 (.bool (!(decide (putE N size kP (bytesN [rn, rd]).length = 0)))) (.bool false) rfl (congrArg Value.bool (by rw [bytes2_len, h1]; rfl)) ?_
  refine WCf rfl (WC.skip (QXn (hK23 _ _ ?_)))
  refine WCs (fun K71 hK72 => ?_)
  refine WCs (fun K73 hK74 => ?_)
  refine WCg (WLr 1 [(31, .bool true)] (fun _ => by kernel_rfl) (WLd rfl (QXn (hK74 _ _ ?_))))
  refine WCt rfl ?_
  refine WCs (fun K75 hK76 => ?_)
  refine WC.drawC hC59 F61 (by kernel_rfl) (fun w77 hF78 hC79 hS80 => ?_)
  have hf81 := stAt_fr hT60' hF78 (by simp)
  refine WDp (NPt (NPt hN)) 0 32 (.pointer (some ⟨p, 0, none⟩)) (by kernel_rfl) (fun _ => by kernel_rfl) hS80 ?_
  refine WDp (NPt (NPt hN)) 1 33 (.pointer (some ⟨p, 0, none⟩)) (by kernel_rfl) (fun _ => by kernel_rfl) hS80 ?_
  refine WDp (NPt (NPt hN)) 2 34 (.pointer (some ⟨p, 5, none⟩)) (by kernel_rfl) (fun _ => by kernel_rfl) hS80 ?_
  refine WDp (NPt (NPt hN)) 4 36 (.pointer (some ⟨g3, 2, none⟩)) (by kernel_rfl) (fun _ => by kernel_rfl) hS80 ?_
  refine WDp (NPt (NPt hN)) 7 39 (.pointer (some ⟨g3, 4, none⟩)) (by kernel_rfl) (fun _ => by kernel_rfl) hS80 ?_
  refine WDl (NPt (NPt hN)) 3 45 (.pointer (some ⟨p, 5, none⟩)) (.pointer (some ⟨sp, 0, none⟩)) 35 (by kernel_rfl) (by kernel_rfl) (fun _ hS_ => run_ld (Fr.has hS_ (hC79.get 0 rfl) (hC79.notin 0 0 rfl rfl)) rfl) hS80 ?_
  refine WDl (NPt (NPt hN)) 5 50 (.pointer (some ⟨g3, 2, none⟩)) (.agg #[.int .i64 ra, .int .i64 rb]) 37 (by kernel_rfl) (by kernel_rfl) (fun _ hS_ => run_ld (Fr.has hS_ (hC79.get 1 rfl) (hC79.notin 0 1 rfl rfl)) rfl) hS80 ?_
  refine WDl (NPt (NPt hN)) 8 25 (.pointer (some ⟨g3, 4, none⟩)) (.slice A L.length c) 40 (by kernel_rfl) (by kernel_rfl) (fun _ hS_ => run_ld (Fr.has hS_ (hC79.get 1 rfl) (hC79.notin 0 1 rfl rfl)) rfl) hS80 ?_
  refine WD.call 6 (by kernel_rfl) rfl rfl rfl rfl rfl (by kernel_rfl) (ballotOf_ct ra rb w77) ?_
  rintro _ w86 ⟨v_, rfl, hF85, ho84⟩
  have hC87 := hC79.callN hF85 (own_ge ho84) (own_lt ho84)
  obtain ⟨A88, c89, rfl, hle90⟩ := own_form ho84
  have ho92 := own_base (b' := 0) ho84 (fun _ _ => Nat.zero_le _)
  have hS93 := hS80.trans hF85 (by simp)
  refine ⟨_, rfl, hS93, ?_⟩
  have hf94 := stAt_fr hf81 hF85 (by simp)
  refine WD.call 9 (by kernel_rfl) rfl rfl rfl rfl rfl (by kernel_rfl) (written_n A L.length c L w86 (Rd.frE hr hC87.fr hAF) (by first | rfl | assumption | omega) (fun m_ h_ => cmdAt.fr (hL m_ h_) hC87.fr (hLF m_ h_)) hlim) ?_
  rintro _ w100 ⟨v_, rfl, hF99, ho98⟩
  have hC101 := hC87.callN hF99 (own_ge ho98) (own_lt ho98)
  obtain ⟨A102, c103, rfl, hle104⟩ := own_form ho98
  have ho106 := own_base (b' := 0) ho98 (fun _ _ => Nat.zero_le _)
  have hS107 := hS93.trans hF99 (by simp)
  refine ⟨_, rfl, hS107, ?_⟩
  have hf108 := stAt_fr hf94 hF99 (by simp)
  have ho111 := own_fr ho92 hF99 (by simp)
  refine WD.new 10 (fun b => .slice (some ⟨b, 0, none⟩) 2 2) (.cells #[.slice A88 ((bytesN [ra, rb]).length) c89, .slice A102 ((bytesL (vals L)).length) c103] 22) (by kernel_rfl) rfl rfl rfl rfl rfl (fun _ => by kernel_rfl) (fun g113 w114 hb117 hl118 hF115 ho119 => ?_)
  have hC116 := hC101.callB hF115 hb117 ho119
  have hS120 := hS107.trans hF115 (by simp)
  refine ⟨hS120, ?_⟩
  have hf121 := stAt_fr hf108 hF115 (by simp)
  have ho124 := own_fr ho111 hF115 (by simp)
  have ho125 := own_fr ho106 hF115 (by simp)
  have hr126 : ∀ r_ ∈ ([(⟨A88, (bytesN [ra, rb]).length, c89, (bytesN [ra, rb])⟩ : BRow), (⟨A102, (bytesL (vals L)).length, c103, (bytesL (vals L))⟩ : BRow)] : List BRow), rowAt w114 r_ := by
   intro r_ hr_; simp only [List.mem_cons, List.not_mem_nil, or_false] at hr_
   rcases hr_ with rfl | rfl
   ·
    exact ⟨(own_rd ho124 (Go.Tw.encI_len _) (by decide)), (own_count (Go.Tw.encI_len _) (by decide) ho124), (bytesN_byte _)⟩
   ·
    exact ⟨(own_rd ho125 (Go.Tw.encI_len _) (by decide)), (own_count (Go.Tw.encI_len _) (by decide) ho125), (bytesN_byte _)⟩
  refine WD.call 11 (by kernel_rfl) rfl rfl rfl rfl rfl (by kernel_rfl) (Put_any F61 sp (putS N size kP (bytesN [rn, rd])) Y size kV (some ⟨g113, 0, none⟩) 2 [(⟨A88, (bytesN [ra, rb]).length, c89, (bytesN [ra, rb])⟩ : BRow), (⟨A102, (bytesL (vals L)).length, c103, (bytesL (vals L))⟩ : BRow)] (bytesN [ra, rb] ++ bytesL (vals L)) w114 hf121 (Rd.blk (hC116.get 3 rfl) cellB_len rfl) hr126 (by simp) (by rw [cat2])) ?_
  rintro _ w128 ⟨F131, rfl, hF127, hT130, hsub132⟩
  have hT130' : stAt w128 F131 sp (putS (putS N size kP (bytesN [rn, rd])) size kV (bytesN [ra, rb] ++ bytesL (vals L))) Y size := hT130
  have hC129 := hC116.callF 0 rfl hF127 hsub132 (stAt_lt hT130')
  have hge135 : ∀ x_ ∈ F61, x_ ∈ F61 ∨ w77.heap.size ≤ x_ := fun x_ hx_ => .inl (by simp [hx_])
  have hge134 : ∀ x_ ∈ F131, x_ ∈ F61 ∨ w77.heap.size ≤ x_ := fun x_ hx_ => (hsub132 x_ hx_).elim (hge135 x_) (fun h_ => .inr (Nat.le_trans hS120.size h_))
  have hS133 := hS120.trans hF127 hge135
  refine ⟨_, rfl, hS133, ?_⟩
  refine WDp (NPt (NPt hN)) 12 10 (errV 35 (putE (putS N size kP (bytesN [rn, rd])) size kV (bytesN [ra, rb] ++ bytesL (vals L)).length)) (by kernel_rfl) (fun _ => by kernel_rfl) hS133 ?_
  refine WD.done (by kernel_rfl) ?_
  refine QXn (hK76 _ _ ?_)
  refine WCs (fun K140 hK141 => ?_)
  refine WCg (WLr 1 [(44, errV 35 (putE (putS N size kP (bytesN [rn, rd])) size kV (bytesN [ra, rb] ++ bytesL (vals L)).length))] (fun _ => by kernel_rfl) ?_)
  have hr142 : ∀ w_, Sem.run Try.prog (do eqGuard .neq 27 (Operand.tmp 44) (Operand.const (.nilIface)) (errV 35 (putE (putS N size kP (bytesN [rn, rd])) size kV (bytesN [ra, rb] ++ bytesL (vals L)).length)) (.nilIface); binOp .neq 27 (errV 35 (putE (putS N size kP (bytesN [rn, rd])) size kV (bytesN [ra, rb] ++ bytesL (vals L)).length)) (.nilIface)) w_ = .ok (.bool (!(decide (putE (putS N size kP (bytesN [rn, rd])) size kV (bytesN [ra, rb] ++ bytesL (vals L)).length = 0)))) w_ := fun w_ => (err_neq _ (putE (putS N size kP (bytesN [rn, rd])) size kV (bytesN [ra, rb] ++ bytesL (vals L)).length) (decide (putE (putS N size kP (bytesN [rn, rd])) size kV (bytesN [ra, rb] ++ bytesL (vals L)).length = 0)) (by rfl) _)
  refine WL.sem (do eqGuard .neq 27 (Operand.tmp 44) (Operand.const (.nilIface)) (errV 35 (putE (putS N size kP (bytesN [rn, rd])) size kV (bytesN [ra, rb] ++ bytesL (vals L)).length)) (.nilIface); binOp .neq 27 (errV 35 (putE (putS N size kP (bytesN [rn, rd])) size kV (bytesN [ra, rb] ++ bytesL (vals L)).length)) (.nilIface)) 45 (.bool (!(decide (putE (putS N size kP (bytesN [rn, rd])) size kV (bytesN [ra, rb] ++ bytesL (vals L)).length = 0)))) (by kernel_rfl) (hr142 _) ?_
  refine WLd rfl (QXn (hK141 _ _ ?_))
  refine WC.know 45 (.bool (!(decide (putE (putS N size kP (bytesN [rn, rd])) size kV (bytesN [ra, rb] ++ bytesL (vals L)).length = 0)))) (.bool false) rfl (congrArg Value.bool (by rw [show putS N size kP (bytesN [rn, rd]) = putL N kP (bytesN [rn, rd]) from by unfold putS; rw [bytes2_len, h1, if_pos rfl], h2]; rfl)) ?_
  refine WCf rfl (WC.skip (QXn (hK72 _ _ ?_)))
  refine WCs (fun K143 hK144 => ?_)
  refine WCg (WLr 3 [(67, .pointer (some ⟨p, 5, none⟩)), (66, .pointer (some ⟨p, 0, none⟩)), (65, .pointer (some ⟨p, 0, none⟩))] (fun _ => by kernel_rfl) ?_)
  refine WL.load 45 (.pointer (some ⟨p, 5, none⟩)) (.pointer (some ⟨sp, 0, none⟩)) 68 (by kernel_rfl) (run_ld (hC129.get 0 rfl) rfl) ?_
  refine WLc rfl rfl rfl rfl rfl (by kernel_rfl) (Sync_ct F131 sp (putS (putS N size kP (bytesN [rn, rd])) size kV (bytesN [ra, rb] ++ bytesL (vals L))) Y size w128 hT130') ?_
  rintro _ w146 ⟨F149, rfl, hF145, hT148, hsub150⟩
  have hT148' : stAt w146 F149 sp (putS (putS N size kP (bytesN [rn, rd])) size kV (bytesN [ra, rb] ++ bytesL (vals L))) (putS (putS N size kP (bytesN [rn, rd])) size kV (bytesN [ra, rb] ++ bytesL (vals L))) size := hT148
  have hC147 := hC129.callF 0 rfl hF145 hsub150 (stAt_lt hT148')
  refine ⟨_, rfl, ?_⟩
  refine WLd rfl (QXn (hK144 _ _ ?_))
  refine WCs (fun K155 hK156 => ?_)
  refine WCg (WLr 1 [(70, .pointer (some ⟨p, 0, none⟩))] (fun _ => by kernel_rfl) ?_)
  refine WL.load 110 (.pointer (some ⟨g3, 0, none⟩)) (.agg #[.int .i64 rn, .int .i64 rd, .int .i64 ra, .int .i64 rb, .slice A L.length c]) 71 (by kernel_rfl) (run_ld (hC147.get 1 rfl) rfl) ?_
  refine WLr 2 [(73, .pointer (some ⟨p, 0, none⟩)), (72, .pointer (some ⟨p, 0, none⟩))] (fun _ => by kernel_rfl) ?_
  refine WLs (c' := #[.int .i64 rn, .int .i64 rd, .int .i64 ra, .int .i64 rb, .slice A L.length c, .pointer (some ⟨sp, 0, none⟩), .int .i64 nd]) hC147 0 110 p 0 (.agg #[.int .i64 rn, .int .i64 rd, .int .i64 ra, .int .i64 rb, .slice A L.length c]) (by kernel_rfl) rfl (by kernel_rfl) (fun w157 hF159 hC160 => ?_)
  have hf161 := stAt_fr hT148' hF159 (hC147.apartM 0 0 rfl rfl)
  refine WLd rfl (QXn (hK156 _ _ ?_))
  refine WCs (fun K166 hK167 => ?_)
  refine WCg (WLr 1 [(6, .nilIface)] (fun _ => by kernel_rfl) (WLd rfl (QXn (hK167 _ _ ?_))))
  refine WC.ret ?_
  refine (hret _ _ _ rfl ?_).1
  clear hN hret hret' hK167 hK156 hK144 hK141 hK76 hK74 hK72 hK69 hK25 hK23 hK10 hK2
  have hn1_ : putS N size kP (bytesN [rn, rd]) = putL N kP (bytesN [rn, rd]) := by unfold putS; rw [bytes2_len, h1, if_pos rfl]
  have hn2_ : putS (putL N kP (bytesN [rn, rd])) size kV (bytesN [ra, rb] ++ bytesL (vals L)) = putL (putL N kP (bytesN [rn, rd])) kV (bytesN [ra, rb] ++ bytesL (vals L)) := by unfold putS; rw [h2, if_pos rfl]
  exact ⟨F149, rfl, hC160.fr, by have h_ := hf161; rw [hn1_, hn2_] at h_; exact h_, (fun x_ h_ => (hC160.ownF _ (List.mem_of_getElem? (show _[0]? = some F149 from rfl)) x_ h_).elim (fun h2_ => (List.mem_cons.1 h2_).elim (fun e_ => absurd (e_ ▸ h_) (hC160.notin 0 0 rfl rfl)) .inl) .inr), hC160.notin 0 0 rfl rfl, hC160.get 0 rfl⟩
 ·
  have hxl_ := used_del hlk_
  have hob_ := rowBytes ht hlk_
  refine WLc rfl rfl rfl rfl rfl (by kernel_rfl) (Get_yes F sp N Y size kP old_ w4 hf8 (hlk_)) ?_
  rintro _ w170 ⟨v_, rfl, hF169, ho168⟩
  have hC171 := hC6.callN hF169 (own_ge ho168) (own_lt ho168)
  obtain ⟨A172, c173, rfl, hle174⟩ := own_form ho168
  have ho176 := own_base (b' := 0) ho168 (fun _ _ => Nat.zero_le _)
  refine ⟨_, rfl, ?_⟩
  have hf177 := stAt_fr hf8 hF169 (by simp)
  refine WLr 5 [(8, .nilIface), (7, .slice A172 old_.length c173), (18, .nilIface), (17, .slice A172 old_.length c173), (11, .tuple #[.slice A172 old_.length c173, .nilIface])] (fun _ => by kernel_rfl) (WLd rfl (QXn (hK10 _ _ ?_)))
  refine WCs (fun K179 hK180 => ?_)
  refine WCs (fun K181 hK182 => ?_)
  refine WC.drawC hC171 F (by kernel_rfl) (fun w183 hF184 hC185 hS186 => ?_)
  have hf187 := stAt_fr hf177 hF184 (by simp)
  refine WDp (NPt (NPt hN)) 0 19 (.pointer (some ⟨p, 0, none⟩)) (by kernel_rfl) (fun _ => by kernel_rfl) hS186 ?_
  refine WDp (NPt (NPt hN)) 1 20 (.pointer (some ⟨p, 0, none⟩)) (by kernel_rfl) (fun _ => by kernel_rfl) hS186 ?_
  refine WDp (NPt (NPt hN)) 2 21 (.pointer (some ⟨p, 5, none⟩)) (by kernel_rfl) (fun _ => by kernel_rfl) hS186 ?_
  refine WDp (NPt (NPt hN)) 4 23 (.pointer (some ⟨g3, 0, none⟩)) (by kernel_rfl) (fun _ => by kernel_rfl) hS186 ?_
  refine WDl (NPt (NPt hN)) 3 45 (.pointer (some ⟨p, 5, none⟩)) (.pointer (some ⟨sp, 0, none⟩)) 22 (by kernel_rfl) (by kernel_rfl) (fun _ hS_ => run_ld (Fr.has hS_ (hC185.get 0 rfl) (hC185.notin 0 0 rfl rfl)) rfl) hS186 ?_
  refine WD.sem 5 (Instr.loadAt 50 (.pointer (some ⟨g3, 0, none⟩))) 24 (.agg #[.int .i64 rn, .int .i64 rd]) (by kernel_rfl) (by kernel_rfl) (run_ld (hC185.get 1 rfl) rfl) hS186 ?_
  refine WD.call 6 (by kernel_rfl) rfl rfl rfl rfl rfl (by kernel_rfl) (ballotOf_ct rn rd w183) ?_
  rintro _ w191 ⟨v_, rfl, hF190, ho189⟩
  have hC192 := hC185.callN hF190 (own_ge ho189) (own_lt ho189)
  obtain ⟨A193, c194, rfl, hle195⟩ := own_form ho189
  have ho197 := own_base (b' := 0) ho189 (fun _ _ => Nat.zero_le _)
  have hS198 := hS186.trans hF190 (by simp)
  refine ⟨_, rfl, hS198, ?_⟩
  have hf199 := stAt_fr hf187 hF190 (by simp)
  refine WD.new 7 (fun b => .slice (some ⟨b, 0, none⟩) 1 1) (.cells #[.slice A193 ((bytesN [rn, rd]).length) c194] 22) (by kernel_rfl) rfl rfl rfl rfl rfl (fun _ => by kernel_rfl) (fun g202 w203 hb206 hl207 hF204 ho208 => ?_)
  have hC205 := hC192.callB hF204 hb206 ho208
  have hS209 := hS198.trans hF204 (by simp)
  refine ⟨hS209, ?_⟩
  have hf210 := stAt_fr hf199 hF204 (by simp)
  have ho212 := own_fr ho197 hF204 (by simp)
  have hr213 : ∀ r_ ∈ ([(⟨A193, (bytesN [rn, rd]).length, c194, (bytesN [rn, rd])⟩ : BRow)] : List BRow), rowAt w203 r_ := by
   intro r_ hr_; simp only [List.mem_cons, List.not_mem_nil, or_false] at hr_
   rcases hr_ with rfl
   ·
    exact ⟨(own_rd ho212 (Go.Tw.encI_len _) (by decide)), (own_count (Go.Tw.encI_len _) (by decide) ho212), (bytesN_byte _)⟩
  refine WD.call 8 (by kernel_rfl) rfl rfl rfl rfl rfl (by kernel_rfl) (Put_any F sp N Y size kP (some ⟨g202, 0, none⟩) 1 [(⟨A193, (bytesN [rn, rd]).length, c194, (bytesN [rn, rd])⟩ : BRow)] (bytesN [rn, rd]) w203 hf210 (Rd.blk (hC205.get 2 rfl) cellB_len rfl) hr213 (by simp) (cat1 _ _ _ _)) ?_
  rintro _ w215 ⟨F218, rfl, hF214, hT217, hsub219⟩
  have hT217' : stAt w215 F218 sp (putS N size kP (bytesN [rn, rd])) Y size := hT217
  have hC216 := hC205.callF 0 rfl hF214 hsub219 (stAt_lt hT217')
  have hge222 : ∀ x_ ∈ F, x_ ∈ F ∨ w183.heap.size ≤ x_ := fun x_ hx_ => .inl (by simp [hx_])
  have hge221 : ∀ x_ ∈ F218, x_ ∈ F ∨ w183.heap.size ≤ x_ := fun x_ hx_ => (hsub219 x_ hx_).elim (hge222 x_) (fun h_ => .inr (Nat.le_trans hS209.size h_))
  have hS220 := hS209.trans hF214 hge222
  refine ⟨_, rfl, hS220, ?_⟩
  refine WDp (NPt (NPt hN)) 9 9 (errV 35 (putE N size kP (bytesN [rn, rd]).length)) (by kernel_rfl) (fun _ => by kernel_rfl) hS220 ?_
  refine WD.done (by kernel_rfl) ?_
  refine QXn (hK182 _ _ ?_)
  refine WCs (fun K225 hK226 => ?_)
  refine WCg (WLr 1 [(28, errV 35 (putE N size kP (bytesN [rn, rd]).length))] (fun _ => by kernel_rfl) ?_)
  have hr227 : ∀ w_, Sem.run Try.prog (do eqGuard .neq 27 (Operand.tmp 28) (Operand.const (.nilIface)) (errV 35 (putE N size kP (bytesN [rn, rd]).length)) (.nilIface); binOp .neq 27 (errV 35 (putE N size kP (bytesN [rn, rd]).length)) (.nilIface)) w_ = .ok (.bool (!(decide (putE N size kP (bytesN [rn, rd]).length = 0)))) w_ := fun w_ => (err_neq _ (putE N size kP (bytesN [rn, rd]).length) (decide (putE N size kP (bytesN [rn, rd]).length = 0)) (by rfl) _)
  refine WL.sem (do eqGuard .neq 27 (Operand.tmp 28) (Operand.const (.nilIface)) (errV 35 (putE N size kP (bytesN [rn, rd]).length)) (.nilIface); binOp .neq 27 (errV 35 (putE N size kP (bytesN [rn, rd]).length)) (.nilIface)) 29 (.bool (!(decide (putE N size kP (bytesN [rn, rd]).length = 0)))) (by kernel_rfl) (hr227 _) ?_
  refine WLd rfl (QXn (hK226 _ _ ?_))
  refine WC.know 29 (.bool (!(decide (putE N size kP (bytesN [rn, rd]).length = 0)))) (.bool false) rfl (congrArg Value.bool (by rw [bytes2_len, h1]; rfl)) ?_
  refine WCf rfl (WC.skip (QXn (hK180 _ _ ?_)))
  refine WCs (fun K228 hK229 => ?_)
  refine WCs (fun K230 hK231 => ?_)
  refine WCg (WLr 1 [(31, .bool true)] (fun _ => by kernel_rfl) (WLd rfl (QXn (hK231 _ _ ?_))))
  refine WCt rfl ?_
  refine WCs (fun K232 hK233 => ?_)
  refine WC.drawC hC216 F218 (by kernel_rfl) (fun w234 hF235 hC236 hS237 => ?_)
  have hf238 := stAt_fr hT217' hF235 (by simp)
  refine WDp (NPt (NPt hN)) 0 32 (.pointer (some ⟨p, 0, none⟩)) (by kernel_rfl) (fun _ => by kernel_rfl) hS237 ?_
  refine WDp (NPt (NPt hN)) 1 33 (.pointer (some ⟨p, 0, none⟩)) (by kernel_rfl) (fun _ => by kernel_rfl) hS237 ?_
  refine WDp (NPt (NPt hN)) 2 34 (.pointer (some ⟨p, 5, none⟩)) (by kernel_rfl) (fun _ => by kernel_rfl) hS237 ?_
  refine WDp (NPt (NPt hN)) 4 36 (.pointer (some ⟨g3, 2, none⟩)) (by kernel_rfl) (fun _ => by kernel_rfl) hS237 ?_
  refine WDp (NPt (NPt hN)) 7 39 (.pointer (some ⟨g3, 4, none⟩)) (by kernel_rfl) (fun _ => by kernel_rfl) hS237 ?_
  refine WDl (NPt (NPt hN)) 3 45 (.pointer (some ⟨p, 5, none⟩)) (.pointer (some ⟨sp, 0, none⟩)) 35 (by kernel_rfl) (by kernel_rfl) (fun _ hS_ => run_ld (Fr.has hS_ (hC236.get 0 rfl) (hC236.notin 0 0 rfl rfl)) rfl) hS237 ?_
  refine WDl (NPt (NPt hN)) 5 50 (.pointer (some ⟨g3, 2, none⟩)) (.agg #[.int .i64 ra, .int .i64 rb]) 37 (by kernel_rfl) (by kernel_rfl) (fun _ hS_ => run_ld (Fr.has hS_ (hC236.get 1 rfl) (hC236.notin 0 1 rfl rfl)) rfl) hS237 ?_
  refine WDl (NPt (NPt hN)) 8 25 (.pointer (some ⟨g3, 4, none⟩)) (.slice A L.length c) 40 (by kernel_rfl) (by kernel_rfl) (fun _ hS_ => run_ld (Fr.has hS_ (hC236.get 1 rfl) (hC236.notin 0 1 rfl rfl)) rfl) hS237 ?_
  refine WD.call 6 (by kernel_rfl) rfl rfl rfl rfl rfl (by kernel_rfl) (ballotOf_ct ra rb w234) ?_
  rintro _ w243 ⟨v_, rfl, hF242, ho241⟩
  have hC244 := hC236.callN hF242 (own_ge ho241) (own_lt ho241)
  obtain ⟨A245, c246, rfl, hle247⟩ := own_form ho241
  have ho249 := own_base (b' := 0) ho241 (fun _ _ => Nat.zero_le _)
  have hS250 := hS237.trans hF242 (by simp)
  refine ⟨_, rfl, hS250, ?_⟩
  have hf251 := stAt_fr hf238 hF242 (by simp)
  refine WD.call 9 (by kernel_rfl) rfl rfl rfl rfl rfl (by kernel_rfl) (written_n A L.length c L w243 (Rd.frE hr hC244.fr hAF) (by first | rfl | assumption | omega) (fun m_ h_ => cmdAt.fr (hL m_ h_) hC244.fr (hLF m_ h_)) hlim) ?_
  rintro _ w257 ⟨v_, rfl, hF256, ho255⟩
  have hC258 := hC244.callN hF256 (own_ge ho255) (own_lt ho255)
  obtain ⟨A259, c260, rfl, hle261⟩ := own_form ho255
  have ho263 := own_base (b' := 0) ho255 (fun _ _ => Nat.zero_le _)
  have hS264 := hS250.trans hF256 (by simp)
  refine ⟨_, rfl, hS264, ?_⟩
  have hf265 := stAt_fr hf251 hF256 (by simp)
  have ho268 := own_fr ho249 hF256 (by simp)
  refine WD.new 10 (fun b => .slice (some ⟨b, 0, none⟩) 2 2) (.cells #[.slice A245 ((bytesN [ra, rb]).length) c246, .slice A259 ((bytesL (vals L)).length) c260] 22) (by kernel_rfl) rfl rfl rfl rfl rfl (fun _ => by kernel_rfl) (fun g270 w271 hb274 hl275 hF272 ho276 => ?_)
  have hC273 := hC258.callB hF272 hb274 ho276
  have hS277 := hS264.trans hF272 (by simp)
  refine ⟨hS277, ?_⟩
  have hf278 := stAt_fr hf265 hF272 (by simp)
  have ho281 := own_fr ho268 hF272 (by simp)
  have ho282 := own_fr ho263 hF272 (by simp)
  have hr283 : ∀ r_ ∈ ([(⟨A245, (bytesN [ra, rb]).length, c246, (bytesN [ra, rb])⟩ : BRow), (⟨A259, (bytesL (vals L)).length, c260, (bytesL (vals L))⟩ : BRow)] : List BRow), rowAt w271 r_ := by
   intro r_ hr_; simp only [List.mem_cons, List.not_mem_nil, or_false] at hr_
   rcases hr_ with rfl | rfl
   ·
    exact ⟨(own_rd ho281 (Go.Tw.encI_len _) (by decide)), (own_count (Go.Tw.encI_len _) (by decide) ho281), (bytesN_byte _)⟩
   ·
    exact ⟨(own_rd ho282 (Go.Tw.encI_len _) (by decide)), (own_count (Go.Tw.encI_len _) (by decide) ho282), (bytesN_byte _)⟩
  refine WD.call 11 (by kernel_rfl) rfl rfl rfl rfl rfl (by kernel_rfl) (Put_any F218 sp (putS N size kP (bytesN [rn, rd])) Y size kV (some ⟨g270, 0, none⟩) 2 [(⟨A245, (bytesN [ra, rb]).length, c246, (bytesN [ra, rb])⟩ : BRow), (⟨A259, (bytesL (vals L)).length, c260, (bytesL (vals L))⟩ : BRow)] (bytesN [ra, rb] ++ bytesL (vals L)) w271 hf278 (Rd.blk (hC273.get 3 rfl) cellB_len rfl) hr283 (by simp) (by rw [cat2])) ?_
  rintro _ w285 ⟨F288, rfl, hF284, hT287, hsub289⟩
  have hT287' : stAt w285 F288 sp (putS (putS N size kP (bytesN [rn, rd])) size kV (bytesN [ra, rb] ++ bytesL (vals L))) Y size := hT287
  have hC286 := hC273.callF 0 rfl hF284 hsub289 (stAt_lt hT287')
  have hge292 : ∀ x_ ∈ F218, x_ ∈ F218 ∨ w234.heap.size ≤ x_ := fun x_ hx_ => .inl (by simp [hx_])
  have hge291 : ∀ x_ ∈ F288, x_ ∈ F218 ∨ w234.heap.size ≤ x_ := fun x_ hx_ => (hsub289 x_ hx_).elim (hge292 x_) (fun h_ => .inr (Nat.le_trans hS277.size h_))
  have hS290 := hS277.trans hF284 hge292
  refine ⟨_, rfl, hS290, ?_⟩
  refine WDp (NPt (NPt hN)) 12 10 (errV 35 (putE (putS N size kP (bytesN [rn, rd])) size kV (bytesN [ra, rb] ++ bytesL (vals L)).length)) (by kernel_rfl) (fun _ => by kernel_rfl) hS290 ?_
  refine WD.done (by kernel_rfl) ?_
  refine QXn (hK233 _ _ ?_)
  refine WCs (fun K297 hK298 => ?_)
  refine WCg (WLr 1 [(44, errV 35 (putE (putS N size kP (bytesN [rn, rd])) size kV (bytesN [ra, rb] ++ bytesL (vals L)).length))] (fun _ => by kernel_rfl) ?_)
  have hr299 : ∀ w_, Sem.run Try.prog (do eqGuard .neq 27 (Operand.tmp 44) (Operand.const (.nilIface)) (errV 35 (putE (putS N size kP (bytesN [rn, rd])) size kV (bytesN [ra, rb] ++ bytesL (vals L)).length)) (.nilIface); binOp .neq 27 (errV 35 (putE (putS N size kP (bytesN [rn, rd])) size kV (bytesN [ra, rb] ++ bytesL (vals L)).length)) (.nilIface)) w_ = .ok (.bool (!(decide (putE (putS N size kP (bytesN [rn, rd])) size kV (bytesN [ra, rb] ++ bytesL (vals L)).length = 0)))) w_ := fun w_ => (err_neq _ (putE (putS N size kP (bytesN [rn, rd])) size kV (bytesN [ra, rb] ++ bytesL (vals L)).length) (decide (putE (putS N size kP (bytesN [rn, rd])) size kV (bytesN [ra, rb] ++ bytesL (vals L)).length = 0)) (by rfl) _)
  refine WL.sem (do eqGuard .neq 27 (Operand.tmp 44) (Operand.const (.nilIface)) (errV 35 (putE (putS N size kP (bytesN [rn, rd])) size kV (bytesN [ra, rb] ++ bytesL (vals L)).length)) (.nilIface); binOp .neq 27 (errV 35 (putE (putS N size kP (bytesN [rn, rd])) size kV (bytesN [ra, rb] ++ bytesL (vals L)).length)) (.nilIface)) 45 (.bool (!(decide (putE (putS N size kP (bytesN [rn, rd])) size kV (bytesN [ra, rb] ++ bytesL (vals L)).length = 0)))) (by kernel_rfl) (hr299 _) ?_
  refine WLd rfl (QXn (hK298 _ _ ?_))
  refine WC.know 45 (.bool (!(decide (putE (putS N size kP (bytesN [rn, rd])) size kV (bytesN [ra, rb] ++ bytesL (vals L)).length = 0)))) (.bool false) rfl (congrArg Value.bool (by rw [show putS N size kP (bytesN [rn, rd]) = putL N kP (bytesN [rn, rd]) from by unfold putS; rw [bytes2_len, h1, if_pos rfl], h2]; rfl)) ?_
  refine WCf rfl (WC.skip (QXn (hK229 _ _ ?_)))
  refine WCs (fun K300 hK301 => ?_)
  refine WCg (WLr 3 [(67, .pointer (some ⟨p, 5, none⟩)), (66, .pointer (some ⟨p, 0, none⟩)), (65, .pointer (some ⟨p, 0, none⟩))] (fun _ => by kernel_rfl) ?_)
  refine WL.load 45 (.pointer (some ⟨p, 5, none⟩)) (.pointer (some ⟨sp, 0, none⟩)) 68 (by kernel_rfl) (run_ld (hC286.get 0 rfl) rfl) ?_
  refine WLc rfl rfl rfl rfl rfl (by kernel_rfl) (Sync_ct F288 sp (putS (putS N size kP (bytesN [rn, rd])) size kV (bytesN [ra, rb] ++ bytesL (vals L))) Y size w285 hT287') ?_
  rintro _ w303 ⟨F306, rfl, hF302, hT305, hsub307⟩
  have hT305' : stAt w303 F306 sp (putS (putS N size kP (bytesN [rn, rd])) size kV (bytesN [ra, rb] ++ bytesL (vals L))) (putS (putS N size kP (bytesN [rn, rd])) size kV (bytesN [ra, rb] ++ bytesL (vals L))) size := hT305
  have hC304 := hC286.callF 0 rfl hF302 hsub307 (stAt_lt hT305')
  refine ⟨_, rfl, ?_⟩
  refine WLd rfl (QXn (hK301 _ _ ?_))
  refine WCs (fun K312 hK313 => ?_)
  refine WCg (WLr 1 [(70, .pointer (some ⟨p, 0, none⟩))] (fun _ => by kernel_rfl) ?_)
  refine WL.load 110 (.pointer (some ⟨g3, 0, none⟩)) (.agg #[.int .i64 rn, .int .i64 rd, .int .i64 ra, .int .i64 rb, .slice A L.length c]) 71 (by kernel_rfl) (run_ld (hC304.get 1 rfl) rfl) ?_
  refine WLr 2 [(73, .pointer (some ⟨p, 0, none⟩)), (72, .pointer (some ⟨p, 0, none⟩))] (fun _ => by kernel_rfl) ?_
  refine WLs (c' := #[.int .i64 rn, .int .i64 rd, .int .i64 ra, .int .i64 rb, .slice A L.length c, .pointer (some ⟨sp, 0, none⟩), .int .i64 nd]) hC304 0 110 p 0 (.agg #[.int .i64 rn, .int .i64 rd, .int .i64 ra, .int .i64 rb, .slice A L.length c]) (by kernel_rfl) rfl (by kernel_rfl) (fun w314 hF316 hC317 => ?_)
  have hf318 := stAt_fr hT305' hF316 (hC304.apartM 0 0 rfl rfl)
  refine WLd rfl (QXn (hK313 _ _ ?_))
  refine WCs (fun K323 hK324 => ?_)
  refine WCg (WLr 1 [(6, .nilIface)] (fun _ => by kernel_rfl) (WLd rfl (QXn (hK324 _ _ ?_))))
  refine WC.ret ?_
  refine (hret _ _ _ rfl ?_).1
  clear hN hret hret' hK324 hK313 hK301 hK298 hK233 hK231 hK229 hK226 hK182 hK180 hK10 hK2
  have hn1_ : putS N size kP (bytesN [rn, rd]) = putL N kP (bytesN [rn, rd]) := by unfold putS; rw [bytes2_len, h1, if_pos rfl]
  have hn2_ : putS (putL N kP (bytesN [rn, rd])) size kV (bytesN [ra, rb] ++ bytesL (vals L)) = putL (putL N kP (bytesN [rn, rd])) kV (bytesN [ra, rb] ++ bytesL (vals L)) := by unfold putS; rw [h2, if_pos rfl]
  exact ⟨F306, rfl, hC317.fr, by have h_ := hf318; rw [hn1_, hn2_] at h_; exact h_, (fun x_ h_ => (hC317.ownF _ (List.mem_of_getElem? (show _[0]? = some F306 from rfl)) x_ h_).elim (fun h2_ => (List.mem_cons.1 h2_).elim (fun e_ => absurd (e_ ▸ h_) (hC317.notin 0 0 rfl rfl)) .inl) .inr), hC317.notin 0 0 rfl rfl, hC317.get 0 rfl⟩

end Go.Proofs.Ytjacpjdikhlcoaa
