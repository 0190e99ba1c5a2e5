/- Contracts of functions of the program, each proved by a walk through its code; conditions stand in the statements. -/
import Derived.Test.YtjacpjdikhlcoaaVtC14
namespace Go.Proofs.Ytjacpjdikhlcoaa
set_option linter.unusedSimpArgs false
set_option linter.unusedVariables false
set_option linter.unusedSectionVars false
open Go Go.RowKit Go.Tw
set_option linter.unusedVariables false
set_option maxRecDepth 20000
theorem CheckLog_n (A : Option Addr) (n c : Nat) (L : List Cmd) (w : World) (hr : Rd w 12 cellsC A L) (hn : L.length = n) (hL : ∀ m ∈ L, cmdAt w m) : Calls Try.prog 29 #[.slice A n c] w fun e w' => e = .returned (errV 35 (if goodL (vals L) then 0 else 9)) ∧ Fr w w' [] := by subst hn; exact CheckLog_ct A c L w hr hL
theorem Write_ct (A : Option Addr) (c : Nat) (L : List Cmd) (w : World) (hr : Rd w 12 cellsC A L) (hL : ∀ m ∈ L, cmdAt w m) (hlim : totE L ≤ 1099511627776) : Calls Try.prog 17 #[.slice A L.length c] w fun e w' => ∃ v, e = .returned (.tuple #[v, errV 35 (if goodL (vals L) then 0 else 9)]) ∧ Fr w w' [] ∧ w'.ownsRow w.heap.size 5 1 v (if goodL (vals L) then bytesL (vals L) else []).length ((if goodL (vals L) then bytesL (vals L) else []).flatMap (Go.Tw.encI .u8)) := by
 refine enterD (n := 12) Try.func17 rfl rfl (Nat.le_of_ble_eq_true rfl) ?_
 intro Q0 hN hret hret'
 have hC := Cx.start w
 refine WCs (fun K1 hK2 => ?_)
 refine WCg (WLr 2 [(3, .nilIface), (2, .slice none 0 0)] (fun _ => by kernel_rfl) (WLd rfl (QXn (hK2 _ _ ?_))))
 refine WCs (fun K3 hK4 => ?_)
 refine WCs (fun K5 hK6 => ?_)
 refine WCg (WLr 1 [(5, .slice A L.length c)] (fun _ => by kernel_rfl) ?_)
 refine WLc rfl rfl rfl rfl rfl (by kernel_rfl) (CheckLog_n A L.length c L w (Rd.fr hr hC.fr) (by first | rfl | assumption | omega) (fun m_ h_ => cmdAt.fr0 (hL m_ h_) hC.fr)) ?_
 rintro _ w8 ⟨rfl, hF7⟩
 refine ⟨_, rfl, ?_⟩
 have hC9 := hC.call hF7
 refine WLr 1 [(4, errV 35 (if goodL (vals L) then 0 else 9))] (fun _ => by kernel_rfl) (WLd rfl (QXn (hK6 _ _ ?_)))
 refine WCs (fun K10 hK11 => ?_)
 refine WCg (WLr 1 [(7, errV 35 (if goodL (vals L) then 0 else 9))] (fun _ => by kernel_rfl) ?_)
 have hr12 : ∀ w_, Sem.run Try.prog (do eqGuard .neq 27 (Operand.tmp 7) (Operand.const (.nilIface)) (errV 35 (if goodL (vals L) then 0 else 9)) (.nilIface); binOp .neq 27 (errV 35 (if goodL (vals L) then 0 else 9)) (.nilIface)) w_ = .ok (.bool (!(goodL (vals L)))) w_ := fun w_ => (err_neq _ (if goodL (vals L) then 0 else 9) (goodL (vals L)) (by cases goodL (vals L) <;> rfl) _)
 refine WL.sem (do eqGuard .neq 27 (Operand.tmp 7) (Operand.const (.nilIface)) (errV 35 (if goodL (vals L) then 0 else 9)) (.nilIface); binOp .neq 27 (errV 35 (if goodL (vals L) then 0 else 9)) (.nilIface)) 8 (.bool (!(goodL (vals L)))) (by kernel_rfl) (hr12 _) ?_
 refine WLd rfl (QXn (hK11 _ _ ?_))
 refine WCa 8 (!(goodL (vals L))) rfl (fun t13b => ?_) (fun t13b => ?_)
 ·
  have t13 : (goodL (vals L)) = false := by first | (simpa only [Bool.not_eq_true', Bool.not_eq_false'] using t13b) | simpa using t13b
  refine WCt rfl ?_
  refine WCs (fun K14 hK15 => ?_)
  refine WCg (WLr 3 [(3, errV 35 (if goodL (vals L) then 0 else 9)), (2, .slice none 0 0), (9, errV 35 (if goodL (vals L) then 0 else 9))] (fun _ => by kernel_rfl) (WLd rfl (QXn (hK15 _ _ ?_))))
  refine WC.ret ?_
  refine QXr ?_
  refine (hret _ _ _ rfl ?_).1
  clear hN hret hret' hK15 hK11 hK6 hK4 hK2
  have hg_ : goodL (vals L) = false := t13
  rw [hg_]
  exact ⟨_, rfl, hC9.fr, own_nil _ _ _ _⟩
 ·
  have t13 : (goodL (vals L)) = true := by first | (simpa only [Bool.not_eq_true', Bool.not_eq_false'] using t13b) | simpa using t13b
  refine WCf rfl (WC.skip (QXn (hK4 _ _ ?_)))
  refine WCs (fun K16 hK17 => ?_)
  refine WCg (WLr 1 [(10, .slice A L.length c)] (fun _ => by kernel_rfl) ?_)
  refine WLc rfl rfl rfl rfl rfl (by kernel_rfl) (written_n A L.length c L w8 (Rd.fr hr hC9.fr) (by first | rfl | assumption | omega) (fun m_ h_ => cmdAt.fr0 (hL m_ h_) hC9.fr) hlim) ?_
  rintro _ w20 ⟨v_, rfl, hF19, ho18⟩
  have hC21 := hC9.callN hF19 (own_ge ho18) (own_lt ho18)
  obtain ⟨A22, c23, rfl, hle24⟩ := own_form ho18
  have ho26 := own_base (b' := 0) ho18 (fun _ _ => Nat.zero_le _)
  refine ⟨_, rfl, ?_⟩
  refine WLr 2 [(3, .nilIface), (2, .slice A22 ((bytesL (vals L)).length) c23)] (fun _ => by kernel_rfl) (WLd rfl (QXn (hK17 _ _ ?_)))
  refine WC.ret ?_
  refine (hret _ _ _ rfl ?_).1
  clear hN hret hret' hK17 hK11 hK6 hK4 hK2
  have hg_ : goodL (vals L) = true := t13
  rw [hg_, if_pos rfl]
  exact ⟨_, rfl, hC21.fr, own_base ho26 (newF_of hC21 0 rfl (fun _ h_ => nomatch h_) (fun _ h_ => nomatch h_))⟩

theorem Write_n (A : Option Addr) (n c : Nat) (L : List Cmd) (w : World) (hr : Rd w 12 cellsC A L) (hn : L.length = n) (hL : ∀ m ∈ L, cmdAt w m) (hlim : totE L ≤ 1099511627776) : Calls Try.prog 17 #[.slice A n c] w fun e w' => ∃ v, e = .returned (.tuple #[v, errV 35 (if goodL (vals L) then 0 else 9)]) ∧ Fr w w' [] ∧ w'.ownsRow w.heap.size 5 1 v (if goodL (vals L) then bytesL (vals L) else []).length ((if goodL (vals L) then bytesL (vals L) else []).flatMap (Go.Tw.encI .u8)) := by subst hn; exact Write_ct A c L w hr hL hlim
theorem valF_take {bs : List Int} {i : Nat} {b : Int} (h : bs[i]? = some b) : valF 0 (bs.take (i + 1)) = valF 0 (bs.take i) * 256 + b := by
  obtain ⟨hi, rfl⟩ := List.getElem?_eq_some_iff.1 h
  rw [List.take_succ_eq_append_getElem hi, valF_snoc]
theorem slcAt_sub {α : Type} {w : World} {k : Nat} {enc : α → List Value} {xs : List α} {A : Option Addr} {l c sz b off : Nat} (hr : Rd w k enc A xs) (hne : 0 < xs.length) (h : slcAt A l c sz = some ⟨b, off, none⟩) : ∃ o2, A = some ⟨b, o2, none⟩ := by
  obtain ⟨b', o', rfl, _⟩ := hr.at_ 0 _ (List.getElem?_eq_getElem hne)
  unfold slcAt at h
  split at h
  · exact ⟨off, h⟩
  · simp only [Option.map_some, add_at] at h
    cases h
    exact ⟨o', rfl⟩
theorem Rd.frE {α : Type} {w w' : World} {sz : Nat} {enc : α → List Value} {A : Option Addr} {xs : List α} {G : List Nat} (h : Rd w sz enc A xs) (hf : Fr w w' G) (hd : 0 < xs.length → ∀ b off, A = some ⟨b, off, none⟩ → b ∉ G) : Rd w' sz enc A xs := by
  cases xs with
  | nil => exact ⟨fun i y hy => by simp at hy⟩
  | cons a r => exact Rd.frN h hf (hd (by simp))
theorem rd_lt {α : Type} {w : World} {sz : Nat} {enc : α → List Value} {A : Option Addr} {xs : List α} (hr : Rd w sz enc A xs) (hlen : ∀ x, (enc x).length = sz) (h0 : 0 < sz) (hne : 0 < xs.length) {b off : Nat} (e : A = some ⟨b, off, none⟩) : b < w.heap.size := by
  obtain ⟨b', off', e1, e2⟩ := hr.at_ 0 _ (List.getElem?_eq_getElem hne)
  rw [e] at e1
  cases e1
  have := e2 0 _ (List.getElem?_eq_getElem (by rw [hlen]; exact h0))
  unfold World.cell? at this
  cases hh : w.heap[b]? with
  | none => simp [hh] at this
  | some ob => exact (Array.getElem?_eq_some_iff.1 hh).1
theorem resR_pos {bs : List Int} (h : 0 < (resR bs).length) : 0 < bs.length := by
  unfold resR at h; split at h
  · simp at h
  · rw [List.length_drop] at h; omega
theorem resR_short {bs : List Int} (h : bs.length < 8) : resR bs = [] ∧ numR bs = 0 := by unfold resR numR; rw [if_pos h, if_pos h]; exact ⟨rfl, rfl⟩
theorem resR_long {bs : List Int} (h : 8 ≤ bs.length) : resR bs = bs.drop 8 ∧ numR bs = IntKind.i64.wrap (valF 0 (bs.take 8)) := by unfold resR numR; rw [if_neg (by omega), if_neg (by omega)]; exact ⟨rfl, rfl⟩
set_option maxHeartbeats 1000000 in
theorem num_ct (p : Nat) (A : Option Addr) (c : Nat) (bs : List Int) (w : World) (hp : w.heap[p]? = some (.cells #[.slice A bs.length c] 99 (0, 0))) (hr : Rd w 1 (Go.Tw.encI .u8) A bs) (hb : byteL bs) (hlc : bs.length ≤ c) (hcl : c ≤ 9223372036854775807) : Calls Try.prog 41 #[.pointer (some ⟨p, 0, none⟩)] w fun e w' => ∃ (A2 : Option Addr) (c2 : Nat), e = .returned (.int .i64 (numR bs)) ∧ Fr w w' [p] ∧ w'.heap[p]? = some (.cells #[.slice A2 (resR bs).length c2] 99 (0, 0)) ∧ (∀ w0, Rd w0 1 (Go.Tw.encI .u8) A bs → Rd w0 1 (Go.Tw.encI .u8) A2 (resR bs)) ∧ (resR bs).length ≤ c2 ∧ c2 ≤ c ∧ (∀ b off, A2 = some ⟨b, off, none⟩ → ∃ o2, A = some ⟨b, o2, none⟩) := by
 refine enterD (n := 41) Try.func41 rfl rfl (Nat.le_of_ble_eq_true rfl) ?_
 intro Q0 hN hret hret'
 have hC := Cx.startMs w [(p, .cells #[.slice A bs.length c] 99)] (by simp) (by simp [hp])
 refine WCs (fun K1 hK2 => ?_)
 refine WCg (WLr 1 [(2, .int .i64 0)] (fun _ => by kernel_rfl) (WLd rfl (QXn (hK2 _ _ ?_))))
 refine WCs (fun K3 hK4 => ?_)
 refine WCs (fun K5 hK6 => ?_)
 refine WCg (WLr 3 [(8, .pointer (some ⟨p, 0, none⟩)), (7, .pointer (some ⟨p, 0, none⟩)), (6, .pointer (some ⟨p, 0, none⟩))] (fun _ => by kernel_rfl) ?_)
 refine WL.load 22 (.pointer (some ⟨p, 0, none⟩)) (.slice A bs.length c) 9 (by kernel_rfl) (run_ld (hC.get 0 rfl) rfl) ?_
 refine WLr 2 [(11, .bool (decide ((bs.length : Int) < 8))), (10, .int .i64 (bs.length : Int))] (fun _ => by kernel_rfl) (WLd rfl (QXn (hK6 _ _ ?_)))
 refine WCa 11 (decide ((bs.length : Int) < 8)) rfl (fun t7b => ?_) (fun t7b => ?_)
 ·
  have t7 : (bs.length : Int) < 8 := by have q_ := of_decide_eq_true t7b; omega
  refine WCt rfl ?_
  refine WCs (fun K8 hK9 => ?_)
  refine WCg (WLr 3 [(14, .pointer (some ⟨p, 0, none⟩)), (13, .pointer (some ⟨p, 0, none⟩)), (12, .pointer (some ⟨p, 0, none⟩))] (fun _ => by kernel_rfl) ?_)
  refine WLs (c' := #[.slice none 0 0]) hC 0 22 p 0 (.slice none 0 0) (by kernel_rfl) rfl (by kernel_rfl) (fun w10 hF12 hC13 => ?_)
  refine WLd rfl (QXn (hK9 _ _ ?_))
  refine WCs (fun K14 hK15 => ?_)
  refine WCg (WLr 1 [(2, .int .i64 0)] (fun _ => by kernel_rfl) (WLd rfl (QXn (hK15 _ _ ?_))))
  refine WC.ret ?_
  refine QXr ?_
  refine (hret _ _ _ rfl ?_).1
  clear hN hret hret' hK15 hK9 hK6 hK4 hK2
  obtain ⟨hr1_, hr2_⟩ := resR_short (bs := bs) (by omega)
  rw [hr1_, hr2_]
  exact ⟨none, 0, rfl, hC13.fr, hC13.get 0 rfl, (fun w0_ _ => Rd.nil _ _ _ _), Nat.zero_le _, Nat.zero_le _, (fun _ _ h_ => nomatch h_)⟩
 ·
  have t7 : (8 : Int) ≤ (bs.length : Int) := by have q_ := of_decide_eq_false t7b; omega
  refine WCf rfl (WC.skip (QXn (hK4 _ _ ?_)))
  refine WCs (fun K16 hK17 => ?_)
  refine WCg (WLr 1 [(3, .int .u64 0)] (fun _ => by kernel_rfl) (WLd rfl (QXn (hK17 _ _ ?_))))
  refine WCs (fun K18 hK19 => ?_)
  refine WCs (fun K20 hK21 => ?_)
  refine WCg (WLr 3 [(17, .pointer (some ⟨p, 0, none⟩)), (16, .pointer (some ⟨p, 0, none⟩)), (15, .pointer (some ⟨p, 0, none⟩))] (fun _ => by kernel_rfl) ?_)
  refine WL.load 22 (.pointer (some ⟨p, 0, none⟩)) (.slice A bs.length c) 18 (by kernel_rfl) (run_ld (hC.get 0 rfl) rfl) ?_
  have hb22 : 8 ≤ c := by omega
  refine WL.slc 22 5 1 A A bs.length c 0 8 8 c none (some (.int .i64 8)) 19 (by kernel_rfl) (by kernel_rfl) bnd.no (bnd.yes (by omega)) (by omega) hb22 (slcAt_pre _ _ _) (by first | rfl | omega) (by first | rfl | omega) ?_
  refine WLr 2 [(21, .int .i64 0), (20, .int .i64 8)] (fun _ => by kernel_rfl) (WLd rfl (QXn (hK21 _ _ ?_)))
  refine WC.block ?_
  refine WC.loop (fun m_ E_ w_ => ∃ (i : Nat), m_ = 8 - i ∧ E_ = [(0, .pointer (some ⟨p, 0, none⟩)), (3, .int .u64 (valF 0 (bs.take i))), (19, .slice A 8 c), (20, .int .i64 8), (21, .int .i64 (i : Int))] ∧ Cx w [p] w_ [(p, .cells #[.slice A bs.length c] 99)] [] ∧ Fr w w_ [] ∧ (i ≤ 8)) ⟨_, _, ⟨0, rfl, rfl, hC, (Fr.refl w []), Nat.zero_le _⟩, sub_of ⟨rfl, rfl, rfl, rfl, rfl, trivial⟩⟩ (fun m26 E_ w27 K23 hK24 hI25 => ?_)
  obtain ⟨i, rfl, rfl, hC28, fr0_m26, hi⟩ := hI25
  refine WCs (fun K29 hK30 => ?_)
  refine WCg (WLr 1 [(22, .bool (decide ((i : Int) < 8)))] (fun _ => by kernel_rfl) (WLd rfl (QXn (hK30 _ _ ?_))))
  refine WCs (fun K31 hK32 => ?_)
  refine WCa 22 (decide ((i : Int) < 8)) rfl (fun t33b => ?_) (fun t33b => ?_)
  ·
   have t33 : (i : Int) < 8 := by have q_ := of_decide_eq_true t33b; omega
   refine WCt rfl ?_
   refine WC.skip ?_
   refine QXn (hK32 _ _ ?_)
   refine WCs (fun K34 hK35 => ?_)
   refine WC.block ?_
   refine WCs (fun K36 hK37 => ?_)
   refine WCg ?_
   obtain ⟨e38, he39⟩ := get_some (xs := bs) (i := i) (by omega)
   obtain ⟨b40, o42, hA41, hc43⟩ := hr.at_ _ _ he39
   have hby_ := hb _ (List.mem_of_getElem? he39)
   have hvf_ := val_lt56 (xs := bs.take i) (fun x_ hx_ => hb x_ (List.mem_of_mem_take hx_)) (by rw [List.length_take]; omega)
   obtain ⟨hby0_, hby1_⟩ := hby_
   refine WLi A 8 c 23 .i64 (i : Int) b40 o42 i 1 (by kernel_rfl) hA41 (by omega) (by omega) (o42 + i) (by first | (simp; done) | omega) ?_
   refine WL.load 5 (.pointer (some ⟨b40, o42 + i, none⟩)) (.int .u8 e38) 24 (by kernel_rfl) (run_load1 rfl (by simpa [Nat.add_assoc] using fr0_m26.cell (hc43 0 _ rfl) (by simp))) ?_
   refine WLr 1 [(5, .int .u8 e38)] (fun _ => by kernel_rfl) (WLd rfl (QXn (hK37 _ _ ?_)))
   refine WCg (WLr 2 [(26, .int .u64 (IntKind.u64.wrap ((valF 0 (bs.take i)) * 2 ^ 8))), (25, .int .u64 (valF 0 (bs.take i)))] (fun _ => by kernel_rfl) ?_)
   refine WLt (show (.int .u64 (IntKind.u64.wrap ((valF 0 (bs.take i)) * 2 ^ 8)) : Value) = .int .u64 (IntKind.u64.wrap ((valF 0 (bs.take i)) * 2 ^ 8)) from rfl) ?_
   refine WLr 2 [(28, .int .u64 (IntKind.u64.wrap (e38))), (27, .int .u8 e38)] (fun _ => by kernel_rfl) ?_
   refine WLt (show (.int .u64 (IntKind.u64.wrap (e38)) : Value) = .int .u64 e38 from congrArg (Value.int .u64) (by rw [wrap_in_u64 _ (by omega) (by omega)])) ?_
   refine WLr 1 [(29, .int .u64 (Go.bits .or .u64 (IntKind.u64.wrap ((valF 0 (bs.take i)) * 2 ^ 8)) e38))] (fun _ => by kernel_rfl) ?_
   refine WLt (show (.int .u64 (Go.bits .or .u64 (IntKind.u64.wrap ((valF 0 (bs.take i)) * 2 ^ 8)) e38) : Value) = .int .u64 (valF 0 (bs.take (i + 1))) from congrArg (Value.int .u64) (by rw [or_byte hvf_.1 hvf_.2 hby0_ hby1_, ← valF_take he39])) ?_
   refine WLr 1 [(3, .int .u64 (valF 0 (bs.take (i + 1))))] (fun _ => by kernel_rfl) ?_
   refine WLd rfl ?_
   refine QXb ?_
   refine QXn (hK35 _ _ ?_)
   refine WCg (WLr 1 [(30, .int .i64 (IntKind.i64.wrap ((i : Int) + 1)))] (fun _ => by kernel_rfl) ?_)
   refine WLt (show (.int .i64 (IntKind.i64.wrap ((i : Int) + 1)) : Value) = .int .i64 ((i : Int) + 1) from by rw [wrap_in_i64 ((i : Int) + 1) (by omega) (by omega)]) ?_
   refine WLr 1 [(21, .int .i64 ((i : Int) + 1))] (fun _ => by kernel_rfl) ?_
   refine WLd rfl ?_
   refine QXn ?_
   have hC44 := hC28.pick [0] [] rfl rfl
   refine fun a_ ha_ => hK24 _ _ _ ?_ ⟨i + 1, rfl, rfl, hC44, fr0_m26, by omega⟩ a_ (ha_.weaken (sub_of ⟨rfl, rfl, rfl, rfl, rfl, trivial⟩))
   omega
  ·
   have t33 : (8 : Int) ≤ (i : Int) := by have q_ := of_decide_eq_false t33b; omega
   refine WCf rfl ?_
   refine WC.exit ?_
   refine QXe ?_
   refine QXe ?_
   refine QX.block_hit ?_
   refine QXn (hK19 _ _ ?_)
   refine WCs (fun K45 hK46 => ?_)
   refine WCg (WLr 4 [(34, .pointer (some ⟨p, 0, none⟩)), (33, .pointer (some ⟨p, 0, none⟩)), (32, .pointer (some ⟨p, 0, none⟩)), (31, .pointer (some ⟨p, 0, none⟩))] (fun _ => by kernel_rfl) ?_)
   refine WL.load 22 (.pointer (some ⟨p, 0, none⟩)) (.slice A bs.length c) 35 (by kernel_rfl) (run_ld (hC28.get 0 rfl) rfl) ?_
   obtain ⟨A47, hA48⟩ : ∃ A_, slcAt A 8 c 1 = A_ := ⟨_, rfl⟩
   have hb49 : bs.length ≤ c := by omega
   refine WL.slc 22 5 1 A A47 bs.length c 8 bs.length (bs.length - 8) (c - 8) (some (.int .i64 8)) none 36 (by kernel_rfl) (by kernel_rfl) (bnd.yes (by omega)) bnd.no (by omega) hb49 hA48 (by first | rfl | omega) (by first | rfl | omega) ?_
   have hrd50 := Rd.slc hr 8 bs.length c hb49 hA48
   refine WLr 2 [(38, .pointer (some ⟨p, 0, none⟩)), (37, .pointer (some ⟨p, 0, none⟩))] (fun _ => by kernel_rfl) ?_
   refine WLs (c' := #[.slice A47 (bs.length - 8) (c - 8)]) hC28 0 22 p 0 (.slice A47 (bs.length - 8) (c - 8)) (by kernel_rfl) rfl (by kernel_rfl) (fun w51 hF53 hC54 => ?_)
   refine WLd rfl (QXn (hK46 _ _ ?_))
   refine WCs (fun K55 hK56 => ?_)
   refine WCg (WLr 3 [(2, .int .i64 (IntKind.i64.wrap (valF 0 (bs.take i)))), (40, .int .i64 (IntKind.i64.wrap (valF 0 (bs.take i)))), (39, .int .u64 (valF 0 (bs.take i)))] (fun _ => by kernel_rfl) (WLd rfl (QXn (hK56 _ _ ?_))))
   refine WC.ret ?_
   refine (hret _ _ _ rfl ?_).1
   clear hN hret hret' hK56 hK46 hK32 hK30 hK21 hK19 hK17 hK6 hK4 hK2
   obtain ⟨hr1_, hr2_⟩ := resR_long (bs := bs) (by omega)
   have hie_ : i = 8 := by omega
   subst hie_
   rw [hr1_, hr2_]
   exact ⟨A47, (c - 8), rfl, hC54.fr, by have h_ := hC54.get 0 rfl; rw [show (bs.drop 8).length = bs.length - 8 from by rw [List.length_drop]]; exact h_, (fun w0_ h_ => by have q_ := Rd.slc h_ 8 bs.length c (by omega) hA48; rw [List.take_length] at q_; exact q_), by rw [List.length_drop]; omega, by omega, (fun b_ o_ h_ => slcAt_sub hr (by omega) (by rw [hA48]; exact h_))⟩

theorem endsR_stop {n : Int} {l : Nat} {bs : List Int} (h : ¬ (0 < n ∧ l ≤ 64)) : endsR (65 - l) n bs = ([], bs) := by
  cases hk : 65 - l with
  | zero => rfl
  | succ k => unfold endsR; rw [if_neg (by omega)]
theorem endsR_step {n : Int} {l : Nat} {bs : List Int} (h : 0 < n) (hl : l ≤ 64) : endsR (65 - l) n bs = (endR bs :: (endsR (65 - (l + 1)) (n - 1) (resR (resR (resR bs)))).1, (endsR (65 - (l + 1)) (n - 1) (resR (resR (resR bs)))).2) := by
  rw [show 65 - l = (65 - (l + 1)) + 1 from by omega]
  conv => lhs; unfold endsR
  rw [if_pos h]
set_option maxHeartbeats 2000000 in
theorem command_ct (p : Nat) (A : Option Addr) (c : Nat) (bs : List Int) (w : World) (hp : w.heap[p]? = some (.cells #[.slice A bs.length c] 99 (0, 0))) (hr : Rd w 1 (Go.Tw.encI .u8) A bs) (hb : byteL bs) (hlc : bs.length ≤ c) (hcl : c ≤ 9223372036854775807) (hAp : 0 < bs.length → ∀ b off, A = some ⟨b, off, none⟩ → b ≠ p) : Calls Try.prog 42 #[.pointer (some ⟨p, 0, none⟩)] w fun e w' => ∃ (Ae : Option Addr) (ce : Nat) (A2 : Option Addr) (c2 : Nat), e = .returned (.agg #[.int .i64 (((cmdR bs).1).node), .int .i64 (((cmdR bs).1).boot), .int .i64 (((cmdR bs).1).seq), .int .i64 (((cmdR bs).1).time), .int .i64 (((cmdR bs).1).kind), .int .u32 (((cmdR bs).1).svip), .int .i64 (((cmdR bs).1).sproto), .int .i64 (((cmdR bs).1).sport), .slice Ae (((cmdR bs).1).ends.length) ce, .int .u32 (((cmdR bs).1).dip), .int .u32 (((cmdR bs).1).vip), .bool (((cmdR bs).1).up)]) ∧ Fr w w' [p] ∧ w'.heap[p]? = some (.cells #[.slice A2 (cmdR bs).2.length c2] 99 (0, 0)) ∧ (∀ w0, Rd w0 1 (Go.Tw.encI .u8) A bs → Rd w0 1 (Go.Tw.encI .u8) A2 (cmdR bs).2) ∧ byteL (cmdR bs).2 ∧ (cmdR bs).2.length ≤ c2 ∧ c2 ≤ 9223372036854775807 ∧ (0 < (cmdR bs).2.length → ∀ b off, A2 = some ⟨b, off, none⟩ → b ≠ p) ∧ w'.ownsRow w.heap.size 91 3 (.slice Ae (cmdR bs).1.ends.length ce) (cmdR bs).1.ends.length ((cmdR bs).1.ends.flatMap cellsE) := by
 refine enterD (n := 66) Try.func42 rfl rfl (Nat.le_of_ble_eq_true rfl) ?_
 intro Q0 hN hret hret'
 have hC := Cx.startMs w [(p, .cells #[.slice A bs.length c] 99)] (by simp) (by simp [hp])
 refine WCs (fun K1 hK2 => ?_)
 refine WCg ?_
 refine WL.newM hC (fun b => .pointer (some ⟨b, 0, none⟩)) (.cells #[.int .i64 0, .int .i64 0, .int .i64 0, .int .i64 0, .int .i64 0, .int .u32 0, .int .i64 0, .int .i64 0, .slice none 0 0, .int .u32 0, .int .u32 0, .bool false] 61) 2 (fun _ => by kernel_rfl) (fun g3 w4 hb7 hF5 hC6 => ?_)
 refine WLd rfl (QXn (hK2 _ _ ?_))
 refine WCs (fun K8 hK9 => ?_)
 refine WCg (WLr 1 [(5, .pointer (some ⟨p, 0, none⟩))] (fun _ => by kernel_rfl) ?_)
 refine WLc rfl rfl rfl rfl rfl (by kernel_rfl) (num_ct p A c bs w4 (hC6.get 0 rfl) (Rd.frE ((fun _ h_ => h_) w hr) hC6.fr (fun hn_ b_ off_ h_ => by simpa using hAp hn_ b_ off_ h_)) hb hlc hcl) ?_
 rintro _ w12 ⟨A10, c11, rfl, hF13, hp14, hr15, hc16, hcc17, hs18⟩
 have hC19 := hC6.callM 0 rfl hF13 hp14
 refine ⟨_, rfl, ?_⟩
 have hrd20 : ∀ w0_, Rd w0_ 1 (Go.Tw.encI .u8) A bs → Rd w0_ 1 (Go.Tw.encI .u8) A10 (resR bs) := fun w0_ h_ => hr15 w0_ ((fun _ h_ => h_) w0_ h_)
 have hby21 := resR_byte hb
 have hcl22 := Nat.le_trans hcc17 hcl
 have hsub23 : 0 < (resR bs).length → ∀ b_ off_, A10 = some ⟨b_, off_, none⟩ → b_ ≠ p := fun hn_ b_ off_ h_ => (hs18 b_ off_ h_).elim (fun o2_ h2_ => hAp (resR_pos hn_) b_ o2_ h2_)
 obtain ⟨bs24, hbs25⟩ : ∃ x_, resR bs = x_ := ⟨_, rfl⟩
 rw [hbs25] at hC19 hrd20 hby21 hc16 hsub23
 refine WLr 1 [(7, .pointer (some ⟨p, 0, none⟩))] (fun _ => by kernel_rfl) ?_
 refine WLc rfl rfl rfl rfl rfl (by kernel_rfl) (num_ct p A10 c11 bs24 w12 (hC19.get 0 rfl) (Rd.frE (hrd20 w hr) hC19.fr (fun hn_ b_ off_ h_ => by simpa using hsub23 hn_ b_ off_ h_)) hby21 hc16 hcl22) ?_
 rintro _ w28 ⟨A26, c27, rfl, hF29, hp30, hr31, hc32, hcc33, hs34⟩
 have hC35 := hC19.callM 0 rfl hF29 hp30
 refine ⟨_, rfl, ?_⟩
 have hrd36 : ∀ w0_, Rd w0_ 1 (Go.Tw.encI .u8) A bs → Rd w0_ 1 (Go.Tw.encI .u8) A26 (resR bs24) := fun w0_ h_ => hr31 w0_ (hrd20 w0_ h_)
 have hby37 := resR_byte hby21
 have hcl38 := Nat.le_trans hcc33 hcl22
 have hsub39 : 0 < (resR bs24).length → ∀ b_ off_, A26 = some ⟨b_, off_, none⟩ → b_ ≠ p := fun hn_ b_ off_ h_ => (hs34 b_ off_ h_).elim (fun o2_ h2_ => hsub23 (resR_pos hn_) b_ o2_ h2_)
 obtain ⟨bs40, hbs41⟩ : ∃ x_, resR bs24 = x_ := ⟨_, rfl⟩
 rw [hbs41] at hC35 hrd36 hby37 hc32 hsub39
 refine WLr 1 [(9, .pointer (some ⟨p, 0, none⟩))] (fun _ => by kernel_rfl) ?_
 refine WLc rfl rfl rfl rfl rfl (by kernel_rfl) (num_ct p A26 c27 bs40 w28 (hC35.get 0 rfl) (Rd.frE (hrd36 w hr) hC35.fr (fun hn_ b_ off_ h_ => by simpa using hsub39 hn_ b_ off_ h_)) hby37 hc32 hcl38) ?_
 rintro _ w44 ⟨A42, c43, rfl, hF45, hp46, hr47, hc48, hcc49, hs50⟩
 have hC51 := hC35.callM 0 rfl hF45 hp46
 refine ⟨_, rfl, ?_⟩
 have hrd52 : ∀ w0_, Rd w0_ 1 (Go.Tw.encI .u8) A bs → Rd w0_ 1 (Go.Tw.encI .u8) A42 (resR bs40) := fun w0_ h_ => hr47 w0_ (hrd36 w0_ h_)
 have hby53 := resR_byte hby37
 have hcl54 := Nat.le_trans hcc49 hcl38
 have hsub55 : 0 < (resR bs40).length → ∀ b_ off_, A42 = some ⟨b_, off_, none⟩ → b_ ≠ p := fun hn_ b_ off_ h_ => (hs50 b_ off_ h_).elim (fun o2_ h2_ => hsub39 (resR_pos hn_) b_ o2_ h2_)
 obtain ⟨bs56, hbs57⟩ : ∃ x_, resR bs40 = x_ := ⟨_, rfl⟩
 rw [hbs57] at hC51 hrd52 hby53 hc48 hsub55
 refine WLr 1 [(11, .pointer (some ⟨p, 0, none⟩))] (fun _ => by kernel_rfl) ?_
 refine WLc rfl rfl rfl rfl rfl (by kernel_rfl) (num_ct p A42 c43 bs56 w44 (hC51.get 0 rfl) (Rd.frE (hrd52 w hr) hC51.fr (fun hn_ b_ off_ h_ => by simpa using hsub55 hn_ b_ off_ h_)) hby53 hc48 hcl54) ?_
 rintro _ w60 ⟨A58, c59, rfl, hF61, hp62, hr63, hc64, hcc65, hs66⟩
 have hC67 := hC51.callM 0 rfl hF61 hp62
 refine ⟨_, rfl, ?_⟩
 have hrd68 : ∀ w0_, Rd w0_ 1 (Go.Tw.encI .u8) A bs → Rd w0_ 1 (Go.Tw.encI .u8) A58 (resR bs56) := fun w0_ h_ => hr63 w0_ (hrd52 w0_ h_)
 have hby69 := resR_byte hby53
 have hcl70 := Nat.le_trans hcc65 hcl54
 have hsub71 : 0 < (resR bs56).length → ∀ b_ off_, A58 = some ⟨b_, off_, none⟩ → b_ ≠ p := fun hn_ b_ off_ h_ => (hs66 b_ off_ h_).elim (fun o2_ h2_ => hsub55 (resR_pos hn_) b_ o2_ h2_)
 obtain ⟨bs72, hbs73⟩ : ∃ x_, resR bs56 = x_ := ⟨_, rfl⟩
 rw [hbs73] at hC67 hrd68 hby69 hc64 hsub71
 refine WLr 1 [(13, .pointer (some ⟨p, 0, none⟩))] (fun _ => by kernel_rfl) ?_
 refine WLc rfl rfl rfl rfl rfl (by kernel_rfl) (num_ct p A58 c59 bs72 w60 (hC67.get 0 rfl) (Rd.frE (hrd68 w hr) hC67.fr (fun hn_ b_ off_ h_ => by simpa using hsub71 hn_ b_ off_ h_)) hby69 hc64 hcl70) ?_
 rintro _ w76 ⟨A74, c75, rfl, hF77, hp78, hr79, hc80, hcc81, hs82⟩
 have hC83 := hC67.callM 0 rfl hF77 hp78
 refine ⟨_, rfl, ?_⟩
 have hrd84 : ∀ w0_, Rd w0_ 1 (Go.Tw.encI .u8) A bs → Rd w0_ 1 (Go.Tw.encI .u8) A74 (resR bs72) := fun w0_ h_ => hr79 w0_ (hrd68 w0_ h_)
 have hby85 := resR_byte hby69
 have hcl86 := Nat.le_trans hcc81 hcl70
 have hsub87 : 0 < (resR bs72).length → ∀ b_ off_, A74 = some ⟨b_, off_, none⟩ → b_ ≠ p := fun hn_ b_ off_ h_ => (hs82 b_ off_ h_).elim (fun o2_ h2_ => hsub71 (resR_pos hn_) b_ o2_ h2_)
 obtain ⟨bs88, hbs89⟩ : ∃ x_, resR bs72 = x_ := ⟨_, rfl⟩
 rw [hbs89] at hC83 hrd84 hby85 hc80 hsub87
 refine WLr 1 [(15, .agg #[.int .i64 (numR bs), .int .i64 (numR bs24), .int .i64 (numR bs40), .int .i64 (numR bs56), .int .i64 (numR bs72), .int .u32 0, .int .i64 0, .int .i64 0, .slice none 0 0, .int .u32 0, .int .u32 0, .bool false])] (fun _ => by kernel_rfl) ?_
 refine WL.newM hC83 (fun b => .pointer (some ⟨b, 0, none⟩)) (.cells #[.int .i64 0, .int .i64 0, .int .i64 0, .int .i64 0, .int .i64 0, .int .u32 0, .int .i64 0, .int .i64 0, .slice none 0 0, .int .u32 0, .int .u32 0, .bool false] 61) 3 (fun _ => by kernel_rfl) (fun g90 w91 hb94 hF92 hC93 => ?_)
 refine WLs (c' := #[.int .i64 (numR bs), .int .i64 (numR bs24), .int .i64 (numR bs40), .int .i64 (numR bs56), .int .i64 (numR bs72), .int .u32 0, .int .i64 0, .int .i64 0, .slice none 0 0, .int .u32 0, .int .u32 0, .bool false]) hC93 2 61 g90 0 (.agg #[.int .i64 (numR bs), .int .i64 (numR bs24), .int .i64 (numR bs40), .int .i64 (numR bs56), .int .i64 (numR bs72), .int .u32 0, .int .i64 0, .int .i64 0, .slice none 0 0, .int .u32 0, .int .u32 0, .bool false]) (by kernel_rfl) rfl (by kernel_rfl) (fun w95 hF97 hC98 => ?_)
 refine WLd rfl (QXn (hK9 _ _ ?_))
 refine WCs (fun K99 hK100 => ?_)
 refine WCg (WLr 1 [(16, .pointer (some ⟨p, 0, none⟩))] (fun _ => by kernel_rfl) ?_)
 refine WLc rfl rfl rfl rfl rfl (by kernel_rfl) (num_ct p A74 c75 bs88 w95 (hC98.get 0 rfl) (Rd.frE (hrd84 w hr) hC98.fr (fun hn_ b_ off_ h_ => by simpa using hsub87 hn_ b_ off_ h_)) hby85 hc80 hcl86) ?_
 rintro _ w103 ⟨A101, c102, rfl, hF104, hp105, hr106, hc107, hcc108, hs109⟩
 have hC110 := hC98.callM 0 rfl hF104 hp105
 refine ⟨_, rfl, ?_⟩
 have hrd111 : ∀ w0_, Rd w0_ 1 (Go.Tw.encI .u8) A bs → Rd w0_ 1 (Go.Tw.encI .u8) A101 (resR bs88) := fun w0_ h_ => hr106 w0_ (hrd84 w0_ h_)
 have hby112 := resR_byte hby85
 have hcl113 := Nat.le_trans hcc108 hcl86
 have hsub114 : 0 < (resR bs88).length → ∀ b_ off_, A101 = some ⟨b_, off_, none⟩ → b_ ≠ p := fun hn_ b_ off_ h_ => (hs109 b_ off_ h_).elim (fun o2_ h2_ => hsub87 (resR_pos hn_) b_ o2_ h2_)
 obtain ⟨bs115, hbs116⟩ : ∃ x_, resR bs88 = x_ := ⟨_, rfl⟩
 rw [hbs116] at hC110 hrd111 hby112 hc107 hsub114
 refine WLr 1 [(18, .int .u32 (IntKind.u32.wrap (numR bs88)))] (fun _ => by kernel_rfl) ?_
 refine WLt (show (.int .u32 (IntKind.u32.wrap (numR bs88)) : Value) = .int .u32 (wrapA (numR bs88)) from rfl) ?_
 refine WLr 1 [(19, .pointer (some ⟨p, 0, none⟩))] (fun _ => by kernel_rfl) ?_
 refine WLc rfl rfl rfl rfl rfl (by kernel_rfl) (num_ct p A101 c102 bs115 w103 (hC110.get 0 rfl) (Rd.frE (hrd111 w hr) hC110.fr (fun hn_ b_ off_ h_ => by simpa using hsub114 hn_ b_ off_ h_)) hby112 hc107 hcl113) ?_
 rintro _ w119 ⟨A117, c118, rfl, hF120, hp121, hr122, hc123, hcc124, hs125⟩
 have hC126 := hC110.callM 0 rfl hF120 hp121
 refine ⟨_, rfl, ?_⟩
 have hrd127 : ∀ w0_, Rd w0_ 1 (Go.Tw.encI .u8) A bs → Rd w0_ 1 (Go.Tw.encI .u8) A117 (resR bs115) := fun w0_ h_ => hr122 w0_ (hrd111 w0_ h_)
 have hby128 := resR_byte hby112
 have hcl129 := Nat.le_trans hcc124 hcl113
 have hsub130 : 0 < (resR bs115).length → ∀ b_ off_, A117 = some ⟨b_, off_, none⟩ → b_ ≠ p := fun hn_ b_ off_ h_ => (hs125 b_ off_ h_).elim (fun o2_ h2_ => hsub114 (resR_pos hn_) b_ o2_ h2_)
 obtain ⟨bs131, hbs132⟩ : ∃ x_, resR bs115 = x_ := ⟨_, rfl⟩
 rw [hbs132] at hC126 hrd127 hby128 hc123 hsub130
 refine WLr 1 [(21, .pointer (some ⟨p, 0, none⟩))] (fun _ => by kernel_rfl) ?_
 refine WLc rfl rfl rfl rfl rfl (by kernel_rfl) (num_ct p A117 c118 bs131 w119 (hC126.get 0 rfl) (Rd.frE (hrd127 w hr) hC126.fr (fun hn_ b_ off_ h_ => by simpa using hsub130 hn_ b_ off_ h_)) hby128 hc123 hcl129) ?_
 rintro _ w135 ⟨A133, c134, rfl, hF136, hp137, hr138, hc139, hcc140, hs141⟩
 have hC142 := hC126.callM 0 rfl hF136 hp137
 refine ⟨_, rfl, ?_⟩
 have hrd143 : ∀ w0_, Rd w0_ 1 (Go.Tw.encI .u8) A bs → Rd w0_ 1 (Go.Tw.encI .u8) A133 (resR bs131) := fun w0_ h_ => hr138 w0_ (hrd127 w0_ h_)
 have hby144 := resR_byte hby128
 have hcl145 := Nat.le_trans hcc140 hcl129
 have hsub146 : 0 < (resR bs131).length → ∀ b_ off_, A133 = some ⟨b_, off_, none⟩ → b_ ≠ p := fun hn_ b_ off_ h_ => (hs141 b_ off_ h_).elim (fun o2_ h2_ => hsub130 (resR_pos hn_) b_ o2_ h2_)
 obtain ⟨bs147, hbs148⟩ : ∃ x_, resR bs131 = x_ := ⟨_, rfl⟩
 rw [hbs148] at hC142 hrd143 hby144 hc139 hsub146
 refine WLr 2 [(24, .pointer (some ⟨g90, 5, none⟩)), (23, .agg #[.int .u32 (wrapA (numR bs88)), .int .i64 (numR bs115), .int .i64 (numR bs131), .slice none 0 0])] (fun _ => by kernel_rfl) ?_
 refine WLs (c' := #[.int .i64 (numR bs), .int .i64 (numR bs24), .int .i64 (numR bs40), .int .i64 (numR bs56), .int .i64 (numR bs72), .int .u32 (wrapA (numR bs88)), .int .i64 (numR bs115), .int .i64 (numR bs131), .slice none 0 0, .int .u32 0, .int .u32 0, .bool false]) hC142 2 59 g90 5 (.agg #[.int .u32 (wrapA (numR bs88)), .int .i64 (numR bs115), .int .i64 (numR bs131), .slice none 0 0]) (by kernel_rfl) rfl (by kernel_rfl) (fun w149 hF151 hC152 => ?_)
 refine WLd rfl (QXn (hK100 _ _ ?_))
 refine WCs (fun K153 hK154 => ?_)
 refine WCs (fun K155 hK156 => ?_)
 refine WCg (WLr 1 [(25, .pointer (some ⟨p, 0, none⟩))] (fun _ => by kernel_rfl) ?_)
 refine WLc rfl rfl rfl rfl rfl (by kernel_rfl) (num_ct p A133 c134 bs147 w149 (hC152.get 0 rfl) (Rd.frE (hrd143 w hr) hC152.fr (fun hn_ b_ off_ h_ => by simpa using hsub146 hn_ b_ off_ h_)) hby144 hc139 hcl145) ?_
 rintro _ w159 ⟨A157, c158, rfl, hF160, hp161, hr162, hc163, hcc164, hs165⟩
 have hC166 := hC152.callM 0 rfl hF160 hp161
 refine ⟨_, rfl, ?_⟩
 have hrd167 : ∀ w0_, Rd w0_ 1 (Go.Tw.encI .u8) A bs → Rd w0_ 1 (Go.Tw.encI .u8) A157 (resR bs147) := fun w0_ h_ => hr162 w0_ (hrd143 w0_ h_)
 have hby168 := resR_byte hby144
 have hcl169 := Nat.le_trans hcc164 hcl145
 have hsub170 : 0 < (resR bs147).length → ∀ b_ off_, A157 = some ⟨b_, off_, none⟩ → b_ ≠ p := fun hn_ b_ off_ h_ => (hs165 b_ off_ h_).elim (fun o2_ h2_ => hsub146 (resR_pos hn_) b_ o2_ h2_)
 obtain ⟨bs171, hbs172⟩ : ∃ x_, resR bs147 = x_ := ⟨_, rfl⟩
 rw [hbs172] at hC166 hrd167 hby168 hc163 hsub170
 refine WLr 1 [(4, .int .i64 (numR bs147))] (fun _ => by kernel_rfl) (WLd rfl (QXn (hK156 _ _ ?_)))
 refine WC.block ?_
 have hC173 := hC166.addNil
 have hr9_ : r9 bs = bs171 := by unfold r9; simp only [hbs25, hbs41, hbs57, hbs73, hbs89, hbs116, hbs132, hbs148, hbs172]
 have hn9_ : n9 bs = numR bs147 := by unfold n9; simp only [hbs25, hbs41, hbs57, hbs73, hbs89, hbs116, hbs132, hbs148]
 refine WC.loop (fun m_ E_ w_ => ∃ (A5 : Option Addr) (n5 c5 : Nat) (es5 : List EndV) (nn : Int) (bs5 : List Int) (A9 : Option Addr) (c9 : Nat), m_ = 65 - es5.length ∧ E_ = [(0, .pointer (some ⟨p, 0, none⟩)), (2, .pointer (some ⟨g3, 0, none⟩)), (3, .pointer (some ⟨g90, 0, none⟩)), (4, .int .i64 nn)] ∧ Cx w [p] w_ [(p, .cells #[.slice A9 bs5.length c9] 99), (g3, .cells #[.int .i64 0, .int .i64 0, .int .i64 0, .int .i64 0, .int .i64 0, .int .u32 0, .int .i64 0, .int .i64 0, .slice none 0 0, .int .u32 0, .int .u32 0, .bool false] 61), (g90, .cells #[.int .i64 (numR bs), .int .i64 (numR bs24), .int .i64 (numR bs40), .int .i64 (numR bs56), .int .i64 (numR bs72), .int .u32 (wrapA (numR bs88)), .int .i64 (numR bs115), .int .i64 (numR bs131), .slice A5 n5 c5, .int .u32 0, .int .u32 0, .bool false] 61)] [blk (.slice A5 n5 c5)] ∧ World.ownsRow w_ 0 91 3 (.slice A5 n5 c5) n5 (es5.flatMap cellsE) ∧ (es5.length ≤ 65 ∧ isI64 nn ∧ es5 ++ (endsR (65 - es5.length) nn bs5).1 = (endsR 65 (n9 bs) (r9 bs)).1 ∧ (endsR (65 - es5.length) nn bs5).2 = (endsR 65 (n9 bs) (r9 bs)).2 ∧ (∀ w0_, Rd w0_ 1 (Go.Tw.encI .u8) A bs → Rd w0_ 1 (Go.Tw.encI .u8) A9 bs5) ∧ byteL bs5 ∧ bs5.length ≤ c9 ∧ c9 ≤ 9223372036854775807 ∧ (0 < bs5.length → ∀ b_ off_, A9 = some ⟨b_, off_, none⟩ → b_ ≠ p))) ⟨_, _, ⟨none, 0, 0, [], numR bs147, bs171, A157, c158, rfl, rfl, hC173, own_nil _ _ _ _, Nat.zero_le _, numR_i64 _, (by rw [hr9_, hn9_]; rfl), (by rw [hr9_, hn9_]; rfl), hrd167, hby168, hc163, hcl169, hsub170⟩, sub_of ⟨rfl, rfl, rfl, rfl, trivial⟩⟩ (fun m177 E_ w178 K174 hK175 hI176 => ?_)
 obtain ⟨A5, n5, c5, es5, nn, bs5, A9, c9, rfl, rfl, hC179, hends5, hel, hni, hin1, hin2, hrd5, hby5, hcap5, hcl5, hsub5⟩ := hI176
 have hcn5_ := own_count cellsE_len (by decide) hends5
 obtain ⟨hni0_, hni1_⟩ := hni
 refine WCs (fun K180 hK181 => ?_)
 refine WCs (fun K182 hK183 => ?_)
 refine WCg (WLr 3 [(29, .bool (decide (nn > 0))), (28, .bool (decide (nn > 0))), (27, .int .i64 nn)] (fun _ => by kernel_rfl) ?_)
 refine WLa 29 (decide (nn > 0)) rfl (fun t184b => ?_) (fun t184b => ?_)
 ·
  have t184 : (0 : Int) < nn := by have q_ := of_decide_eq_true t184b; omega
  refine WLr 2 [(31, .pointer (some ⟨g90, 8, none⟩)), (30, .pointer (some ⟨g90, 5, none⟩))] (fun _ => by kernel_rfl) ?_
  refine WL.load 57 (.pointer (some ⟨g90, 8, none⟩)) (.slice A5 n5 c5) 32 (by kernel_rfl) (run_ld (hC179.get 2 rfl) rfl) ?_
  refine WLr 3 [(35, .bool (decide ((n5 : Int) ≤ 64))), (34, .bool (decide ((n5 : Int) ≤ 64))), (33, .int .i64 (n5 : Int))] (fun _ => by kernel_rfl) (WLd rfl (QXn (hK183 _ _ ?_)))
  refine WCa 35 (decide ((n5 : Int) ≤ 64)) rfl (fun t185b => ?_) (fun t185b => ?_)
  ·
   have t185 : (n5 : Int) ≤ 64 := by have q_ := of_decide_eq_true t185b; omega
   refine WCt rfl ?_
   refine WC.skip ?_
   refine QXn (hK181 _ _ ?_)
   refine WCs (fun K186 hK187 => ?_)
   refine WC.block ?_
   refine WC.drawC hC179 (g90 :: p :: blk (.slice A5 n5 c5)) (by kernel_rfl) (fun w188 hF189 hC190 hS191 => ?_)
   have ho192 := own_fr hends5 hF189 (by simp)
   refine WDp (NPb (NPt (NPt (NPb (NPt hN))))) 0 38 (.pointer (some ⟨g90, 5, none⟩)) (by kernel_rfl) (fun _ => by kernel_rfl) hS191 ?_
   refine WDp (NPb (NPt (NPt (NPb (NPt hN))))) 1 39 (.pointer (some ⟨g90, 8, none⟩)) (by kernel_rfl) (fun _ => by kernel_rfl) hS191 ?_
   refine WDp (NPb (NPt (NPt (NPb (NPt hN))))) 3 41 (.pointer (some ⟨p, 0, none⟩)) (by kernel_rfl) (fun _ => by kernel_rfl) hS191 ?_
   refine WDp (NPb (NPt (NPt (NPb (NPt hN))))) 6 44 (.pointer (some ⟨p, 0, none⟩)) (by kernel_rfl) (fun _ => by kernel_rfl) hS191 ?_
   refine WDp (NPb (NPt (NPt (NPb (NPt hN))))) 8 46 (.pointer (some ⟨p, 0, none⟩)) (by kernel_rfl) (fun _ => by kernel_rfl) hS191 ?_
   refine WD.all2 2 4 (by kernel_rfl) ?_ ?_
   ·
    refine WO.sem 2 (Instr.loadAt 57 (.pointer (some ⟨g90, 8, none⟩))) 40 (.slice A5 n5 c5) (by kernel_rfl) (by kernel_rfl) (run_ld (hC190.get 2 rfl) rfl) hS191 ?_
    refine WD.call 4 (by kernel_rfl) rfl rfl rfl rfl rfl (by kernel_rfl) (num_ct p A9 c9 bs5 w188 (hC190.get 0 rfl) (Rd.frE (hrd5 w hr) hC190.fr (fun hn_ b_ off_ h_ => by simpa using hsub5 hn_ b_ off_ h_)) hby5 hcap5 hcl5) ?_
    rintro _ w195 ⟨A193, c194, rfl, hF196, hp197, hr198, hc199, hcc200, hs201⟩
    have hC202 := hC190.callM 0 rfl hF196 hp197
    have hS207 := hS191.trans hF196 (fun x_ hx_ => .inl (by simp at hx_ ⊢; simp [hx_]))
    refine ⟨_, rfl, hS207, ?_⟩
    have hrd203 : ∀ w0_, Rd w0_ 1 (Go.Tw.encI .u8) A bs → Rd w0_ 1 (Go.Tw.encI .u8) A193 (resR bs5) := fun w0_ h_ => hr198 w0_ (hrd5 w0_ h_)
    have hby204 := resR_byte hby5
    have hcl205 := Nat.le_trans hcc200 hcl5
    have hsub206 : 0 < (resR bs5).length → ∀ b_ off_, A193 = some ⟨b_, off_, none⟩ → b_ ≠ p := fun hn_ b_ off_ h_ => (hs201 b_ off_ h_).elim (fun o2_ h2_ => hsub5 (resR_pos hn_) b_ o2_ h2_)
    have ho208 := own_fr ho192 hF196 (hC190.apartM 0 0 rfl rfl)
    obtain ⟨bs209, hbs210⟩ : ∃ x_, resR bs5 = x_ := ⟨_, rfl⟩
    rw [hbs210] at hC202 hrd203 hby204 hc199 hsub206
    refine WDp (NPb (NPt (NPt (NPb (NPt hN))))) 5 43 (.int .u32 (IntKind.u32.wrap (numR bs5))) (by kernel_rfl) (fun _ => by kernel_rfl) hS207 ?_
    refine WD.recast (show (.int .u32 (IntKind.u32.wrap (numR bs5)) : Value) = .int .u32 (wrapA (numR bs5)) from rfl) ?_
    refine WD.call 7 (by kernel_rfl) rfl rfl rfl rfl rfl (by kernel_rfl) (num_ct p A193 c194 bs209 w195 (hC202.get 0 rfl) (Rd.frE (hrd203 w hr) hC202.fr (fun hn_ b_ off_ h_ => by simpa using hsub206 hn_ b_ off_ h_)) hby204 hc199 hcl205) ?_
    rintro _ w213 ⟨A211, c212, rfl, hF214, hp215, hr216, hc217, hcc218, hs219⟩
    have hC220 := hC202.callM 0 rfl hF214 hp215
    have hS225 := hS207.trans hF214 (fun x_ hx_ => .inl (by simp at hx_ ⊢; simp [hx_]))
    refine ⟨_, rfl, hS225, ?_⟩
    have hrd221 : ∀ w0_, Rd w0_ 1 (Go.Tw.encI .u8) A bs → Rd w0_ 1 (Go.Tw.encI .u8) A211 (resR bs209) := fun w0_ h_ => hr216 w0_ (hrd203 w0_ h_)
    have hby222 := resR_byte hby204
    have hcl223 := Nat.le_trans hcc218 hcl205
    have hsub224 : 0 < (resR bs209).length → ∀ b_ off_, A211 = some ⟨b_, off_, none⟩ → b_ ≠ p := fun hn_ b_ off_ h_ => (hs219 b_ off_ h_).elim (fun o2_ h2_ => hsub206 (resR_pos hn_) b_ o2_ h2_)
    have ho226 := own_fr ho208 hF214 (hC202.apartM 0 0 rfl rfl)
    obtain ⟨bs227, hbs228⟩ : ∃ x_, resR bs209 = x_ := ⟨_, rfl⟩
    rw [hbs228] at hC220 hrd221 hby222 hc217 hsub224
    refine WD.call 9 (by kernel_rfl) rfl rfl rfl rfl rfl (by kernel_rfl) (num_ct p A211 c212 bs227 w213 (hC220.get 0 rfl) (Rd.frE (hrd221 w hr) hC220.fr (fun hn_ b_ off_ h_ => by simpa using hsub224 hn_ b_ off_ h_)) hby222 hc217 hcl223) ?_
    rintro _ w231 ⟨A229, c230, rfl, hF232, hp233, hr234, hc235, hcc236, hs237⟩
    have hC238 := hC220.callM 0 rfl hF232 hp233
    have hS243 := hS225.trans hF232 (fun x_ hx_ => .inl (by simp at hx_ ⊢; simp [hx_]))
    refine ⟨_, rfl, hS243, ?_⟩
    have hrd239 : ∀ w0_, Rd w0_ 1 (Go.Tw.encI .u8) A bs → Rd w0_ 1 (Go.Tw.encI .u8) A229 (resR bs227) := fun w0_ h_ => hr234 w0_ (hrd221 w0_ h_)
    have hby240 := resR_byte hby222
    have hcl241 := Nat.le_trans hcc236 hcl223
    have hsub242 : 0 < (resR bs227).length → ∀ b_ off_, A229 = some ⟨b_, off_, none⟩ → b_ ≠ p := fun hn_ b_ off_ h_ => (hs237 b_ off_ h_).elim (fun o2_ h2_ => hsub224 (resR_pos hn_) b_ o2_ h2_)
    have ho244 := own_fr ho226 hF232 (hC220.apartM 0 0 rfl rfl)
    obtain ⟨bs245, hbs246⟩ : ∃ x_, resR bs227 = x_ := ⟨_, rfl⟩
    rw [hbs246] at hC238 hrd239 hby240 hc235 hsub242
    refine WDp (NPb (NPt (NPt (NPb (NPt hN))))) 10 48 (.agg #[.int .u32 (wrapA (numR bs5)), .int .i64 (numR bs209), .int .i64 (numR bs227)]) (by kernel_rfl) (fun _ => by kernel_rfl) hS243 ?_
    refine WD.new 11 (fun b => .slice (some ⟨b, 0, none⟩) 1 1) (.cells #[.int .u32 (wrapA (numR bs5)), .int .i64 (numR bs209), .int .i64 (numR bs227)] 91) (by kernel_rfl) rfl rfl rfl rfl rfl (fun _ => by kernel_rfl) (fun g247 w248 hb251 hl252 hF249 ho253 => ?_)
    have hC250 := hC238.callB hF249 hb251 ho253
    have hS254 := hS243.trans hF249 (by simp)
    refine ⟨hS254, ?_⟩
    have ho255 := own_fr ho244 hF249 (by simp)
    obtain ⟨v256, w257, hr258, ho259, hF260, hC261, hnil262, hsub263⟩ := app_run Try.prog hC250 0 (v := .slice A5 n5 c5) rfl 57 57 91 3 24 n5 1 1 (some ⟨g247, 0, none⟩) rfl ho255 [.int .u32 (wrapA (numR bs5)), .int .i64 (numR bs209), .int .i64 (numR bs227)] rfl (srcOk.blk 1 (hC250.get 3 rfl)) rfl (by simp only [maxLen]; omega) (by omega)
    have ho267 := own_snoc (enc := cellsE) (ys := es5) (⟨wrapA (numR bs5), numR bs209, numR bs227⟩ : EndV) ho259
    obtain ⟨A264, c265, rfl, hle266⟩ := own_form ho267
    have hS268 := hS254.trans hF260 (fun x_ hx_ => .inl (List.mem_cons_of_mem _ (List.mem_cons_of_mem _ hx_)))
    refine WD.sem 12 (Builtin.append_ #[57, 57] 57 #[.slice A5 n5 c5, .slice (some ⟨g247, 0, none⟩) 1 1]) 50 (.slice A264 (n5 + 1) c265) (by kernel_rfl) (by kernel_rfl) hr258 hS268 ?_
    refine WDp (NPb (NPt (NPt (NPb (NPt hN))))) 13 51 (.pointer (some ⟨g90, 5, none⟩)) (by kernel_rfl) (fun _ => by kernel_rfl) hS268 ?_
    refine WDp (NPb (NPt (NPt (NPb (NPt hN))))) 14 52 (.pointer (some ⟨g90, 8, none⟩)) (by kernel_rfl) (fun _ => by kernel_rfl) hS268 ?_
    obtain ⟨w269, hr270, hF271, hC272⟩ := sto_run (c' := #[.int .i64 (numR bs), .int .i64 (numR bs24), .int .i64 (numR bs40), .int .i64 (numR bs56), .int .i64 (numR bs72), .int .u32 (wrapA (numR bs88)), .int .i64 (numR bs115), .int .i64 (numR bs131), .slice A264 (n5 + 1) c265, .int .u32 0, .int .u32 0, .bool false]) Try.prog hC261 2 57 g90 8 (.slice A264 (n5 + 1) c265) rfl (by kernel_rfl)
    have hS273 := hS268.trans hF271 (by first | (simp; done) | (simp [*]; done) | (have q_ := hS268.size; simp; omega))
    refine WD.semU 15 (Instr.storeAt 57 (.pointer (some ⟨g90, 8, none⟩)) (.slice A264 (n5 + 1) c265)) (by kernel_rfl) (by kernel_rfl) hr270 hS273 ?_
    have ho274 := own_fr ho267 hF271 (hC261.apartM 0 2 rfl rfl)
    refine WD.done (by kernel_rfl) ?_
    refine QXb ?_
    refine QXn (hK187 _ _ ?_)
    refine WCg (WLr 2 [(37, .int .i64 (IntKind.i64.wrap (nn - 1))), (36, .int .i64 nn)] (fun _ => by kernel_rfl) ?_)
    refine WLt (show (.int .i64 (IntKind.i64.wrap (nn - 1)) : Value) = .int .i64 (nn - 1) from by rw [wrap_in_i64 (nn - 1) (by omega) (by omega)]) ?_
    refine WLr 1 [(4, .int .i64 (nn - 1))] (fun _ => by kernel_rfl) ?_
    refine WLd rfl ?_
    refine QXn ?_
    have hC275 := hC272.pick [0, 1, 2] [0] rfl rfl
    refine fun a_ ha_ => hK175 _ _ _ ?_ ⟨A264, n5 + 1, c265, es5 ++ [(⟨wrapA (numR bs5), numR bs209, numR bs227⟩ : EndV)], nn - 1, bs245, A229, c230, rfl, rfl, hC275, ho274, by simp only [List.length_append, List.length_cons, List.length_nil]; omega, ⟨by omega, by omega⟩, by rw [endsR_step (by omega) (by omega)] at hin1; unfold endR at hin1; simp only [hbs210, hbs228, hbs246] at hin1; simp only [List.length_append, List.length_cons, List.length_nil, Nat.zero_add, List.append_assoc, List.cons_append, List.nil_append]; exact hin1, by rw [endsR_step (by omega) (by omega)] at hin2; simp only [hbs210, hbs228, hbs246] at hin2; simp only [List.length_append, List.length_cons, List.length_nil, Nat.zero_add]; exact hin2, hrd239, hby240, hc235, hcl241, hsub242⟩ a_ (ha_.weaken (sub_of ⟨rfl, rfl, rfl, rfl, trivial⟩))
    simp only [List.length_append, List.length_cons, List.length_nil]; omega
   ·
    refine WO.call 4 (by kernel_rfl) rfl rfl rfl rfl rfl (by kernel_rfl) (num_ct p A9 c9 bs5 w188 (hC190.get 0 rfl) (Rd.frE (hrd5 w hr) hC190.fr (fun hn_ b_ off_ h_ => by simpa using hsub5 hn_ b_ off_ h_)) hby5 hcap5 hcl5) ?_
    rintro _ w278 ⟨A276, c277, rfl, hF279, hp280, hr281, hc282, hcc283, hs284⟩
    have hC285 := hC190.callM 0 rfl hF279 hp280
    have hS290 := hS191.trans hF279 (fun x_ hx_ => .inl (by simp at hx_ ⊢; simp [hx_]))
    refine ⟨_, rfl, hS290, ?_⟩
    have hrd286 : ∀ w0_, Rd w0_ 1 (Go.Tw.encI .u8) A bs → Rd w0_ 1 (Go.Tw.encI .u8) A276 (resR bs5) := fun w0_ h_ => hr281 w0_ (hrd5 w0_ h_)
    have hby287 := resR_byte hby5
    have hcl288 := Nat.le_trans hcc283 hcl5
    have hsub289 : 0 < (resR bs5).length → ∀ b_ off_, A276 = some ⟨b_, off_, none⟩ → b_ ≠ p := fun hn_ b_ off_ h_ => (hs284 b_ off_ h_).elim (fun o2_ h2_ => hsub5 (resR_pos hn_) b_ o2_ h2_)
    have ho291 := own_fr ho192 hF279 (hC190.apartM 0 0 rfl rfl)
    obtain ⟨bs292, hbs293⟩ : ∃ x_, resR bs5 = x_ := ⟨_, rfl⟩
    rw [hbs293] at hC285 hrd286 hby287 hc282 hsub289
    refine WDp (NPb (NPt (NPt (NPb (NPt hN))))) 5 43 (.int .u32 (IntKind.u32.wrap (numR bs5))) (by kernel_rfl) (fun _ => by kernel_rfl) hS290 ?_
    refine WD.recast (show (.int .u32 (IntKind.u32.wrap (numR bs5)) : Value) = .int .u32 (wrapA (numR bs5)) from rfl) ?_
    refine WD.all2 2 7 (by kernel_rfl) ?_ ?_
    ·
     refine WO.sem 2 (Instr.loadAt 57 (.pointer (some ⟨g90, 8, none⟩))) 40 (.slice A5 n5 c5) (by kernel_rfl) (by kernel_rfl) (run_ld (hC285.get 2 rfl) rfl) hS290 ?_
     refine WD.call 7 (by kernel_rfl) rfl rfl rfl rfl rfl (by kernel_rfl) (num_ct p A276 c277 bs292 w278 (hC285.get 0 rfl) (Rd.frE (hrd286 w hr) hC285.fr (fun hn_ b_ off_ h_ => by simpa using hsub289 hn_ b_ off_ h_)) hby287 hc282 hcl288) ?_
     rintro _ w296 ⟨A294, c295, rfl, hF297, hp298, hr299, hc300, hcc301, hs302⟩
     have hC303 := hC285.callM 0 rfl hF297 hp298
     have hS308 := hS290.trans hF297 (fun x_ hx_ => .inl (by simp at hx_ ⊢; simp [hx_]))
     refine ⟨_, rfl, hS308, ?_⟩
     have hrd304 : ∀ w0_, Rd w0_ 1 (Go.Tw.encI .u8) A bs → Rd w0_ 1 (Go.Tw.encI .u8) A294 (resR bs292) := fun w0_ h_ => hr299 w0_ (hrd286 w0_ h_)
     have hby305 := resR_byte hby287
     have hcl306 := Nat.le_trans hcc301 hcl288
     have hsub307 : 0 < (resR bs292).length → ∀ b_ off_, A294 = some ⟨b_, off_, none⟩ → b_ ≠ p := fun hn_ b_ off_ h_ => (hs302 b_ off_ h_).elim (fun o2_ h2_ => hsub289 (resR_pos hn_) b_ o2_ h2_)
     have ho309 := own_fr ho291 hF297 (hC285.apartM 0 0 rfl rfl)
     obtain ⟨bs310, hbs311⟩ : ∃ x_, resR bs292 = x_ := ⟨_, rfl⟩
     rw [hbs311] at hC303 hrd304 hby305 hc300 hsub307
     refine WD.call 9 (by kernel_rfl) rfl rfl rfl rfl rfl (by kernel_rfl) (num_ct p A294 c295 bs310 w296 (hC303.get 0 rfl) (Rd.frE (hrd304 w hr) hC303.fr (fun hn_ b_ off_ h_ => by simpa using hsub307 hn_ b_ off_ h_)) hby305 hc300 hcl306) ?_
     rintro _ w314 ⟨A312, c313, rfl, hF315, hp316, hr317, hc318, hcc319, hs320⟩
     have hC321 := hC303.callM 0 rfl hF315 hp316
     have hS326 := hS308.trans hF315 (fun x_ hx_ => .inl (by simp at hx_ ⊢; simp [hx_]))
     refine ⟨_, rfl, hS326, ?_⟩
     have hrd322 : ∀ w0_, Rd w0_ 1 (Go.Tw.encI .u8) A bs → Rd w0_ 1 (Go.Tw.encI .u8) A312 (resR bs310) := fun w0_ h_ => hr317 w0_ (hrd304 w0_ h_)
     have hby323 := resR_byte hby305
     have hcl324 := Nat.le_trans hcc319 hcl306
     have hsub325 : 0 < (resR bs310).length → ∀ b_ off_, A312 = some ⟨b_, off_, none⟩ → b_ ≠ p := fun hn_ b_ off_ h_ => (hs320 b_ off_ h_).elim (fun o2_ h2_ => hsub307 (resR_pos hn_) b_ o2_ h2_)
     have ho327 := own_fr ho309 hF315 (hC303.apartM 0 0 rfl rfl)
     obtain ⟨bs328, hbs329⟩ : ∃ x_, resR bs310 = x_ := ⟨_, rfl⟩
     rw [hbs329] at hC321 hrd322 hby323 hc318 hsub325
     refine WDp (NPb (NPt (NPt (NPb (NPt hN))))) 10 48 (.agg #[.int .u32 (wrapA (numR bs5)), .int .i64 (numR bs292), .int .i64 (numR bs310)]) (by kernel_rfl) (fun _ => by kernel_rfl) hS326 ?_
     refine WD.new 11 (fun b => .slice (some ⟨b, 0, none⟩) 1 1) (.cells #[.int .u32 (wrapA (numR bs5)), .int .i64 (numR bs292), .int .i64 (numR bs310)] 91) (by kernel_rfl) rfl rfl rfl rfl rfl (fun _ => by kernel_rfl) (fun g330 w331 hb334 hl335 hF332 ho336 => ?_)
     have hC333 := hC321.callB hF332 hb334 ho336
     have hS337 := hS326.trans hF332 (by simp)
     refine ⟨hS337, ?_⟩
     have ho338 := own_fr ho327 hF332 (by simp)
     obtain ⟨v339, w340, hr341, ho342, hF343, hC344, hnil345, hsub346⟩ := app_run Try.prog hC333 0 (v := .slice A5 n5 c5) rfl 57 57 91 3 24 n5 1 1 (some ⟨g330, 0, none⟩) rfl ho338 [.int .u32 (wrapA (numR bs5)), .int .i64 (numR bs292), .int .i64 (numR bs310)] rfl (srcOk.blk 1 (hC333.get 3 rfl)) rfl (by simp only [maxLen]; omega) (by omega)
     have ho350 := own_snoc (enc := cellsE) (ys := es5) (⟨wrapA (numR bs5), numR bs292, numR bs310⟩ : EndV) ho342
     obtain ⟨A347, c348, rfl, hle349⟩ := own_form ho350
     have hS351 := hS337.trans hF343 (fun x_ hx_ => .inl (List.mem_cons_of_mem _ (List.mem_cons_of_mem _ hx_)))
     refine WD.sem 12 (Builtin.append_ #[57, 57] 57 #[.slice A5 n5 c5, .slice (some ⟨g330, 0, none⟩) 1 1]) 50 (.slice A347 (n5 + 1) c348) (by kernel_rfl) (by kernel_rfl) hr341 hS351 ?_
     refine WDp (NPb (NPt (NPt (NPb (NPt hN))))) 13 51 (.pointer (some ⟨g90, 5, none⟩)) (by kernel_rfl) (fun _ => by kernel_rfl) hS351 ?_
     refine WDp (NPb (NPt (NPt (NPb (NPt hN))))) 14 52 (.pointer (some ⟨g90, 8, none⟩)) (by kernel_rfl) (fun _ => by kernel_rfl) hS351 ?_
     obtain ⟨w352, hr353, hF354, hC355⟩ := sto_run (c' := #[.int .i64 (numR bs), .int .i64 (numR bs24), .int .i64 (numR bs40), .int .i64 (numR bs56), .int .i64 (numR bs72), .int .u32 (wrapA (numR bs88)), .int .i64 (numR bs115), .int .i64 (numR bs131), .slice A347 (n5 + 1) c348, .int .u32 0, .int .u32 0, .bool false]) Try.prog hC344 2 57 g90 8 (.slice A347 (n5 + 1) c348) rfl (by kernel_rfl)
     have hS356 := hS351.trans hF354 (by first | (simp; done) | (simp [*]; done) | (have q_ := hS351.size; simp; omega))
     refine WD.semU 15 (Instr.storeAt 57 (.pointer (some ⟨g90, 8, none⟩)) (.slice A347 (n5 + 1) c348)) (by kernel_rfl) (by kernel_rfl) hr353 hS356 ?_
     have ho357 := own_fr ho350 hF354 (hC344.apartM 0 2 rfl rfl)
     refine WD.done (by kernel_rfl) ?_
     refine QXb ?_
     refine QXn (hK187 _ _ ?_)
     refine WCg (WLr 2 [(37, .int .i64 (IntKind.i64.wrap (nn - 1))), (36, .int .i64 nn)] (fun _ => by kernel_rfl) ?_)
     refine WLt (show (.int .i64 (IntKind.i64.wrap (nn - 1)) : Value) = .int .i64 (nn - 1) from by rw [wrap_in_i64 (nn - 1) (by omega) (by omega)]) ?_
     refine WLr 1 [(4, .int .i64 (nn - 1))] (fun _ => by kernel_rfl) ?_
     refine WLd rfl ?_
     refine QXn ?_
     have hC358 := hC355.pick [0, 1, 2] [0] rfl rfl
     refine fun a_ ha_ => hK175 _ _ _ ?_ ⟨A347, n5 + 1, c348, es5 ++ [(⟨wrapA (numR bs5), numR bs292, numR bs310⟩ : EndV)], nn - 1, bs328, A312, c313, rfl, rfl, hC358, ho357, by simp only [List.length_append, List.length_cons, List.length_nil]; omega, ⟨by omega, by omega⟩, by rw [endsR_step (by omega) (by omega)] at hin1; unfold endR at hin1; simp only [hbs293, hbs311, hbs329] at hin1; simp only [List.length_append, List.length_cons, List.length_nil, Nat.zero_add, List.append_assoc, List.cons_append, List.nil_append]; exact hin1, by rw [endsR_step (by omega) (by omega)] at hin2; simp only [hbs293, hbs311, hbs329] at hin2; simp only [List.length_append, List.length_cons, List.length_nil, Nat.zero_add]; exact hin2, hrd322, hby323, hc318, hcl324, hsub325⟩ a_ (ha_.weaken (sub_of ⟨rfl, rfl, rfl, rfl, trivial⟩))
     simp only [List.length_append, List.length_cons, List.length_nil]; omega
    ·
     refine WO.call 7 (by kernel_rfl) rfl rfl rfl rfl rfl (by kernel_rfl) (num_ct p A276 c277 bs292 w278 (hC285.get 0 rfl) (Rd.frE (hrd286 w hr) hC285.fr (fun hn_ b_ off_ h_ => by simpa using hsub289 hn_ b_ off_ h_)) hby287 hc282 hcl288) ?_
     rintro _ w361 ⟨A359, c360, rfl, hF362, hp363, hr364, hc365, hcc366, hs367⟩
     have hC368 := hC285.callM 0 rfl hF362 hp363
     have hS373 := hS290.trans hF362 (fun x_ hx_ => .inl (by simp at hx_ ⊢; simp [hx_]))
     refine ⟨_, rfl, hS373, ?_⟩
     have hrd369 : ∀ w0_, Rd w0_ 1 (Go.Tw.encI .u8) A bs → Rd w0_ 1 (Go.Tw.encI .u8) A359 (resR bs292) := fun w0_ h_ => hr364 w0_ (hrd286 w0_ h_)
     have hby370 := resR_byte hby287
     have hcl371 := Nat.le_trans hcc366 hcl288
     have hsub372 : 0 < (resR bs292).length → ∀ b_ off_, A359 = some ⟨b_, off_, none⟩ → b_ ≠ p := fun hn_ b_ off_ h_ => (hs367 b_ off_ h_).elim (fun o2_ h2_ => hsub289 (resR_pos hn_) b_ o2_ h2_)
     have ho374 := own_fr ho291 hF362 (hC285.apartM 0 0 rfl rfl)
     obtain ⟨bs375, hbs376⟩ : ∃ x_, resR bs292 = x_ := ⟨_, rfl⟩
     rw [hbs376] at hC368 hrd369 hby370 hc365 hsub372
     refine WD.all2 2 9 (by kernel_rfl) ?_ ?_
     ·
      refine WO.sem 2 (Instr.loadAt 57 (.pointer (some ⟨g90, 8, none⟩))) 40 (.slice A5 n5 c5) (by kernel_rfl) (by kernel_rfl) (run_ld (hC368.get 2 rfl) rfl) hS373 ?_
      refine WD.call 9 (by kernel_rfl) rfl rfl rfl rfl rfl (by kernel_rfl) (num_ct p A359 c360 bs375 w361 (hC368.get 0 rfl) (Rd.frE (hrd369 w hr) hC368.fr (fun hn_ b_ off_ h_ => by simpa using hsub372 hn_ b_ off_ h_)) hby370 hc365 hcl371) ?_
      rintro _ w379 ⟨A377, c378, rfl, hF380, hp381, hr382, hc383, hcc384, hs385⟩
      have hC386 := hC368.callM 0 rfl hF380 hp381
      have hS391 := hS373.trans hF380 (fun x_ hx_ => .inl (by simp at hx_ ⊢; simp [hx_]))
      refine ⟨_, rfl, hS391, ?_⟩
      have hrd387 : ∀ w0_, Rd w0_ 1 (Go.Tw.encI .u8) A bs → Rd w0_ 1 (Go.Tw.encI .u8) A377 (resR bs375) := fun w0_ h_ => hr382 w0_ (hrd369 w0_ h_)
      have hby388 := resR_byte hby370
      have hcl389 := Nat.le_trans hcc384 hcl371
      have hsub390 : 0 < (resR bs375).length → ∀ b_ off_, A377 = some ⟨b_, off_, none⟩ → b_ ≠ p := fun hn_ b_ off_ h_ => (hs385 b_ off_ h_).elim (fun o2_ h2_ => hsub372 (resR_pos hn_) b_ o2_ h2_)
      have ho392 := own_fr ho374 hF380 (hC368.apartM 0 0 rfl rfl)
      obtain ⟨bs393, hbs394⟩ : ∃ x_, resR bs375 = x_ := ⟨_, rfl⟩
      rw [hbs394] at hC386 hrd387 hby388 hc383 hsub390
      refine WDp (NPb (NPt (NPt (NPb (NPt hN))))) 10 48 (.agg #[.int .u32 (wrapA (numR bs5)), .int .i64 (numR bs292), .int .i64 (numR bs375)]) (by kernel_rfl) (fun _ => by kernel_rfl) hS391 ?_
      refine WD.new 11 (fun b => .slice (some ⟨b, 0, none⟩) 1 1) (.cells #[.int .u32 (wrapA (numR bs5)), .int .i64 (numR bs292), .int .i64 (numR bs375)] 91) (by kernel_rfl) rfl rfl rfl rfl rfl (fun _ => by kernel_rfl) (fun g395 w396 hb399 hl400 hF397 ho401 => ?_)
      have hC398 := hC386.callB hF397 hb399 ho401
      have hS402 := hS391.trans hF397 (by simp)
      refine ⟨hS402, ?_⟩
      have ho403 := own_fr ho392 hF397 (by simp)
      obtain ⟨v404, w405, hr406, ho407, hF408, hC409, hnil410, hsub411⟩ := app_run Try.prog hC398 0 (v := .slice A5 n5 c5) rfl 57 57 91 3 24 n5 1 1 (some ⟨g395, 0, none⟩) rfl ho403 [.int .u32 (wrapA (numR bs5)), .int .i64 (numR bs292), .int .i64 (numR bs375)] rfl (srcOk.blk 1 (hC398.get 3 rfl)) rfl (by simp only [maxLen]; omega) (by omega)
      have ho415 := own_snoc (enc := cellsE) (ys := es5) (⟨wrapA (numR bs5), numR bs292, numR bs375⟩ : EndV) ho407
      obtain ⟨A412, c413, rfl, hle414⟩ := own_form ho415
      have hS416 := hS402.trans hF408 (fun x_ hx_ => .inl (List.mem_cons_of_mem _ (List.mem_cons_of_mem _ hx_)))
      refine WD.sem 12 (Builtin.append_ #[57, 57] 57 #[.slice A5 n5 c5, .slice (some ⟨g395, 0, none⟩) 1 1]) 50 (.slice A412 (n5 + 1) c413) (by kernel_rfl) (by kernel_rfl) hr406 hS416 ?_
      refine WDp (NPb (NPt (NPt (NPb (NPt hN))))) 13 51 (.pointer (some ⟨g90, 5, none⟩)) (by kernel_rfl) (fun _ => by kernel_rfl) hS416 ?_
      refine WDp (NPb (NPt (NPt (NPb (NPt hN))))) 14 52 (.pointer (some ⟨g90, 8, none⟩)) (by kernel_rfl) (fun _ => by kernel_rfl) hS416 ?_
      obtain ⟨w417, hr418, hF419, hC420⟩ := sto_run (c' := #[.int .i64 (numR bs), .int .i64 (numR bs24), .int .i64 (numR bs40), .int .i64 (numR bs56), .int .i64 (numR bs72), .int .u32 (wrapA (numR bs88)), .int .i64 (numR bs115), .int .i64 (numR bs131), .slice A412 (n5 + 1) c413, .int .u32 0, .int .u32 0, .bool false]) Try.prog hC409 2 57 g90 8 (.slice A412 (n5 + 1) c413) rfl (by kernel_rfl)
      have hS421 := hS416.trans hF419 (by first | (simp; done) | (simp [*]; done) | (have q_ := hS416.size; simp; omega))
      refine WD.semU 15 (Instr.storeAt 57 (.pointer (some ⟨g90, 8, none⟩)) (.slice A412 (n5 + 1) c413)) (by kernel_rfl) (by kernel_rfl) hr418 hS421 ?_
      have ho422 := own_fr ho415 hF419 (hC409.apartM 0 2 rfl rfl)
      refine WD.done (by kernel_rfl) ?_
      refine QXb ?_
      refine QXn (hK187 _ _ ?_)
      refine WCg (WLr 2 [(37, .int .i64 (IntKind.i64.wrap (nn - 1))), (36, .int .i64 nn)] (fun _ => by kernel_rfl) ?_)
      refine WLt (show (.int .i64 (IntKind.i64.wrap (nn - 1)) : Value) = .int .i64 (nn - 1) from by rw [wrap_in_i64 (nn - 1) (by omega) (by omega)]) ?_
      refine WLr 1 [(4, .int .i64 (nn - 1))] (fun _ => by kernel_rfl) ?_
      refine WLd rfl ?_
      refine QXn ?_
      have hC423 := hC420.pick [0, 1, 2] [0] rfl rfl
      refine fun a_ ha_ => hK175 _ _ _ ?_ ⟨A412, n5 + 1, c413, es5 ++ [(⟨wrapA (numR bs5), numR bs292, numR bs375⟩ : EndV)], nn - 1, bs393, A377, c378, rfl, rfl, hC423, ho422, by simp only [List.length_append, List.length_cons, List.length_nil]; omega, ⟨by omega, by omega⟩, by rw [endsR_step (by omega) (by omega)] at hin1; unfold endR at hin1; simp only [hbs293, hbs376, hbs394] at hin1; simp only [List.length_append, List.length_cons, List.length_nil, Nat.zero_add, List.append_assoc, List.cons_append, List.nil_append]; exact hin1, by rw [endsR_step (by omega) (by omega)] at hin2; simp only [hbs293, hbs376, hbs394] at hin2; simp only [List.length_append, List.length_cons, List.length_nil, Nat.zero_add]; exact hin2, hrd387, hby388, hc383, hcl389, hsub390⟩ a_ (ha_.weaken (sub_of ⟨rfl, rfl, rfl, rfl, trivial⟩))
      simp only [List.length_append, List.length_cons, List.length_nil]; omega
     ·
      refine WO.call 9 (by kernel_rfl) rfl rfl rfl rfl rfl (by kernel_rfl) (num_ct p A359 c360 bs375 w361 (hC368.get 0 rfl) (Rd.frE (hrd369 w hr) hC368.fr (fun hn_ b_ off_ h_ => by simpa using hsub372 hn_ b_ off_ h_)) hby370 hc365 hcl371) ?_
      rintro _ w426 ⟨A424, c425, rfl, hF427, hp428, hr429, hc430, hcc431, hs432⟩
      have hC433 := hC368.callM 0 rfl hF427 hp428
      have hS438 := hS373.trans hF427 (fun x_ hx_ => .inl (by simp at hx_ ⊢; simp [hx_]))
      refine ⟨_, rfl, hS438, ?_⟩
      have hrd434 : ∀ w0_, Rd w0_ 1 (Go.Tw.encI .u8) A bs → Rd w0_ 1 (Go.Tw.encI .u8) A424 (resR bs375) := fun w0_ h_ => hr429 w0_ (hrd369 w0_ h_)
      have hby435 := resR_byte hby370
      have hcl436 := Nat.le_trans hcc431 hcl371
      have hsub437 : 0 < (resR bs375).length → ∀ b_ off_, A424 = some ⟨b_, off_, none⟩ → b_ ≠ p := fun hn_ b_ off_ h_ => (hs432 b_ off_ h_).elim (fun o2_ h2_ => hsub372 (resR_pos hn_) b_ o2_ h2_)
      have ho439 := own_fr ho374 hF427 (hC368.apartM 0 0 rfl rfl)
      obtain ⟨bs440, hbs441⟩ : ∃ x_, resR bs375 = x_ := ⟨_, rfl⟩
      rw [hbs441] at hC433 hrd434 hby435 hc430 hsub437
      refine WDp (NPb (NPt (NPt (NPb (NPt hN))))) 10 48 (.agg #[.int .u32 (wrapA (numR bs5)), .int .i64 (numR bs292), .int .i64 (numR bs375)]) (by kernel_rfl) (fun _ => by kernel_rfl) hS438 ?_
      refine WD.all2 2 11 (by kernel_rfl) ?_ ?_
      ·
       refine WO.sem 2 (Instr.loadAt 57 (.pointer (some ⟨g90, 8, none⟩))) 40 (.slice A5 n5 c5) (by kernel_rfl) (by kernel_rfl) (run_ld (hC433.get 2 rfl) rfl) hS438 ?_
       refine WD.new 11 (fun b => .slice (some ⟨b, 0, none⟩) 1 1) (.cells #[.int .u32 (wrapA (numR bs5)), .int .i64 (numR bs292), .int .i64 (numR bs375)] 91) (by kernel_rfl) rfl rfl rfl rfl rfl (fun _ => by kernel_rfl) (fun g442 w443 hb446 hl447 hF444 ho448 => ?_)
       have hC445 := hC433.callB hF444 hb446 ho448
       have hS449 := hS438.trans hF444 (by simp)
       refine ⟨hS449, ?_⟩
       have ho450 := own_fr ho439 hF444 (by simp)
       obtain ⟨v451, w452, hr453, ho454, hF455, hC456, hnil457, hsub458⟩ := app_run Try.prog hC445 0 (v := .slice A5 n5 c5) rfl 57 57 91 3 24 n5 1 1 (some ⟨g442, 0, none⟩) rfl ho450 [.int .u32 (wrapA (numR bs5)), .int .i64 (numR bs292), .int .i64 (numR bs375)] rfl (srcOk.blk 1 (hC445.get 3 rfl)) rfl (by simp only [maxLen]; omega) (by omega)
       have ho462 := own_snoc (enc := cellsE) (ys := es5) (⟨wrapA (numR bs5), numR bs292, numR bs375⟩ : EndV) ho454
       obtain ⟨A459, c460, rfl, hle461⟩ := own_form ho462
       have hS463 := hS449.trans hF455 (fun x_ hx_ => .inl (List.mem_cons_of_mem _ (List.mem_cons_of_mem _ hx_)))
       refine WD.sem 12 (Builtin.append_ #[57, 57] 57 #[.slice A5 n5 c5, .slice (some ⟨g442, 0, none⟩) 1 1]) 50 (.slice A459 (n5 + 1) c460) (by kernel_rfl) (by kernel_rfl) hr453 hS463 ?_
       refine WDp (NPb (NPt (NPt (NPb (NPt hN))))) 13 51 (.pointer (some ⟨g90, 5, none⟩)) (by kernel_rfl) (fun _ => by kernel_rfl) hS463 ?_
       refine WDp (NPb (NPt (NPt (NPb (NPt hN))))) 14 52 (.pointer (some ⟨g90, 8, none⟩)) (by kernel_rfl) (fun _ => by kernel_rfl) hS463 ?_
       obtain ⟨w464, hr465, hF466, hC467⟩ := sto_run (c' := #[.int .i64 (numR bs), .int .i64 (numR bs24), .int .i64 (numR bs40), .int .i64 (numR bs56), .int .i64 (numR bs72), .int .u32 (wrapA (numR bs88)), .int .i64 (numR bs115), .int .i64 (numR bs131), .slice A459 (n5 + 1) c460, .int .u32 0, .int .u32 0, .bool false]) Try.prog hC456 2 57 g90 8 (.slice A459 (n5 + 1) c460) rfl (by kernel_rfl)
       have hS468 := hS463.trans hF466 (by first | (simp; done) | (simp [*]; done) | (have q_ := hS463.size; simp; omega))
       refine WD.semU 15 (Instr.storeAt 57 (.pointer (some ⟨g90, 8, none⟩)) (.slice A459 (n5 + 1) c460)) (by kernel_rfl) (by kernel_rfl) hr465 hS468 ?_
       have ho469 := own_fr ho462 hF466 (hC456.apartM 0 2 rfl rfl)
       refine WD.done (by kernel_rfl) ?_
       refine QXb ?_
       refine QXn (hK187 _ _ ?_)
       refine WCg (WLr 2 [(37, .int .i64 (IntKind.i64.wrap (nn - 1))), (36, .int .i64 nn)] (fun _ => by kernel_rfl) ?_)
       refine WLt (show (.int .i64 (IntKind.i64.wrap (nn - 1)) : Value) = .int .i64 (nn - 1) from by rw [wrap_in_i64 (nn - 1) (by omega) (by omega)]) ?_
       refine WLr 1 [(4, .int .i64 (nn - 1))] (fun _ => by kernel_rfl) ?_
       refine WLd rfl ?_
       refine QXn ?_
       have hC470 := hC467.pick [0, 1, 2] [0] rfl rfl
       refine fun a_ ha_ => hK175 _ _ _ ?_ ⟨A459, n5 + 1, c460, es5 ++ [(⟨wrapA (numR bs5), numR bs292, numR bs375⟩ : EndV)], nn - 1, bs440, A424, c425, rfl, rfl, hC470, ho469, by simp only [List.length_append, List.length_cons, List.length_nil]; omega, ⟨by omega, by omega⟩, by rw [endsR_step (by omega) (by omega)] at hin1; unfold endR at hin1; simp only [hbs293, hbs376, hbs441] at hin1; simp only [List.length_append, List.length_cons, List.length_nil, Nat.zero_add, List.append_assoc, List.cons_append, List.nil_append]; exact hin1, by rw [endsR_step (by omega) (by omega)] at hin2; simp only [hbs293, hbs376, hbs441] at hin2; simp only [List.length_append, List.length_cons, List.length_nil, Nat.zero_add]; exact hin2, hrd434, hby435, hc430, hcl436, hsub437⟩ a_ (ha_.weaken (sub_of ⟨rfl, rfl, rfl, rfl, trivial⟩))
       simp only [List.length_append, List.length_cons, List.length_nil]; omega
      ·
       refine WO.new 11 (fun b => .slice (some ⟨b, 0, none⟩) 1 1) (.cells #[.int .u32 (wrapA (numR bs5)), .int .i64 (numR bs292), .int .i64 (numR bs375)] 91) (by kernel_rfl) rfl rfl rfl rfl rfl (fun _ => by kernel_rfl) (fun g471 w472 hb475 hl476 hF473 ho477 => ?_)
       have hC474 := hC433.callB hF473 hb475 ho477
       have hS478 := hS438.trans hF473 (by simp)
       refine ⟨hS478, ?_⟩
       have ho479 := own_fr ho439 hF473 (by simp)
       refine WD.sem 2 (Instr.loadAt 57 (.pointer (some ⟨g90, 8, none⟩))) 40 (.slice A5 n5 c5) (by kernel_rfl) (by kernel_rfl) (run_ld (hC474.get 2 rfl) rfl) hS478 ?_
       obtain ⟨v480, w481, hr482, ho483, hF484, hC485, hnil486, hsub487⟩ := app_run Try.prog hC474 0 (v := .slice A5 n5 c5) rfl 57 57 91 3 24 n5 1 1 (some ⟨g471, 0, none⟩) rfl ho479 [.int .u32 (wrapA (numR bs5)), .int .i64 (numR bs292), .int .i64 (numR bs375)] rfl (srcOk.blk 1 (hC474.get 3 rfl)) rfl (by simp only [maxLen]; omega) (by omega)
       have ho491 := own_snoc (enc := cellsE) (ys := es5) (⟨wrapA (numR bs5), numR bs292, numR bs375⟩ : EndV) ho483
       obtain ⟨A488, c489, rfl, hle490⟩ := own_form ho491
       have hS492 := hS478.trans hF484 (fun x_ hx_ => .inl (List.mem_cons_of_mem _ (List.mem_cons_of_mem _ hx_)))
       refine WD.sem 12 (Builtin.append_ #[57, 57] 57 #[.slice A5 n5 c5, .slice (some ⟨g471, 0, none⟩) 1 1]) 50 (.slice A488 (n5 + 1) c489) (by kernel_rfl) (by kernel_rfl) hr482 hS492 ?_
       refine WDp (NPb (NPt (NPt (NPb (NPt hN))))) 13 51 (.pointer (some ⟨g90, 5, none⟩)) (by kernel_rfl) (fun _ => by kernel_rfl) hS492 ?_
       refine WDp (NPb (NPt (NPt (NPb (NPt hN))))) 14 52 (.pointer (some ⟨g90, 8, none⟩)) (by kernel_rfl) (fun _ => by kernel_rfl) hS492 ?_
       obtain ⟨w493, hr494, hF495, hC496⟩ := sto_run (c' := #[.int .i64 (numR bs), .int .i64 (numR bs24), .int .i64 (numR bs40), .int .i64 (numR bs56), .int .i64 (numR bs72), .int .u32 (wrapA (numR bs88)), .int .i64 (numR bs115), .int .i64 (numR bs131), .slice A488 (n5 + 1) c489, .int .u32 0, .int .u32 0, .bool false]) Try.prog hC485 2 57 g90 8 (.slice A488 (n5 + 1) c489) rfl (by kernel_rfl)
       have hS497 := hS492.trans hF495 (by first | (simp; done) | (simp [*]; done) | (have q_ := hS492.size; simp; omega))
       refine WD.semU 15 (Instr.storeAt 57 (.pointer (some ⟨g90, 8, none⟩)) (.slice A488 (n5 + 1) c489)) (by kernel_rfl) (by kernel_rfl) hr494 hS497 ?_
       have ho498 := own_fr ho491 hF495 (hC485.apartM 0 2 rfl rfl)
       refine WD.done (by kernel_rfl) ?_
       refine QXb ?_
       refine QXn (hK187 _ _ ?_)
       refine WCg (WLr 2 [(37, .int .i64 (IntKind.i64.wrap (nn - 1))), (36, .int .i64 nn)] (fun _ => by kernel_rfl) ?_)
       refine WLt (show (.int .i64 (IntKind.i64.wrap (nn - 1)) : Value) = .int .i64 (nn - 1) from by rw [wrap_in_i64 (nn - 1) (by omega) (by omega)]) ?_
       refine WLr 1 [(4, .int .i64 (nn - 1))] (fun _ => by kernel_rfl) ?_
       refine WLd rfl ?_
       refine QXn ?_
       have hC499 := hC496.pick [0, 1, 2] [0] rfl rfl
       refine fun a_ ha_ => hK175 _ _ _ ?_ ⟨A488, n5 + 1, c489, es5 ++ [(⟨wrapA (numR bs5), numR bs292, numR bs375⟩ : EndV)], nn - 1, bs440, A424, c425, rfl, rfl, hC499, ho498, by simp only [List.length_append, List.length_cons, List.length_nil]; omega, ⟨by omega, by omega⟩, by rw [endsR_step (by omega) (by omega)] at hin1; unfold endR at hin1; simp only [hbs293, hbs376, hbs441] at hin1; simp only [List.length_append, List.length_cons, List.length_nil, Nat.zero_add, List.append_assoc, List.cons_append, List.nil_append]; exact hin1, by rw [endsR_step (by omega) (by omega)] at hin2; simp only [hbs293, hbs376, hbs441] at hin2; simp only [List.length_append, List.length_cons, List.length_nil, Nat.zero_add]; exact hin2, hrd434, hby435, hc430, hcl436, hsub437⟩ a_ (ha_.weaken (sub_of ⟨rfl, rfl, rfl, rfl, trivial⟩))
       simp only [List.length_append, List.length_cons, List.length_nil]; omega
  ·
   have t185 : (64 : Int) < (n5 : Int) := by have q_ := of_decide_eq_false t185b; omega
   refine WCf rfl ?_
   refine WC.exit ?_
   refine QXe ?_
   refine QXe ?_
   refine QX.block_hit ?_
   refine QXn (hK154 _ _ ?_)
   refine WCs (fun K500 hK501 => ?_)
   refine WCg (WLr 1 [(53, .pointer (some ⟨p, 0, none⟩))] (fun _ => by kernel_rfl) ?_)
   refine WLc rfl rfl rfl rfl rfl (by kernel_rfl) (num_ct p A9 c9 bs5 w178 (hC179.get 0 rfl) (Rd.frE (hrd5 w hr) hC179.fr (fun hn_ b_ off_ h_ => by simpa using hsub5 hn_ b_ off_ h_)) hby5 hcap5 hcl5) ?_
   rintro _ w504 ⟨A502, c503, rfl, hF505, hp506, hr507, hc508, hcc509, hs510⟩
   have hC511 := hC179.callM 0 rfl hF505 hp506
   refine ⟨_, rfl, ?_⟩
   have hrd512 : ∀ w0_, Rd w0_ 1 (Go.Tw.encI .u8) A bs → Rd w0_ 1 (Go.Tw.encI .u8) A502 (resR bs5) := fun w0_ h_ => hr507 w0_ (hrd5 w0_ h_)
   have hby513 := resR_byte hby5
   have hcl514 := Nat.le_trans hcc509 hcl5
   have hsub515 : 0 < (resR bs5).length → ∀ b_ off_, A502 = some ⟨b_, off_, none⟩ → b_ ≠ p := fun hn_ b_ off_ h_ => (hs510 b_ off_ h_).elim (fun o2_ h2_ => hsub5 (resR_pos hn_) b_ o2_ h2_)
   have ho516 := own_fr hends5 hF505 (hC179.apartM 0 0 rfl rfl)
   obtain ⟨bs517, hbs518⟩ : ∃ x_, resR bs5 = x_ := ⟨_, rfl⟩
   rw [hbs518] at hC511 hrd512 hby513 hc508 hsub515
   refine WLr 1 [(55, .int .u32 (IntKind.u32.wrap (numR bs5)))] (fun _ => by kernel_rfl) ?_
   refine WLt (show (.int .u32 (IntKind.u32.wrap (numR bs5)) : Value) = .int .u32 (wrapA (numR bs5)) from rfl) ?_
   refine WLr 1 [(56, .pointer (some ⟨p, 0, none⟩))] (fun _ => by kernel_rfl) ?_
   refine WLc rfl rfl rfl rfl rfl (by kernel_rfl) (num_ct p A502 c503 bs517 w504 (hC511.get 0 rfl) (Rd.frE (hrd512 w hr) hC511.fr (fun hn_ b_ off_ h_ => by simpa using hsub515 hn_ b_ off_ h_)) hby513 hc508 hcl514) ?_
   rintro _ w521 ⟨A519, c520, rfl, hF522, hp523, hr524, hc525, hcc526, hs527⟩
   have hC528 := hC511.callM 0 rfl hF522 hp523
   refine ⟨_, rfl, ?_⟩
   have hrd529 : ∀ w0_, Rd w0_ 1 (Go.Tw.encI .u8) A bs → Rd w0_ 1 (Go.Tw.encI .u8) A519 (resR bs517) := fun w0_ h_ => hr524 w0_ (hrd512 w0_ h_)
   have hby530 := resR_byte hby513
   have hcl531 := Nat.le_trans hcc526 hcl514
   have hsub532 : 0 < (resR bs517).length → ∀ b_ off_, A519 = some ⟨b_, off_, none⟩ → b_ ≠ p := fun hn_ b_ off_ h_ => (hs527 b_ off_ h_).elim (fun o2_ h2_ => hsub515 (resR_pos hn_) b_ o2_ h2_)
   have ho533 := own_fr ho516 hF522 (hC511.apartM 0 0 rfl rfl)
   obtain ⟨bs534, hbs535⟩ : ∃ x_, resR bs517 = x_ := ⟨_, rfl⟩
   rw [hbs535] at hC528 hrd529 hby530 hc525 hsub532
   refine WLr 1 [(58, .int .u32 (IntKind.u32.wrap (numR bs517)))] (fun _ => by kernel_rfl) ?_
   refine WLt (show (.int .u32 (IntKind.u32.wrap (numR bs517)) : Value) = .int .u32 (wrapA (numR bs517)) from rfl) ?_
   refine WLr 1 [(59, .pointer (some ⟨p, 0, none⟩))] (fun _ => by kernel_rfl) ?_
   refine WLc rfl rfl rfl rfl rfl (by kernel_rfl) (num_ct p A519 c520 bs534 w521 (hC528.get 0 rfl) (Rd.frE (hrd529 w hr) hC528.fr (fun hn_ b_ off_ h_ => by simpa using hsub532 hn_ b_ off_ h_)) hby530 hc525 hcl531) ?_
   rintro _ w538 ⟨A536, c537, rfl, hF539, hp540, hr541, hc542, hcc543, hs544⟩
   have hC545 := hC528.callM 0 rfl hF539 hp540
   refine ⟨_, rfl, ?_⟩
   have hrd546 : ∀ w0_, Rd w0_ 1 (Go.Tw.encI .u8) A bs → Rd w0_ 1 (Go.Tw.encI .u8) A536 (resR bs534) := fun w0_ h_ => hr541 w0_ (hrd529 w0_ h_)
   have hby547 := resR_byte hby530
   have hcl548 := Nat.le_trans hcc543 hcl531
   have hsub549 : 0 < (resR bs534).length → ∀ b_ off_, A536 = some ⟨b_, off_, none⟩ → b_ ≠ p := fun hn_ b_ off_ h_ => (hs544 b_ off_ h_).elim (fun o2_ h2_ => hsub532 (resR_pos hn_) b_ o2_ h2_)
   have ho550 := own_fr ho533 hF539 (hC528.apartM 0 0 rfl rfl)
   obtain ⟨bs551, hbs552⟩ : ∃ x_, resR bs534 = x_ := ⟨_, rfl⟩
   rw [hbs552] at hC545 hrd546 hby547 hc542 hsub549
   refine WLr 1 [(61, .bool ((numR bs534) == 1))] (fun _ => by kernel_rfl) ?_
   refine WLt (show (.bool ((numR bs534) == 1) : Value) = .bool (decide ((numR bs534) = (1 : Int))) from congrArg Value.bool (Bool.eq_iff_iff.2 (by simp))) ?_
   refine WLr 1 [(62, .pointer (some ⟨g90, 9, none⟩))] (fun _ => by kernel_rfl) ?_
   refine WLs (c' := #[.int .i64 (numR bs), .int .i64 (numR bs24), .int .i64 (numR bs40), .int .i64 (numR bs56), .int .i64 (numR bs72), .int .u32 (wrapA (numR bs88)), .int .i64 (numR bs115), .int .i64 (numR bs131), .slice A5 n5 c5, .int .u32 (wrapA (numR bs5)), .int .u32 0, .bool false]) hC545 2 56 g90 9 (.int .u32 (wrapA (numR bs5))) (by kernel_rfl) rfl (by kernel_rfl) (fun w553 hF555 hC556 => ?_)
   have ho557 := own_fr ho550 hF555 (hC545.apartM 0 2 rfl rfl)
   refine WLr 1 [(63, .pointer (some ⟨g90, 10, none⟩))] (fun _ => by kernel_rfl) ?_
   refine WLs (c' := #[.int .i64 (numR bs), .int .i64 (numR bs24), .int .i64 (numR bs40), .int .i64 (numR bs56), .int .i64 (numR bs72), .int .u32 (wrapA (numR bs88)), .int .i64 (numR bs115), .int .i64 (numR bs131), .slice A5 n5 c5, .int .u32 (wrapA (numR bs5)), .int .u32 (wrapA (numR bs517)), .bool false]) hC556 2 56 g90 10 (.int .u32 (wrapA (numR bs517))) (by kernel_rfl) rfl (by kernel_rfl) (fun w558 hF560 hC561 => ?_)
   have ho562 := own_fr ho557 hF560 (hC556.apartM 0 2 rfl rfl)
   refine WLr 1 [(64, .pointer (some ⟨g90, 11, none⟩))] (fun _ => by kernel_rfl) ?_
   refine WLs (c' := #[.int .i64 (numR bs), .int .i64 (numR bs24), .int .i64 (numR bs40), .int .i64 (numR bs56), .int .i64 (numR bs72), .int .u32 (wrapA (numR bs88)), .int .i64 (numR bs115), .int .i64 (numR bs131), .slice A5 n5 c5, .int .u32 (wrapA (numR bs5)), .int .u32 (wrapA (numR bs517)), .bool (decide ((numR bs534) = (1 : Int)))]) hC561 2 4 g90 11 (.bool (decide ((numR bs534) = (1 : Int)))) (by kernel_rfl) rfl (by kernel_rfl) (fun w563 hF565 hC566 => ?_)
   have ho567 := own_fr ho562 hF565 (hC561.apartM 0 2 rfl rfl)
   refine WLd rfl (QXn (hK501 _ _ ?_))
   refine WCs (fun K568 hK569 => ?_)
   refine WCg ?_
   refine WL.load 61 (.pointer (some ⟨g90, 0, none⟩)) (.agg #[.int .i64 (numR bs), .int .i64 (numR bs24), .int .i64 (numR bs40), .int .i64 (numR bs56), .int .i64 (numR bs72), .int .u32 (wrapA (numR bs88)), .int .i64 (numR bs115), .int .i64 (numR bs131), .slice A5 n5 c5, .int .u32 (wrapA (numR bs5)), .int .u32 (wrapA (numR bs517)), .bool (decide ((numR bs534) = (1 : Int)))]) 65 (by kernel_rfl) (run_ld (hC566.get 2 rfl) rfl) ?_
   refine WLs (c' := #[.int .i64 (numR bs), .int .i64 (numR bs24), .int .i64 (numR bs40), .int .i64 (numR bs56), .int .i64 (numR bs72), .int .u32 (wrapA (numR bs88)), .int .i64 (numR bs115), .int .i64 (numR bs131), .slice A5 n5 c5, .int .u32 (wrapA (numR bs5)), .int .u32 (wrapA (numR bs517)), .bool (decide ((numR bs534) = (1 : Int)))]) hC566 1 61 g3 0 (.agg #[.int .i64 (numR bs), .int .i64 (numR bs24), .int .i64 (numR bs40), .int .i64 (numR bs56), .int .i64 (numR bs72), .int .u32 (wrapA (numR bs88)), .int .i64 (numR bs115), .int .i64 (numR bs131), .slice A5 n5 c5, .int .u32 (wrapA (numR bs5)), .int .u32 (wrapA (numR bs517)), .bool (decide ((numR bs534) = (1 : Int)))]) (by kernel_rfl) rfl (by kernel_rfl) (fun w570 hF572 hC573 => ?_)
   have ho574 := own_fr ho567 hF572 (hC566.apartM 0 1 rfl rfl)
   refine WLd rfl (QXn (hK569 _ _ ?_))
   refine WC.ret ?_
   refine (hret' _ _ (.agg #[.int .i64 (numR bs), .int .i64 (numR bs24), .int .i64 (numR bs40), .int .i64 (numR bs56), .int .i64 (numR bs72), .int .u32 (wrapA (numR bs88)), .int .i64 (numR bs115), .int .i64 (numR bs131), .slice A5 n5 c5, .int .u32 (wrapA (numR bs5)), .int .u32 (wrapA (numR bs517)), .bool (decide ((numR bs534) = (1 : Int)))]) (fun a ha => ?_) ?_).1
   ·
    exact res_run ha ((ResR.cell rfl (run_ld (hC573.get 1 rfl) rfl) ResR.nil)) rfl
   clear hN hret hret' hK569 hK501 hK183 hK181 hK156 hK154 hK100 hK9 hK2
   have hst_ := endsR_stop (n := nn) (l := es5.length) (bs := bs5) (by omega)
   rw [hst_] at hin1 hin2
   simp only [List.append_nil] at hin1 hin2
   have hcm_ : cmdR bs = cmdP bs (es5, bs5) := by unfold cmdR; rw [hin1, hin2]
   rw [hcm_]
   simp only [cmdP, hbs25, hbs41, hbs57, hbs73, hbs89, hbs116, hbs132, hbs148, hbs172, hbs518, hbs535, hbs552]
   subst hcn5_
   exact ⟨A5, c5, A536, c537, rfl, hC573.fr, hC573.get 0 rfl, hrd546, hby547, hc542, hcl548, hsub549, own_base ho574 (newF_of hC573 0 rfl (by intro x_ hx_; simp at hx_; subst hx_; exact lt_of_heap hp) (by intro q_ hq_; simp at hq_; subst hq_; exact hC573.notin 0 0 rfl rfl))⟩
 ·
  have t184 : nn ≤ 0 := by have q_ := of_decide_eq_false t184b; omega
  refine WLr 6 [(35, .bool false), (34, undef), (33, undef), (32, undef), (31, undef), (30, undef)] (fun _ => by kernel_rfl) (WLd rfl (QXn (hK183 _ _ ?_)))
  refine WCf rfl ?_
  refine WC.exit ?_
  refine QXe ?_
  refine QXe ?_
  refine QX.block_hit ?_
  refine QXn (hK154 _ _ ?_)
  refine WCs (fun K575 hK576 => ?_)
  refine WCg (WLr 1 [(53, .pointer (some ⟨p, 0, none⟩))] (fun _ => by kernel_rfl) ?_)
  refine WLc rfl rfl rfl rfl rfl (by kernel_rfl) (num_ct p A9 c9 bs5 w178 (hC179.get 0 rfl) (Rd.frE (hrd5 w hr) hC179.fr (fun hn_ b_ off_ h_ => by simpa using hsub5 hn_ b_ off_ h_)) hby5 hcap5 hcl5) ?_
  rintro _ w579 ⟨A577, c578, rfl, hF580, hp581, hr582, hc583, hcc584, hs585⟩
  have hC586 := hC179.callM 0 rfl hF580 hp581
  refine ⟨_, rfl, ?_⟩
  have hrd587 : ∀ w0_, Rd w0_ 1 (Go.Tw.encI .u8) A bs → Rd w0_ 1 (Go.Tw.encI .u8) A577 (resR bs5) := fun w0_ h_ => hr582 w0_ (hrd5 w0_ h_)
  have hby588 := resR_byte hby5
  have hcl589 := Nat.le_trans hcc584 hcl5
  have hsub590 : 0 < (resR bs5).length → ∀ b_ off_, A577 = some ⟨b_, off_, none⟩ → b_ ≠ p := fun hn_ b_ off_ h_ => (hs585 b_ off_ h_).elim (fun o2_ h2_ => hsub5 (resR_pos hn_) b_ o2_ h2_)
  have ho591 := own_fr hends5 hF580 (hC179.apartM 0 0 rfl rfl)
  obtain ⟨bs592, hbs593⟩ : ∃ x_, resR bs5 = x_ := ⟨_, rfl⟩
  rw [hbs593] at hC586 hrd587 hby588 hc583 hsub590
  refine WLr 1 [(55, .int .u32 (IntKind.u32.wrap (numR bs5)))] (fun _ => by kernel_rfl) ?_
  refine WLt (show (.int .u32 (IntKind.u32.wrap (numR bs5)) : Value) = .int .u32 (wrapA (numR bs5)) from rfl) ?_
  refine WLr 1 [(56, .pointer (some ⟨p, 0, none⟩))] (fun _ => by kernel_rfl) ?_
  refine WLc rfl rfl rfl rfl rfl (by kernel_rfl) (num_ct p A577 c578 bs592 w579 (hC586.get 0 rfl) (Rd.frE (hrd587 w hr) hC586.fr (fun hn_ b_ off_ h_ => by simpa using hsub590 hn_ b_ off_ h_)) hby588 hc583 hcl589) ?_
  rintro _ w596 ⟨A594, c595, rfl, hF597, hp598, hr599, hc600, hcc601, hs602⟩
  have hC603 := hC586.callM 0 rfl hF597 hp598
  refine ⟨_, rfl, ?_⟩
  have hrd604 : ∀ w0_, Rd w0_ 1 (Go.Tw.encI .u8) A bs → Rd w0_ 1 (Go.Tw.encI .u8) A594 (resR bs592) := fun w0_ h_ => hr599 w0_ (hrd587 w0_ h_)
  have hby605 := resR_byte hby588
  have hcl606 := Nat.le_trans hcc601 hcl589
  have hsub607 : 0 < (resR bs592).length → ∀ b_ off_, A594 = some ⟨b_, off_, none⟩ → b_ ≠ p := fun hn_ b_ off_ h_ => (hs602 b_ off_ h_).elim (fun o2_ h2_ => hsub590 (resR_pos hn_) b_ o2_ h2_)
  have ho608 := own_fr ho591 hF597 (hC586.apartM 0 0 rfl rfl)
  obtain ⟨bs609, hbs610⟩ : ∃ x_, resR bs592 = x_ := ⟨_, rfl⟩
  rw [hbs610] at hC603 hrd604 hby605 hc600 hsub607
  refine WLr 1 [(58, .int .u32 (IntKind.u32.wrap (numR bs592)))] (fun _ => by kernel_rfl) ?_
  refine WLt (show (.int .u32 (IntKind.u32.wrap (numR bs592)) : Value) = .int .u32 (wrapA (numR bs592)) from rfl) ?_
  refine WLr 1 [(59, .pointer (some ⟨p, 0, none⟩))] (fun _ => by kernel_rfl) ?_
  refine WLc rfl rfl rfl rfl rfl (by kernel_rfl) (num_ct p A594 c595 bs609 w596 (hC603.get 0 rfl) (Rd.frE (hrd604 w hr) hC603.fr (fun hn_ b_ off_ h_ => by simpa using hsub607 hn_ b_ off_ h_)) hby605 hc600 hcl606) ?_
  rintro _ w613 ⟨A611, c612, rfl, hF614, hp615, hr616, hc617, hcc618, hs619⟩
  have hC620 := hC603.callM 0 rfl hF614 hp615
  refine ⟨_, rfl, ?_⟩
  have hrd621 : ∀ w0_, Rd w0_ 1 (Go.Tw.encI .u8) A bs → Rd w0_ 1 (Go.Tw.encI .u8) A611 (resR bs609) := fun w0_ h_ => hr616 w0_ (hrd604 w0_ h_)
  have hby622 := resR_byte hby605
  have hcl623 := Nat.le_trans hcc618 hcl606
  have hsub624 : 0 < (resR bs609).length → ∀ b_ off_, A611 = some ⟨b_, off_, none⟩ → b_ ≠ p := fun hn_ b_ off_ h_ => (hs619 b_ off_ h_).elim (fun o2_ h2_ => hsub607 (resR_pos hn_) b_ o2_ h2_)
  have ho625 := own_fr ho608 hF614 (hC603.apartM 0 0 rfl rfl)
  obtain ⟨bs626, hbs627⟩ : ∃ x_, resR bs609 = x_ := ⟨_, rfl⟩
  rw [hbs627] at hC620 hrd621 hby622 hc617 hsub624
  refine WLr 1 [(61, .bool ((numR bs609) == 1))] (fun _ => by kernel_rfl) ?_
  refine WLt (show (.bool ((numR bs609) == 1) : Value) = .bool (decide ((numR bs609) = (1 : Int))) from congrArg Value.bool (Bool.eq_iff_iff.2 (by simp))) ?_
  refine WLr 1 [(62, .pointer (some ⟨g90, 9, none⟩))] (fun _ => by kernel_rfl) ?_
  refine WLs (c' := #[.int .i64 (numR bs), .int .i64 (numR bs24), .int .i64 (numR bs40), .int .i64 (numR bs56), .int .i64 (numR bs72), .int .u32 (wrapA (numR bs88)), .int .i64 (numR bs115), .int .i64 (numR bs131), .slice A5 n5 c5, .int .u32 (wrapA (numR bs5)), .int .u32 0, .bool false]) hC620 2 56 g90 9 (.int .u32 (wrapA (numR bs5))) (by kernel_rfl) rfl (by kernel_rfl) (fun w628 hF630 hC631 => ?_)
  have ho632 := own_fr ho625 hF630 (hC620.apartM 0 2 rfl rfl)
  refine WLr 1 [(63, .pointer (some ⟨g90, 10, none⟩))] (fun _ => by kernel_rfl) ?_
  refine WLs (c' := #[.int .i64 (numR bs), .int .i64 (numR bs24), .int .i64 (numR bs40), .int .i64 (numR bs56), .int .i64 (numR bs72), .int .u32 (wrapA (numR bs88)), .int .i64 (numR bs115), .int .i64 (numR bs131), .slice A5 n5 c5, .int .u32 (wrapA (numR bs5)), .int .u32 (wrapA (numR bs592)), .bool false]) hC631 2 56 g90 10 (.int .u32 (wrapA (numR bs592))) (by kernel_rfl) rfl (by kernel_rfl) (fun w633 hF635 hC636 => ?_)
  have ho637 := own_fr ho632 hF635 (hC631.apartM 0 2 rfl rfl)
  refine WLr 1 [(64, .pointer (some ⟨g90, 11, none⟩))] (fun _ => by kernel_rfl) ?_
  refine WLs (c' := #[.int .i64 (numR bs), .int .i64 (numR bs24), .int .i64 (numR bs40), .int .i64 (numR bs56), .int .i64 (numR bs72), .int .u32 (wrapA (numR bs88)), .int .i64 (numR bs115), .int .i64 (numR bs131), .slice A5 n5 c5, .int .u32 (wrapA (numR bs5)), .int .u32 (wrapA (numR bs592)), .bool (decide ((numR bs609) = (1 : Int)))]) hC636 2 4 g90 11 (.bool (decide ((numR bs609) = (1 : Int)))) (by kernel_rfl) rfl (by kernel_rfl) (fun w638 hF640 hC641 => ?_)
  have ho642 := own_fr ho637 hF640 (hC636.apartM 0 2 rfl rfl)
  refine WLd rfl (QXn (hK576 _ _ ?_))
  refine WCs (fun K643 hK644 => ?_)
  refine WCg ?_
  refine WL.load 61 (.pointer (some ⟨g90, 0, none⟩)) (.agg #[.int .i64 (numR bs), .int .i64 (numR bs24), .int .i64 (numR bs40), .int .i64 (numR bs56), .int .i64 (numR bs72), .int .u32 (wrapA (numR bs88)), .int .i64 (numR bs115), .int .i64 (numR bs131), .slice A5 n5 c5, .int .u32 (wrapA (numR bs5)), .int .u32 (wrapA (numR bs592)), .bool (decide ((numR bs609) = (1 : Int)))]) 65 (by kernel_rfl) (run_ld (hC641.get 2 rfl) rfl) ?_
  refine WLs (c' := #[.int .i64 (numR bs), .int .i64 (numR bs24), .int .i64 (numR bs40), .int .i64 (numR bs56), .int .i64 (numR bs72), .int .u32 (wrapA (numR bs88)), .int .i64 (numR bs115), .int .i64 (numR bs131), .slice A5 n5 c5, .int .u32 (wrapA (numR bs5)), .int .u32 (wrapA (numR bs592)), .bool (decide ((numR bs609) = (1 : Int)))]) hC641 1 61 g3 0 (.agg #[.int .i64 (numR bs), .int .i64 (numR bs24), .int .i64 (numR bs40), .int .i64 (numR bs56), .int .i64 (numR bs72), .int .u32 (wrapA (numR bs88)), .int .i64 (numR bs115), .int .i64 (numR bs131), .slice A5 n5 c5, .int .u32 (wrapA (numR bs5)), .int .u32 (wrapA (numR bs592)), .bool (decide ((numR bs609) = (1 : Int)))]) (by kernel_rfl) rfl (by kernel_rfl) (fun w645 hF647 hC648 => ?_)
  have ho649 := own_fr ho642 hF647 (hC641.apartM 0 1 rfl rfl)
  refine WLd rfl (QXn (hK644 _ _ ?_))
  refine WC.ret ?_
  refine (hret' _ _ (.agg #[.int .i64 (numR bs), .int .i64 (numR bs24), .int .i64 (numR bs40), .int .i64 (numR bs56), .int .i64 (numR bs72), .int .u32 (wrapA (numR bs88)), .int .i64 (numR bs115), .int .i64 (numR bs131), .slice A5 n5 c5, .int .u32 (wrapA (numR bs5)), .int .u32 (wrapA (numR bs592)), .bool (decide ((numR bs609) = (1 : Int)))]) (fun a ha => ?_) ?_).1
  ·
   exact res_run ha ((ResR.cell rfl (run_ld (hC648.get 1 rfl) rfl) ResR.nil)) rfl
  clear hN hret hret' hK644 hK576 hK183 hK181 hK156 hK154 hK100 hK9 hK2
  have hst_ := endsR_stop (n := nn) (l := es5.length) (bs := bs5) (by omega)
  rw [hst_] at hin1 hin2
  simp only [List.append_nil] at hin1 hin2
  have hcm_ : cmdR bs = cmdP bs (es5, bs5) := by unfold cmdR; rw [hin1, hin2]
  rw [hcm_]
  simp only [cmdP, hbs25, hbs41, hbs57, hbs73, hbs89, hbs116, hbs132, hbs148, hbs172, hbs593, hbs610, hbs627]
  subst hcn5_
  exact ⟨A5, c5, A611, c612, rfl, hC648.fr, hC648.get 0 rfl, hrd621, hby622, hc617, hcl623, hsub624, own_base ho649 (newF_of hC648 0 rfl (by intro x_ hx_; simp at hx_; subst hx_; exact lt_of_heap hp) (by intro q_ hq_; simp at hq_; subst hq_; exact hC648.notin 0 0 rfl rfl))⟩

end Go.Proofs.Ytjacpjdikhlcoaa
