/- Contracts of functions of the program, each proved by a walk through its code; conditions stand in the statements. -/
import Derived.Test.YtmahghppojbeoaaSeH
namespace Go.Proofs.Ytmahghppojbeoaa
set_option linter.unusedSimpArgs false
set_option linter.unusedVariables false
set_option linter.unusedSectionVars false
open Go Go.RowKit Go.Tw
set_option linter.unusedVariables false
set_option maxRecDepth 20000
/-! ### what one mux says, and another one -/
def vw (L : Lm) : Option (Int × Int × List Int) := (lookL L 32).map fun o => (o.boot, o.heard, o.vs)
/-! a call of a script -/
structure SOp where
  kind : Int
  va : Option Addr
  vips : List Int
  vc : Nat
  from_ : Int
  mki : Int
  na : Option Addr
  nums : List Int
  nc : Nat
  da : Option Addr
  dn : Nat
  dc : Nat
  now : Int
def cellS (o : SOp) : List Value := [.int .i64 o.kind, .slice o.va o.vips.length o.vc, .int .i64 o.from_, .int .i64 o.mki, .slice o.na o.nums.length o.nc, .slice o.da o.dn o.dc, .int .i64 o.now]
theorem cellS_len (o : SOp) : (cellS o).length = 7 := rfl
structure sopAt (w : World) (o : SOp) : Prop where
  nr : Rd w 1 (Go.Tw.encI .i64) o.na o.nums
  nl : o.nums.length ≤ o.nc
  nm : o.nc ≤ maxLen
  fr : isI64 o.from_
  vm : o.vips.length ≤ maxLen
  vr : Rd w 1 (Go.Tw.encI .u32) o.va o.vips
  v32 : ∀ x ∈ o.vips, 0 ≤ x ∧ x ≤ 4294967295
theorem sopAt.fr' {w w' : World} {o : SOp} (h : sopAt w o) (hf : Fr w w' []) : sopAt w' o := { h with nr := Rd.fr h.nr hf, vr := Rd.fr h.vr hf }
set_option maxHeartbeats 1000000 in
theorem large_ct (C : Option Addr) (c : Nat) (ops : List SOp) (w : World) (hops : Rd w 7 cellS C ops) (hok : ∀ o ∈ ops, sopAt w o) (hol : ops.length ≤ 9223372036854775807) : Calls Try.prog 11 #[.slice C ops.length c] w fun e w' => ∃ b, e = .returned (.bool b) ∧ Fr w w' [] ∧ (b = false → ∀ o ∈ ops, o.nums.length ≤ 3300 ∧ o.vips.length ≤ 300) := by
 refine enterD (n := 34) Try.func11 rfl rfl (Nat.le_of_ble_eq_true rfl) ?_
 intro Q0 hN hret hret'
 have hC := Cx.start w
 refine WCs (fun K1 hK2 => ?_)
 refine WCg (WLq 1 [(2, .bool false)] (WLd rfl (QXn (hK2 _ _ ?_))))
 refine WCs (fun K3 hK4 => ?_)
 refine WCg (WLq 1 [(3, .int .i64 0)] (WLd rfl (QXn (hK4 _ _ ?_))))
 refine WCs (fun K5 hK6 => ?_)
 refine WCs (fun K7 hK8 => ?_)
 refine WCg (WLq 3 [(8, .int .i64 0), (7, .int .i64 (ops.length : Int)), (6, .slice C ops.length c)] (WLd rfl (QXn (hK8 _ _ ?_))))
 refine WC.block ?_
 refine WC.loop (fun m_ E_ w_ => ∃ (i : Nat) (n : Int), m_ = ops.length - i ∧ E_ = [(0, .slice C ops.length c), (3, .int .i64 n), (6, .slice C ops.length c), (7, .int .i64 (ops.length : Int)), (8, .int .i64 (i : Int))] ∧ Cx w [] w_ [] [] ∧ (i ≤ ops.length ∧ (0 ≤ n ∧ n ≤ 400) ∧ ∀ k o, k < i → ops[k]? = some o → o.nums.length ≤ 3300 ∧ o.vips.length ≤ 300)) ⟨_, _, ⟨0, 0, rfl, rfl, hC, Nat.zero_le _, ⟨by decide, by decide⟩, fun _ _ h_ => absurd h_ (Nat.not_lt_zero _)⟩, sub_of ⟨rfl, rfl, rfl, rfl, rfl, trivial⟩⟩ (fun m12 E_ aF K9 aj ak => ?_)
 obtain ⟨i, n, rfl, rfl, ad, hi, ⟨hn0, hn1⟩, hall⟩ := ak
 refine WCs (fun aG al => ?_)
 refine WCg (WLq 1 [(9, .bool (decide ((i : Int) < (ops.length : Int))))] (WLd rfl (QXn (al _ _ ?_))))
 refine WCs (fun aH am => ?_)
 refine WCa 9 (decide ((i : Int) < (ops.length : Int))) rfl (fun ae => ?_) (fun ae => ?_)
 ·
  have az : (i : Int) < (ops.length : Int) := by have q_ := of_decide_eq_true ae; omega
  refine WCt rfl ?_
  refine WC.skip ?_
  refine QXn (am _ _ ?_)
  refine WCs (fun aI an => ?_)
  refine WC.block ?_
  refine WCs (fun aJ ao => ?_)
  refine WCg ?_
  obtain ⟨aa, af⟩ := get_some (xs := ops) (i := i) (by omega)
  obtain ⟨b26, o28, ap, aq⟩ := hops.at_ _ _ af
  have hop_e24 := hok _ (List.mem_of_getElem? af)
  obtain ⟨hf0_e24, hf1_e24⟩ := hop_e24.fr
  have hnl_e24 := hop_e24.nl
  have hnm_e24 := hop_e24.nm
  have hvm_e24 := hop_e24.vm
  simp only [maxLen] at hnm_e24 hvm_e24
  refine WLi C ops.length c 10 .i64 (i : Int) b26 o28 i 7 (by kernel_rfl) ap (by omega) (by omega) (o28 + i * 7) (by first | (simp; done) | omega) ?_
  refine WLo 42 (.pointer (some ⟨b26, o28 + i * 7, none⟩)) (.agg #[.int .i64 aa.kind, .slice aa.va aa.vips.length aa.vc, .int .i64 aa.from_, .int .i64 aa.mki, .slice aa.na aa.nums.length aa.nc, .slice aa.da aa.dn aa.dc, .int .i64 aa.now]) 11 (run_rdN (l := [.int .i64 aa.kind, .slice aa.va aa.vips.length aa.vc, .int .i64 aa.from_, .int .i64 aa.mki, .slice aa.na aa.nums.length aa.nc, .slice aa.da aa.dn aa.dc, .int .i64 aa.now]) rfl rfl (fun j u hu => by have hq_ := ad.fr.cell (aq j u hu) (by simp); simpa [Nat.add_assoc] using hq_)) ?_
  refine WL.newM ad (fun b => .pointer (some ⟨b, 0, none⟩)) (.cells #[.int .i64 0, .slice none 0 0, .int .i64 0, .int .i64 0, .slice none 0 0, .slice none 0 0, .int .i64 0] 42) 5 (fun _ => by kernel_rfl) (fun ac aK aA aB ar => ?_)
  refine WLs (c' := #[.int .i64 aa.kind, .slice aa.va aa.vips.length aa.vc, .int .i64 aa.from_, .int .i64 aa.mki, .slice aa.na aa.nums.length aa.nc, .slice aa.da aa.dn aa.dc, .int .i64 aa.now]) ar 0 42 ac 0 (.agg #[.int .i64 aa.kind, .slice aa.va aa.vips.length aa.vc, .int .i64 aa.from_, .int .i64 aa.mki, .slice aa.na aa.nums.length aa.nc, .slice aa.da aa.dn aa.dc, .int .i64 aa.now]) (by kernel_rfl) rfl (by kernel_rfl) (fun aL aC ab => ?_)
  refine WLd rfl (QXn (ao _ _ ?_))
  refine WCs (fun aM au => ?_)
  refine WCg (WLq 2 [(13, .pointer (some ⟨ac, 1, none⟩)), (12, .int .i64 n)] ?_)
  refine WLo 33 (.pointer (some ⟨ac, 1, none⟩)) (.slice aa.va aa.vips.length aa.vc) 14 (run_ld (ab.get 0 rfl) rfl) ?_
  refine WLq 2 [(16, .int .i64 (IntKind.i64.wrap (Int.tdiv (aa.vips.length : Int) 8))), (15, .int .i64 (aa.vips.length : Int))] ?_
  refine WLt (show (.int .i64 (IntKind.i64.wrap (Int.tdiv (aa.vips.length : Int) 8)) : Value) = .int .i64 ((aa.vips.length : Int) / 8) from by rw [Int.tdiv_eq_ediv_of_nonneg (by omega), wrap_in_i64 _ (by omega) (by omega)]) ?_
  refine WLq 1 [(17, .int .i64 (IntKind.i64.wrap (1 + ((aa.vips.length : Int) / 8))))] ?_
  refine WLt (show (.int .i64 (IntKind.i64.wrap (1 + ((aa.vips.length : Int) / 8))) : Value) = .int .i64 (1 + ((aa.vips.length : Int) / 8)) from by rw [wrap_in_i64 _ (by omega) (by omega)]) ?_
  refine WLq 2 [(19, .pointer (some ⟨ac, 4, none⟩)), (18, .pointer (some ⟨ac, 3, none⟩))] ?_
  refine WLo 37 (.pointer (some ⟨ac, 4, none⟩)) (.slice aa.na aa.nums.length aa.nc) 20 (run_ld (ab.get 0 rfl) rfl) ?_
  refine WLq 2 [(22, .int .i64 (IntKind.i64.wrap (Int.tdiv (aa.nums.length : Int) 8))), (21, .int .i64 (aa.nums.length : Int))] ?_
  refine WLt (show (.int .i64 (IntKind.i64.wrap (Int.tdiv (aa.nums.length : Int) 8)) : Value) = .int .i64 ((aa.nums.length : Int) / 8) from by rw [Int.tdiv_eq_ediv_of_nonneg (by omega), wrap_in_i64 _ (by omega) (by omega)]) ?_
  refine WLq 1 [(23, .int .i64 (IntKind.i64.wrap ((1 + ((aa.vips.length : Int) / 8)) + ((aa.nums.length : Int) / 8))))] ?_
  refine WLt (show (.int .i64 (IntKind.i64.wrap ((1 + ((aa.vips.length : Int) / 8)) + ((aa.nums.length : Int) / 8))) : Value) = .int .i64 ((1 + ((aa.vips.length : Int) / 8)) + ((aa.nums.length : Int) / 8)) from by rw [wrap_in_i64 _ (by omega) (by omega)]) ?_
  refine WLq 1 [(24, .int .i64 (IntKind.i64.wrap (n + ((1 + ((aa.vips.length : Int) / 8)) + ((aa.nums.length : Int) / 8)))))] ?_
  refine WLt (show (.int .i64 (IntKind.i64.wrap (n + ((1 + ((aa.vips.length : Int) / 8)) + ((aa.nums.length : Int) / 8)))) : Value) = .int .i64 (n + ((1 + ((aa.vips.length : Int) / 8)) + ((aa.nums.length : Int) / 8))) from by rw [wrap_in_i64 _ (by omega) (by omega)]) ?_
  refine WLq 1 [(3, .int .i64 (n + ((1 + ((aa.vips.length : Int) / 8)) + ((aa.nums.length : Int) / 8))))] (WLd rfl (QXn (au _ _ ?_)))
  refine WCs (fun aN ai => ?_)
  refine WCg (WLq 3 [(27, .bool (decide ((n + ((1 + ((aa.vips.length : Int) / 8)) + ((aa.nums.length : Int) / 8))) > 400))), (26, .bool (decide ((n + ((1 + ((aa.vips.length : Int) / 8)) + ((aa.nums.length : Int) / 8))) > 400))), (25, .int .i64 (n + ((1 + ((aa.vips.length : Int) / 8)) + ((aa.nums.length : Int) / 8))))] ?_)
  refine WLa 27 (decide ((n + ((1 + ((aa.vips.length : Int) / 8)) + ((aa.nums.length : Int) / 8))) > 400)) rfl (fun ag => ?_) (fun ag => ?_)
  ·
   have aD : (400 : Int) < (n + ((1 + ((aa.vips.length : Int) / 8)) + ((aa.nums.length : Int) / 8))) := by have q_ := of_decide_eq_true ag; omega
   refine WLq 5 [(32, .bool true), (31, undef), (30, undef), (29, undef), (28, undef)] (WLd rfl (QXn (ai _ _ ?_)))
   refine WCt rfl ?_
   refine WCs (fun aO av => ?_)
   refine WCg (WLq 1 [(2, .bool true)] (WLd rfl (QXn (av _ _ ?_))))
   refine WC.ret ?_
   refine QXk ?_
   refine QXr ?_
   refine QXr ?_
   refine QXk ?_
   refine QXr ?_
   refine (hret _ _ _ rfl ?_).1
   exact ⟨_, rfl, ab.fr, fun h_ => by cases h_⟩
  ·
   have aD : (n + ((1 + ((aa.vips.length : Int) / 8)) + ((aa.nums.length : Int) / 8))) ≤ 400 := by have q_ := of_decide_eq_false ag; omega
   refine WLq 1 [(28, .pointer (some ⟨ac, 1, none⟩))] ?_
   refine WLo 33 (.pointer (some ⟨ac, 1, none⟩)) (.slice aa.va aa.vips.length aa.vc) 29 (run_ld (ab.get 0 rfl) rfl) ?_
   refine WLq 3 [(32, .bool (decide ((aa.vips.length : Int) > 300))), (31, .bool (decide ((aa.vips.length : Int) > 300))), (30, .int .i64 (aa.vips.length : Int))] (WLd rfl (QXn (ai _ _ ?_)))
   refine WCa 32 (decide ((aa.vips.length : Int) > 300)) rfl (fun ah => ?_) (fun ah => ?_)
   ·
    have aE : (300 : Int) < (aa.vips.length : Int) := by have q_ := of_decide_eq_true ah; omega
    refine WCt rfl ?_
    refine WCs (fun aP aw => ?_)
    refine WCg (WLq 1 [(2, .bool true)] (WLd rfl (QXn (aw _ _ ?_))))
    refine WC.ret ?_
    refine QXk ?_
    refine QXr ?_
    refine QXr ?_
    refine QXk ?_
    refine QXr ?_
    refine (hret _ _ _ rfl ?_).1
    exact ⟨_, rfl, ab.fr, fun h_ => by cases h_⟩
   ·
    have aE : (aa.vips.length : Int) ≤ 300 := by have q_ := of_decide_eq_false ah; omega
    refine WCf rfl (WC.skip ?_)
    refine QXb ?_
    refine QXn (an _ _ ?_)
    refine WCg (WLq 1 [(33, .int .i64 (IntKind.i64.wrap ((i : Int) + 1)))] ?_)
    refine WLt (show (.int .i64 (IntKind.i64.wrap ((i : Int) + 1)) : Value) = .int .i64 ((i : Int) + 1) from by rw [wrap_in_i64 _ (by omega) (by omega)]) ?_
    refine WLq 1 [(8, .int .i64 ((i : Int) + 1))] ?_
    refine WLd rfl ?_
    refine QXn ?_
    have ax := ab.pick [] [] rfl rfl
    refine fun a_ ha_ => aj _ _ _ ?_ ⟨i + 1, (n + ((1 + ((aa.vips.length : Int) / 8)) + ((aa.nums.length : Int) / 8))), rfl, rfl, ax, by omega, by omega, fun k_ o_ h1_ h2_ => by
     by_cases hk_ : k_ = i
     ·
      subst hk_; rw [af] at h2_; cases h2_; exact ⟨by omega, by omega⟩
     ·
      exact hall k_ o_ (by omega) h2_⟩ a_ (ha_.weaken (sub_of ⟨rfl, rfl, rfl, rfl, rfl, trivial⟩))
    omega
 ·
  have az : (ops.length : Int) ≤ (i : Int) := by have q_ := of_decide_eq_false ae; omega
  refine WCf rfl ?_
  refine WC.exit ?_
  refine QXe ?_
  refine QXe ?_
  refine QX.block_hit ?_
  refine QXn (hK6 _ _ ?_)
  refine WCs (fun aQ ay => ?_)
  refine WCg (WLq 1 [(2, .bool false)] (WLd rfl (QXn (ay _ _ ?_))))
  refine WC.ret ?_
  refine (hret _ _ _ rfl ?_).1
  exact ⟨_, rfl, ad.fr, fun _ o_ ho_ => by
   obtain ⟨k_, hk_⟩ := List.mem_iff_getElem?.1 ho_
   exact hall k_ o_ (by have := (List.getElem?_eq_some_iff.1 hk_).1; omega) hk_⟩

theorem Same_ct (k : Int) (A B : Option Addr) (c d : Nat) (xs : List Int) (w : World) (hA : Rd w 1 (Go.Tw.encI .i64) A xs) (hB : Rd w 1 (Go.Tw.encI .i64) B xs) (hl : xs.length ≤ 1099511627776) : Calls Try.prog 31 #[.agg #[.int .i64 k, .slice A xs.length c, .slice none 0 0], .agg #[.int .i64 k, .slice B xs.length d, .slice none 0 0]] w fun e w' => e = .returned (.bool true) ∧ Fr w w' [] := by
 refine enterD (n := 47) Try.func31 rfl rfl (Nat.le_of_ble_eq_true rfl) ?_
 intro Q0 hN hret hret'
 have hC := Cx.start w
 refine WCs (fun K1 hK2 => ?_)
 refine WCg ?_
 refine WL.newM hC (fun b => .pointer (some ⟨b, 0, none⟩)) (.cells #[.int .i64 k, .slice A xs.length c, .slice none 0 0] 40) 2 (fun _ => by kernel_rfl) (fun g3 w4 hb7 hF5 hC6 => ?_)
 refine WL.newM hC6 (fun b => .pointer (some ⟨b, 0, none⟩)) (.cells #[.int .i64 k, .slice B xs.length d, .slice none 0 0] 40) 3 (fun _ => by kernel_rfl) (fun g8 w9 aB aC ab => ?_)
 refine WLq 1 [(4, .bool false)] (WLd rfl (QXn (hK2 _ _ ?_)))
 refine WCs (fun aF ah => ?_)
 refine WCs (fun aG ai => ?_)
 refine WCg (WLq 1 [(6, .pointer (some ⟨g3, 0, none⟩))] ?_)
 refine WLo 3 (.pointer (some ⟨g3, 0, none⟩)) (.int .i64 k) 7 (run_ld (ab.get 0 rfl) rfl) ?_
 refine WLq 1 [(8, .pointer (some ⟨g8, 0, none⟩))] ?_
 refine WLo 3 (.pointer (some ⟨g8, 0, none⟩)) (.int .i64 k) 9 (run_ld (ab.get 1 rfl) rfl) ?_
 refine WLq 2 [(11, .bool (k != k)), (10, .bool (k != k))] ?_
 refine WL.know 11 (.bool (k != k)) (.bool false) rfl (congrArg Value.bool (by simp)) ?_
 refine WLq 1 [(12, .pointer (some ⟨g3, 1, none⟩))] ?_
 refine WLo 37 (.pointer (some ⟨g3, 1, none⟩)) (.slice A xs.length c) 13 (run_ld (ab.get 0 rfl) rfl) ?_
 refine WLq 2 [(15, .pointer (some ⟨g8, 1, none⟩)), (14, .int .i64 (xs.length : Int))] ?_
 refine WLo 37 (.pointer (some ⟨g8, 1, none⟩)) (.slice B xs.length d) 16 (run_ld (ab.get 1 rfl) rfl) ?_
 refine WLq 4 [(20, .bool ((xs.length : Int) != (xs.length : Int))), (19, .bool ((xs.length : Int) != (xs.length : Int))), (18, .bool ((xs.length : Int) != (xs.length : Int))), (17, .int .i64 (xs.length : Int))] ?_
 refine WL.know 20 (.bool ((xs.length : Int) != (xs.length : Int))) (.bool false) rfl (congrArg Value.bool (by simp)) ?_
 refine WLq 1 [(21, .pointer (some ⟨g3, 2, none⟩))] ?_
 refine WLo 38 (.pointer (some ⟨g3, 2, none⟩)) (.slice none 0 0) 22 (run_ld (ab.get 0 rfl) rfl) ?_
 refine WL.sem (convert 38 9 (.slice none 0 0)) 23 (.string (strOfNums ([] : List Int))) (by kernel_rfl) (run_bytes_str rfl rfl rfl (Rd.nil _ _ _ _) (by first | rfl | assumption | (simp; done))) ?_
 refine WLq 1 [(24, .pointer (some ⟨g8, 2, none⟩))] ?_
 refine WLo 38 (.pointer (some ⟨g8, 2, none⟩)) (.slice none 0 0) 25 (run_ld (ab.get 1 rfl) rfl) ?_
 refine WL.sem (convert 38 9 (.slice none 0 0)) 26 (.string (strOfNums ([] : List Int))) (by kernel_rfl) (run_bytes_str rfl rfl rfl (Rd.nil _ _ _ _) (by first | rfl | assumption | (simp; done))) ?_
 refine WLq 1 [(27, .bool (!((strOfNums ([] : List Int)).toList == (strOfNums ([] : List Int)).toList)))] ?_
 refine WLt (show (.bool (!((strOfNums ([] : List Int)).toList == (strOfNums ([] : List Int)).toList)) : Value) = .bool (!decide ((strOfNums ([] : List Int)) = (strOfNums ([] : List Int)))) from by rw [str_eql]) ?_
 refine WLq 1 [(28, .bool (!decide ((strOfNums ([] : List Int)) = (strOfNums ([] : List Int)))))] (WLd rfl (QXn (ai _ _ ?_)))
 refine WC.know 28 (.bool (!decide ((strOfNums ([] : List Int)) = (strOfNums ([] : List Int))))) (.bool false) rfl (congrArg Value.bool (by simp)) ?_
 refine WCf rfl (WC.skip (QXn (ah _ _ ?_)))
 refine WCs (fun aH aj => ?_)
 refine WCs (fun aI ak => ?_)
 refine WCg (WLq 1 [(5, .int .i64 0)] (WLd rfl (QXn (ak _ _ ?_))))
 refine WC.block ?_
 refine WC.loop (fun m_ E_ w_ => ∃ (i : Nat), m_ = xs.length - i ∧ E_ = [(2, .pointer (some ⟨g3, 0, none⟩)), (3, .pointer (some ⟨g8, 0, none⟩)), (5, .int .i64 (i : Int))] ∧ Cx w [] w_ [(g3, .cells #[.int .i64 k, .slice A xs.length c, .slice none 0 0] 40), (g8, .cells #[.int .i64 k, .slice B xs.length d, .slice none 0 0] 40)] [] ∧ (i ≤ xs.length)) ⟨_, _, ⟨0, rfl, rfl, ab, Nat.zero_le _⟩, sub_of ⟨rfl, rfl, rfl, trivial⟩⟩ (fun m24 E_ aJ aK al am => ?_)
 obtain ⟨i, rfl, rfl, ad, hi⟩ := am
 refine WCs (fun aL an => ?_)
 refine WCs (fun aM ao => ?_)
 refine WCg (WLq 2 [(30, .pointer (some ⟨g3, 1, none⟩)), (29, .int .i64 (i : Int))] ?_)
 refine WLo 37 (.pointer (some ⟨g3, 1, none⟩)) (.slice A xs.length c) 31 (run_ld (ad.get 0 rfl) rfl) ?_
 refine WLq 2 [(33, .bool (decide ((i : Int) < (xs.length : Int)))), (32, .int .i64 (xs.length : Int))] (WLd rfl (QXn (ao _ _ ?_)))
 refine WCa 33 (decide ((i : Int) < (xs.length : Int))) rfl (fun ae => ?_) (fun ae => ?_)
 ·
  have aD : (i : Int) < (xs.length : Int) := by have q_ := of_decide_eq_true ae; omega
  refine WCt rfl ?_
  refine WC.skip ?_
  refine QXn (an _ _ ?_)
  refine WCs (fun aN ap => ?_)
  refine WC.block ?_
  refine WCs (fun aO aq => ?_)
  refine WC.drawC ad [] (by kernel_rfl) (fun aP aE ac aa => ?_)
  refine WDq (NPt (NPb (NPt (NPt (NPb (NPt hN)))))) 0 36 (.pointer (some ⟨g3, 1, none⟩)) aa ?_
  refine WDq (NPt (NPb (NPt (NPt (NPb (NPt hN)))))) 2 38 (.int .i64 (i : Int)) aa ?_
  refine WDq (NPt (NPb (NPt (NPt (NPb (NPt hN)))))) 5 41 (.pointer (some ⟨g8, 1, none⟩)) aa ?_
  refine WDq (NPt (NPb (NPt (NPt (NPb (NPt hN)))))) 7 43 (.int .i64 (i : Int)) aa ?_
  refine WDm (NPt (NPb (NPt (NPt (NPb (NPt hN)))))) 1 37 (.pointer (some ⟨g3, 1, none⟩)) (.slice A xs.length c) 37 (fun _ hS_ => run_ld (Fr.has hS_ (ac.get 0 rfl) (by simp)) rfl) aa ?_
  obtain ⟨ar, af⟩ := get_some (xs := xs) (i := i) (by omega)
  obtain ⟨b42, o44, au, av⟩ := hA.at_ _ _ af
  refine WDi (NPt (NPb (NPt (NPt (NPb (NPt hN)))))) 3 A xs.length c 39 .i64 (i : Int) b42 o44 i 1 (by kernel_rfl) (by kernel_rfl) au (by omega) (by omega) (o44 + i) (by first | (simp; done) | omega) aa ?_
  refine WDm (NPt (NPb (NPt (NPt (NPb (NPt hN)))))) 4 3 (.pointer (some ⟨b42, o44 + i, none⟩)) (.int .i64 ar) 40 (fun _ hS_ => run_load1 rfl (by simpa [Nat.add_assoc] using Fr.cell hS_ (ac.fr.cell (av 0 _ rfl) (by simp)) (by simp))) aa ?_
  refine WDm (NPt (NPb (NPt (NPt (NPb (NPt hN)))))) 6 37 (.pointer (some ⟨g8, 1, none⟩)) (.slice B xs.length d) 42 (fun _ hS_ => run_ld (Fr.has hS_ (ac.get 1 rfl) (by simp)) rfl) aa ?_
  obtain ⟨aw, ag⟩ := get_some (xs := xs) (i := i) (by omega)
  obtain ⟨b48, o50, ax, ay⟩ := hB.at_ _ _ ag
  refine WDi (NPt (NPb (NPt (NPt (NPb (NPt hN)))))) 8 B xs.length d 44 .i64 (i : Int) b48 o50 i 1 (by kernel_rfl) (by kernel_rfl) ax (by omega) (by omega) (o50 + i) (by first | (simp; done) | omega) aa ?_
  refine WDm (NPt (NPb (NPt (NPt (NPb (NPt hN)))))) 9 3 (.pointer (some ⟨b48, o50 + i, none⟩)) (.int .i64 aw) 45 (fun _ hS_ => run_load1 rfl (by simpa [Nat.add_assoc] using Fr.cell hS_ (ac.fr.cell (ay 0 _ rfl) (by simp)) (by simp))) aa ?_
  refine WDq (NPt (NPb (NPt (NPt (NPb (NPt hN)))))) 10 46 (.bool (ar != aw)) aa ?_
  refine WD.done (by kernel_rfl) ?_
  refine QXn (aq _ _ ?_)
  refine WC.know 46 (.bool (ar != aw)) (.bool false) rfl (congrArg Value.bool (by rw [Option.some.inj (af.symm.trans ag)]; simp)) ?_
  refine WCf rfl (WC.skip ?_)
  refine QXb ?_
  refine QXn (ap _ _ ?_)
  refine WCg (WLq 2 [(35, .int .i64 (IntKind.i64.wrap ((i : Int) + 1))), (34, .int .i64 (i : Int))] ?_)
  refine WLt (show (.int .i64 (IntKind.i64.wrap ((i : Int) + 1)) : Value) = .int .i64 ((i : Int) + 1) from by rw [wrap_in_i64 ((i : Int) + 1) (by omega) (by omega)]) ?_
  refine WLq 1 [(5, .int .i64 ((i : Int) + 1))] ?_
  refine WLd rfl ?_
  refine QXn ?_
  have az := ac.pick [0, 1] [] rfl rfl
  refine fun a_ ha_ => al _ _ _ ?_ ⟨i + 1, rfl, rfl, az, by omega⟩ a_ (ha_.weaken (sub_of ⟨rfl, rfl, rfl, trivial⟩))
  omega
 ·
  have aD : (xs.length : Int) ≤ (i : Int) := by have q_ := of_decide_eq_false ae; omega
  refine WCf rfl ?_
  refine WC.exit ?_
  refine QXe ?_
  refine QXe ?_
  refine QX.block_hit ?_
  refine QXn (aj _ _ ?_)
  refine WCs (fun aQ aA => ?_)
  refine WCg (WLq 1 [(4, .bool true)] (WLd rfl (QXn (aA _ _ ?_))))
  refine WC.ret ?_
  refine (hret _ _ _ rfl ?_).1
  exact ⟨rfl, ad.fr⟩

theorem Same_n (k : Int) (A B : Option Addr) (n c n2 d : Nat) (xs ys : List Int) (w : World) (hA : Rd w 1 (Go.Tw.encI .i64) A xs) (h1 : xs.length = n) (hB : Rd w 1 (Go.Tw.encI .i64) B ys) (h2 : ys.length = n2) (he : ys = xs) (hl : xs.length ≤ 1099511627776) : Calls Try.prog 31 #[.agg #[.int .i64 k, .slice A n c, .slice none 0 0], .agg #[.int .i64 k, .slice B n2 d, .slice none 0 0]] w fun e w' => e = .returned (.bool true) ∧ Fr w w' [] := by subst he; subst h1; subst h2; exact Same_ct k A B c d ys w hA hB hl
end Go.Proofs.Ytmahghppojbeoaa
