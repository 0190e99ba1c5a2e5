/- Contracts of functions of the program, each proved by a walk through its code; conditions stand in the statements. -/
import Derived.Test.YtmahghppojbeoaaSeH
namespace Go.Proofs.Ytmahghppojbeoaa
set_option linter.unusedSimpArgs false
set_option linter.unusedVariables false
set_option linter.unusedSectionVars false
open Go Go.RowKit Go.Tw
set_option linter.unusedVariables false
set_option maxRecDepth 20000
/-! ### what one mux says, and another one -/
def vw (L : Lm) : Option (Int × Int × List Int) := (lookL L 32).map fun o => (o.boot, o.heard, o.vs)
/-! a call of a script -/
structure SOp where
  kind : Int
  va : Option Addr
  vips : List Int
  vc : Nat
  from_ : Int
  mki : Int
  na : Option Addr
  nums : List Int
  nc : Nat
  da : Option Addr
  dn : Nat
  dc : Nat
  now : Int
def cellS (o : SOp) : List Value := [.int .i64 o.kind, .slice o.va o.vips.length o.vc, .int .i64 o.from_, .int .i64 o.mki, .slice o.na o.nums.length o.nc, .slice o.da o.dn o.dc, .int .i64 o.now]
structure sopAt (w : World) (o : SOp) : Prop where
  nr : Rd w 1 (Go.Tw.encI .i64) o.na o.nums
  nl : o.nums.length ≤ o.nc
  nm : o.nc ≤ maxLen
  fr : isI64 o.from_
  vm : o.vips.length ≤ maxLen
  vr : Rd w 1 (Go.Tw.encI .u32) o.va o.vips
  v32 : ∀ x ∈ o.vips, 0 ≤ x ∧ x ≤ 4294967295
theorem cont_snoc {xs : List Int} {i : Nat} {e n : Int} (hx : xs[i]? = some e) (hm : (xs.take i).contains n = false) (h : (e == n) = false) : (xs.take (i + 1)).contains n = false := by
  obtain ⟨hi, rfl⟩ := List.getElem?_eq_some_iff.1 hx
  rw [List.take_succ_eq_append_getElem hi, List.contains_eq_any_beq, List.any_append, ← List.contains_eq_any_beq, hm]
  have h2 : (n == xs[i]) = false := by rw [beq_eq_false_iff_ne] at h ⊢; exact fun q => h q.symm
  simp [h2]
theorem has_ct (A : Option Addr) (c : Nat) (xs : List Int) (n : Int) (w : World) (hr : Rd w 1 (Go.Tw.encI .i64) A xs) (hl : xs.length ≤ 9223372036854775807) : Calls Try.prog 26 #[.slice A xs.length c, .int .i64 n] w fun e w' => e = .returned (.bool (xs.contains n)) ∧ Fr w w' [] := by
 refine enterD (n := 17) Try.func26 rfl rfl (Nat.le_of_ble_eq_true rfl) ?_
 intro Q0 hN hret hret'
 have hC := Cx.start w
 refine WCs (fun K1 hK2 => ?_)
 refine WCg (WLq 1 [(4, .bool false)] (WLd rfl (QXn (hK2 _ _ ?_))))
 refine WCs (fun K3 hK4 => ?_)
 refine WCs (fun K5 hK6 => ?_)
 refine WCg (WLq 3 [(9, .int .i64 0), (8, .int .i64 (xs.length : Int)), (7, .slice A xs.length c)] (WLd rfl (QXn (hK6 _ _ ?_))))
 refine WC.block ?_
 refine WC.loop (fun m_ E_ w_ => ∃ (i : Nat), m_ = xs.length - i ∧ E_ = [(0, .slice A xs.length c), (1, .int .i64 n), (7, .slice A xs.length c), (8, .int .i64 (xs.length : Int)), (9, .int .i64 (i : Int))] ∧ Cx w [] w_ [] [] ∧ (i ≤ xs.length ∧ (xs.take i).contains n = false)) ⟨_, _, ⟨0, rfl, rfl, hC, Nat.zero_le _, rfl⟩, sub_of ⟨rfl, rfl, rfl, rfl, rfl, trivial⟩⟩ (fun m10 E_ ar K7 hK8 hI9 => ?_)
 obtain ⟨i, rfl, rfl, ab, hi, hall⟩ := hI9
 refine WCs (fun au af => ?_)
 refine WCg (WLq 1 [(10, .bool (decide ((i : Int) < (xs.length : Int))))] (WLd rfl (QXn (af _ _ ?_))))
 refine WCs (fun av ag => ?_)
 refine WCa 10 (decide ((i : Int) < (xs.length : Int))) rfl (fun ac => ?_) (fun ac => ?_)
 ·
  have ap : (i : Int) < (xs.length : Int) := by have q_ := of_decide_eq_true ac; omega
  refine WCt rfl ?_
  refine WC.skip ?_
  refine QXn (ag _ _ ?_)
  refine WCs (fun aw ai => ?_)
  refine WC.block ?_
  refine WCs (fun ax aj => ?_)
  refine WCg ?_
  obtain ⟨ad, ae⟩ := get_some (xs := xs) (i := i) (by omega)
  obtain ⟨b24, o26, ak, al⟩ := hr.at_ _ _ ae
  refine WLi A xs.length c 11 .i64 (i : Int) b24 o26 i 1 (by kernel_rfl) ak (by omega) (by omega) (o26 + i) (by first | (simp; done) | omega) ?_
  refine WLo 3 (.pointer (some ⟨b24, o26 + i, none⟩)) (.int .i64 ad) 12 (run_load1 rfl (by simpa [Nat.add_assoc] using ab.fr.cell (al 0 _ rfl) (by simp))) ?_
  refine WLq 1 [(6, .int .i64 ad)] (WLd rfl (QXn (aj _ _ ?_)))
  refine WCs (fun ay am => ?_)
  refine WCg (WLq 3 [(15, .bool (ad == n)), (14, .int .i64 n), (13, .int .i64 ad)] (WLd rfl (QXn (am _ _ ?_))))
  refine WCa 15 (ad == n) rfl (fun aa => ?_) (fun aa => ?_)
  ·
   have aq : ad = n := by simpa using aa
   refine WCt rfl ?_
   refine WCs (fun az an => ?_)
   refine WCg (WLq 1 [(4, .bool true)] (WLd rfl (QXn (an _ _ ?_))))
   refine WC.ret ?_
   refine QXk ?_
   refine QXr ?_
   refine QXr ?_
   refine QXk ?_
   refine QXr ?_
   refine (hret _ _ _ rfl ?_).1
   exact ⟨by rw [contains_idx ae (by simpa using Eq.symm (eq_of_beq aa))]; rfl, ab.fr⟩
  ·
   have aq : ¬ (ad = n) := by simpa using aa
   refine WCf rfl (WC.skip ?_)
   refine QXb ?_
   refine QXn (ai _ _ ?_)
   refine WCg (WLq 1 [(16, .int .i64 (IntKind.i64.wrap ((i : Int) + 1)))] ?_)
   refine WLt (show (.int .i64 (IntKind.i64.wrap ((i : Int) + 1)) : Value) = .int .i64 ((i : Int) + 1) from by rw [wrap_in_i64 ((i : Int) + 1) (by omega) (by omega)]) ?_
   refine WLq 1 [(9, .int .i64 ((i : Int) + 1))] ?_
   refine WLd rfl ?_
   refine QXn ?_
   have ao := ab.pick [] [] rfl rfl
   refine fun a_ ha_ => hK8 _ _ _ ?_ ⟨i + 1, rfl, rfl, ao, by omega, cont_snoc ae hall aa⟩ a_ (ha_.weaken (sub_of ⟨rfl, rfl, rfl, rfl, rfl, trivial⟩))
   omega
 ·
  have ap : (xs.length : Int) ≤ (i : Int) := by have q_ := of_decide_eq_false ac; omega
  refine WCf rfl ?_
  refine WC.exit ?_
  refine QXe ?_
  refine QXe ?_
  refine QX.block_hit ?_
  refine QXn (hK4 _ _ ?_)
  refine WCs (fun aA ah => ?_)
  refine WCg (WLq 1 [(4, .bool false)] (WLd rfl (QXn (ah _ _ ?_))))
  refine WC.ret ?_
  refine (hret _ _ _ rfl ?_).1
  clear hN hret hret' ah ag af hK6 hK4 hK2
  rw [List.take_of_length_le (by omega)] at hall
  exact ⟨by rw [hall]; rfl, ab.fr⟩

theorem has_n (A : Option Addr) (n c : Nat) (xs : List Int) (x : Int) (w : World) (hr : Rd w 1 (Go.Tw.encI .i64) A xs) (hn : xs.length = n) (hl : n ≤ 9223372036854775807) : Calls Try.prog 26 #[.slice A n c, .int .i64 x] w fun e w' => e = .returned (.bool (xs.contains x)) ∧ Fr w w' [] := by subst hn; exact has_ct A c xs x w hr hl
end Go.Proofs.Ytmahghppojbeoaa
