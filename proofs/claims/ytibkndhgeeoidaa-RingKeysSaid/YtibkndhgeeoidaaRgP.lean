/- Contracts of functions of the program, each proved by a walk through its code; conditions stand in the statements. -/
import Derived.Test.YtibkndhgeeoidaaRgG
namespace Go.Proofs.Ytibkndhgeeoidaa
set_option linter.unusedSimpArgs false
set_option linter.unusedVariables false
set_option linter.unusedSectionVars false
open Go Go.RowKit Go.Tw
set_option linter.unusedVariables false
set_option maxRecDepth 20000
/-! ### a list less others -/
def inK (k : List Int) (m : Int) : Bool := k.contains m
theorem blk_in3 {A : Option Addr} {n c n' c' x : Nat} (h : x ∈ blk (.slice A n c)) : x ∈ blk (.slice A n' c') := by cases A <;> exact h
theorem newR.base {w' : World} {b b' : Nat} {per : Int} {M : List Int} {x y : Value} (h : newR w' b per M x y) (hb : b' ≤ b) : newR w' b' per M x y := by
  rcases h with h | ⟨h0, p, G, AP, cP, AM, cM, h1, h2, h3, h4⟩
  · exact .inl h
  · exact .inr ⟨h0, p, G, AP, cP, AM, cM, h1, h2, h3, fun z hz => Nat.le_trans hb (h4 z hz)⟩
def idxK (k : List Int) (ts : List Int) : Int := match ts.findIdx? (inK k) with
  | some i => (i : Int)
  | none => -1
def outK (k : List Int) (ts : List Int) : List Int := ts.filter fun t => !inK k t
structure DelI (k : List Int) (ts L : List Int) (i j : Nat) : Prop where
  ij : i < j ∧ j ≤ ts.length
  len : L.length = ts.length
  pre : L.take i = outK k (ts.take j)
  post : L.drop j = ts.drop j
theorem DelI.el {k : List Int} {ts L : List Int} {i j : Nat} (h : DelI k ts L i j) {e : Int} (he : L[j]? = some e) : ts[j]? = some e := by
  have h1 : (L.drop j)[0]? = (ts.drop j)[0]? := by rw [h.post]
  rw [List.getElem?_drop, List.getElem?_drop, Nat.add_zero] at h1
  rw [← h1]; exact he
theorem outK_snoc {k : List Int} {ts : List Int} {j : Nat} {e : Int} (he : ts[j]? = some e) : outK k (ts.take (j + 1)) = outK k (ts.take j) ++ (if inK k e then [] else [e]) := by
  obtain ⟨hj, rfl⟩ := List.getElem?_eq_some_iff.1 he
  unfold outK
  rw [List.take_succ_eq_append_getElem hj, List.filter_append]
  cases h : inK k ts[j] <;> simp [h]
theorem DelI.skip {k : List Int} {ts L : List Int} {i j : Nat} (h : DelI k ts L i j) {e : Int} (he : L[j]? = some e) (hk : inK k e = true) : DelI k ts L i (j + 1) := by
  have hj := (List.getElem?_eq_some_iff.1 (h.el he)).1
  refine ⟨⟨by have := h.ij; omega, by omega⟩, h.len, ?_, ?_⟩
  · rw [outK_snoc (h.el he), hk, h.pre]; simp
  · rw [← List.drop_drop, h.post, List.drop_drop]
theorem DelI.keep {k : List Int} {ts L : List Int} {i j : Nat} (h : DelI k ts L i j) {e : Int} (he : L[j]? = some e) (hk : inK k e = false) : DelI k ts (L.set i e) (i + 1) (j + 1) := by
  have hj := (List.getElem?_eq_some_iff.1 (h.el he)).1
  have hij := h.ij
  refine ⟨⟨by omega, by omega⟩, by rw [List.length_set]; exact h.len, ?_, ?_⟩
  · rw [outK_snoc (h.el he), hk, ← h.pre]
    have hi : i < (L.set i e).length := by rw [List.length_set, h.len]; omega
    rw [List.take_succ_eq_append_getElem hi, List.getElem_set_self, List.take_set_of_le (by omega)]
    simp
  · rw [List.drop_set_of_lt (by omega), ← List.drop_drop, h.post, List.drop_drop]
theorem CloneI (A : Option Addr) (n c : Nat) (xs : List Int) (w : World) (hn : xs.length = n) (hrd : Rd w 1 (Go.Tw.encI .i64) A xs) (hlim : xs.length ≤ 2199023255552) : Calls Try.prog 50 #[.slice A n c] w fun e w' => ∃ v, e = .returned v ∧ Fr w w' [] ∧ w'.ownsRow w.heap.size 3 1 v xs.length (xs.flatMap (Go.Tw.encI .i64)) := by
 refine enterD (n := 8) Try.func50 rfl rfl (Nat.le_of_ble_eq_true rfl) ?_
 intro Q0 hN hret hret'
 have hC := Cx.start w
 refine WCs (fun K1 hK2 => ?_)
 refine WCg (WLq 1 [(2, .slice none 0 0)] (WLd rfl (QXn (hK2 _ _ ?_))))
 refine WCs (fun K3 hK4 => ?_)
 refine WCs (fun K5 hK6 => ?_)
 refine WCg (WLq 1 [(3, .slice A n c)] ?_)
 have hr7 : ∀ w_, Sem.run Try.prog (do eqGuard .eql 31 (Operand.tmp 3) (Operand.const (.slice none 0 0)) (.slice A n c) (.slice none 0 0); binOp .eql 31 (.slice A n c) (.slice none 0 0)) w_ = .ok (.bool (Option.isNone A)) w_ := fun w_ => (by cases (A : Option Addr) <;> kernel_rfl)
 refine WL.sem (do eqGuard .eql 31 (Operand.tmp 3) (Operand.const (.slice none 0 0)) (.slice A n c) (.slice none 0 0); binOp .eql 31 (.slice A n c) (.slice none 0 0)) 4 (.bool (Option.isNone A)) (by kernel_rfl) (hr7 _) ?_
 refine WLd rfl (QXn (hK6 _ _ ?_))
 refine WCa 4 (Option.isNone A) rfl (fun t8b => ?_) (fun t8b => ?_)
 ·
  refine WCt rfl ?_
  refine WCs (fun K9 aa => ?_)
  refine WCg (WLq 1 [(2, .slice none 0 0)] (WLd rfl (QXn (aa _ _ ?_))))
  refine WC.ret ?_
  refine QXr ?_
  refine (hret _ _ _ rfl ?_).1
  clear hN hret hret' aa hK6 hK4 hK2
  have hA_ : A = none := by simpa using t8b
  subst hA_
  obtain rfl := Rd.of_none hrd
  exact ⟨_, rfl, hC.fr, own_nil _ _ _ _⟩
 ·
  refine WCf rfl (WC.skip (QXn (hK4 _ _ ?_)))
  refine WCs (fun aw ab => ?_)
  refine WCg ?_
  refine WL.newM hC (fun b => .slice (some ⟨b, 0, none⟩) 0 0) (.cells #[] 3) 5 (fun _ => by kernel_rfl) (fun ag ap aq ar ac => ?_)
  refine WLq 1 [(6, .slice A n c)] ?_
  have ah : World.ownsRow ap 0 3 1 (.slice (some ⟨ag, 0, none⟩) 0 0) 0 [] := own_of_blk (Nat.zero_le _) (ac.get 0 rfl) (Nat.le_refl _) (Nat.zero_le _) (by simp) rfl
  have ad := ac.toF 0 rfl
  obtain ⟨ax, au, ai, aj, av, ae, ak, al⟩ := app_run Try.prog ad 0 (v := .slice (some ⟨ag, 0, none⟩) 0 0) rfl 31 31 3 1 8 0 n c A rfl ah (xs.flatMap (Go.Tw.encI .i64)) (flat_len_n (Go.Tw.encI_len _) (by first | rfl | assumption | (simp; done) | (simp; omega))) (Rd.src_n (Rd.fr hrd ad.fr) (Go.Tw.encI_len _) (by decide) (by first | rfl | assumption | (simp; done) | (simp; omega))) (flat_one (Go.Tw.encI_one _) _) (by simp only [maxLen]; omega) (by omega)
  have af := own_app (enc := (Go.Tw.encI .i64)) (ys := []) (zs := xs) aj
  obtain ⟨am, an, rfl, ao⟩ := own_form af
  refine WL.sem (Builtin.append_ #[31, 31] 31 #[.slice (some ⟨ag, 0, none⟩) 0 0, .slice A n c]) 7 (.slice am (0 + n) an) (by kernel_rfl) ai ?_
  refine WLq 1 [(2, .slice am (0 + n) an)] (WLd rfl (QXn (ab _ _ ?_)))
  refine WC.ret ?_
  refine (hret _ _ _ rfl ?_).1
  clear hN hret hret' ab hK6 hK4 hK2
  subst hn
  exact ⟨_, rfl, ae.fr, show World.ownsRow au w.heap.size 3 1 (.slice am (0 + xs.length) an) xs.length (xs.flatMap (Go.Tw.encI .i64)) from by have q_ := own_base af (ae.geF 0 rfl); simpa using q_⟩

theorem Members_ct (G : List Nat) (p : Nat) (per : Int) (AP : Option Addr) (cP : Nat) (pts : List (Int × Int)) (AM : Option Addr) (cM : Nat) (mem : List Int) (w : World) (hR : RingR w G p per AP cP pts AM cM mem) (hml : mem.length ≤ 1099511627776) : Calls Try.prog 28 #[.pointer (some ⟨p, 0, none⟩)] w fun e w' => ∃ v, e = .returned v ∧ Fr w w' [] ∧ w'.ownsRow w.heap.size 3 1 v mem.length (mem.flatMap (Go.Tw.encI .i64)) := by
 refine enterD (n := 10) Try.func28 rfl rfl (Nat.le_of_ble_eq_true rfl) ?_
 intro Q0 hN hret hret'
 have hC := Cx.start w
 refine WCs (fun K1 hK2 => ?_)
 refine WCg (WLq 1 [(2, .slice none 0 0)] (WLd rfl (QXn (hK2 _ _ ?_))))
 refine WCs (fun K3 hK4 => ?_)
 refine WCs (fun K5 hK6 => ?_)
 refine WCg (WLq 2 [(4, .bool false), (3, .pointer (some ⟨p, 0, none⟩))] (WLd rfl (QXn (hK6 _ _ ?_))))
 refine WCf rfl (WC.skip (QXn (hK4 _ _ ?_)))
 refine WCs (fun K7 hK8 => ?_)
 refine WCg (WLq 3 [(7, .pointer (some ⟨p, 2, none⟩)), (6, .pointer (some ⟨p, 0, none⟩)), (5, .pointer (some ⟨p, 0, none⟩))] ?_)
 refine WLo 31 (.pointer (some ⟨p, 2, none⟩)) (.slice AM mem.length cM) 8 (run_load1 rfl (hC.fr.cell (hR.c2) (by simp))) ?_
 refine WLc rfl rfl rfl rfl rfl (by kernel_rfl) (CloneI AM mem.length cM mem w (by first | rfl | assumption | omega) (Rd.fr hR.M hC.fr) (by omega)) ?_
 rintro _ ag ⟨v_, rfl, ab, ho9⟩
 have aa := hC.callN ab (own_ge ho9) (own_lt ho9)
 obtain ⟨ae, af, rfl, ad⟩ := own_form ho9
 have ac := own_base (b' := 0) ho9 (fun _ _ => Nat.zero_le _)
 refine ⟨_, rfl, ?_⟩
 refine WLq 1 [(2, .slice ae mem.length af)] (WLd rfl (QXn (hK8 _ _ ?_)))
 refine WC.ret ?_
 refine (hret _ _ _ rfl ?_).1
 exact ⟨_, rfl, aa.fr, own_base ac (aa.geF 0 rfl)⟩

end Go.Proofs.Ytibkndhgeeoidaa
