/- Contracts of functions of the program, each proved by a walk through its code; conditions stand in the statements. -/
import Derived.Test.YtibkndhgeeoidaaRgG
namespace Go.Proofs.Ytibkndhgeeoidaa
set_option linter.unusedSimpArgs false
set_option linter.unusedVariables false
set_option linter.unusedSectionVars false
open Go Go.RowKit Go.Tw
set_option linter.unusedVariables false
set_option maxRecDepth 20000
/-! ### a list less others -/
def inK (k : List Int) (m : Int) : Bool := k.contains m
theorem Rd.frO {α : Type} {w w' : World} {sz : Nat} {enc : α → List Value} {A : Option Addr} {xs : List α} {F : List Nat} (h : Rd w sz enc A xs) (hf : Fr w w' F) (hn : xs ≠ [] → ∀ b off, A = some ⟨b, off, none⟩ → b ∉ F) : Rd w' sz enc A xs := by
  cases xs with
  | nil => exact Rd.nil _ _ _ _
  | cons x r => exact h.frN hf (hn (by simp))
theorem blk_in3 {A : Option Addr} {n c n' c' x : Nat} (h : x ∈ blk (.slice A n c)) : x ∈ blk (.slice A n' c') := by cases A <;> exact h
theorem newR.base {w' : World} {b b' : Nat} {per : Int} {M : List Int} {x y : Value} (h : newR w' b per M x y) (hb : b' ≤ b) : newR w' b' per M x y := by
  rcases h with h | ⟨h0, p, G, AP, cP, AM, cM, h1, h2, h3, h4⟩
  · exact .inl h
  · exact .inr ⟨h0, p, G, AP, cP, AM, cM, h1, h2, h3, fun z hz => Nat.le_trans hb (h4 z hz)⟩
def idxK (k : List Int) (ts : List Int) : Int := match ts.findIdx? (inK k) with
  | some i => (i : Int)
  | none => -1
def outK (k : List Int) (ts : List Int) : List Int := ts.filter fun t => !inK k t
theorem idx_hit {ts : List Int} {k : List Int} {i : Nat} {e : Int} (he : ts[i]? = some e) (hm : (ts.take i).all (fun t => !inK k t) = true) (h : inK k e = true) : idxK k ts = (i : Int) := by
  obtain ⟨hi, rfl⟩ := List.getElem?_eq_some_iff.1 he
  have : ts.findIdx? (inK k) = some i := by
    rw [List.findIdx?_eq_some_iff_getElem]
    refine ⟨hi, h, fun j hj => ?_⟩
    rw [List.all_eq_true] at hm
    have := hm ts[j] (by rw [List.mem_iff_getElem?]; exact ⟨j, by rw [List.getElem?_take, if_pos hj]; exact List.getElem?_eq_getElem (by omega)⟩)
    simpa using this
  unfold idxK; rw [this]
theorem idx_none {ts : List Int} {k : List Int} (hm : ts.all (fun t => !inK k t) = true) : idxK k ts = -1 := by
  have : ts.findIdx? (inK k) = none := by
    rw [List.findIdx?_eq_none_iff]
    intro x hx
    rw [List.all_eq_true] at hm
    simpa using hm x hx
  unfold idxK; rw [this]
theorem take_allT {ts : List Int} {i : Nat} (h : ¬ i < ts.length) : ts.take i = ts := List.take_of_length_le (by omega)
theorem all_snocT {ts : List Int} {k : List Int} {i : Nat} {e : Int} (he : ts[i]? = some e) (hm : (ts.take i).all (fun t => !inK k t) = true) (h : inK k e = false) : (ts.take (i + 1)).all (fun t => !inK k t) = true := by
  obtain ⟨hi, rfl⟩ := List.getElem?_eq_some_iff.1 he
  rw [List.take_succ_eq_append_getElem hi, List.all_append, hm]; simp [h]
theorem idx_cases (k : List Int) (ts : List Int) : (idxK k ts = -1 ∧ outK k ts = ts) ∨ ∃ i : Nat, idxK k ts = (i : Int) ∧ i < ts.length ∧ ts.take i = outK k (ts.take (i + 1)) := by
  unfold idxK
  cases h : ts.findIdx? (inK k) with
  | none =>
    left
    refine ⟨rfl, ?_⟩
    rw [List.findIdx?_eq_none_iff] at h
    exact List.filter_eq_self.2 fun x hx => by simp [h x hx]
  | some i =>
    right
    obtain ⟨hi, h1, h2⟩ := List.findIdx?_eq_some_iff_getElem.1 h
    refine ⟨i, rfl, hi, ?_⟩
    have hf : (ts.take i).filter (fun t => !inK k t) = ts.take i := List.filter_eq_self.2 fun x hx => by
      obtain ⟨j, hj⟩ := List.mem_iff_getElem?.1 hx
      rw [List.getElem?_take] at hj
      split at hj
      · rename_i hji
        obtain ⟨hj2, rfl⟩ := List.getElem?_eq_some_iff.1 hj
        simpa using h2 j hji
      · cases hj
    unfold outK
    rw [List.take_succ_eq_append_getElem hi, List.filter_append, hf]
    simp [h1]
structure DelI (k : List Int) (ts L : List Int) (i j : Nat) : Prop where
  ij : i < j ∧ j ≤ ts.length
  len : L.length = ts.length
  pre : L.take i = outK k (ts.take j)
  post : L.drop j = ts.drop j
theorem DelI.el {k : List Int} {ts L : List Int} {i j : Nat} (h : DelI k ts L i j) {e : Int} (he : L[j]? = some e) : ts[j]? = some e := by
  have h1 : (L.drop j)[0]? = (ts.drop j)[0]? := by rw [h.post]
  rw [List.getElem?_drop, List.getElem?_drop, Nat.add_zero] at h1
  rw [← h1]; exact he
theorem outK_snoc {k : List Int} {ts : List Int} {j : Nat} {e : Int} (he : ts[j]? = some e) : outK k (ts.take (j + 1)) = outK k (ts.take j) ++ (if inK k e then [] else [e]) := by
  obtain ⟨hj, rfl⟩ := List.getElem?_eq_some_iff.1 he
  unfold outK
  rw [List.take_succ_eq_append_getElem hj, List.filter_append]
  cases h : inK k ts[j] <;> simp [h]
theorem DelI.skip {k : List Int} {ts L : List Int} {i j : Nat} (h : DelI k ts L i j) {e : Int} (he : L[j]? = some e) (hk : inK k e = true) : DelI k ts L i (j + 1) := by
  have hj := (List.getElem?_eq_some_iff.1 (h.el he)).1
  refine ⟨⟨by have := h.ij; omega, by omega⟩, h.len, ?_, ?_⟩
  · rw [outK_snoc (h.el he), hk, h.pre]; simp
  · rw [← List.drop_drop, h.post, List.drop_drop]
theorem DelI.keep {k : List Int} {ts L : List Int} {i j : Nat} (h : DelI k ts L i j) {e : Int} (he : L[j]? = some e) (hk : inK k e = false) : DelI k ts (L.set i e) (i + 1) (j + 1) := by
  have hj := (List.getElem?_eq_some_iff.1 (h.el he)).1
  have hij := h.ij
  refine ⟨⟨by omega, by omega⟩, by rw [List.length_set]; exact h.len, ?_, ?_⟩
  · rw [outK_snoc (h.el he), hk, ← h.pre]
    have hi : i < (L.set i e).length := by rw [List.length_set, h.len]; omega
    rw [List.take_succ_eq_append_getElem hi, List.getElem_set_self, List.take_set_of_le (by omega)]
    simp
  · rw [List.drop_set_of_lt (by omega), ← List.drop_drop, h.post, List.drop_drop]
theorem CloneI (A : Option Addr) (n c : Nat) (xs : List Int) (w : World) (hn : xs.length = n) (hrd : Rd w 1 (Go.Tw.encI .i64) A xs) (hlim : xs.length ≤ 2199023255552) : Calls Try.prog 50 #[.slice A n c] w fun e w' => ∃ v, e = .returned v ∧ Fr w w' [] ∧ w'.ownsRow w.heap.size 3 1 v xs.length (xs.flatMap (Go.Tw.encI .i64)) := by
 refine enterD (n := 8) Try.func50 rfl rfl (Nat.le_of_ble_eq_true rfl) ?_
 intro Q0 hN hret hret'
 have hC := Cx.start w
 refine WCs (fun K1 hK2 => ?_)
 refine WCg (WLq 1 [(2, .slice none 0 0)] (WLd rfl (QXn (hK2 _ _ ?_))))
 refine WCs (fun K3 hK4 => ?_)
 refine WCs (fun K5 hK6 => ?_)
 refine WCg (WLq 1 [(3, .slice A n c)] ?_)
 have hr7 : ∀ w_, Sem.run Try.prog (do eqGuard .eql 31 (Operand.tmp 3) (Operand.const (.slice none 0 0)) (.slice A n c) (.slice none 0 0); binOp .eql 31 (.slice A n c) (.slice none 0 0)) w_ = .ok (.bool (Option.isNone A)) w_ := fun w_ => (by cases (A : Option Addr) <;> kernel_rfl)
 refine WL.sem (do eqGuard .eql 31 (Operand.tmp 3) (Operand.const (.slice none 0 0)) (.slice A n c) (.slice none 0 0); binOp .eql 31 (.slice A n c) (.slice none 0 0)) 4 (.bool (Option.isNone A)) (by kernel_rfl) (hr7 _) ?_
 refine WLd rfl (QXn (hK6 _ _ ?_))
 refine WCa 4 (Option.isNone A) rfl (fun t8b => ?_) (fun t8b => ?_)
 ·
  refine WCt rfl ?_
  refine WCs (fun K9 aa => ?_)
  refine WCg (WLq 1 [(2, .slice none 0 0)] (WLd rfl (QXn (aa _ _ ?_))))
  refine WC.ret ?_
  refine QXr ?_
  refine (hret _ _ _ rfl ?_).1
  clear hN hret hret' aa hK6 hK4 hK2
  have hA_ : A = none := by simpa using t8b
  subst hA_
  obtain rfl := Rd.of_none hrd
  exact ⟨_, rfl, hC.fr, own_nil _ _ _ _⟩
 ·
  refine WCf rfl (WC.skip (QXn (hK4 _ _ ?_)))
  refine WCs (fun aw ab => ?_)
  refine WCg ?_
  refine WL.newM hC (fun b => .slice (some ⟨b, 0, none⟩) 0 0) (.cells #[] 3) 5 (fun _ => by kernel_rfl) (fun ag ap aq ar ac => ?_)
  refine WLq 1 [(6, .slice A n c)] ?_
  have ah : World.ownsRow ap 0 3 1 (.slice (some ⟨ag, 0, none⟩) 0 0) 0 [] := own_of_blk (Nat.zero_le _) (ac.get 0 rfl) (Nat.le_refl _) (Nat.zero_le _) (by simp) rfl
  have ad := ac.toF 0 rfl
  obtain ⟨ax, au, ai, aj, av, ae, ak, al⟩ := app_run Try.prog ad 0 (v := .slice (some ⟨ag, 0, none⟩) 0 0) rfl 31 31 3 1 8 0 n c A rfl ah (xs.flatMap (Go.Tw.encI .i64)) (flat_len_n (Go.Tw.encI_len _) (by first | rfl | assumption | (simp; done) | (simp; omega))) (Rd.src_n (Rd.fr hrd ad.fr) (Go.Tw.encI_len _) (by decide) (by first | rfl | assumption | (simp; done) | (simp; omega))) (flat_one (Go.Tw.encI_one _) _) (by simp only [maxLen]; omega) (by omega)
  have af := own_app (enc := (Go.Tw.encI .i64)) (ys := []) (zs := xs) aj
  obtain ⟨am, an, rfl, ao⟩ := own_form af
  refine WL.sem (Builtin.append_ #[31, 31] 31 #[.slice (some ⟨ag, 0, none⟩) 0 0, .slice A n c]) 7 (.slice am (0 + n) an) (by kernel_rfl) ai ?_
  refine WLq 1 [(2, .slice am (0 + n) an)] (WLd rfl (QXn (ab _ _ ?_)))
  refine WC.ret ?_
  refine (hret _ _ _ rfl ?_).1
  clear hN hret hret' ab hK6 hK4 hK2
  subst hn
  exact ⟨_, rfl, ae.fr, show World.ownsRow au w.heap.size 3 1 (.slice am (0 + xs.length) an) xs.length (xs.flatMap (Go.Tw.encI .i64)) from by have q_ := own_base af (ae.geF 0 rfl); simpa using q_⟩

theorem Members_ct (G : List Nat) (p : Nat) (per : Int) (AP : Option Addr) (cP : Nat) (pts : List (Int × Int)) (AM : Option Addr) (cM : Nat) (mem : List Int) (w : World) (hR : RingR w G p per AP cP pts AM cM mem) (hml : mem.length ≤ 1099511627776) : Calls Try.prog 28 #[.pointer (some ⟨p, 0, none⟩)] w fun e w' => ∃ v, e = .returned v ∧ Fr w w' [] ∧ w'.ownsRow w.heap.size 3 1 v mem.length (mem.flatMap (Go.Tw.encI .i64)) := by
 refine enterD (n := 10) Try.func28 rfl rfl (Nat.le_of_ble_eq_true rfl) ?_
 intro Q0 hN hret hret'
 have hC := Cx.start w
 refine WCs (fun K1 hK2 => ?_)
 refine WCg (WLq 1 [(2, .slice none 0 0)] (WLd rfl (QXn (hK2 _ _ ?_))))
 refine WCs (fun K3 hK4 => ?_)
 refine WCs (fun K5 hK6 => ?_)
 refine WCg (WLq 2 [(4, .bool false), (3, .pointer (some ⟨p, 0, none⟩))] (WLd rfl (QXn (hK6 _ _ ?_))))
 refine WCf rfl (WC.skip (QXn (hK4 _ _ ?_)))
 refine WCs (fun K7 hK8 => ?_)
 refine WCg (WLq 3 [(7, .pointer (some ⟨p, 2, none⟩)), (6, .pointer (some ⟨p, 0, none⟩)), (5, .pointer (some ⟨p, 0, none⟩))] ?_)
 refine WLo 31 (.pointer (some ⟨p, 2, none⟩)) (.slice AM mem.length cM) 8 (run_load1 rfl (hC.fr.cell (hR.c2) (by simp))) ?_
 refine WLc rfl rfl rfl rfl rfl (by kernel_rfl) (CloneI AM mem.length cM mem w (by first | rfl | assumption | omega) (Rd.fr hR.M hC.fr) (by omega)) ?_
 rintro _ ag ⟨v_, rfl, ab, ho9⟩
 have aa := hC.callN ab (own_ge ho9) (own_lt ho9)
 obtain ⟨ae, af, rfl, ad⟩ := own_form ho9
 have ac := own_base (b' := 0) ho9 (fun _ _ => Nat.zero_le _)
 refine ⟨_, rfl, ?_⟩
 refine WLq 1 [(2, .slice ae mem.length af)] (WLd rfl (QXn (hK8 _ _ ?_)))
 refine WC.ret ?_
 refine (hret _ _ _ rfl ?_).1
 exact ⟨_, rfl, aa.fr, own_base ac (aa.geF 0 rfl)⟩

theorem With_ct (G : List Nat) (p : Nat) (per : Int) (AP : Option Addr) (cP : Nat) (pts : List (Int × Int)) (AM : Option Addr) (cM : Nat) (mem : List Int) (A : Option Addr) (c : Nat) (xs : List Int) (w : World) (hR : RingR w G p per AP cP pts AM cM mem) (hml : mem.length ≤ 4096) (hr : Rd w 1 (Go.Tw.encI .i64) A xs) (hl : xs.length ≤ 1099511623680) : Calls Try.prog 26 #[.pointer (some ⟨p, 0, none⟩), .slice A xs.length c] w fun e w' => ∃ a b, e = .returned (.tuple #[a, b]) ∧ Fr w w' [] ∧ newR w' w.heap.size per (mem ++ xs) a b := by
 refine enterD (n := 20) Try.func26 rfl rfl (Nat.le_of_ble_eq_true rfl) ?_
 intro Q0 hN hret hret'
 have hC := Cx.start w
 refine WCs (fun K1 hK2 => ?_)
 refine WCg (WLq 2 [(5, .nilIface), (4, .pointer none)] (WLd rfl (QXn (hK2 _ _ ?_))))
 refine WCs (fun K3 hK4 => ?_)
 refine WCs (fun K5 hK6 => ?_)
 refine WCg (WLq 2 [(7, .bool false), (6, .pointer (some ⟨p, 0, none⟩))] (WLd rfl (QXn (hK6 _ _ ?_))))
 refine WCf rfl (WC.skip (QXn (hK4 _ _ ?_)))
 refine WCs (fun K7 hK8 => ?_)
 refine WC.drawC hC [] (by kernel_rfl) (fun w9 aE ae aa => ?_)
 refine WDq (NPt hN) 0 9 (.pointer (some ⟨p, 0, none⟩)) aa ?_
 refine WDq (NPt hN) 1 10 (.pointer (some ⟨p, 0, none⟩)) aa ?_
 refine WDq (NPt hN) 2 11 (.pointer (some ⟨p, 0, none⟩)) aa ?_
 refine WDq (NPt hN) 4 13 (.pointer (some ⟨p, 0, none⟩)) aa ?_
 refine WDq (NPt hN) 6 15 (.slice A xs.length c) aa ?_
 refine WDm (NPt hN) 3 3 (.pointer (some ⟨p, 0, none⟩)) (.int .i64 per) 12 (fun _ hS_ => run_load1 rfl (Fr.cell hS_ (ae.fr.cell (hR.c0) (by simp)) (by simp))) aa ?_
 refine WD.call 5 (by kernel_rfl) rfl rfl rfl rfl rfl (by kernel_rfl) (Members_ct G p per AP cP pts AM cM mem w9 (hR.fr ae.fr (by simp)) (by omega)) ?_
 rintro _ aG ⟨v_, rfl, ai, ab⟩
 have aj := ae.callN ai (own_ge ab) (own_lt ab)
 obtain ⟨an, ao, rfl, aB⟩ := own_form ab
 have ap := own_base (b' := 0) ab (fun _ _ => Nat.zero_le _)
 have af := aa.trans ai (by simp)
 refine ⟨_, rfl, af, ?_⟩
 have ad : ∀ x_ ∈ blk (.slice an mem.length ao), w9.heap.size ≤ x_ := fun x_ h_ => Nat.le_trans aa.size (own_ge ab x_ h_)
 obtain ⟨aH, aF, aq, ar, au, ak, av, ag⟩ := app_run Try.prog aj 0 (v := .slice an mem.length ao) rfl 31 31 3 1 8 mem.length xs.length c A rfl ap (xs.flatMap (Go.Tw.encI .i64)) (flat_len_n (Go.Tw.encI_len _) (by first | rfl | assumption | (simp; done) | (simp; omega))) (Rd.src_n (Rd.fr hr aj.fr) (Go.Tw.encI_len _) (by decide) (by first | rfl | assumption | (simp; done) | (simp; omega))) (flat_one (Go.Tw.encI_one _) _) (by simp only [maxLen]; omega) (by omega)
 have ah := own_app (enc := (Go.Tw.encI .i64)) (ys := mem) (zs := xs) ar
 obtain ⟨aw, ax, rfl, aC⟩ := own_form ah
 have aD : ∀ x_ ∈ blk (.slice aw (mem.length + xs.length) ax), w9.heap.size ≤ x_ := fun x_ hx_ => (ag x_ hx_).elim (ad x_) (fun h_ => Nat.le_trans af.size h_)
 have al := af.trans au (fun x_ hx_ => .inr (ad x_ hx_))
 refine WD.sem 7 (Builtin.append_ #[31, 31] 31 #[.slice an mem.length ao, .slice A xs.length c]) 16 (.slice aw (mem.length + xs.length) ax) (by kernel_rfl) (by kernel_rfl) aq al ?_
 refine WD.call 8 (by kernel_rfl) rfl rfl rfl rfl rfl (by kernel_rfl) (New_n per aw (mem.length + xs.length) ax (mem ++ xs) aF (own_rd ah (Go.Tw.encI_len _) (by decide)) (own_count (Go.Tw.encI_len _) (by decide) ah) (by omega)) ?_
 rintro _ aI ⟨a_, b_, rfl, am, ay⟩
 have az := ak.callN (G := []) am (by simp) (by simp)
 have aA := ay.base ak.fr.size
 have ac := al.trans am (by simp)
 refine ⟨_, rfl, ac, ?_⟩
 refine WDq (NPt hN) 9 18 (a_) ac ?_
 refine WDq (NPt hN) 10 19 (b_) ac ?_
 refine WDq (NPt hN) 11 4 (a_) ac ?_
 refine WDq (NPt hN) 12 5 (b_) ac ?_
 refine WD.done (by kernel_rfl) ?_
 refine QXn (hK8 _ _ ?_)
 refine WC.ret ?_
 refine (hret _ _ _ rfl ?_).1
 clear hN hret hret' hK8 hK6 hK4 hK2
 have hN_ := aA
 exact ⟨_, _, rfl, az.fr, by simpa using hN_⟩

theorem inK_ct (g : Nat) (B : Option Addr) (cB : Nat) (k : List Int) (x : Int) (w : World) (hg : w.heap[g]? = some (.cells #[.slice B k.length cB] 31 (0, 0))) (hrB : Rd w 1 (Go.Tw.encI .i64) B k) (hkl : k.length ≤ 1099511627776) : Calls Try.prog 48 #[.int .i64 x, .pointer (some ⟨g, 0, none⟩)] w fun e w' => e = .returned (.bool (inK k x)) ∧ Fr w w' [] := by
 refine enterD (n := 7) Try.func48 rfl rfl (Nat.le_of_ble_eq_true rfl) ?_
 intro Q0 hN hret hret'
 have hC := Cx.startMs w [(g, .cells #[.slice B k.length cB] 31)] (by simp) (by simp [hg])
 refine WCs (fun K1 hK2 => ?_)
 refine WCg (WLq 1 [(3, .bool false)] (WLd rfl (QXn (hK2 _ _ ?_))))
 refine WCs (fun K3 hK4 => ?_)
 refine WCg ?_
 refine WLo 31 (.pointer (some ⟨g, 0, none⟩)) (.slice B k.length cB) 4 (run_ld (hC.get 0 rfl) rfl) ?_
 refine WLq 1 [(5, .int .i64 x)] ?_
 refine WLc rfl rfl rfl rfl rfl (by kernel_rfl) (Contains_n B k.length cB k x w (Rd.fr hrB (Fr.refl w [])) (by first | rfl | assumption | (simp; done) | omega) (by first | omega | (simp; done))) ?_
 rintro _ w6 ⟨rfl, hF5⟩
 refine ⟨_, rfl, ?_⟩
 have hC7 := hC.call hF5
 have hf8 := (Fr.refl w []).trans hF5 (by simp)
 refine WLq 1 [(3, .bool (k.contains x))] (WLd rfl (QXn (hK4 _ _ ?_)))
 refine WC.ret ?_
 refine (hret _ _ _ rfl ?_).1
 exact ⟨rfl, hf8⟩

theorem IndexI_ct (g : Nat) (B : Option Addr) (cB : Nat) (k : List Int) (A : Option Addr) (c : Nat) (ts : List Int) (w : World) (hg : w.heap[g]? = some (.cells #[.slice B k.length cB] 31 (0, 0))) (hrB : Rd w 1 (Go.Tw.encI .i64) B k) (hkl : k.length ≤ 1099511627776) (hr : Rd w 1 (Go.Tw.encI .i64) A ts) (hlen : ts.length ≤ 9223372036854775807) : Calls Try.prog 66 #[.slice A ts.length c, .func (.func 48) #[] #[.pointer (some ⟨g, 0, none⟩)]] w fun e w' => e = .returned (.int .i64 (idxK k ts)) ∧ Fr w w' [] := by
 refine enterD (n := 19) Try.func66 rfl rfl (Nat.le_of_ble_eq_true rfl) ?_
 intro Q0 hN hret hret'
 have hC := Cx.start w
 refine WCs (fun K1 hK2 => ?_)
 refine WCg (WLq 1 [(4, .int .i64 0)] (WLd rfl (QXn (hK2 _ _ ?_))))
 refine WCs (fun K3 hK4 => ?_)
 refine WCs (fun K5 hK6 => ?_)
 refine WCg (WLq 3 [(8, .int .i64 0), (7, .int .i64 (ts.length : Int)), (6, .slice A ts.length c)] (WLd rfl (QXn (hK6 _ _ ?_))))
 refine WC.block ?_
 refine WC.loop (fun m_ E_ w_ => ∃ (i : Nat), m_ = ts.length - i ∧ E_ = [(0, .slice A ts.length c), (1, .func (.func 48) #[] #[.pointer (some ⟨g, 0, none⟩)]), (7, .int .i64 (ts.length : Int)), (8, .int .i64 (i : Int))] ∧ Cx w [] w_ [] [] ∧ (i ≤ ts.length ∧ (ts.take i).all (fun t => !inK k t) = true)) ⟨_, _, ⟨0, rfl, rfl, hC, Nat.zero_le _, rfl⟩, sub_of ⟨rfl, rfl, rfl, rfl, trivial⟩⟩ (fun m10 E_ ar K7 hK8 hI9 => ?_)
 obtain ⟨i, rfl, rfl, aa, hi, hall⟩ := hI9
 refine WCs (fun av ae => ?_)
 refine WCg (WLq 1 [(9, .bool (decide ((i : Int) < (ts.length : Int))))] (WLd rfl (QXn (ae _ _ ?_))))
 refine WCs (fun aw af => ?_)
 refine WCa 9 (decide ((i : Int) < (ts.length : Int))) rfl (fun ab => ?_) (fun ab => ?_)
 ·
  have au : (i : Int) < (ts.length : Int) := by have q_ := of_decide_eq_true ab; omega
  refine WCt rfl ?_
  refine WC.skip ?_
  refine QXn (af _ _ ?_)
  refine WCs (fun ax ai => ?_)
  refine WC.block ?_
  refine WCs (fun ay aj => ?_)
  refine WCg (WLq 2 [(5, .int .i64 (i : Int)), (10, .int .i64 (i : Int))] (WLd rfl (QXn (aj _ _ ?_))))
  refine WCs (fun az ak => ?_)
  refine WCg (WLq 3 [(13, .int .i64 (i : Int)), (12, .slice A ts.length c), (11, .func (.func 48) #[] #[.pointer (some ⟨g, 0, none⟩)])] ?_)
  obtain ⟨al, ac⟩ := get_some (xs := ts) (i := i) (by omega)
  obtain ⟨b26, o28, am, an⟩ := hr.at_ _ _ ac
  refine WLi A ts.length c 14 .i64 (i : Int) b26 o28 i 1 (by kernel_rfl) am (by omega) (by omega) (o28 + i) (by first | (simp; done) | omega) ?_
  refine WLo 3 (.pointer (some ⟨b26, o28 + i, none⟩)) (.int .i64 al) 15 (run_load1 rfl (by simpa [Nat.add_assoc] using aa.fr.cell (an 0 _ rfl) (by simp))) ?_
  refine WLc rfl rfl rfl rfl rfl (by kernel_rfl) (inK_ct g B cB k al ar (aa.fr.has hg (by simp)) (Rd.frO hrB aa.fr (fun _ _ _ _ => by simp)) hkl) ?_
  rintro _ aA ⟨rfl, ao⟩
  refine ⟨_, rfl, ?_⟩
  have ag := aa.call ao
  refine WLd rfl (QXn (ak _ _ ?_))
  refine WCa 16 (inK k al) rfl (fun ad => ?_) (fun ad => ?_)
  ·
   refine WCt rfl ?_
   refine WCs (fun aB ap => ?_)
   refine WCg (WLq 2 [(4, .int .i64 (i : Int)), (17, .int .i64 (i : Int))] (WLd rfl (QXn (ap _ _ ?_))))
   refine WC.ret ?_
   refine QXk ?_
   refine QXr ?_
   refine QXr ?_
   refine QXk ?_
   refine QXr ?_
   refine (hret _ _ _ rfl ?_).1
   exact ⟨by show Ending.returned (.int .i64 (i : Int)) = _; rw [idx_hit ac hall (by simpa using ad)], ag.fr⟩
  ·
   refine WCf rfl (WC.skip ?_)
   refine QXb ?_
   refine QXn (ai _ _ ?_)
   refine WCg (WLq 1 [(18, .int .i64 (IntKind.i64.wrap ((i : Int) + 1)))] ?_)
   refine WLt (show (.int .i64 (IntKind.i64.wrap ((i : Int) + 1)) : Value) = .int .i64 ((i : Int) + 1) from by rw [wrap_in_i64 ((i : Int) + 1) (by omega) (by omega)]) ?_
   refine WLq 1 [(8, .int .i64 ((i : Int) + 1))] ?_
   refine WLd rfl ?_
   refine QXn ?_
   have aq := ag.pick [] [] rfl rfl
   refine fun a_ ha_ => hK8 _ _ _ ?_ ⟨i + 1, rfl, rfl, aq, by omega, all_snocT ac hall (by simpa using ad)⟩ a_ (ha_.weaken (sub_of ⟨rfl, rfl, rfl, rfl, trivial⟩))
   omega
 ·
  have au : (ts.length : Int) ≤ (i : Int) := by have q_ := of_decide_eq_false ab; omega
  refine WCf rfl ?_
  refine WC.exit ?_
  refine QXe ?_
  refine QXe ?_
  refine QX.block_hit ?_
  refine QXn (hK4 _ _ ?_)
  refine WCs (fun aC ah => ?_)
  refine WCg (WLq 1 [(4, .int .i64 (-1))] (WLd rfl (QXn (ah _ _ ?_))))
  refine WC.ret ?_
  refine (hret _ _ _ rfl ?_).1
  clear hN hret hret' ah af ae hK6 hK4 hK2
  rw [take_allT (by omega)] at hall
  exact ⟨by show Ending.returned (.int .i64 (-1)) = _; rw [idx_none hall], aa.fr⟩

set_option maxHeartbeats 1000000 in
theorem DeleteI_ct (g : Nat) (B : Option Addr) (cB : Nat) (k : List Int) (A : Option Addr) (c : Nat) (ts : List Int) (w : World) (hg : w.heap[g]? = some (.cells #[.slice B k.length cB] 31 (0, 0))) (hrB : Rd w 1 (Go.Tw.encI .i64) B k) (hkl : k.length ≤ 1099511627776) (hgF : g ∉ blk (.slice A ts.length c)) (hBF : k ≠ [] → ∀ b off, B = some ⟨b, off, none⟩ → b ∉ blk (.slice A ts.length c)) (hown : w.ownsRow 0 3 1 (.slice A ts.length c) ts.length (ts.flatMap (Go.Tw.encI .i64))) (hlen : ts.length ≤ 9223372036854775807) : Calls Try.prog 47 #[.slice A ts.length c, .func (.func 48) #[] #[.pointer (some ⟨g, 0, none⟩)]] w fun e w' => e = .returned (.slice A (outK k ts).length c) ∧ Fr w w' (blk (.slice A ts.length c)) ∧ w'.ownsRow 0 3 1 (.slice A (outK k ts).length c) (outK k ts).length ((outK k ts).flatMap (Go.Tw.encI .i64)) := by
 refine enterD (n := 42) Try.func47 rfl rfl (Nat.le_of_ble_eq_true rfl) ?_
 intro Q0 hN hret hret'
 have hln_ : ts.length ≤ 9223372036854775807 := hlen
 have hcc_ := own_le hown
 have hC := Cx.start1 w (own_lt hown)
 refine WCs (fun K1 hK2 => ?_)
 refine WCg (WLq 1 [(4, .slice none 0 0)] (WLd rfl (QXn (hK2 _ _ ?_))))
 refine WCs (fun K3 hK4 => ?_)
 refine WCg (WLq 2 [(9, .func (.func 48) #[] #[.pointer (some ⟨g, 0, none⟩)]), (8, .slice A ts.length c)] ?_)
 refine WLc rfl rfl rfl rfl rfl (by kernel_rfl) (IndexI_ct g B cB k A c ts w (hC.fr.has hg hgF) (Rd.frO hrB hC.fr hBF) hkl (own_rd hown (Go.Tw.encI_len _) (by decide)) hlen) ?_
 rintro _ w6 ⟨rfl, hF5⟩
 refine ⟨_, rfl, ?_⟩
 have hC7 := hC.call hF5
 have ho8 := own_fr hown hF5 (by simp)
 rcases idx_cases k ts with ⟨hx9, hsame_⟩ | ⟨i0, hx9, hlt_, hpre_⟩
 ·
  refine WLt (show (.int .i64 (idxK k ts) : Value) = .int .i64 (-1) from congrArg (Value.int .i64) hx9) ?_
  refine WLq 1 [(5, .int .i64 (-1))] (WLd rfl (QXn (hK4 _ _ ?_)))
  refine WCs (fun aZ aB => ?_)
  refine WCs (fun a0 ah => ?_)
  refine WCg (WLq 2 [(12, .bool true), (11, .int .i64 (-1))] (WLd rfl (QXn (ah _ _ ?_))))
  refine WCt rfl ?_
  refine WCs (fun a1 ai => ?_)
  refine WCg (WLq 2 [(4, .slice A ts.length c), (13, .slice A ts.length c)] (WLd rfl (QXn (ai _ _ ?_))))
  refine WC.ret ?_
  refine QXr ?_
  refine (hret _ _ _ rfl ?_).1
  clear hN hret hret' ai ah aB hK4 hK2
  rw [hsame_]
  exact ⟨rfl, hC7.fr, ho8⟩
 ·
  refine WLt (show (.int .i64 (idxK k ts) : Value) = .int .i64 (i0 : Int) from congrArg (Value.int .i64) hx9) ?_
  refine WLq 1 [(5, .int .i64 (i0 : Int))] (WLd rfl (QXn (hK4 _ _ ?_)))
  refine WCs (fun a2 aj => ?_)
  refine WCs (fun a3 ak => ?_)
  refine WCg (WLq 2 [(12, .bool ((i0 : Int) == (-1))), (11, .int .i64 (i0 : Int))] (WLd rfl (QXn (ak _ _ ?_))))
  refine WC.know 12 (.bool ((i0 : Int) == (-1))) (.bool false) rfl (congrArg Value.bool (by first | (simp; done) | (simp; omega))) ?_
  refine WCf rfl (WC.skip (QXn (aj _ _ ?_)))
  refine WCs (fun a4 al => ?_)
  refine WCs (fun a5 am => ?_)
  refine WCg (WLq 2 [(15, .int .i64 (IntKind.i64.wrap ((i0 : Int) + 1))), (14, .int .i64 (i0 : Int))] ?_)
  refine WLt (show (.int .i64 (IntKind.i64.wrap ((i0 : Int) + 1)) : Value) = .int .i64 ((i0 : Int) + 1) from by rw [wrap_in_i64 ((i0 : Int) + 1) (by omega) (by omega)]) ?_
  refine WLq 1 [(6, .int .i64 ((i0 : Int) + 1))] (WLd rfl (QXn (am _ _ ?_)))
  refine WC.block ?_
  refine WC.loop (fun m_ E_ w_ => ∃ (i j : Nat) (L : List Int), m_ = ts.length - j ∧ E_ = [(0, .slice A ts.length c), (1, .func (.func 48) #[] #[.pointer (some ⟨g, 0, none⟩)]), (4, .slice none 0 0), (5, .int .i64 (i : Int)), (6, .int .i64 (j : Int))] ∧ Cx w (blk (.slice A ts.length c)) w_ [] [blk (.slice A ts.length c)] ∧ World.ownsRow w_ 0 3 1 (.slice A ts.length c) ts.length (L.flatMap (Go.Tw.encI .i64)) ∧ (DelI k ts L i j)) ⟨_, _, ⟨i0, i0 + 1, ts, rfl, rfl, hC7, ho8, ⟨⟨by omega, by omega⟩, rfl, hpre_, rfl⟩⟩, sub_of ⟨rfl, rfl, rfl, rfl, rfl, trivial⟩⟩ (fun m27 E_ aS a6 an aC => ?_)
  obtain ⟨i, j, L, rfl, rfl, ac, hrow, hd⟩ := aC
  have hij_ := hd.ij
  have hLl_ := hd.len
  refine WCs (fun a7 ao => ?_)
  refine WCs (fun a8 ap => ?_)
  refine WCg (WLq 4 [(19, .bool (decide ((j : Int) < (ts.length : Int)))), (18, .int .i64 (ts.length : Int)), (17, .slice A ts.length c), (16, .int .i64 (j : Int))] (WLd rfl (QXn (ap _ _ ?_))))
  refine WCa 19 (decide ((j : Int) < (ts.length : Int))) rfl (fun af => ?_) (fun af => ?_)
  ·
   have aT : (j : Int) < (ts.length : Int) := by have q_ := of_decide_eq_true af; omega
   refine WCt rfl ?_
   refine WC.skip ?_
   refine QXn (ao _ _ ?_)
   refine WCs (fun a9 aq => ?_)
   refine WC.block ?_
   refine WCs (fun ba aD => ?_)
   refine WCg (WLq 2 [(23, .int .i64 (j : Int)), (22, .slice A ts.length c)] ?_)
   have aU := own_count (Go.Tw.encI_len _) (by decide) hrow
   obtain ⟨aa, ad⟩ := get_some (xs := L) (i := j) (by omega)
   obtain ⟨b41, ar⟩ := own_addr (by decide) (Go.Tw.encI_len _) hrow ad
   refine WLi A ts.length c 24 .i64 (j : Int) b41 0 j 1 (by kernel_rfl) ar (by omega) (by omega) j (by first | (simp; done) | omega) ?_
   refine WLo 3 (.pointer (some ⟨b41, j, none⟩)) (.int .i64 aa) 25 (run_load1 rfl (by simpa [Nat.add_assoc] using Rd.cell (own_rd hrow (Go.Tw.encI_len _) (by decide)) ar ad 0 _ rfl)) ?_
   refine WLq 1 [(7, .int .i64 aa)] (WLd rfl (QXn (aD _ _ ?_)))
   refine WCs (fun bb aE => ?_)
   refine WCg (WLq 2 [(27, .int .i64 aa), (26, .func (.func 48) #[] #[.pointer (some ⟨g, 0, none⟩)])] ?_)
   refine WLc rfl rfl rfl rfl rfl (by kernel_rfl) (inK_ct g B cB k aa aS (ac.fr.has hg hgF) (Rd.frO hrB ac.fr hBF) hkl) ?_
   rintro _ bc ⟨rfl, au⟩
   refine ⟨_, rfl, ?_⟩
   have av := ac.call au
   have ae := own_fr hrow au (by simp)
   refine WLq 1 [(29, .bool (!(inK k aa)))] (WLd rfl (QXn (aE _ _ ?_)))
   refine WCa 29 (!(inK k aa)) rfl (fun ab => ?_) (fun ab => ?_)
   ·
    have aF : (inK k aa) = false := by first | (simpa only [Bool.not_eq_true', Bool.not_eq_false'] using ab) | simpa using ab
    refine WCt rfl ?_
    refine WCs (fun bd aG => ?_)
    refine WCg (WLq 3 [(32, .int .i64 aa), (31, .int .i64 (i : Int)), (30, .slice A ts.length c)] ?_)
    have aV := own_count (Go.Tw.encI_len _) (by decide) ae
    obtain ⟨aW, aw⟩ := get_some (xs := L) (i := i) (by omega)
    obtain ⟨b55, ax⟩ := own_addr (by decide) (Go.Tw.encI_len _) ae aw
    refine WLi A ts.length c 33 .i64 (i : Int) b55 0 i 1 (by kernel_rfl) ax (by omega) (by omega) i (by first | (simp; done) | omega) ?_
    obtain ⟨be, aH, aX, aI, aJ⟩ := stoE_run Try.prog (Go.Tw.encI_len _) av 0 ax rfl ae i 0 (x := aW) aw aa [.int .i64 aa] rfl 3 (.int .i64 aa) (i) rfl rfl rfl (by first | rfl | simp [Nat.add_assoc])
    refine WL.semU (Instr.storeAt 3 (.pointer (some ⟨b55, i, none⟩)) (.int .i64 aa)) (by kernel_rfl) aH ?_
    refine WLd rfl (QXn (aG _ _ ?_))
    refine WCg (WLq 2 [(35, .int .i64 (IntKind.i64.wrap ((i : Int) + 1))), (34, .int .i64 (i : Int))] ?_)
    refine WLt (show (.int .i64 (IntKind.i64.wrap ((i : Int) + 1)) : Value) = .int .i64 ((i : Int) + 1) from by rw [wrap_in_i64 ((i : Int) + 1) (by omega) (by omega)]) ?_
    refine WLq 1 [(5, .int .i64 ((i : Int) + 1))] ?_
    refine WLd rfl ?_
    refine QXb ?_
    refine QXn (aq _ _ ?_)
    refine WCg (WLq 2 [(21, .int .i64 (IntKind.i64.wrap ((j : Int) + 1))), (20, .int .i64 (j : Int))] ?_)
    refine WLt (show (.int .i64 (IntKind.i64.wrap ((j : Int) + 1)) : Value) = .int .i64 ((j : Int) + 1) from by rw [wrap_in_i64 ((j : Int) + 1) (by omega) (by omega)]) ?_
    refine WLq 1 [(6, .int .i64 ((j : Int) + 1))] ?_
    refine WLd rfl ?_
    refine QXn ?_
    have aK := aJ.pick [] [0] rfl rfl
    refine fun a_ ha_ => an _ _ _ ?_ ⟨i + 1, j + 1, L.set i aa, rfl, rfl, aK, aI, hd.keep ad (by simpa using aF)⟩ a_ (ha_.weaken (sub_of ⟨rfl, rfl, rfl, rfl, rfl, trivial⟩))
    omega
   ·
    have aF : (inK k aa) = true := by first | (simpa only [Bool.not_eq_true', Bool.not_eq_false'] using ab) | simpa using ab
    refine WCf rfl (WC.skip ?_)
    refine QXb ?_
    refine QXn (aq _ _ ?_)
    refine WCg (WLq 2 [(21, .int .i64 (IntKind.i64.wrap ((j : Int) + 1))), (20, .int .i64 (j : Int))] ?_)
    refine WLt (show (.int .i64 (IntKind.i64.wrap ((j : Int) + 1)) : Value) = .int .i64 ((j : Int) + 1) from by rw [wrap_in_i64 ((j : Int) + 1) (by omega) (by omega)]) ?_
    refine WLq 1 [(6, .int .i64 ((j : Int) + 1))] ?_
    refine WLd rfl ?_
    refine QXn ?_
    have aL := av.pick [] [0] rfl rfl
    refine fun a_ ha_ => an _ _ _ ?_ ⟨i, j + 1, L, rfl, rfl, aL, ae, hd.skip ad (by simpa using aF)⟩ a_ (ha_.weaken (sub_of ⟨rfl, rfl, rfl, rfl, rfl, trivial⟩))
    omega
  ·
   have aT : (ts.length : Int) ≤ (j : Int) := by have q_ := of_decide_eq_false af; omega
   refine WCf rfl ?_
   refine WC.exit ?_
   refine QXe ?_
   refine QXe ?_
   refine QX.block_hit ?_
   refine QXn (al _ _ ?_)
   refine WCs (fun bf ay => ?_)
   refine WCg (WLq 2 [(37, .int .i64 (i : Int)), (36, .slice A ts.length c)] ?_)
   obtain ⟨aR, az⟩ : ∃ A_, slcAt A i c 1 = A_ := ⟨_, rfl⟩
   have hle_ := own_le hrow
   have aM : ts.length ≤ c := by omega
   refine WL.slc 31 3 1 A aR ts.length c i ts.length (ts.length - i) (c - i) (some (.int .i64 (i : Int))) none 38 (by kernel_rfl) (by kernel_rfl) (bnd.yes (by omega)) bnd.no (by omega) aM az (by first | rfl | omega) (by first | rfl | omega) ?_
   obtain ⟨bg, aN, aY, aO, aP⟩ := clear_run (P := Try.prog) ac 0 (t := 31) (ty := 0) (bytes := 8) (by kernel_rfl) (by kernel_rfl) rfl hrow (by omega) az
   have ag := aP
   rw [flat_take (Go.Tw.encI_len _)] at ag
   refine WL.semN (Builtin.clear_ #[31] 0 #[.slice aR (ts.length - i) (c - i)]) _ (by kernel_rfl) aN ?_
   refine WLd rfl (QXn (ay _ _ ?_))
   refine WCs (fun bh aA => ?_)
   refine WCg (WLq 2 [(40, .int .i64 (i : Int)), (39, .slice A ts.length c)] ?_)
   have aQ : i ≤ c := by omega
   refine WL.slc 31 3 1 A A ts.length c 0 i i c none (some (.int .i64 (i : Int))) 41 (by kernel_rfl) (by kernel_rfl) bnd.no (bnd.yes (by omega)) (by omega) aQ (slcAt_pre _ _ _) (by first | rfl | omega) (by first | rfl | omega) ?_
   refine WLq 1 [(4, .slice A i c)] (WLd rfl (QXn (aA _ _ ?_)))
   refine WC.ret ?_
   refine (hret _ _ _ rfl ?_).1
   clear hN hret hret' aA ay ap ao am al ak aj hK4 hK2
   have hend_ : (L.take i) = outK k ts := by rw [hd.pre, List.take_of_length_le (by omega)]
   have hcn_ : (outK k ts).length = i := by rw [← hend_, List.length_take]; omega
   rw [hend_] at ag
   rw [hcn_]
   exact ⟨rfl, aO.fr, ag⟩

theorem Without_ct (G : List Nat) (p : Nat) (per : Int) (AP : Option Addr) (cP : Nat) (pts : List (Int × Int)) (AM : Option Addr) (cM : Nat) (mem : List Int) (A : Option Addr) (c : Nat) (xs : List Int) (w : World) (hR : RingR w G p per AP cP pts AM cM mem) (hml : mem.length ≤ 4096) (hr : Rd w 1 (Go.Tw.encI .i64) A xs) (hl : xs.length ≤ 1099511623680) : Calls Try.prog 23 #[.pointer (some ⟨p, 0, none⟩), .slice A xs.length c] w fun e w' => ∃ a b, e = .returned (.tuple #[a, b]) ∧ Fr w w' [] ∧ newR w' w.heap.size per (outK xs mem) a b := by
 refine enterD (n := 20) Try.func23 rfl rfl (Nat.le_of_ble_eq_true rfl) ?_
 intro Q0 hN hret hret'
 have hol_ : (outK xs mem).length ≤ mem.length := List.length_filter_le _ _
 have hC := Cx.start w
 refine WCs (fun K1 hK2 => ?_)
 refine WCg ?_
 refine WL.newM hC (fun b => .pointer (some ⟨b, 0, none⟩)) (.cells #[.slice A xs.length c] 31) 3 (fun _ => by kernel_rfl) (fun g3 w4 hb7 hF5 hC6 => ?_)
 refine WLq 2 [(5, .nilIface), (4, .pointer none)] (WLd rfl (QXn (hK2 _ _ ?_)))
 refine WCs (fun K8 hK9 => ?_)
 refine WCs (fun aD ah => ?_)
 refine WCg (WLq 2 [(7, .bool false), (6, .pointer (some ⟨p, 0, none⟩))] (WLd rfl (QXn (ah _ _ ?_))))
 refine WCf rfl (WC.skip (QXn (hK9 _ _ ?_)))
 refine WCs (fun aE ai => ?_)
 refine WC.drawC hC6 [] (by kernel_rfl) (fun ar aA ad aa => ?_)
 refine WDq (NPt hN) 0 9 (.pointer (some ⟨p, 0, none⟩)) aa ?_
 refine WDq (NPt hN) 1 10 (.pointer (some ⟨p, 0, none⟩)) aa ?_
 refine WDq (NPt hN) 2 11 (.pointer (some ⟨p, 0, none⟩)) aa ?_
 refine WDq (NPt hN) 4 13 (.pointer (some ⟨p, 0, none⟩)) aa ?_
 refine WDq (NPt hN) 6 15 (.func (.func 48) #[] #[.pointer (some ⟨g3, 0, none⟩)]) aa ?_
 refine WDm (NPt hN) 3 3 (.pointer (some ⟨p, 0, none⟩)) (.int .i64 per) 12 (fun _ hS_ => run_load1 rfl (Fr.cell hS_ (ad.fr.cell (hR.c0) (by simp)) (by simp))) aa ?_
 refine WD.call 5 (by kernel_rfl) rfl rfl rfl rfl rfl (by kernel_rfl) (Members_ct G p per AP cP pts AM cM mem ar (hR.fr ad.fr (by simp)) (by omega)) ?_
 rintro _ aB ⟨v_, rfl, aj, ab⟩
 have ae := ad.callN aj (own_ge ab) (own_lt ab)
 obtain ⟨ap, aq, rfl, ay⟩ := own_form ab
 have au := own_base (b' := 0) ab (fun _ _ => Nat.zero_le _)
 have ak := aa.trans aj (by simp)
 refine ⟨_, rfl, ak, ?_⟩
 have az : ∀ x_ ∈ blk (.slice ap mem.length aq), ar.heap.size ≤ x_ := fun x_ h_ => Nat.le_trans aa.size (own_ge ab x_ h_)
 have af : ∀ x_ ∈ blk (.slice ap mem.length aq), ar.heap.size ≤ x_ := fun x_ h_ => Nat.le_trans aa.size (own_ge ab x_ h_)
 refine WD.call 7 (by kernel_rfl) rfl rfl rfl rfl rfl (by kernel_rfl) (DeleteI_ct g3 A c xs ap aq mem aB (ae.get 0 rfl) (Rd.fr hr ae.fr) (by omega) (ae.notin 0 0 rfl rfl) (fun hne_ b_ off_ e_ hb_ => absurd (rd_lt hr (fun x_ => by rw [Go.Tw.encI_len]; decide) e_ hne_) (Nat.not_lt.2 (Nat.le_trans ad.fr.size (af b_ hb_)))) au (by omega)) ?_
 rintro _ aC ⟨rfl, al, ag⟩
 have am := ae.callF 0 rfl al (fun x_ h_ => .inl (blk_in3 h_)) (own_lt ag)
 have an := ak.trans al (fun x_ h_ => .inr (af x_ h_))
 refine ⟨_, rfl, an, ?_⟩
 refine WD.call 8 (by kernel_rfl) rfl rfl rfl rfl rfl (by kernel_rfl) (New_n per ap ((outK xs mem).length) aq (outK xs mem) aC (own_rd ag (Go.Tw.encI_len _) (by decide)) (own_count (Go.Tw.encI_len _) (by decide) ag) (by omega)) ?_
 rintro _ aF ⟨a_, b_, rfl, ao, av⟩
 have aw := am.callN (G := []) ao (by simp) (by simp)
 have ax := av.base am.fr.size
 have ac := an.trans ao (by simp)
 refine ⟨_, rfl, ac, ?_⟩
 refine WDq (NPt hN) 9 18 (a_) ac ?_
 refine WDq (NPt hN) 10 19 (b_) ac ?_
 refine WDq (NPt hN) 11 4 (a_) ac ?_
 refine WDq (NPt hN) 12 5 (b_) ac ?_
 refine WD.done (by kernel_rfl) ?_
 refine QXn (ai _ _ ?_)
 refine WC.ret ?_
 refine (hret _ _ _ rfl ?_).1
 clear hN hret hret' ai ah hK9 hK2
 have hN_ := ax
 exact ⟨_, _, rfl, aw.fr, by simpa using hN_⟩

end Go.Proofs.Ytibkndhgeeoidaa
