/- Contracts of functions of the program, each proved by a walk through its code; conditions stand in the statements. -/
import Derived.Test.YtmahghppojbeoaaSeD
import Derived.Test.YtmahghppojbeoaaSeZ
import Derived.Sort.AssemblyPlain
namespace Go.Proofs.Ytmahghppojbeoaa
set_option linter.unusedSimpArgs false
set_option linter.unusedVariables false
set_option linter.unusedSectionVars false
open Go Go.RowKit Go.Tw
set_option linter.unusedVariables false
set_option maxRecDepth 20000
open Go.Sort
theorem slcAt_blk0 {b l c : Nat} (h : l < c) : slcAt (some ⟨b, 0, none⟩) l c 1 = some ⟨b, l, none⟩ := slcAt_blk h (by omega)
theorem take_allV {ts : List Int} {i : Nat} (h : ¬ i < ts.length) : ts.take i = ts := List.take_of_length_le (by omega)
def nVip (x : Int) : Bool := !isVip x
def idxV (ts : List Int) : Int := match ts.findIdx? (nVip) with
  | some i => (i : Int)
  | none => -1
def outV (ts : List Int) : List Int := ts.filter fun t => !nVip t
theorem idxV_hit {ts : List Int} {i : Nat} {e : Int} (he : ts[i]? = some e) (hm : (ts.take i).all (fun t => !nVip t) = true) (h : nVip e = true) : idxV ts = (i : Int) := by
  obtain ⟨hi, rfl⟩ := List.getElem?_eq_some_iff.1 he
  have : ts.findIdx? (nVip) = some i := by
    rw [List.findIdx?_eq_some_iff_getElem]
    refine ⟨hi, h, fun j hj => ?_⟩
    rw [List.all_eq_true] at hm
    have := hm ts[j] (by rw [List.mem_iff_getElem?]; exact ⟨j, by rw [List.getElem?_take, if_pos hj]; exact List.getElem?_eq_getElem (by omega)⟩)
    simpa using this
  unfold idxV; rw [this]
theorem idxV_none {ts : List Int} (hm : ts.all (fun t => !nVip t) = true) : idxV ts = -1 := by
  have : ts.findIdx? (nVip) = none := by
    rw [List.findIdx?_eq_none_iff]
    intro x hx
    rw [List.all_eq_true] at hm
    simpa using hm x hx
  unfold idxV; rw [this]
theorem all_snocV {ts : List Int} {i : Nat} {e : Int} (he : ts[i]? = some e) (hm : (ts.take i).all (fun t => !nVip t) = true) (h : nVip e = false) : (ts.take (i + 1)).all (fun t => !nVip t) = true := by
  obtain ⟨hi, rfl⟩ := List.getElem?_eq_some_iff.1 he
  rw [List.take_succ_eq_append_getElem hi, List.all_append, hm]; simp [h]
theorem idxV_cases (ts : List Int) : (idxV ts = -1 ∧ outV ts = ts) ∨ ∃ i : Nat, idxV ts = (i : Int) ∧ i < ts.length ∧ ts.take i = outV (ts.take (i + 1)) := by
  unfold idxV
  cases h : ts.findIdx? (nVip) with
  | none =>
    left
    refine ⟨rfl, ?_⟩
    rw [List.findIdx?_eq_none_iff] at h
    exact List.filter_eq_self.2 fun x hx => by simp [h x hx]
  | some i =>
    right
    obtain ⟨hi, h1, h2⟩ := List.findIdx?_eq_some_iff_getElem.1 h
    refine ⟨i, rfl, hi, ?_⟩
    have hf : (ts.take i).filter (fun t => !nVip t) = ts.take i := List.filter_eq_self.2 fun x hx => by
      obtain ⟨j, hj⟩ := List.mem_iff_getElem?.1 hx
      rw [List.getElem?_take] at hj
      split at hj
      · rename_i hji
        obtain ⟨hj2, rfl⟩ := List.getElem?_eq_some_iff.1 hj
        simpa using h2 j hji
      · cases hj
    unfold outV
    rw [List.take_succ_eq_append_getElem hi, List.filter_append, hf]
    simp [h1]
structure DelV (ts L : List Int) (i j : Nat) : Prop where
  ij : i < j ∧ j ≤ ts.length
  len : L.length = ts.length
  pre : L.take i = outV (ts.take j)
  post : L.drop j = ts.drop j
theorem DelV.el {ts L : List Int} {i j : Nat} (h : DelV ts L i j) {e : Int} (he : L[j]? = some e) : ts[j]? = some e := by
  have h1 : (L.drop j)[0]? = (ts.drop j)[0]? := by rw [h.post]
  rw [List.getElem?_drop, List.getElem?_drop, Nat.add_zero] at h1
  rw [← h1]; exact he
theorem outV_snoc {ts : List Int} {j : Nat} {e : Int} (he : ts[j]? = some e) : outV (ts.take (j + 1)) = outV (ts.take j) ++ (if nVip e then [] else [e]) := by
  obtain ⟨hj, rfl⟩ := List.getElem?_eq_some_iff.1 he
  unfold outV
  rw [List.take_succ_eq_append_getElem hj, List.filter_append]
  cases h : nVip ts[j] <;> simp [h]
theorem DelV.skip {ts L : List Int} {i j : Nat} (h : DelV ts L i j) {e : Int} (he : L[j]? = some e) (hk : nVip e = true) : DelV ts L i (j + 1) := by
  have hj := (List.getElem?_eq_some_iff.1 (h.el he)).1
  refine ⟨⟨by have := h.ij; omega, by omega⟩, h.len, ?_, ?_⟩
  · rw [outV_snoc (h.el he), hk, h.pre]; simp
  · rw [← List.drop_drop, h.post, List.drop_drop]
theorem DelV.keep {ts L : List Int} {i j : Nat} (h : DelV ts L i j) {e : Int} (he : L[j]? = some e) (hk : nVip e = false) : DelV ts (L.set i e) (i + 1) (j + 1) := by
  have hj := (List.getElem?_eq_some_iff.1 (h.el he)).1
  have hij := h.ij
  refine ⟨⟨by omega, by omega⟩, by rw [List.length_set]; exact h.len, ?_, ?_⟩
  · rw [outV_snoc (h.el he), hk, ← h.pre]
    have hi : i < (L.set i e).length := by rw [List.length_set, h.len]; omega
    rw [List.take_succ_eq_append_getElem hi, List.getElem_set_self, List.take_set_of_le (by omega)]
    simp
  · rw [List.drop_set_of_lt (by omega), ← List.drop_drop, h.post, List.drop_drop]

/-! the rising list of vips -/
def sortU (xs : List Int) : List Int := xs.mergeSort fun x y => decide (x ≤ y)
theorem sortU_len (xs : List Int) : (sortU xs).length = xs.length := List.length_mergeSort _
theorem sortU_mem {xs : List Int} {x : Int} : x ∈ sortU xs ↔ x ∈ xs := List.mem_mergeSort
theorem sortU_of {xs ys : List Int} (h : PermIn 0 xs.length (aOf xs) (aOf ys) ∧ SortedIn ltInt 0 xs.length (aOf ys)) : ys = sortU xs := by
  have hz : (aOf xs).size = xs.length := aSize xs
  have h2 := sorted_unique_holds (lt := ltInt) swo_ltInt (fun x y h1 h2 => by simp only [ltInt, decide_eq_false_iff_not] at h1 h2; omega) (aOf xs) (aOf ys) (by rw [hz]; exact h.1) (by rw [hz]; exact h.2)
  have h3 : (fun x y : Int => !ltInt y x) = fun x y => decide (x ≤ y) := by
    funext x y; unfold ltInt; rw [Bool.eq_iff_iff]; simp
  rw [h3] at h2
  simpa [aOf, sortU] using h2
def cptN (xs : List Int) : Nat → List Int
  | 0 => []
  | j + 1 => if 0 < j ∧ xs[j]? = xs[j - 1]? then cptN xs j else cptN xs j ++ xs[j]?.toList
structure CptI (xs L : List Int) (k j : Nat) : Prop where
  kj : k < j ∧ j ≤ xs.length ∧ 0 < k
  len : L.length = xs.length
  pre : L.take k = cptN xs j
  post : L.drop (j - 1) = xs.drop (j - 1)
theorem cpt_take {xs : List Int} {k : Nat} {x y : Int} (h0 : 0 < k) (h : cptN xs k = xs.take k) (hx : xs[k]? = some x) (hy : xs[k - 1]? = some y) (hne : (x == y) = false) : cptN xs (k + 1) = xs.take (k + 1) := by
  obtain ⟨hk, rfl⟩ := List.getElem?_eq_some_iff.1 hx
  have e : ¬ (0 < k ∧ xs[k]? = xs[k - 1]?) := fun q => by rw [hx, hy] at q; have := Option.some.inj q.2; rw [this] at hne; simp at hne
  rw [List.take_succ_eq_append_getElem hk]
  unfold cptN; rw [if_neg e, h, hx]; rfl
theorem cpt_one {xs : List Int} (h : 1 ≤ xs.length) : cptN xs 1 = xs.take 1 := by
  cases xs with
  | nil => simp at h
  | cons a r => simp [cptN]
theorem CptI.start {xs : List Int} {k : Nat} {x y : Int} (h0 : 0 < k) (h : cptN xs k = xs.take k) (hx : xs[k]? = some x) (hy : xs[k - 1]? = some y) (he : (x == y) = true) : CptI xs xs k (k + 1) := by
  have hk := (List.getElem?_eq_some_iff.1 hx).1
  have e : x = y := eq_of_beq he
  refine ⟨by omega, rfl, ?_, rfl⟩
  simp only [cptN, if_pos (show 0 < k ∧ xs[k]? = xs[k - 1]? from ⟨h0, by rw [hx, hy, e]⟩), h]
theorem CptI.el {xs L : List Int} {k j : Nat} (h : CptI xs L k j) (i : Nat) (hi : j - 1 ≤ i) : L[i]? = xs[i]? := by
  have h1 : (L.drop (j - 1))[i - (j - 1)]? = (xs.drop (j - 1))[i - (j - 1)]? := by rw [h.post]
  rw [List.getElem?_drop, List.getElem?_drop, show j - 1 + (i - (j - 1)) = i from by omega] at h1; exact h1
theorem CptI.skip {xs L : List Int} {k j : Nat} {x y : Int} (h : CptI xs L k j) (hx : L[j]? = some x) (hy : L[j - 1]? = some y) (he : (x != y) = false) : CptI xs L k (j + 1) := by
  have hj := h.kj
  rw [h.el j (by omega)] at hx; rw [h.el (j - 1) (Nat.le_refl _)] at hy
  have hlt := (List.getElem?_eq_some_iff.1 hx).1
  have e : x = y := by simpa using he
  refine ⟨by omega, h.len, ?_, ?_⟩
  · simp only [cptN, if_pos (show 0 < j ∧ xs[j]? = xs[j - 1]? from ⟨by omega, by rw [hx, hy, e]⟩)]; exact h.pre
  · have h1 : L.drop (j - 1 + 1) = xs.drop (j - 1 + 1) := by rw [← List.drop_drop, h.post, List.drop_drop]
    rw [show j + 1 - 1 = j - 1 + 1 from by omega]; exact h1
theorem CptI.keep {xs L : List Int} {k j : Nat} {x y : Int} (h : CptI xs L k j) (hx : L[j]? = some x) (hy : L[j - 1]? = some y) (he : (x != y) = true) : CptI xs (L.set k x) (k + 1) (j + 1) := by
  have hj := h.kj
  rw [h.el j (by omega)] at hx; rw [h.el (j - 1) (Nat.le_refl _)] at hy
  have hlt := (List.getElem?_eq_some_iff.1 hx).1
  have e : ¬ (0 < j ∧ xs[j]? = xs[j - 1]?) := fun q => by rw [hx, hy] at q; have := Option.some.inj q.2; rw [this] at he; simp at he
  refine ⟨by omega, by rw [List.length_set]; exact h.len, ?_, ?_⟩
  · have hi : k < (L.set k x).length := by rw [List.length_set, h.len]; omega
    rw [List.take_succ_eq_append_getElem hi, List.getElem_set_self, List.take_set_of_le (by omega), h.pre]
    conv => rhs; unfold cptN
    rw [if_neg e, hx]; rfl
  · rw [List.drop_set_of_lt (by omega)]
    have h1 : L.drop (j - 1 + 1) = xs.drop (j - 1 + 1) := by rw [← List.drop_drop, h.post, List.drop_drop]
    rw [show j + 1 - 1 = j - 1 + 1 from by omega]; exact h1
def cpt (xs : List Int) : List Int := cptN xs xs.length
theorem SortU_ct (A : Option Addr) (c : Nat) (xs : List Int) (w : World) (hown : w.ownsRow 0 44 1 (.slice A xs.length c) xs.length (xs.flatMap (Go.Tw.encI .u32))) (hlen : xs.length ≤ 1099511627776) : Calls Try.prog 56 #[.slice A xs.length c] w fun e w' => ∃ ys : List Int, e = .returned (.tuple #[]) ∧ Fr w w' (blk (.slice A xs.length c)) ∧ w'.ownsRow 0 44 1 (.slice A xs.length c) xs.length (ys.flatMap (Go.Tw.encI .u32)) ∧ ys = sortU xs := by
 refine enterD (n := 11) Try.func56 rfl rfl (Nat.le_of_ble_eq_true rfl) ?_
 intro Q0 hN hret hret'
 have hcc_ := own_le hown
 have hC := Cx.start1 w (own_lt hown)
 have hLs_ := own_count (Go.Tw.encI_len .u32) (by decide) hown
 refine WCs (fun K1 hK2 => ?_)
 refine WCg (WLq 3 [(2, .int .i64 (xs.length : Int)), (4, .int .i64 (xs.length : Int)), (3, .slice A xs.length c)] (WLd rfl (QXn (hK2 _ _ ?_))))
 refine WCg (WLq 4 [(8, .int .u64 (IntKind.u64.wrap ((xs.length : Int)))), (7, .int .i64 (xs.length : Int)), (6, .int .i64 (xs.length : Int)), (5, .slice A xs.length c)] ?_)
 refine WLt (show (.int .u64 (IntKind.u64.wrap ((xs.length : Int))) : Value) = .int .u64 (xs.length : Int) from by rw [wrap_in_u64 _ (by omega) (by omega)]) ?_
 refine WLc rfl rfl rfl rfl rfl (by kernel_rfl) (Len_ct (xs.length : Int) w (by omega) (by omega)) ?_
 rintro _ w4 ⟨r_, rfl, hF3⟩
 refine ⟨_, rfl, ?_⟩
 have hC5 := hC.call hF3
 have ho6 := own_fr hown hF3 (by simp)
 refine WLc rfl rfl rfl rfl rfl (by kernel_rfl) (pdq_all xs.length A c xs.length xs (own_count (Go.Tw.encI_len .u32) (by decide) ho6) 0 xs.length r_ w4 ho6 hlen (Nat.zero_le _) (Nat.le_refl _) (by omega) (.inl rfl)) ?_
 rintro _ w7 ⟨ys8, rfl, hF9, aa, ab⟩
 have ac := hC5.callF 0 rfl hF9 (fun _ h_ => .inl h_) (own_lt aa)
 have ad := own_count (Go.Tw.encI_len .u32) (by decide) aa
 refine ⟨_, rfl, ?_⟩
 refine WLd rfl ?_
 refine (hret _ _ _ rfl ?_).2
 exact ⟨_, rfl, ac.fr, aa, sortU_of ab⟩

theorem SortU_n (A : Option Addr) (c n : Nat) (xs : List Int) (hn : xs.length = n) (w : World) (hown : w.ownsRow 0 44 1 (.slice A n c) n (xs.flatMap (Go.Tw.encI .u32))) (hlen : n ≤ 1099511627776) : Calls Try.prog 56 #[.slice A n c] w fun e w' => e = .returned (.tuple #[]) ∧ Fr w w' (blk (.slice A n c)) ∧ w'.ownsRow 0 44 1 (.slice A n c) n ((sortU xs).flatMap (Go.Tw.encI .u32)) := by
  subst hn
  exact (SortU_ct A c xs w hown hlen).mono fun e w' ⟨ys, h1, h2, h3, h4⟩ => ⟨h1, h2, h4 ▸ h3⟩
theorem CollU_ct (A : Option Addr) (c : Nat) (xs : List Int) (g : Nat) (w : World) (hg : w.heap[g]? = some (.cells #[.slice A xs.length c] 33 (0, 0))) (hr : Rd w 1 (Go.Tw.encI .u32) A xs) (hlen : xs.length ≤ 1099511627776) : Calls Try.prog 55 #[.func (.func 57) #[] #[.pointer (some ⟨g, 0, none⟩)]] w fun e w' => ∃ v_, e = .returned v_ ∧ Fr w w' [] ∧ w'.ownsRow w.heap.size 44 1 v_ xs.length (xs.flatMap (Go.Tw.encI .u32)) := by
 refine enterD (n := 5) Try.func55 rfl rfl (Nat.le_of_ble_eq_true rfl) ?_
 intro Q0 hN hret hret'
 have hC := Cx.start w
 refine WCs (fun K1 hK2 => ?_)
 refine WCg (WLq 1 [(2, .slice none 0 0)] (WLd rfl (QXn (hK2 _ _ ?_))))
 refine WCs (fun K3 hK4 => ?_)
 refine WCg (WLq 1 [(3, .func (.func 57) #[] #[.pointer (some ⟨g, 0, none⟩)])] ?_)
 refine WLc rfl rfl rfl rfl rfl (by kernel_rfl) (append_ct A xs.length c xs g w (hC.fr.has hg (by simp)) rfl (Rd.fr hr hC.fr) hlen) ?_
 rintro _ w7 ⟨v_, rfl, hF6, ho5⟩
 have hC8 := hC.callN hF6 (own_ge ho5) (own_lt ho5)
 obtain ⟨A9, ac, rfl, ab⟩ := own_form ho5
 have aa := own_base (b' := 0) ho5 (fun _ _ => Nat.zero_le _)
 refine ⟨_, rfl, ?_⟩
 refine WLq 1 [(2, .slice A9 xs.length ac)] (WLd rfl (QXn (hK4 _ _ ?_)))
 refine WC.ret ?_
 refine (hret _ _ _ rfl ?_).1
 exact ⟨_, rfl, hC8.fr, own_base aa (hC8.geF 0 rfl)⟩

theorem SortedU_ct (A : Option Addr) (c : Nat) (xs : List Int) (g : Nat) (w : World) (hg : w.heap[g]? = some (.cells #[.slice A xs.length c] 33 (0, 0))) (hr : Rd w 1 (Go.Tw.encI .u32) A xs) (hlen : xs.length ≤ 1099511627776) : Calls Try.prog 36 #[.func (.func 57) #[] #[.pointer (some ⟨g, 0, none⟩)]] w fun e w' => ∃ v_, e = .returned v_ ∧ Fr w w' [] ∧ w'.ownsRow w.heap.size 44 1 v_ xs.length ((sortU xs).flatMap (Go.Tw.encI .u32)) := by
 refine enterD (n := 9) Try.func36 rfl rfl (Nat.le_of_ble_eq_true rfl) ?_
 intro Q0 hN hret hret'
 have hC := Cx.start w
 refine WCs (fun K1 hK2 => ?_)
 refine WCg (WLq 1 [(2, .slice none 0 0)] (WLd rfl (QXn (hK2 _ _ ?_))))
 refine WCs (fun K3 hK4 => ?_)
 refine WCg (WLq 1 [(4, .func (.func 57) #[] #[.pointer (some ⟨g, 0, none⟩)])] ?_)
 refine WLc rfl rfl rfl rfl rfl (by kernel_rfl) (CollU_ct A c xs g w (hC.fr.has hg (by simp)) (Rd.fr hr hC.fr) hlen) ?_
 rintro _ w7 ⟨v_, rfl, hF6, ho5⟩
 have hC8 := hC.callN hF6 (own_ge ho5) (own_lt ho5)
 obtain ⟨A9, aa, rfl, ah⟩ := own_form ho5
 have ab := own_base (b' := 0) ho5 (fun _ _ => Nat.zero_le _)
 refine ⟨_, rfl, ?_⟩
 refine WLq 1 [(3, .slice A9 xs.length aa)] (WLd rfl (QXn (hK4 _ _ ?_)))
 refine WCs (fun ai ae => ?_)
 refine WCg (WLq 1 [(6, .slice A9 xs.length aa)] ?_)
 refine WLc rfl rfl rfl rfl rfl (by kernel_rfl) (SortU_n A9 aa xs.length xs (own_count (Go.Tw.encI_len .u32) (by decide) ab) w7 ab (by omega)) ?_
 rintro _ aj ⟨rfl, af, ac⟩
 have ad := hC8.callF 0 rfl af (fun _ h_ => .inl h_) (own_lt ac)
 refine ⟨_, rfl, ?_⟩
 refine WLd rfl (QXn (ae _ _ ?_))
 refine WCs (fun ak ag => ?_)
 refine WCg (WLq 2 [(2, .slice A9 xs.length aa), (8, .slice A9 xs.length aa)] (WLd rfl (QXn (ag _ _ ?_))))
 refine WC.ret ?_
 refine (hret _ _ _ rfl ?_).1
 exact ⟨_, rfl, ad.fr, own_base ac (ad.geF 0 rfl)⟩

theorem IdxV_ct (A : Option Addr) (c : Nat) (xs : List Int) (w : World) (hr : Rd w 1 (Go.Tw.encI .u32) A xs) (hlen : xs.length ≤ 1099511627776) (ae : ∀ x ∈ xs, 0 ≤ x ∧ x ≤ 4294967295) : Calls Try.prog 54 #[.slice A xs.length c, .func (.func 38) #[] #[]] w fun e w' => e = .returned (.int .i64 (idxV xs)) ∧ Fr w w' [] := by
 refine enterD (n := 19) Try.func54 rfl rfl (Nat.le_of_ble_eq_true rfl) ?_
 intro Q0 hN hret hret'
 have hC := Cx.start w
 refine WCs (fun K1 hK2 => ?_)
 refine WCg (WLq 1 [(4, .int .i64 0)] (WLd rfl (QXn (hK2 _ _ ?_))))
 refine WCs (fun K3 hK4 => ?_)
 refine WCs (fun K5 hK6 => ?_)
 refine WCg (WLq 3 [(8, .int .i64 0), (7, .int .i64 (xs.length : Int)), (6, .slice A xs.length c)] (WLd rfl (QXn (hK6 _ _ ?_))))
 refine WC.block ?_
 refine WC.loop (fun m_ E_ w_ => ∃ (i : Nat), m_ = xs.length - i ∧ E_ = [(0, .slice A xs.length c), (1, .func (.func 38) #[] #[]), (7, .int .i64 (xs.length : Int)), (8, .int .i64 (i : Int))] ∧ Cx w [] w_ [] [] ∧ (i ≤ xs.length ∧ (xs.take i).all (fun t => !nVip t) = true)) ⟨_, _, ⟨0, rfl, rfl, hC, Nat.zero_le _, rfl⟩, sub_of ⟨rfl, rfl, rfl, rfl, trivial⟩⟩ (fun m10 E_ au K7 hK8 hI9 => ?_)
 obtain ⟨i, rfl, rfl, ab, hi, hall⟩ := hI9
 refine WCs (fun aw af => ?_)
 refine WCg (WLq 1 [(9, .bool (decide ((i : Int) < (xs.length : Int))))] (WLd rfl (QXn (af _ _ ?_))))
 refine WCs (fun ax ag => ?_)
 refine WCa 9 (decide ((i : Int) < (xs.length : Int))) rfl (fun ac => ?_) (fun ac => ?_)
 ·
  have av : (i : Int) < (xs.length : Int) := by have q_ := of_decide_eq_true ac; omega
  refine WCt rfl ?_
  refine WC.skip ?_
  refine QXn (ag _ _ ?_)
  refine WCs (fun ay aj => ?_)
  refine WC.block ?_
  refine WCs (fun az ak => ?_)
  refine WCg (WLq 2 [(5, .int .i64 (i : Int)), (10, .int .i64 (i : Int))] (WLd rfl (QXn (ak _ _ ?_))))
  refine WCs (fun aA al => ?_)
  refine WCg (WLq 3 [(13, .int .i64 (i : Int)), (12, .slice A xs.length c), (11, .func (.func 38) #[] #[])] ?_)
  obtain ⟨am, aa⟩ := get_some (xs := xs) (i := i) (by omega)
  obtain ⟨b26, o28, an, ao⟩ := hr.at_ _ _ aa
  refine WLi A xs.length c 14 .i64 (i : Int) b26 o28 i 1 (by kernel_rfl) an (by omega) (by omega) (o28 + i) (by first | (simp; done) | omega) ?_
  refine WLo 44 (.pointer (some ⟨b26, o28 + i, none⟩)) (.int .u32 am) 15 (run_load1 rfl (by simpa [Nat.add_assoc] using ab.fr.cell (ao 0 _ rfl) (by simp))) ?_
  refine WLc rfl rfl rfl rfl rfl (by kernel_rfl) (notV_ct am au (ae _ (List.mem_of_getElem? aa)).1 (ae _ (List.mem_of_getElem? aa)).2) ?_
  rintro _ aB ⟨rfl, ap⟩
  refine ⟨_, rfl, ?_⟩
  have ah := ab.call ap
  refine WLd rfl (QXn (al _ _ ?_))
  refine WCa 16 (nVip am) rfl (fun ad => ?_) (fun ad => ?_)
  ·
   refine WCt rfl ?_
   refine WCs (fun aC aq => ?_)
   refine WCg (WLq 2 [(4, .int .i64 (i : Int)), (17, .int .i64 (i : Int))] (WLd rfl (QXn (aq _ _ ?_))))
   refine WC.ret ?_
   refine QXk ?_
   refine QXr ?_
   refine QXr ?_
   refine QXk ?_
   refine QXr ?_
   refine (hret _ _ _ rfl ?_).1
   exact ⟨by show Ending.returned (.int .i64 (i : Int)) = _; rw [idxV_hit aa hall (by simpa using ad)], ah.fr⟩
  ·
   refine WCf rfl (WC.skip ?_)
   refine QXb ?_
   refine QXn (aj _ _ ?_)
   refine WCg (WLq 1 [(18, .int .i64 (IntKind.i64.wrap ((i : Int) + 1)))] ?_)
   refine WLt (show (.int .i64 (IntKind.i64.wrap ((i : Int) + 1)) : Value) = .int .i64 ((i : Int) + 1) from by rw [wrap_in_i64 ((i : Int) + 1) (by omega) (by omega)]) ?_
   refine WLq 1 [(8, .int .i64 ((i : Int) + 1))] ?_
   refine WLd rfl ?_
   refine QXn ?_
   have ar := ah.pick [] [] rfl rfl
   refine fun a_ ha_ => hK8 _ _ _ ?_ ⟨i + 1, rfl, rfl, ar, by omega, all_snocV aa hall (by simpa using ad)⟩ a_ (ha_.weaken (sub_of ⟨rfl, rfl, rfl, rfl, trivial⟩))
   omega
 ·
  have av : (xs.length : Int) ≤ (i : Int) := by have q_ := of_decide_eq_false ac; omega
  refine WCf rfl ?_
  refine WC.exit ?_
  refine QXe ?_
  refine QXe ?_
  refine QX.block_hit ?_
  refine QXn (hK4 _ _ ?_)
  refine WCs (fun aD ai => ?_)
  refine WCg (WLq 1 [(4, .int .i64 (-1))] (WLd rfl (QXn (ai _ _ ?_))))
  refine WC.ret ?_
  refine (hret _ _ _ rfl ?_).1
  clear hN hret hret' ai ag af hK6 hK4 hK2
  rw [take_allV (by omega)] at hall
  exact ⟨by show Ending.returned (.int .i64 (-1)) = _; rw [idxV_none hall], ab.fr⟩

set_option maxHeartbeats 1000000 in
theorem DelV_ct (A : Option Addr) (c : Nat) (xs : List Int) (w : World) (hown : w.ownsRow 0 44 1 (.slice A xs.length c) xs.length (xs.flatMap (Go.Tw.encI .u32))) (hlen : xs.length ≤ 1099511627776) (ae : ∀ x ∈ xs, 0 ≤ x ∧ x ≤ 4294967295) : Calls Try.prog 35 #[.slice A xs.length c, .func (.func 38) #[] #[]] w fun e w' => e = .returned (.slice A (outV xs).length c) ∧ Fr w w' (blk (.slice A xs.length c)) ∧ w'.ownsRow 0 44 1 (.slice A (outV xs).length c) (outV xs).length ((outV xs).flatMap (Go.Tw.encI .u32)) := by
 refine enterD (n := 42) Try.func35 rfl rfl (Nat.le_of_ble_eq_true rfl) ?_
 intro Q0 hN hret hret'
 have hcc_ := own_le hown
 have hC := Cx.start1 w (own_lt hown)
 have hLs_ := own_count (Go.Tw.encI_len .u32) (by decide) hown
 refine WCs (fun K1 hK2 => ?_)
 refine WCg (WLq 1 [(4, .slice none 0 0)] (WLd rfl (QXn (hK2 _ _ ?_))))
 refine WCs (fun K3 hK4 => ?_)
 refine WCg (WLq 2 [(9, .func (.func 38) #[] #[]), (8, .slice A xs.length c)] ?_)
 refine WLc rfl rfl rfl rfl rfl (by kernel_rfl) (IdxV_ct A c xs w (own_rd hown (Go.Tw.encI_len _) (by decide)) hlen ae) ?_
 rintro _ w6 ⟨rfl, hF5⟩
 refine ⟨_, rfl, ?_⟩
 have hC7 := hC.call hF5
 have ho8 := own_fr hown hF5 (by simp)
 rcases idxV_cases xs with ⟨hx9, hsame_⟩ | ⟨i0, hx9, hlt_, hpre_⟩
 ·
  refine WLt (show (.int .i64 (idxV xs) : Value) = .int .i64 (-1) from congrArg (Value.int .i64) hx9) ?_
  refine WLq 1 [(5, .int .i64 (-1))] (WLd rfl (QXn (hK4 _ _ ?_)))
  refine WCs (fun a0 aC => ?_)
  refine WCs (fun a1 ah => ?_)
  refine WCg (WLq 2 [(12, .bool true), (11, .int .i64 (-1))] (WLd rfl (QXn (ah _ _ ?_))))
  refine WCt rfl ?_
  refine WCs (fun a2 ai => ?_)
  refine WCg (WLq 2 [(4, .slice A xs.length c), (13, .slice A xs.length c)] (WLd rfl (QXn (ai _ _ ?_))))
  refine WC.ret ?_
  refine QXr ?_
  refine (hret _ _ _ rfl ?_).1
  clear hN hret hret' ai ah aC hK4 hK2
  rw [hsame_]
  exact ⟨rfl, hC7.fr, ho8⟩
 ·
  refine WLt (show (.int .i64 (idxV xs) : Value) = .int .i64 (i0 : Int) from congrArg (Value.int .i64) hx9) ?_
  refine WLq 1 [(5, .int .i64 (i0 : Int))] (WLd rfl (QXn (hK4 _ _ ?_)))
  refine WCs (fun a3 aj => ?_)
  refine WCs (fun a4 ak => ?_)
  refine WCg (WLq 2 [(12, .bool ((i0 : Int) == (-1))), (11, .int .i64 (i0 : Int))] (WLd rfl (QXn (ak _ _ ?_))))
  refine WC.know 12 (.bool ((i0 : Int) == (-1))) (.bool false) rfl (congrArg Value.bool (by first | (simp; done) | (simp; omega))) ?_
  refine WCf rfl (WC.skip (QXn (aj _ _ ?_)))
  refine WCs (fun a5 al => ?_)
  refine WCs (fun a6 am => ?_)
  refine WCg (WLq 2 [(15, .int .i64 (IntKind.i64.wrap ((i0 : Int) + 1))), (14, .int .i64 (i0 : Int))] ?_)
  refine WLt (show (.int .i64 (IntKind.i64.wrap ((i0 : Int) + 1)) : Value) = .int .i64 ((i0 : Int) + 1) from by rw [wrap_in_i64 ((i0 : Int) + 1) (by omega) (by omega)]) ?_
  refine WLq 1 [(6, .int .i64 ((i0 : Int) + 1))] (WLd rfl (QXn (am _ _ ?_)))
  refine WC.block ?_
  refine WC.loop (fun m_ E_ w_ => ∃ (i j : Nat) (L : List Int), m_ = xs.length - j ∧ E_ = [(0, .slice A xs.length c), (1, .func (.func 38) #[] #[]), (4, .slice none 0 0), (5, .int .i64 (i : Int)), (6, .int .i64 (j : Int))] ∧ Cx w (blk (.slice A xs.length c)) w_ [] [blk (.slice A xs.length c)] ∧ World.ownsRow w_ 0 44 1 (.slice A xs.length c) xs.length (L.flatMap (Go.Tw.encI .u32)) ∧ (DelV xs L i j)) ⟨_, _, ⟨i0, i0 + 1, xs, rfl, rfl, hC7, ho8, ⟨⟨by omega, by omega⟩, rfl, hpre_, rfl⟩⟩, sub_of ⟨rfl, rfl, rfl, rfl, rfl, trivial⟩⟩ (fun m27 E_ aT a7 an aD => ?_)
  obtain ⟨i, j, L, rfl, rfl, ao, hrow, hd⟩ := aD
  have hij_ := hd.ij
  have hLl_ := hd.len
  refine WCs (fun a8 ap => ?_)
  refine WCs (fun a9 aq => ?_)
  refine WCg (WLq 4 [(19, .bool (decide ((j : Int) < (xs.length : Int)))), (18, .int .i64 (xs.length : Int)), (17, .slice A xs.length c), (16, .int .i64 (j : Int))] (WLd rfl (QXn (aq _ _ ?_))))
  refine WCa 19 (decide ((j : Int) < (xs.length : Int))) rfl (fun af => ?_) (fun af => ?_)
  ·
   have aU : (j : Int) < (xs.length : Int) := by have q_ := of_decide_eq_true af; omega
   refine WCt rfl ?_
   refine WC.skip ?_
   refine QXn (ap _ _ ?_)
   refine WCs (fun ba ar => ?_)
   refine WC.block ?_
   refine WCs (fun bb aE => ?_)
   refine WCg (WLq 2 [(23, .int .i64 (j : Int)), (22, .slice A xs.length c)] ?_)
   have aV := own_count (Go.Tw.encI_len _) (by decide) hrow
   obtain ⟨aa, ab⟩ := get_some (xs := L) (i := j) (by omega)
   obtain ⟨b41, au⟩ := own_addr (by decide) (Go.Tw.encI_len _) hrow ab
   refine WLi A xs.length c 24 .i64 (j : Int) b41 0 j 1 (by kernel_rfl) au (by omega) (by omega) j (by first | (simp; done) | omega) ?_
   refine WLo 44 (.pointer (some ⟨b41, j, none⟩)) (.int .u32 aa) 25 (run_load1 rfl (by simpa [Nat.add_assoc] using Rd.cell (own_rd hrow (Go.Tw.encI_len _) (by decide)) au ab 0 _ rfl)) ?_
   refine WLq 1 [(7, .int .u32 aa)] (WLd rfl (QXn (aE _ _ ?_)))
   refine WCs (fun bc aF => ?_)
   refine WCg (WLq 2 [(27, .int .u32 aa), (26, .func (.func 38) #[] #[])] ?_)
   refine WLc rfl rfl rfl rfl rfl (by kernel_rfl) (notV_ct aa aT (ae _ (List.mem_of_getElem? (hd.el ab))).1 (ae _ (List.mem_of_getElem? (hd.el ab))).2) ?_
   rintro _ bd ⟨rfl, av⟩
   refine ⟨_, rfl, ?_⟩
   have aw := ao.call av
   have ad := own_fr hrow av (by simp)
   refine WLq 1 [(29, .bool (!(nVip aa)))] (WLd rfl (QXn (aF _ _ ?_)))
   refine WCa 29 (!(nVip aa)) rfl (fun ac => ?_) (fun ac => ?_)
   ·
    have aG : (nVip aa) = false := by first | (simpa only [Bool.not_eq_true', Bool.not_eq_false'] using ac) | simpa using ac
    refine WCt rfl ?_
    refine WCs (fun be aH => ?_)
    refine WCg (WLq 3 [(32, .int .u32 aa), (31, .int .i64 (i : Int)), (30, .slice A xs.length c)] ?_)
    have aW := own_count (Go.Tw.encI_len _) (by decide) ad
    obtain ⟨aX, ax⟩ := get_some (xs := L) (i := i) (by omega)
    obtain ⟨b55, ay⟩ := own_addr (by decide) (Go.Tw.encI_len _) ad ax
    refine WLi A xs.length c 33 .i64 (i : Int) b55 0 i 1 (by kernel_rfl) ay (by omega) (by omega) i (by first | (simp; done) | omega) ?_
    obtain ⟨bf, aI, aY, aJ, aK⟩ := stoE_run Try.prog (Go.Tw.encI_len _) aw 0 ay rfl ad i 0 (x := aX) ax aa [.int .u32 aa] rfl 44 (.int .u32 aa) (i) rfl rfl rfl (by first | rfl | simp [Nat.add_assoc])
    refine WL.semU (Instr.storeAt 44 (.pointer (some ⟨b55, i, none⟩)) (.int .u32 aa)) (by kernel_rfl) aI ?_
    refine WLd rfl (QXn (aH _ _ ?_))
    refine WCg (WLq 2 [(35, .int .i64 (IntKind.i64.wrap ((i : Int) + 1))), (34, .int .i64 (i : Int))] ?_)
    refine WLt (show (.int .i64 (IntKind.i64.wrap ((i : Int) + 1)) : Value) = .int .i64 ((i : Int) + 1) from by rw [wrap_in_i64 ((i : Int) + 1) (by omega) (by omega)]) ?_
    refine WLq 1 [(5, .int .i64 ((i : Int) + 1))] ?_
    refine WLd rfl ?_
    refine QXb ?_
    refine QXn (ar _ _ ?_)
    refine WCg (WLq 2 [(21, .int .i64 (IntKind.i64.wrap ((j : Int) + 1))), (20, .int .i64 (j : Int))] ?_)
    refine WLt (show (.int .i64 (IntKind.i64.wrap ((j : Int) + 1)) : Value) = .int .i64 ((j : Int) + 1) from by rw [wrap_in_i64 ((j : Int) + 1) (by omega) (by omega)]) ?_
    refine WLq 1 [(6, .int .i64 ((j : Int) + 1))] ?_
    refine WLd rfl ?_
    refine QXn ?_
    have aL := aK.pick [] [0] rfl rfl
    refine fun a_ ha_ => an _ _ _ ?_ ⟨i + 1, j + 1, L.set i aa, rfl, rfl, aL, aJ, hd.keep ab (by simpa using aG)⟩ a_ (ha_.weaken (sub_of ⟨rfl, rfl, rfl, rfl, rfl, trivial⟩))
    omega
   ·
    have aG : (nVip aa) = true := by first | (simpa only [Bool.not_eq_true', Bool.not_eq_false'] using ac) | simpa using ac
    refine WCf rfl (WC.skip ?_)
    refine QXb ?_
    refine QXn (ar _ _ ?_)
    refine WCg (WLq 2 [(21, .int .i64 (IntKind.i64.wrap ((j : Int) + 1))), (20, .int .i64 (j : Int))] ?_)
    refine WLt (show (.int .i64 (IntKind.i64.wrap ((j : Int) + 1)) : Value) = .int .i64 ((j : Int) + 1) from by rw [wrap_in_i64 ((j : Int) + 1) (by omega) (by omega)]) ?_
    refine WLq 1 [(6, .int .i64 ((j : Int) + 1))] ?_
    refine WLd rfl ?_
    refine QXn ?_
    have aM := aw.pick [] [0] rfl rfl
    refine fun a_ ha_ => an _ _ _ ?_ ⟨i, j + 1, L, rfl, rfl, aM, ad, hd.skip ab (by simpa using aG)⟩ a_ (ha_.weaken (sub_of ⟨rfl, rfl, rfl, rfl, rfl, trivial⟩))
    omega
  ·
   have aU : (xs.length : Int) ≤ (j : Int) := by have q_ := of_decide_eq_false af; omega
   refine WCf rfl ?_
   refine WC.exit ?_
   refine QXe ?_
   refine QXe ?_
   refine QX.block_hit ?_
   refine QXn (al _ _ ?_)
   refine WCs (fun bg az => ?_)
   refine WCg (WLq 2 [(37, .int .i64 (i : Int)), (36, .slice A xs.length c)] ?_)
   obtain ⟨aS, aA⟩ : ∃ A_, slcAt A i c 1 = A_ := ⟨_, rfl⟩
   have hle_ := own_le hrow
   have aN : xs.length ≤ c := by omega
   refine WL.slc 33 44 1 A aS xs.length c i xs.length (xs.length - i) (c - i) (some (.int .i64 (i : Int))) none 38 (by kernel_rfl) (by kernel_rfl) (bnd.yes (by omega)) bnd.no (by omega) aN aA (by first | rfl | omega) (by first | rfl | omega) ?_
   obtain ⟨bh, aO, aZ, aP, aQ⟩ := clear_run (P := Try.prog) ao 0 (t := 33) (ty := 0) (bytes := 4) (by kernel_rfl) (by kernel_rfl) rfl hrow (by omega) aA
   have ag := aQ
   rw [flat_take (Go.Tw.encI_len _)] at ag
   refine WL.semN (Builtin.clear_ #[33] 0 #[.slice aS (xs.length - i) (c - i)]) _ (by kernel_rfl) aO ?_
   refine WLd rfl (QXn (az _ _ ?_))
   refine WCs (fun bi aB => ?_)
   refine WCg (WLq 2 [(40, .int .i64 (i : Int)), (39, .slice A xs.length c)] ?_)
   have aR : i ≤ c := by omega
   refine WL.slc 33 44 1 A A xs.length c 0 i i c none (some (.int .i64 (i : Int))) 41 (by kernel_rfl) (by kernel_rfl) bnd.no (bnd.yes (by omega)) (by omega) aR (slcAt_pre _ _ _) (by first | rfl | omega) (by first | rfl | omega) ?_
   refine WLq 1 [(4, .slice A i c)] (WLd rfl (QXn (aB _ _ ?_)))
   refine WC.ret ?_
   refine (hret _ _ _ rfl ?_).1
   clear hN hret hret' aB az aq ap am al ak aj hK4 hK2
   have hend_ : (L.take i) = outV xs := by rw [hd.pre, List.take_of_length_le (by omega)]
   have hcn_ : (outV xs).length = i := by rw [← hend_, List.length_take]; omega
   rw [hend_] at ag
   rw [hcn_]
   exact ⟨rfl, aP.fr, ag⟩

theorem DelV_n (A : Option Addr) (c n : Nat) (xs : List Int) (hn : xs.length = n) (w : World) (hown : w.ownsRow 0 44 1 (.slice A n c) n (xs.flatMap (Go.Tw.encI .u32))) (hlen : n ≤ 1099511627776) (hb32 : ∀ x ∈ xs, 0 ≤ x ∧ x ≤ 4294967295) : Calls Try.prog 35 #[.slice A n c, .func (.func 38) #[] #[]] w fun e w' => e = .returned (.slice A (outV xs).length c) ∧ Fr w w' (blk (.slice A n c)) ∧ w'.ownsRow 0 44 1 (.slice A (outV xs).length c) (outV xs).length ((outV xs).flatMap (Go.Tw.encI .u32)) := by subst hn; exact DelV_ct A c xs w hown hlen hb32
set_option maxHeartbeats 1000000 in
theorem CptU_ct (A : Option Addr) (c : Nat) (xs : List Int) (w : World) (hown : w.ownsRow 0 44 1 (.slice A xs.length c) xs.length (xs.flatMap (Go.Tw.encI .u32))) (hlen : xs.length ≤ 1099511627776) : Calls Try.prog 40 #[.slice A xs.length c] w fun e w' => e = .returned (.slice A (cpt xs).length c) ∧ Fr w w' (blk (.slice A xs.length c)) ∧ w'.ownsRow 0 44 1 (.slice A (cpt xs).length c) (cpt xs).length ((cpt xs).flatMap (Go.Tw.encI .u32)) := by
 refine enterD (n := 61) Try.func40 rfl rfl (Nat.le_of_ble_eq_true rfl) ?_
 intro Q0 hN hret hret'
 have hcc_ := own_le hown
 have hC := Cx.start1 w (own_lt hown)
 have hLs_ := own_count (Go.Tw.encI_len .u32) (by decide) hown
 refine WCs (fun K1 hK2 => ?_)
 refine WCg (WLq 1 [(2, .slice none 0 0)] (WLd rfl (QXn (hK2 _ _ ?_))))
 refine WCs (fun K3 hK4 => ?_)
 refine WCs (fun K5 hK6 => ?_)
 refine WCg (WLq 3 [(8, .bool (decide ((xs.length : Int) < 2))), (7, .int .i64 (xs.length : Int)), (6, .slice A xs.length c)] (WLd rfl (QXn (hK6 _ _ ?_))))
 refine WCa 8 (decide ((xs.length : Int) < 2)) rfl (fun t7b => ?_) (fun t7b => ?_)
 ·
  have t7 : (xs.length : Int) < 2 := by have q_ := of_decide_eq_true t7b; omega
  refine WCt rfl ?_
  refine WCs (fun K8 hK9 => ?_)
  refine WCg (WLq 2 [(2, .slice A xs.length c), (9, .slice A xs.length c)] (WLd rfl (QXn (hK9 _ _ ?_))))
  refine WC.ret ?_
  refine QXr ?_
  refine (hret _ _ _ rfl ?_).1
  clear hN hret hret' hK9 hK6 hK4 hK2
  have hcx_ : cpt xs = xs := by
   unfold cpt
   rcases (by omega : xs.length = 0 ∨ xs.length = 1) with h_ | h_
   ·
    rw [h_]; exact (List.eq_nil_of_length_eq_zero h_).symm
   ·
    rw [h_, cpt_one (by omega)]; exact List.take_of_length_le (by omega)
  rw [hcx_]
  exact ⟨rfl, hC.fr, hown⟩
 ·
  have t7 : (2 : Int) ≤ (xs.length : Int) := by have q_ := of_decide_eq_false t7b; omega
  refine WCf rfl (WC.skip (QXn (hK4 _ _ ?_)))
  refine WCs (fun bz ar => ?_)
  refine WCs (fun bA au => ?_)
  refine WCg (WLq 1 [(3, .int .i64 1)] (WLd rfl (QXn (au _ _ ?_))))
  refine WC.block ?_
  have hn2_ : 2 ≤ xs.length := by omega
  refine WC.loop (fun m_ E_ w_ => ∃ (k : Nat), m_ = xs.length - k ∧ E_ = [(0, .slice A xs.length c), (3, .int .i64 (k : Int))] ∧ Cx w (blk (.slice A xs.length c)) w_ [] [blk (.slice A xs.length c)] ∧ World.ownsRow w_ 0 44 1 (.slice A xs.length c) xs.length (xs.flatMap (Go.Tw.encI .u32)) ∧ ((1 ≤ k ∧ k ≤ xs.length) ∧ cptN xs k = xs.take k)) ⟨_, _, ⟨1, rfl, rfl, hC, hown, ⟨Nat.le_refl _, by omega⟩, cpt_one (by omega)⟩, sub_of ⟨rfl, rfl, trivial⟩⟩ (fun m17 E_ bB bC a8 a9 => ?_)
  obtain ⟨k, rfl, rfl, aB, row_m17, ⟨hk1, hk2⟩, hcp⟩ := a9
  refine WCs (fun bD av => ?_)
  refine WCs (fun bE aw => ?_)
  refine WCg (WLq 4 [(13, .bool (decide ((k : Int) < (xs.length : Int)))), (12, .int .i64 (xs.length : Int)), (11, .slice A xs.length c), (10, .int .i64 (k : Int))] (WLd rfl (QXn (aw _ _ ?_))))
  refine WCa 13 (decide ((k : Int) < (xs.length : Int))) rfl (fun ax => ?_) (fun ax => ?_)
  ·
   have bk : (k : Int) < (xs.length : Int) := by have q_ := of_decide_eq_true ax; omega
   refine WCt rfl ?_
   refine WC.skip ?_
   refine QXn (av _ _ ?_)
   refine WCs (fun bF aC => ?_)
   refine WC.block ?_
   refine WCs (fun bG aD => ?_)
   refine WC.drawC aB [] (by kernel_rfl) (fun bH ba aE ab => ?_)
   have ad := own_fr row_m17 ba (by simp)
   refine WDq (NPt (NPb (NPt (NPt (NPb (NPt hN)))))) 0 16 (.slice A xs.length c) ab ?_
   refine WDq (NPt (NPb (NPt (NPt (NPb (NPt hN)))))) 1 17 (.int .i64 (k : Int)) ab ?_
   have bl := own_count (Go.Tw.encI_len _) (by decide) ad
   obtain ⟨aF, ak⟩ := get_some (xs := xs) (i := k) (by omega)
   obtain ⟨b36, aG⟩ := own_addr (by decide) (Go.Tw.encI_len _) ad ak
   refine WDi (NPt (NPb (NPt (NPt (NPb (NPt hN)))))) 2 A xs.length c 18 .i64 (k : Int) b36 0 k 1 (by kernel_rfl) (by kernel_rfl) aG (by omega) (by omega) k (by first | (simp; done) | omega) ab ?_
   refine WDq (NPt (NPb (NPt (NPt (NPb (NPt hN)))))) 4 20 (.slice A xs.length c) ab ?_
   refine WDq (NPt (NPb (NPt (NPt (NPb (NPt hN)))))) 5 21 (.int .i64 (k : Int)) ab ?_
   refine WDq (NPt (NPb (NPt (NPt (NPb (NPt hN)))))) 6 22 (.int .i64 (IntKind.i64.wrap ((k : Int) - 1))) ab ?_
   refine WD.recast (show (.int .i64 (IntKind.i64.wrap ((k : Int) - 1)) : Value) = .int .i64 ((k - 1 : Nat) : Int) from by rw [wrap_in_i64 _ (by omega) (by omega)] <;> first | rfl | (congr 1; done) | (congr 1; omega)) ?_
   have bm := own_count (Go.Tw.encI_len _) (by decide) ad
   obtain ⟨aH, al⟩ := get_some (xs := xs) (i := (k - 1)) (by omega)
   obtain ⟨b41, aI⟩ := own_addr (by decide) (Go.Tw.encI_len _) ad al
   refine WDi (NPt (NPb (NPt (NPt (NPb (NPt hN)))))) 7 A xs.length c 23 .i64 ((k - 1 : Nat) : Int) b41 0 (k - 1) 1 (by kernel_rfl) (by kernel_rfl) aI (by omega) (by omega) (k - 1) (by first | (simp; done) | omega) ab ?_
   refine WDm (NPt (NPb (NPt (NPt (NPb (NPt hN)))))) 3 44 (.pointer (some ⟨b36, k, none⟩)) (.int .u32 aF) 19 (fun _ hS_ => run_load1 rfl (by simpa [Nat.add_assoc] using Rd.cell (own_rd (own_fr ad hS_ (by simp)) (Go.Tw.encI_len _) (by decide)) aG ak 0 _ rfl)) ab ?_
   refine WDm (NPt (NPb (NPt (NPt (NPb (NPt hN)))))) 8 44 (.pointer (some ⟨b41, (k - 1), none⟩)) (.int .u32 aH) 24 (fun _ hS_ => run_load1 rfl (by simpa [Nat.add_assoc] using Rd.cell (own_rd (own_fr ad hS_ (by simp)) (Go.Tw.encI_len _) (by decide)) aI al 0 _ rfl)) ab ?_
   refine WDq (NPt (NPb (NPt (NPt (NPb (NPt hN)))))) 9 25 (.bool (aF == aH)) ab ?_
   refine WD.done (by kernel_rfl) ?_
   refine QXn (aD _ _ ?_)
   refine WCa 25 (aF == aH) rfl (fun af => ?_) (fun af => ?_)
   ·
    have bn : aF = aH := by simpa using af
    refine WCt rfl ?_
    refine WCs (fun bI aJ => ?_)
    refine WCg (WLq 2 [(27, .int .i64 (k : Int)), (26, .slice A xs.length c)] ?_)
    obtain ⟨ae, ay⟩ : ∃ A_, slcAt A k c 1 = A_ := ⟨_, rfl⟩
    have hle_ := own_le ad
    have bb : xs.length ≤ c := by omega
    refine WL.slc 33 44 1 A ae xs.length c k xs.length (xs.length - k) (c - k) (some (.int .i64 (k : Int))) none 28 (by kernel_rfl) (by kernel_rfl) (bnd.yes (by omega)) bnd.no (by omega) bb ay (by first | rfl | omega) (by first | rfl | omega) ?_
    refine WLq 1 [(4, .slice ae (xs.length - k) (c - k))] (WLd rfl (QXn (aJ _ _ ?_)))
    refine WCs (fun bJ aK => ?_)
    refine WCs (fun bK aL => ?_)
    refine WCg (WLq 1 [(5, .int .i64 1)] (WLd rfl (QXn (aL _ _ ?_))))
    refine WC.block ?_
    refine WC.loop (fun m_ E_ w_ => ∃ (k5 j : Nat) (L : List Int), m_ = xs.length - k - j ∧ E_ = [(0, .slice A xs.length c), (3, .int .i64 (k5 : Int)), (4, .slice ae (xs.length - k) (c - k)), (5, .int .i64 (j : Int))] ∧ Cx w (blk (.slice A xs.length c)) w_ [] [blk (.slice A xs.length c)] ∧ World.ownsRow w_ 0 44 1 (.slice A xs.length c) xs.length (L.flatMap (Go.Tw.encI .u32)) ∧ ((1 ≤ j ∧ k + j ≤ xs.length) ∧ CptI xs L k5 (k + j))) ⟨_, _, ⟨k, 1, xs, rfl, rfl, aE, ad, ⟨Nat.le_refl _, by omega⟩, CptI.start (by omega) hcp ak al af⟩, sub_of ⟨rfl, rfl, rfl, rfl, trivial⟩⟩ (fun m57 E_ bL bM aM bc => ?_)
    obtain ⟨k5, j, L, rfl, rfl, aN, hrow, ⟨hj1, hj2⟩, hci⟩ := bc
    have hkj_ := hci.kj
    have hLl_ := hci.len
    refine WCs (fun bN aO => ?_)
    refine WCs (fun bO aP => ?_)
    refine WCg (WLq 4 [(32, .bool (decide ((j : Int) < ((xs.length - k : Nat) : Int)))), (31, .int .i64 ((xs.length - k : Nat) : Int)), (30, .slice ae (xs.length - k) (c - k)), (29, .int .i64 (j : Int))] (WLd rfl (QXn (aP _ _ ?_))))
    refine WCa 32 (decide ((j : Int) < ((xs.length - k : Nat) : Int))) rfl (fun az => ?_) (fun az => ?_)
    ·
     have bo : (j : Int) < ((xs.length - k : Nat) : Int) := by have q_ := of_decide_eq_true az; omega
     refine WCt rfl ?_
     refine WC.skip ?_
     refine QXn (aO _ _ ?_)
     refine WCs (fun bP aQ => ?_)
     refine WC.block ?_
     refine WCs (fun bQ bd => ?_)
     refine WC.drawC aN [] (by kernel_rfl) (fun bR be aR ac => ?_)
     have aa := own_fr hrow be (by simp)
     refine WDq (NPt (NPb (NPt (NPt (NPb (NPt (NPb (NPt (NPt (NPb (NPt hN))))))))))) 0 35 (.slice ae (xs.length - k) (c - k)) ac ?_
     refine WDq (NPt (NPb (NPt (NPt (NPb (NPt (NPb (NPt (NPt (NPb (NPt hN))))))))))) 1 36 (.int .i64 (j : Int)) ac ?_
     have bp := own_count (Go.Tw.encI_len _) (by decide) aa
     obtain ⟨ag, ah⟩ := get_some (xs := L) (i := k + j) (by omega)
     obtain ⟨b76, aA⟩ := own_addr (by decide) (Go.Tw.encI_len _) aa ah
     have aS : ae = some ⟨b76, k, none⟩ := by rw [← ay, aA]; exact slcAt_blk0 (by omega)
     refine WDi (NPt (NPb (NPt (NPt (NPb (NPt (NPb (NPt (NPt (NPb (NPt hN))))))))))) 2 ae (xs.length - k) (c - k) 37 .i64 (j : Int) b76 k j 1 (by kernel_rfl) (by kernel_rfl) aS (by omega) (by omega) (k + j) (by first | (simp; done) | omega) ac ?_
     refine WDq (NPt (NPb (NPt (NPt (NPb (NPt (NPb (NPt (NPt (NPb (NPt hN))))))))))) 4 39 (.slice ae (xs.length - k) (c - k)) ac ?_
     refine WDq (NPt (NPb (NPt (NPt (NPb (NPt (NPb (NPt (NPt (NPb (NPt hN))))))))))) 5 40 (.int .i64 (j : Int)) ac ?_
     refine WDq (NPt (NPb (NPt (NPt (NPb (NPt (NPb (NPt (NPt (NPb (NPt hN))))))))))) 6 41 (.int .i64 (IntKind.i64.wrap ((j : Int) - 1))) ac ?_
     refine WD.recast (show (.int .i64 (IntKind.i64.wrap ((j : Int) - 1)) : Value) = .int .i64 ((j - 1 : Nat) : Int) from by rw [wrap_in_i64 _ (by omega) (by omega)] <;> first | rfl | (congr 1; done) | (congr 1; omega)) ?_
     have bq := own_count (Go.Tw.encI_len _) (by decide) aa
     obtain ⟨aT, am⟩ := get_some (xs := L) (i := k + (j - 1)) (by omega)
     obtain ⟨b82, aU⟩ := own_addr (by decide) (Go.Tw.encI_len _) aa am
     have bf : ae = some ⟨b82, k, none⟩ := by rw [← ay, aU]; exact slcAt_blk0 (by omega)
     refine WDi (NPt (NPb (NPt (NPt (NPb (NPt (NPb (NPt (NPt (NPb (NPt hN))))))))))) 7 ae (xs.length - k) (c - k) 42 .i64 ((j - 1 : Nat) : Int) b82 k (j - 1) 1 (by kernel_rfl) (by kernel_rfl) bf (by omega) (by omega) (k + (j - 1)) (by first | (simp; done) | omega) ac ?_
     refine WDm (NPt (NPb (NPt (NPt (NPb (NPt (NPb (NPt (NPt (NPb (NPt hN))))))))))) 3 44 (.pointer (some ⟨b76, k + j, none⟩)) (.int .u32 ag) 38 (fun _ hS_ => run_load1 rfl (by simpa [Nat.add_assoc] using Rd.cell (own_rd (own_fr aa hS_ (by simp)) (Go.Tw.encI_len _) (by decide)) aA ah 0 _ rfl)) ac ?_
     refine WDm (NPt (NPb (NPt (NPt (NPb (NPt (NPb (NPt (NPt (NPb (NPt hN))))))))))) 8 44 (.pointer (some ⟨b82, k + (j - 1), none⟩)) (.int .u32 aT) 43 (fun _ hS_ => run_load1 rfl (by simpa [Nat.add_assoc] using Rd.cell (own_rd (own_fr aa hS_ (by simp)) (Go.Tw.encI_len _) (by decide)) aU am 0 _ rfl)) ac ?_
     refine WDq (NPt (NPb (NPt (NPt (NPb (NPt (NPb (NPt (NPt (NPb (NPt hN))))))))))) 9 44 (.bool (ag != aT)) ac ?_
     refine WD.done (by kernel_rfl) ?_
     refine QXn (bd _ _ ?_)
     refine WCa 44 (ag != aT) rfl (fun ai => ?_) (fun ai => ?_)
     ·
      have br : ag ≠ aT := by simpa using ai
      refine WCt rfl ?_
      refine WCs (fun bS bg => ?_)
      refine WCg (WLq 4 [(48, .int .i64 (j : Int)), (47, .slice ae (xs.length - k) (c - k)), (46, .int .i64 (k5 : Int)), (45, .slice A xs.length c)] ?_)
      refine WLi ae (xs.length - k) (c - k) 49 .i64 (j : Int) b76 k j 1 (by kernel_rfl) aS (by omega) (by omega) (k + j) (by first | (simp; done) | omega) ?_
      refine WLo 44 (.pointer (some ⟨b76, k + j, none⟩)) (.int .u32 ag) 50 (run_load1 rfl (by simpa [Nat.add_assoc] using Rd.cell (own_rd aa (Go.Tw.encI_len _) (by decide)) aA ah 0 _ rfl)) ?_
      have bs := own_count (Go.Tw.encI_len _) (by decide) aa
      obtain ⟨bt, aV⟩ := get_some (xs := L) (i := k5) (by omega)
      obtain ⟨b95, aW⟩ := own_addr (by decide) (Go.Tw.encI_len _) aa aV
      refine WLi A xs.length c 51 .i64 (k5 : Int) b95 0 k5 1 (by kernel_rfl) aW (by omega) (by omega) k5 (by first | (simp; done) | omega) ?_
      obtain ⟨bT, bh, bi, aX, aY⟩ := stoE_run Try.prog (Go.Tw.encI_len _) aR 0 aW rfl aa k5 0 (x := bt) aV ag [.int .u32 ag] rfl 44 (.int .u32 ag) (k5) rfl rfl rfl (by first | rfl | simp [Nat.add_assoc])
      refine WL.semU (Instr.storeAt 44 (.pointer (some ⟨b95, k5, none⟩)) (.int .u32 ag)) (by kernel_rfl) bh ?_
      refine WLd rfl (QXn (bg _ _ ?_))
      refine WCg (WLq 2 [(53, .int .i64 (IntKind.i64.wrap ((k5 : Int) + 1))), (52, .int .i64 (k5 : Int))] ?_)
      refine WLt (show (.int .i64 (IntKind.i64.wrap ((k5 : Int) + 1)) : Value) = .int .i64 ((k5 + 1 : Nat) : Int) from by rw [wrap_in_i64 _ (by omega) (by omega)] <;> first | rfl | (congr 1; done) | (congr 1; omega)) ?_
      refine WLq 1 [(3, .int .i64 ((k5 + 1 : Nat) : Int))] ?_
      refine WLd rfl ?_
      refine QXb ?_
      refine QXn (aQ _ _ ?_)
      refine WCg (WLq 2 [(34, .int .i64 (IntKind.i64.wrap ((j : Int) + 1))), (33, .int .i64 (j : Int))] ?_)
      refine WLt (show (.int .i64 (IntKind.i64.wrap ((j : Int) + 1)) : Value) = .int .i64 ((j + 1 : Nat) : Int) from by rw [wrap_in_i64 _ (by omega) (by omega)] <;> first | rfl | (congr 1; done) | (congr 1; omega)) ?_
      refine WLq 1 [(5, .int .i64 ((j + 1 : Nat) : Int))] ?_
      refine WLd rfl ?_
      refine QXn ?_
      have aZ := aY.pick [] [0] rfl rfl
      refine fun a_ ha_ => aM _ _ _ ?_ ⟨k5 + 1, j + 1, L.set k5 ag, rfl, rfl, aZ, aX, ⟨by omega, by omega⟩, hci.keep ah (show L[k + j - 1]? = _ from by rw [show k + j - 1 = k + (j - 1) from by omega]; exact am) ai⟩ a_ (ha_.weaken (sub_of ⟨rfl, rfl, rfl, rfl, trivial⟩))
      omega
     ·
      have br : ag = aT := by simpa using ai
      refine WCf rfl (WC.skip ?_)
      refine QXb ?_
      refine QXn (aQ _ _ ?_)
      refine WCg (WLq 2 [(34, .int .i64 (IntKind.i64.wrap ((j : Int) + 1))), (33, .int .i64 (j : Int))] ?_)
      refine WLt (show (.int .i64 (IntKind.i64.wrap ((j : Int) + 1)) : Value) = .int .i64 ((j + 1 : Nat) : Int) from by rw [wrap_in_i64 _ (by omega) (by omega)] <;> first | rfl | (congr 1; done) | (congr 1; omega)) ?_
      refine WLq 1 [(5, .int .i64 ((j + 1 : Nat) : Int))] ?_
      refine WLd rfl ?_
      refine QXn ?_
      have a0 := aR.pick [] [0] rfl rfl
      refine fun a_ ha_ => aM _ _ _ ?_ ⟨k5, j + 1, L, rfl, rfl, a0, aa, ⟨by omega, by omega⟩, hci.skip ah (show L[k + j - 1]? = _ from by rw [show k + j - 1 = k + (j - 1) from by omega]; exact am) ai⟩ a_ (ha_.weaken (sub_of ⟨rfl, rfl, rfl, rfl, trivial⟩))
      omega
    ·
     have bo : ((xs.length - k : Nat) : Int) ≤ (j : Int) := by have q_ := of_decide_eq_false az; omega
     refine WCf rfl ?_
     refine WC.exit ?_
     refine QXe ?_
     refine QXe ?_
     refine QX.block_hit ?_
     refine QXn (aK _ _ ?_)
     refine WCs (fun bu an => ?_)
     refine WCg (WLq 2 [(55, .int .i64 (k5 : Int)), (54, .slice A xs.length c)] ?_)
     obtain ⟨a1, ao⟩ : ∃ A_, slcAt A k5 c 1 = A_ := ⟨_, rfl⟩
     have hle_ := own_le hrow
     have a2 : xs.length ≤ c := by omega
     refine WL.slc 33 44 1 A a1 xs.length c k5 xs.length (xs.length - k5) (c - k5) (some (.int .i64 (k5 : Int))) none 56 (by kernel_rfl) (by kernel_rfl) (bnd.yes (by omega)) bnd.no (by omega) a2 ao (by first | rfl | omega) (by first | rfl | omega) ?_
     obtain ⟨bv, a3, bj, a4, a5⟩ := clear_run (P := Try.prog) aN 0 (t := 33) (ty := 0) (bytes := 4) (by kernel_rfl) (by kernel_rfl) rfl hrow (by omega) ao
     have aj := a5
     rw [flat_take (Go.Tw.encI_len _)] at aj
     refine WL.semN (Builtin.clear_ #[33] 0 #[.slice a1 (xs.length - k5) (c - k5)]) _ (by kernel_rfl) a3 ?_
     refine WLd rfl (QXn (an _ _ ?_))
     refine WCs (fun bw ap => ?_)
     refine WCg (WLq 2 [(58, .int .i64 (k5 : Int)), (57, .slice A xs.length c)] ?_)
     have a6 : k5 ≤ c := by omega
     refine WL.slc 33 44 1 A A xs.length c 0 k5 k5 c none (some (.int .i64 (k5 : Int))) 59 (by kernel_rfl) (by kernel_rfl) bnd.no (bnd.yes (by omega)) (by omega) a6 (slcAt_pre _ _ _) (by first | rfl | omega) (by first | rfl | omega) ?_
     refine WLq 1 [(2, .slice A k5 c)] (WLd rfl (QXn (ap _ _ ?_)))
     refine WC.ret ?_
     refine QXk ?_
     refine QXr ?_
     refine QXr ?_
     refine QXk ?_
     refine QXr ?_
     refine (hret _ _ _ rfl ?_).1
     clear hN hret hret' ap an aP aO aL aK aJ aD aC aw av au ar hK6 hK4 hK2
     have hend_ : L.take k5 = cpt xs := by unfold cpt; rw [hci.pre, show k + j = xs.length from by omega]
     have hcn_ : (cpt xs).length = k5 := by rw [← hend_, List.length_take]; omega
     rw [hend_] at aj
     rw [hcn_]
     exact ⟨rfl, a4.fr, aj⟩
   ·
    have bn : ¬ (aF = aH) := by simpa using af
    refine WCf rfl (WC.skip ?_)
    refine QXb ?_
    refine QXn (aC _ _ ?_)
    refine WCg (WLq 2 [(15, .int .i64 (IntKind.i64.wrap ((k : Int) + 1))), (14, .int .i64 (k : Int))] ?_)
    refine WLt (show (.int .i64 (IntKind.i64.wrap ((k : Int) + 1)) : Value) = .int .i64 ((k + 1 : Nat) : Int) from by rw [wrap_in_i64 _ (by omega) (by omega)] <;> first | rfl | (congr 1; done) | (congr 1; omega)) ?_
    refine WLq 1 [(3, .int .i64 ((k + 1 : Nat) : Int))] ?_
    refine WLd rfl ?_
    refine QXn ?_
    have a7 := aE.pick [] [0] rfl rfl
    refine fun a_ ha_ => a8 _ _ _ ?_ ⟨k + 1, rfl, rfl, a7, ad, ⟨by omega, by omega⟩, cpt_take (by omega) hcp ak al af⟩ a_ (ha_.weaken (sub_of ⟨rfl, rfl, trivial⟩))
    omega
  ·
   have bk : (xs.length : Int) ≤ (k : Int) := by have q_ := of_decide_eq_false ax; omega
   refine WCf rfl ?_
   refine WC.exit ?_
   refine QXe ?_
   refine QXe ?_
   refine QX.block_hit ?_
   refine QXn (ar _ _ ?_)
   refine WCs (fun bx aq => ?_)
   refine WCg (WLq 2 [(2, .slice A xs.length c), (60, .slice A xs.length c)] (WLd rfl (QXn (aq _ _ ?_))))
   refine WC.ret ?_
   refine (hret _ _ _ rfl ?_).1
   clear hN hret hret' aq aw av au ar hK6 hK4 hK2
   have hcx_ : cpt xs = xs := by
    unfold cpt
    obtain rfl : k = xs.length := by omega
    rw [hcp]; exact List.take_of_length_le (Nat.le_refl _)
   rw [hcx_]
   exact ⟨rfl, aB.fr, row_m17⟩

theorem CptU_n (A : Option Addr) (c n : Nat) (xs : List Int) (hn : xs.length = n) (w : World) (hown : w.ownsRow 0 44 1 (.slice A n c) n (xs.flatMap (Go.Tw.encI .u32))) (hlen : n ≤ 1099511627776) : Calls Try.prog 40 #[.slice A n c] w fun e w' => e = .returned (.slice A (cpt xs).length c) ∧ Fr w w' (blk (.slice A n c)) ∧ w'.ownsRow 0 44 1 (.slice A (cpt xs).length c) (cpt xs).length ((cpt xs).flatMap (Go.Tw.encI .u32)) := by subst hn; exact CptU_ct A c xs w hown hlen
theorem addrs_take {xs ys : List Int} {i : Nat} {a b : Int} (hm : xs.take i = ys.take i) (ha : xs[i]? = some a) (hb : ys[i]? = some b) (h : a = b) : xs.take (i + 1) = ys.take (i + 1) := by
  obtain ⟨h1, rfl⟩ := List.getElem?_eq_some_iff.1 ha
  obtain ⟨h2, rfl⟩ := List.getElem?_eq_some_iff.1 hb
  rw [List.take_succ_eq_append_getElem h1, List.take_succ_eq_append_getElem h2, hm, h]
theorem addrs_end {xs ys : List Int} {i : Nat} (hm : xs.take i = ys.take i) (h1 : ¬ i < xs.length) (h2 : xs.length = ys.length) : xs = ys := by
  rw [List.take_of_length_le (by omega), List.take_of_length_le (by omega)] at hm; exact hm
theorem addrs_ne {xs ys : List Int} {i : Nat} {a b : Int} (ha : xs[i]? = some a) (hb : ys[i]? = some b) (h : ¬ a = b) : xs ≠ ys := by
  intro e; subst e; rw [ha] at hb; exact h (Option.some.inj hb)

theorem EqU_ct (A B : Option Addr) (c d : Nat) (xs ys : List Int) (w : World) (hA : Rd w 1 (Go.Tw.encI .u32) A xs) (hB : Rd w 1 (Go.Tw.encI .u32) B ys) (h1 : xs.length ≤ 9223372036854775807) (h2 : ys.length ≤ 9223372036854775807) : Calls Try.prog 41 #[.slice A xs.length c, .slice B ys.length d] w fun e w' => e = .returned (.bool (decide (xs = ys))) ∧ Fr w w' [] := by
 refine enterD (n := 26) Try.func41 rfl rfl (Nat.le_of_ble_eq_true rfl) ?_
 intro Q0 hN hret hret'
 have hC := Cx.start w
 refine WCs (fun K1 hK2 => ?_)
 refine WCg (WLq 1 [(4, .bool false)] (WLd rfl (QXn (hK2 _ _ ?_))))
 refine WCs (fun K3 hK4 => ?_)
 refine WCs (fun K5 hK6 => ?_)
 refine WCg (WLq 5 [(10, .bool ((xs.length : Int) != (ys.length : Int))), (9, .int .i64 (ys.length : Int)), (8, .slice B ys.length d), (7, .int .i64 (xs.length : Int)), (6, .slice A xs.length c)] (WLd rfl (QXn (hK6 _ _ ?_))))
 refine WCa 10 ((xs.length : Int) != (ys.length : Int)) rfl (fun t7b => ?_) (fun t7b => ?_)
 ·
  have t7 : (xs.length : Int) ≠ (ys.length : Int) := by simpa using t7b
  refine WCt rfl ?_
  refine WCs (fun K8 hK9 => ?_)
  refine WCg (WLq 1 [(4, .bool false)] (WLd rfl (QXn (hK9 _ _ ?_))))
  refine WC.ret ?_
  refine QXr ?_
  refine (hret _ _ _ rfl ?_).1
  exact ⟨by rw [decide_eq_false (fun e_ => by subst e_; simp at *)]; rfl, hC.fr⟩
 ·
  have t7 : (xs.length : Int) = (ys.length : Int) := by simpa using t7b
  refine WCf rfl (WC.skip (QXn (hK4 _ _ ?_)))
  refine WCs (fun aE aj => ?_)
  refine WCs (fun aF ak => ?_)
  refine WCg (WLq 3 [(13, .int .i64 0), (12, .int .i64 (xs.length : Int)), (11, .slice A xs.length c)] (WLd rfl (QXn (ak _ _ ?_))))
  refine WC.block ?_
  refine WC.loop (fun m_ E_ w_ => ∃ (i : Nat), m_ = xs.length - i ∧ E_ = [(0, .slice A xs.length c), (1, .slice B ys.length d), (12, .int .i64 (xs.length : Int)), (13, .int .i64 (i : Int))] ∧ Cx w [] w_ [] [] ∧ (i ≤ xs.length ∧ xs.take i = ys.take i)) ⟨_, _, ⟨0, rfl, rfl, hC, Nat.zero_le _, rfl⟩, sub_of ⟨rfl, rfl, rfl, rfl, trivial⟩⟩ (fun m17 E_ aG aH al am => ?_)
  obtain ⟨i, rfl, rfl, ag, hi, htk⟩ := am
  refine WCs (fun aI an => ?_)
  refine WCg (WLq 1 [(14, .bool (decide ((i : Int) < (xs.length : Int))))] (WLd rfl (QXn (an _ _ ?_))))
  refine WCs (fun aJ ao => ?_)
  refine WCa 14 (decide ((i : Int) < (xs.length : Int))) rfl (fun ad => ?_) (fun ad => ?_)
  ·
   have aB : (i : Int) < (xs.length : Int) := by have q_ := of_decide_eq_true ad; omega
   refine WCt rfl ?_
   refine WC.skip ?_
   refine QXn (ao _ _ ?_)
   refine WCs (fun aK ap => ?_)
   refine WC.block ?_
   refine WCs (fun aL aq => ?_)
   refine WCg (WLq 2 [(5, .int .i64 (i : Int)), (15, .int .i64 (i : Int))] (WLd rfl (QXn (aq _ _ ?_))))
   refine WCs (fun aM ar => ?_)
   refine WC.drawC ag [] (by kernel_rfl) (fun aN aC ac aa => ?_)
   refine WDq (NPt (NPb (NPt (NPt (NPb (NPt hN)))))) 0 16 (.slice A xs.length c) aa ?_
   refine WDq (NPt (NPb (NPt (NPt (NPb (NPt hN)))))) 1 17 (.int .i64 (i : Int)) aa ?_
   obtain ⟨ah, ae⟩ := get_some (xs := xs) (i := i) (by omega)
   obtain ⟨b37, o39, au, av⟩ := hA.at_ _ _ ae
   refine WDi (NPt (NPb (NPt (NPt (NPb (NPt hN)))))) 2 A xs.length c 18 .i64 (i : Int) b37 o39 i 1 (by kernel_rfl) (by kernel_rfl) au (by omega) (by omega) (o39 + i) (by first | (simp; done) | omega) aa ?_
   refine WDq (NPt (NPb (NPt (NPt (NPb (NPt hN)))))) 4 20 (.slice B ys.length d) aa ?_
   refine WDq (NPt (NPb (NPt (NPt (NPb (NPt hN)))))) 5 21 (.int .i64 (i : Int)) aa ?_
   obtain ⟨ai, af⟩ := get_some (xs := ys) (i := i) (by omega)
   obtain ⟨b43, o45, aw, ax⟩ := hB.at_ _ _ af
   refine WDi (NPt (NPb (NPt (NPt (NPb (NPt hN)))))) 6 B ys.length d 22 .i64 (i : Int) b43 o45 i 1 (by kernel_rfl) (by kernel_rfl) aw (by omega) (by omega) (o45 + i) (by first | (simp; done) | omega) aa ?_
   refine WDm (NPt (NPb (NPt (NPt (NPb (NPt hN)))))) 3 44 (.pointer (some ⟨b37, o39 + i, none⟩)) (.int .u32 ah) 19 (fun _ hS_ => run_load1 rfl (by simpa [Nat.add_assoc] using Fr.cell hS_ (ac.fr.cell (av 0 _ rfl) (by simp)) (by simp))) aa ?_
   refine WDm (NPt (NPb (NPt (NPt (NPb (NPt hN)))))) 7 44 (.pointer (some ⟨b43, o45 + i, none⟩)) (.int .u32 ai) 23 (fun _ hS_ => run_load1 rfl (by simpa [Nat.add_assoc] using Fr.cell hS_ (ac.fr.cell (ax 0 _ rfl) (by simp)) (by simp))) aa ?_
   refine WDq (NPt (NPb (NPt (NPt (NPb (NPt hN)))))) 8 24 (.bool (ah != ai)) aa ?_
   refine WD.done (by kernel_rfl) ?_
   refine QXn (ar _ _ ?_)
   refine WCa 24 (ah != ai) rfl (fun ab => ?_) (fun ab => ?_)
   ·
    have aD : ah ≠ ai := by simpa using ab
    refine WCt rfl ?_
    refine WCs (fun aO ay => ?_)
    refine WCg (WLq 1 [(4, .bool false)] (WLd rfl (QXn (ay _ _ ?_))))
    refine WC.ret ?_
    refine QXk ?_
    refine QXr ?_
    refine QXr ?_
    refine QXk ?_
    refine QXr ?_
    refine (hret _ _ _ rfl ?_).1
    exact ⟨by rw [decide_eq_false (addrs_ne ae af (by simpa using ab))]; rfl, ac.fr⟩
   ·
    have aD : ah = ai := by simpa using ab
    refine WCf rfl (WC.skip ?_)
    refine QXb ?_
    refine QXn (ap _ _ ?_)
    refine WCg (WLq 1 [(25, .int .i64 (IntKind.i64.wrap ((i : Int) + 1)))] ?_)
    refine WLt (show (.int .i64 (IntKind.i64.wrap ((i : Int) + 1)) : Value) = .int .i64 ((i : Int) + 1) from by rw [wrap_in_i64 ((i : Int) + 1) (by omega) (by omega)]) ?_
    refine WLq 1 [(13, .int .i64 ((i : Int) + 1))] ?_
    refine WLd rfl ?_
    refine QXn ?_
    have az := ac.pick [] [] rfl rfl
    refine fun a_ ha_ => al _ _ _ ?_ ⟨i + 1, rfl, rfl, az, by omega, addrs_take htk ae af (by simpa using ab)⟩ a_ (ha_.weaken (sub_of ⟨rfl, rfl, rfl, rfl, trivial⟩))
    omega
  ·
   have aB : (xs.length : Int) ≤ (i : Int) := by have q_ := of_decide_eq_false ad; omega
   refine WCf rfl ?_
   refine WC.exit ?_
   refine QXe ?_
   refine QXe ?_
   refine QX.block_hit ?_
   refine QXn (aj _ _ ?_)
   refine WCs (fun aP aA => ?_)
   refine WCg (WLq 1 [(4, .bool true)] (WLd rfl (QXn (aA _ _ ?_))))
   refine WC.ret ?_
   refine (hret _ _ _ rfl ?_).1
   exact ⟨by rw [decide_eq_true (addrs_end htk (by omega) (by omega))]; rfl, ag.fr⟩

theorem EqU_n (A B : Option Addr) (n c n2 d : Nat) (xs ys : List Int) (w : World) (hA : Rd w 1 (Go.Tw.encI .u32) A xs) (hn : xs.length = n) (hB : Rd w 1 (Go.Tw.encI .u32) B ys) (hn2 : ys.length = n2) (h1 : n ≤ 9223372036854775807) (h2 : n2 ≤ 9223372036854775807) : Calls Try.prog 41 #[.slice A n c, .slice B n2 d] w fun e w' => e = .returned (.bool (decide (xs = ys))) ∧ Fr w w' [] := by subst hn hn2; exact EqU_ct A B c d xs ys w hA hB h1 h2
end Go.Proofs.Ytmahghppojbeoaa
