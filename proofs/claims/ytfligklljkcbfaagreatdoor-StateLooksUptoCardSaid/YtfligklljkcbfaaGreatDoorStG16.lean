/- Contracts of functions of the program, each proved by a walk through its code; conditions stand in the statements. -/
import Derived.Test.YtfligklljkcbfaaGreatDoorStF16
namespace Go.Proofs.YtfligklljkcbfaaGreatDoor
set_option linter.unusedSimpArgs false
set_option linter.unusedVariables false
set_option linter.unusedSectionVars false
open Go Go.RowKit Go.Tw
set_option linter.unusedVariables false
set_option maxRecDepth 20000
def ltL (a b : Lease) : Bool := decide (a.vip < b.vip ∨ (a.vip = b.vip ∧ a.first < b.first))
theorem ltL_iff {a b : Lease} : ltL a b = true ↔ (a.vip < b.vip ∨ (a.vip = b.vip ∧ a.first < b.first)) := by simp [ltL]
theorem cmp_lt {a b : Lease} : leaseCmp a b < 0 ↔ ltL a b = true := by
  rw [ltL_iff]; simp only [leaseCmp, orI, cmpI]; grind
theorem cmp_eq0 {a b : Lease} : leaseCmp a b = 0 ↔ a.vip = b.vip ∧ a.first = b.first := by
  simp only [leaseCmp, orI, cmpI]; grind
theorem ltL_trans {a b c : Lease} (h : ltL a b = true) (k : ltL b c = true) : ltL a c = true := by
  rw [ltL_iff] at *; omega
def sortedL (xs : List Lease) : Prop := xs.Pairwise (fun a b => ltL a b = true)
theorem checkFrom_sorted : ∀ (xs : List Lease) (p : Option Lease), checkFrom p xs = true → (∀ x ∈ xs, lgoodL x = true) ∧ sortedL xs ∧ ∀ y, p = some y → ∀ x ∈ xs, ltL y x = true
  | [], p, _ => by simp [sortedL]
  | x :: r, p, h => by
    rw [checkFrom_cons] at h
    simp only [Bool.and_eq_true] at h
    obtain ⟨⟨h1, h2⟩, h3⟩ := h
    obtain ⟨g1, g2, g3⟩ := checkFrom_sorted r _ h3
    have g4 := g3 x rfl
    refine ⟨by simpa using ⟨h1, g1⟩, List.pairwise_cons.2 ⟨fun y hy => g4 y hy, g2⟩, fun y hy z hz => ?_⟩
    subst hy
    have h5 : ltL y x = true := cmp_lt.1 (by simpa using h2)
    rcases List.mem_cons.1 hz with rfl | hz
    · exact h5
    · exact ltL_trans h5 (g4 z hz)
theorem checkL_sorted {xs : List Lease} (h : checkL xs = true) : sortedL xs := (checkFrom_sorted xs none h).2.1
theorem checkL_good {xs : List Lease} (h : checkL xs = true) : ∀ x ∈ xs, lgoodL x = true := (checkFrom_sorted xs none h).1
def bsPost (xs : List Lease) (l : Lease) (i : Nat) : Prop := i ≤ xs.length ∧ (∀ q x, q < i → xs[q]? = some x → ltL x l = true) ∧ (∀ q x, i ≤ q → xs[q]? = some x → ltL x l = false)
def foundAt (xs : List Lease) (l : Lease) (i : Nat) : Bool := match xs[i]? with | some x => decide (x.vip = l.vip ∧ x.first = l.first) | none => false
def insL (xs : List Lease) (l : Lease) : List Lease := xs.filter (ltL · l) ++ l :: xs.filter (ltL l ·)
theorem take_filter {α : Type} (p : α → Bool) : ∀ (xs : List α) (i : Nat), (∀ q x, q < i → xs[q]? = some x → p x = true) → (∀ q x, i ≤ q → xs[q]? = some x → p x = false) → xs.filter p = xs.take i
  | [], i, _, _ => by simp
  | x :: r, 0, _, h2 => by
    simp only [List.take_zero, List.filter_eq_nil_iff]
    intro y hy
    obtain ⟨q, hq⟩ := List.getElem?_of_mem hy
    simpa using h2 q y (Nat.zero_le _) hq
  | x :: r, i + 1, h1, h2 => by
    rw [List.filter_cons_of_pos (h1 0 x (by omega) rfl), List.take_succ_cons]
    congr 1
    exact take_filter p r i (fun q y hq hy => h1 (q + 1) y (by omega) (by simpa using hy)) (fun q y hq hy => h2 (q + 1) y (by omega) (by simpa using hy))
theorem drop_filter {α : Type} (p : α → Bool) : ∀ (xs : List α) (i : Nat), (∀ q x, q < i → xs[q]? = some x → p x = false) → (∀ q x, i ≤ q → xs[q]? = some x → p x = true) → xs.filter p = xs.drop i
  | [], i, _, _ => by simp
  | x :: r, 0, _, h2 => by
    simp only [List.drop_zero, List.filter_eq_self]
    intro y hy
    obtain ⟨q, hq⟩ := List.getElem?_of_mem hy
    exact h2 q y (Nat.zero_le _) hq
  | x :: r, i + 1, h1, h2 => by
    rw [List.filter_cons_of_neg (by rw [h1 0 x (by omega) rfl]; decide), List.drop_succ_cons]
    exact drop_filter p r i (fun q y hq hy => h1 (q + 1) y (by omega) (by simpa using hy)) (fun q y hq hy => h2 (q + 1) y (by omega) (by simpa using hy))
theorem sorted_get {xs : List Lease} (h : sortedL xs) {i j : Nat} (hij : i < j) {x y : Lease} (hx : xs[i]? = some x) (hy : xs[j]? = some y) : ltL x y = true := by
  obtain ⟨hi, rfl⟩ := List.getElem?_eq_some_iff.1 hx
  obtain ⟨hj, rfl⟩ := List.getElem?_eq_some_iff.1 hy
  exact List.pairwise_iff_getElem.1 h i j hi hj hij
theorem ltL_tri {a b : Lease} (h : ltL a b = false) (k : ¬ (a.vip = b.vip ∧ a.first = b.first)) : ltL b a = true := by
  have h' : ¬ ltL a b = true := by simp [h]
  rw [ltL_iff] at *; omega
theorem ltL_asym {a b : Lease} (h : ltL a b = true) : ltL b a = false := by
  cases hb : ltL b a
  · rfl
  · exfalso; rw [ltL_iff] at *; omega
theorem ltL_eq_l {a b c : Lease} (h : a.vip = b.vip ∧ a.first = b.first) : ltL a c = ltL b c := by simp [ltL, h.1, h.2]
theorem ltL_eq_r {a b c : Lease} (h : a.vip = b.vip ∧ a.first = b.first) : ltL c a = ltL c b := by simp [ltL, h.1, h.2]
theorem ins_found {xs : List Lease} {l : Lease} {i : Nat} (hs : sortedL xs) (hb : bsPost xs l i) (hf : foundAt xs l i = true) : i < xs.length ∧ xs.set i l = insL xs l := by
  obtain ⟨h1, h2, h3⟩ := hb
  unfold foundAt at hf
  split at hf
  · rename_i x hx
    have hi : i < xs.length := (List.getElem?_eq_some_iff.1 hx).1
    have he : x.vip = l.vip ∧ x.first = l.first := by simpa using hf
    refine ⟨hi, ?_⟩
    have hd : xs.filter (ltL l ·) = xs.drop (i + 1) := drop_filter _ xs (i + 1) (fun q y hq hy => by
      by_cases e : q = i
      · subst e; rw [hx] at hy; cases hy
        cases hc : ltL l x
        · rfl
        · exfalso; rw [ltL_iff] at hc; omega
      · exact ltL_asym (h2 q y (by omega) hy)) (fun q y hq hy => by
      rw [← ltL_eq_l he]; exact sorted_get hs (by omega) hx hy)
    rw [insL, take_filter _ xs i h2 h3, hd]
    rw [List.set_eq_take_append_cons_drop, if_pos hi]
  · cases hf
theorem ins_new {xs : List Lease} {l : Lease} {i : Nat} (hs : sortedL xs) (hb : bsPost xs l i) (hf : foundAt xs l i = false) : xs.take i ++ l :: xs.drop i = insL xs l := by
  obtain ⟨h1, h2, h3⟩ := hb
  have hd : xs.filter (ltL l ·) = xs.drop i := drop_filter _ xs i (fun q y hq hy => ltL_asym (h2 q y hq hy)) (fun q y hq hy => by
    have h4 := h3 q y hq hy
    by_cases e : y.vip = l.vip ∧ y.first = l.first
    · exfalso
      have hi : i < xs.length := by have := (List.getElem?_eq_some_iff.1 hy).1; omega
      obtain ⟨x, hx⟩ := get_some hi
      have h5 := h3 i x (Nat.le_refl _) hx
      by_cases e2 : q = i
      · subst e2; rw [hy] at hx; cases hx
        simp [foundAt, hy, e] at hf
      · have h6 := sorted_get hs (by omega) hx hy
        rw [ltL_eq_r e] at h6
        rw [h6] at h5; cases h5
    · exact ltL_tri h4 e)
  rw [insL, take_filter _ xs i h2 h3, hd]
theorem Insert_eq (A : Option Addr) (b n c : Nat) (xs : List Lease) (x : Lease) (w : World) (ho : w.ownsRow 0 50 4 (.slice A n c) n (xs.flatMap encL)) (hb : w.heap[b]? = some (.cells #[U4 x.vip, I6 x.first, U4 x.dip, I6 x.exp] 50 (0, 0))) (hne : b ∉ blk (.slice A n c)) (hlim : n < 2 ^ 40) : Calls Tryz.prog 152 #[.slice A n c, I6 (n : Int), .slice (some ⟨b, 0, none⟩) 1 1] w fun e w' => ∃ v, e = .returned v ∧ Fr w w' (blk (.slice A n c)) ∧ w'.ownsRow 0 50 4 v (n + 1) ((xs ++ [x]).flatMap encL) ∧ (∀ y ∈ blk v, y ∈ blk (.slice A n c) ∨ w.heap.size ≤ y) := by
 refine enterD (n := 95) Tryz.func152 rfl rfl (Nat.le_of_ble_eq_true rfl) ?_
 intro Q0 hN hret hret'
 have hle : n ≤ c := by obtain ⟨A_, c_, h1_, h2_⟩ := own_form ho; simp at h1_; omega
 have hC := Cx.start1 w (own_lt ho)
 refine WCs (fun K1 hK2 => WCg (WLq 1 [(6, .slice none 0 0)] (WLd rfl (QXn (hK2 _ _ (WCs (fun K3 hK4 => WCg (WLq 2 [(11, I6 (n : Int)), (10, .slice A n c)] ?_))))))))
 obtain ⟨A5, hA6⟩ : ∃ A_, slcAt A n c 4 = A_ := ⟨_, rfl⟩
 have hle_ := own_le ho
 have hb7 : n ≤ c := by omega
 refine WL.slc 29 50 4 A A5 n c n n (n - n) (c - n) (some (I6 (n : Int))) none 12 (by kernel_rfl) (by kernel_rfl) (bnd.yes (by omega)) bnd.no (by omega) hb7 hA6 (by first | rfl | omega) (by first | rfl | omega) (WLd rfl (QXn (hK4 _ _ (WCs (fun K8 hK9 => WCg (WLz 3 [(7, I6 1)] (WLd rfl (QXn (hK9 _ _ (WCs (fun aq ac => ?_)))))))))))
 refine WCs (fun ar ad => WCg (WLz 2 [(16, .bool false)] (WLd rfl (QXn (ad _ _ (WCf rfl (WC.skip (QXn (ac _ _ (WCs (fun au ae => WCg ?_)))))))))))
 refine WLz 3 [(8, I6 (n : Int))] (WLd rfl (QXn (ae _ _ (WCs (fun av ao => WCs (fun aw af => WCg (WLz 3 [(22, .bool ((n : Int) == (n : Int)))] (WLd rfl (QXn (af _ _ (WC.know 22 (.bool ((n : Int) == (n : Int))) (.bool true) rfl (congrArg Value.bool (by simp)) ?_)))))))))))
 refine WCt rfl (WCs (fun ax ag => WCg (WLq 2 [(24, .slice (some ⟨b, 0, none⟩) 1 1), (23, .slice A n c)] ?_)))
 obtain ⟨ay, az, ah, ai, ap, aj, ak, aa⟩ := app_run Tryz.prog hC 0 (v := .slice A n c) rfl 29 29 50 4 32 n 1 1 (some ⟨b, 0, none⟩) rfl ho [U4 x.vip, I6 x.first, U4 x.dip, I6 x.exp] rfl (srcOk.blk 1 (hC.fr.has hb hne)) rfl (by simp only [maxLen]; omega) (by omega)
 have ab := own_snoc (enc := encL) (ys := xs) x ai
 obtain ⟨al, am, rfl, an⟩ := own_form ab
 refine WLS 25 ah (WLq 1 [(6, .slice al (n + 1) am)] (WLd rfl (QXn (ag _ _ (WC.ret (QXr ?_))))))
 refine (hret _ _ _ rfl ?_).1
 exact ⟨_, rfl, aj.fr, by simpa [shut] using ab, aa⟩

theorem Insert_ct (A : Option Addr) (b n c i : Nat) (xs : List Lease) (x : Lease) (w : World) (ho : w.ownsRow 0 50 4 (.slice A n c) n (xs.flatMap encL)) (hb : w.heap[b]? = some (.cells #[.int .u32 x.vip, .int .i64 x.first, .int .u32 x.dip, .int .i64 x.exp] 50 (0, 0))) (hne : b ∉ blk (.slice A n c)) (hi : i ≤ n) (hlim : n < 2 ^ 40) : Calls Tryz.prog 152 #[.slice A n c, .int .i64 (i : Int), .slice (some ⟨b, 0, none⟩) 1 1] w fun e w' => ∃ v, e = .returned v ∧ Fr w w' (blk (.slice A n c)) ∧ w'.ownsRow 0 50 4 v (n + 1) ((xs.take i ++ x :: xs.drop i).flatMap encL) ∧ (∀ y ∈ blk v, y ∈ blk (.slice A n c) ∨ w.heap.size ≤ y) := by
  have hcount := own_count encL_len (by decide) ho
  by_cases e : i = n
  · subst e
    refine (Insert_eq A b i c xs x w ho hb hne hlim).mono fun e w' h => ?_
    rwa [← hcount, List.take_length, List.drop_length, hcount]
  · have hlt : i < n := by omega
    obtain ⟨g, cur, rfl, hg, hh, hnc, hcm, hsz, htk⟩ := own_blkd ho (by omega)
    have hbg : b ≠ g := by simpa [blk, Value.ownBlock] using hne
    have h1 : (cur.toList.take (n * 4)).all Value.oneCell' = true := by rw [htk]; exact flat_one encL_one _
    refine (Insert_lt g b c n i cur.toList x w (by simpa using hh) hb hbg hlt hnc (by simpa using hsz) hcm h1 hlim).mono fun e w' h => ?_
    obtain ⟨v, he, hf, hown, hsub⟩ := h
    refine ⟨v, he, by simpa [blk, Value.ownBlock] using hf, ?_, by simpa [blk, Value.ownBlock] using hsub⟩
    have e1 : cur.toList.take (i * 4) = (xs.take i).flatMap encL := by rw [← flat_take encL_len, ← htk, List.take_take, Nat.min_eq_left (by omega)]
    have e2 : (cur.toList.drop (i * 4)).take ((n - i) * 4) = (xs.drop i).flatMap encL := by rw [← flat_drop encL_len, ← htk, List.drop_take]; congr 1; omega
    rw [e1, e2] at hown
    simpa [encL] using hown
theorem Clone_ct (A : Option Addr) (c : Nat) (xs : List Lease) (w : World) (hr : Rd w 4 encL A xs) (hm : xs.length < 2 ^ 40) : Calls Tryz.prog 150 #[.slice A xs.length c] w fun e w' => ∃ v, e = .returned v ∧ Fr w w' [] ∧ w'.ownsRow w.heap.size 50 4 v xs.length (xs.flatMap encL) := by
 refine enterD (n := 8) Tryz.func150 rfl rfl (Nat.le_of_ble_eq_true rfl) ?_
 intro Q0 hN hret hret'
 have hC := Cx.start w
 refine WCs (fun K1 hK2 => WCg (WLq 1 [(2, .slice none 0 0)] (WLd rfl (QXn (hK2 _ _ (WCs (fun K3 hK4 => WCs (fun K5 hK6 => WCg (WLq 1 [(3, .slice A xs.length c)] ?_)))))))))
 have hr7 : ∀ w_, Sem.run Tryz.prog (do eqGuard .eql 29 (Operand.tmp 3) (Operand.const (.slice none 0 0)) (.slice A xs.length c) (.slice none 0 0); binOp .eql 29 (.slice A xs.length c) (.slice none 0 0)) w_ = .ok (.bool (Option.isNone A)) w_ := fun w_ => (by cases (A : Option Addr) <;> kernel_rfl)
 refine WL.sem (do eqGuard .eql 29 (Operand.tmp 3) (Operand.const (.slice none 0 0)) (.slice A xs.length c) (.slice none 0 0); binOp .eql 29 (.slice A xs.length c) (.slice none 0 0)) 4 (.bool (Option.isNone A)) (by kernel_rfl) (hr7 _) (WLd rfl (QXn (hK6 _ _ (WCa 4 (Option.isNone A) rfl (fun t8b => ?_) (fun t8b => ?_)))))
 ·
  refine WCt rfl (WCs (fun K9 aa => WCg (WLq 1 [(2, .slice none 0 0)] (WLd rfl (QXn (aa _ _ (WC.ret (QXr ?_))))))))
  refine (hret _ _ _ rfl ?_).1
  clear hN hret hret' aa hK6 hK4 hK2
  have hA_ : A = none := Option.isNone_iff_eq_none.1 t8b
  subst hA_
  obtain rfl := Rd.of_none hr
  exact ⟨_, rfl, hC.fr, own_nil _ _ _ _⟩
 ·
  refine WCf rfl (WC.skip (QXn (hK4 _ _ (WCs (fun av af => WCg (WL.newM hC (fun b => .slice (some ⟨b, 0, none⟩) 0 0) (.cells #[] 50) 5 (fun _ => by kernel_rfl) (fun ag ap aq ar ab => WLq 1 [(6, .slice A xs.length c)] ?_)))))))
  have ah : World.ownsRow ap 0 50 4 (.slice (some ⟨ag, 0, none⟩) 0 0) 0 [] := own_of_blk (Nat.zero_le _) (ab.get 0 rfl) (Nat.le_refl _) (Nat.zero_le _) (by simp) rfl
  have ac := ab.toF 0 rfl
  obtain ⟨aw, ax, ai, aj, au, ad, ak, al⟩ := app_run Tryz.prog ac 0 (v := .slice (some ⟨ag, 0, none⟩) 0 0) rfl 29 29 50 4 32 0 xs.length c A rfl ah (xs.flatMap encL) (flat_len_n encL_len (by first | rfl | assumption | (simp; done) | (simp; omega))) (Rd.src_n (Rd.fr hr ac.fr) encL_len (by decide) (by first | rfl | assumption | (simp; done) | (simp; omega))) (flat_one encL_one _) (by simp only [maxLen]; omega) (by omega)
  have ae := own_app (enc := encL) (ys := []) (zs := xs) aj
  obtain ⟨am, an, rfl, ao⟩ := own_form ae
  refine WLS 7 ai (WLq 1 [(2, .slice am (0 + xs.length) an)] (WLd rfl (QXn (af _ _ (WC.ret ?_)))))
  refine (hret _ _ _ rfl ?_).1
  exact ⟨_, rfl, ad.fr, by simpa [shut] using (own_base ae (ad.geF 0 rfl))⟩

end Go.Proofs.YtfligklljkcbfaaGreatDoor
