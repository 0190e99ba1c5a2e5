/- Contracts of functions of the program, each proved by a walk through its code; conditions stand in the statements. -/
import Derived.Test.YtmahghppojbeoaaSeC
import Derived.Test.YtmahghppojbeoaaSeV
namespace Go.Proofs.Ytmahghppojbeoaa
set_option linter.unusedSimpArgs false
set_option linter.unusedVariables false
set_option linter.unusedSectionVars false
open Go Go.RowKit Go.Tw
set_option linter.unusedVariables false
set_option maxRecDepth 20000
theorem Rd.frO {α : Type} {w w' : World} {sz : Nat} {enc : α → List Value} {A : Option Addr} {xs : List α} {F : List Nat} (h : Rd w sz enc A xs) (hf : Fr w w' F) (hn : xs ≠ [] → ∀ b off, A = some ⟨b, off, none⟩ → b ∉ F) : Rd w' sz enc A xs := by
  cases xs with
  | nil => exact Rd.nil _ _ _ _
  | cons x r => exact h.frN hf (hn (by simp))
theorem blk_in3 {A : Option Addr} {n c n' c' x : Nat} (h : x ∈ blk (.slice A n c)) : x ∈ blk (.slice A n' c') := by cases A <;> exact h
structure Mg where
  kind : Int
  a : Option Addr
  c : Nat
  nums : List Int
def cellsM (m : Mg) : List Value := [.int .i64 m.kind, .slice m.a m.nums.length m.c, .slice none 0 0]
theorem cellsM_len (m : Mg) : (cellsM m).length = 3 := rfl
section
variable {w0 w w' : World} {F0 : List Nat} {M : List (Nat × Obj)} {Fs : List (List Nat)}
theorem Cx.addG {n : Nat} (h : Cx w0 F0 w M Fs) (hM : ∀ p ∈ M, p.1 < n) (hF : ∀ F ∈ Fs, ∀ x ∈ F, x < n) (h0 : w0.heap.size ≤ n) {G : List Nat} (hg : ∀ x ∈ G, n ≤ x) (hl : ∀ x ∈ G, x < w.heap.size) : Cx w0 F0 w M (Fs ++ [G]) := by
  refine ⟨h.fr, h.has, h.nodup, ?_, ?_, ?_, h.ownM, ?_⟩
  · rw [List.pairwise_append]
    refine ⟨h.sep, by simp, fun A hA B hB x hx hxB => ?_⟩
    simp at hB; subst hB
    have := hF A hA x hx
    have := hg x hxB
    omega
  · intro F hF' p hp
    rcases List.mem_append.1 hF' with hF' | hF'
    · exact h.apart F hF' p hp
    · simp at hF'; subst hF'
      intro hx
      have := hM p hp
      have := hg _ hx
      omega
  · intro F hF' x hx
    rcases List.mem_append.1 hF' with hF' | hF'
    · exact h.bound F hF' x hx
    · simp at hF'; subst hF'; exact hl x hx
  · intro F hF' x hx
    rcases List.mem_append.1 hF' with hF' | hF'
    · exact h.ownF F hF' x hx
    · simp at hF'; subst hF'; exact .inr (Nat.le_trans h0 (hg x hx))
/-- a call that changes a block that is known and leaves one new footprint -/
theorem Cx.callMN (h : Cx w0 F0 w M Fs) (k : Nat) {b : Nat} {o o' : Obj} (hk : M[k]? = some (b, o)) (hf : Fr w w' [b]) (ho : w'.heap[b]? = some o') {G : List Nat} (hg : ∀ x ∈ G, w.heap.size ≤ x) (hl : ∀ x ∈ G, x < w'.heap.size) : Cx w0 F0 w' (M.set k (b, o')) (Fs ++ [G]) := by
  refine Cx.addG (n := w.heap.size) (h.callM k hk hf ho) (fun p hp => ?_) (fun F hF x hx => h.bound F hF x hx) h.fr.size hg hl
  rcases List.mem_or_eq_of_mem_set hp with hp | rfl
  · exact h.lt hp
  · exact h.lt (p := (b, o)) (List.mem_of_getElem? hk)
/-- .. or two -/
theorem Cx.callMN2 (h : Cx w0 F0 w M Fs) (k : Nat) {b : Nat} {o o' : Obj} (hk : M[k]? = some (b, o)) (hf : Fr w w' [b]) (ho : w'.heap[b]? = some o') {G G2 : List Nat} (hg : ∀ x ∈ G, w.heap.size ≤ x) (hl : ∀ x ∈ G, x < w'.heap.size) (hg2 : ∀ x ∈ G2, w.heap.size ≤ x) (hl2 : ∀ x ∈ G2, x < w'.heap.size) (hd : ∀ x ∈ G, x ∉ G2) : Cx w0 F0 w' (M.set k (b, o')) (Fs ++ [G, G2]) := by
  have h1 := Cx.callMN h k hk hf ho hg hl
  have h2 := Cx.callMN h k hk hf ho hg2 hl2
  refine ⟨h1.fr, h1.has, h1.nodup, ?_, ?_, ?_, h1.ownM, ?_⟩
  · rw [List.pairwise_append]
    refine ⟨h.sep, by simpa using hd, fun A hA B hB x hx hxB => ?_⟩
    have := h.bound A hA x hx
    simp only [List.mem_cons, List.not_mem_nil, or_false] at hB
    rcases hB with rfl | rfl
    · have := hg x hxB; omega
    · have := hg2 x hxB; omega
  · intro F hF p hp
    rcases List.mem_append.1 hF with hF | hF
    · exact h1.apart F (List.mem_append_left _ hF) p hp
    · simp only [List.mem_cons, List.not_mem_nil, or_false] at hF
      rcases hF with rfl | rfl
      · exact h1.apart _ (by simp) p hp
      · exact h2.apart _ (by simp) p hp
  · intro F hF x hx
    rcases List.mem_append.1 hF with hF | hF
    · exact h1.bound F (List.mem_append_left _ hF) x hx
    · simp only [List.mem_cons, List.not_mem_nil, or_false] at hF
      rcases hF with rfl | rfl
      · exact hl x hx
      · exact hl2 x hx
  · intro F hF x hx
    rcases List.mem_append.1 hF with hF | hF
    · exact h1.ownF F (List.mem_append_left _ hF) x hx
    · simp only [List.mem_cons, List.not_mem_nil, or_false] at hF
      rcases hF with rfl | rfl
      · exact .inr (Nat.le_trans h.fr.size (hg x hx))
      · exact .inr (Nat.le_trans h.fr.size (hg2 x hx))
end
theorem ins1_ct (A : Option Addr) (c : Nat) (w : World) : Calls Try.prog 70 #[.slice A 1 c, .int .i64 0, .int .i64 1] w fun e w' => e = .returned (.tuple #[]) ∧ Fr w w' [] := by
 refine enterD (n := 49) Try.func70 rfl rfl (Nat.le_of_ble_eq_true rfl) ?_
 intro Q0 hN hret hret'
 have hC := Cx.start w
 refine WCs (fun K1 hK2 => ?_)
 refine WCg (WLq 3 [(6, .int .i64 1), (9, .int .i64 1), (8, .int .i64 0)] (WLd rfl (QXn (hK2 _ _ ?_))))
 refine WC.block ?_
 refine WC.unroll ?_
 refine Rounds.round (fun K3 hK4 => ?_)
 refine WCs (fun K5 hK6 => ?_)
 refine WCs (fun K7 hK8 => ?_)
 refine WCg (WLq 3 [(12, .bool false), (11, .int .i64 1), (10, .int .i64 1)] (WLd rfl (QXn (hK8 _ _ ?_))))
 refine WCf rfl ?_
 refine WC.exit ?_
 refine QXe ?_
 refine QXe ?_
 refine QX.block_hit ?_
 refine (hret _ _ _ rfl ?_).2
 exact ⟨rfl, hC.fr⟩

theorem pdq1_ct (A : Option Addr) (c : Nat) (lim : Int) (w : World) : Calls Try.prog 66 #[.slice A 1 c, .int .i64 0, .int .i64 1, .int .i64 lim] w fun e w' => e = .returned (.tuple #[]) ∧ Fr w w' [] := by
 refine enterD (n := 134) Try.func66 rfl rfl (Nat.le_of_ble_eq_true rfl) ?_
 intro Q0 hN hret hret'
 have hC := Cx.start w
 refine WCs (fun K1 hK2 => ?_)
 refine WCg (WLq 1 [(8, .bool true)] (WLd rfl (QXn (hK2 _ _ ?_))))
 refine WCs (fun K3 hK4 => ?_)
 refine WCg (WLq 1 [(9, .bool true)] (WLd rfl (QXn (hK4 _ _ ?_))))
 refine WC.block ?_
 refine WC.unroll ?_
 refine Rounds.round (fun K5 hK6 => ?_)
 refine WC.block ?_
 refine WCs (fun K7 hK8 => ?_)
 refine WCg (WLq 4 [(10, .int .i64 1), (21, .int .i64 1), (20, .int .i64 0), (19, .int .i64 1)] (WLd rfl (QXn (hK8 _ _ ?_))))
 refine WCs (fun K9 ae => ?_)
 refine WCs (fun af aa => ?_)
 refine WCg (WLq 2 [(23, .bool true), (22, .int .i64 1)] (WLd rfl (QXn (aa _ _ ?_))))
 refine WCt rfl ?_
 refine WCs (fun ag ab => ?_)
 refine WCg (WLq 3 [(26, .int .i64 1), (25, .int .i64 0), (24, .slice A 1 c)] ?_)
 refine WLc rfl rfl rfl rfl rfl (by kernel_rfl) (ins1_ct A c w) ?_
 rintro _ ah ⟨rfl, ac⟩
 refine ⟨_, rfl, ?_⟩
 have ad := hC.call ac
 refine WLd rfl (QXn (ab _ _ ?_))
 refine WC.ret ?_
 refine QXr ?_
 refine QXk ?_
 refine QXr ?_
 refine QXk ?_
 refine (hret _ _ _ rfl ?_).1
 exact ⟨rfl, ad.fr⟩

theorem Sort1_ct (A : Option Addr) (c : Nat) (w : World) : Calls Try.prog 56 #[.slice A 1 c] w fun e w' => e = .returned (.tuple #[]) ∧ Fr w w' [] := by
 refine enterD (n := 11) Try.func56 rfl rfl (Nat.le_of_ble_eq_true rfl) ?_
 intro Q0 hN hret hret'
 have hC := Cx.start w
 refine WCs (fun K1 hK2 => ?_)
 refine WCg (WLq 3 [(2, .int .i64 1), (4, .int .i64 1), (3, .slice A 1 c)] (WLd rfl (QXn (hK2 _ _ ?_))))
 refine WCg (WLq 4 [(8, .int .u64 (IntKind.u64.wrap (1))), (7, .int .i64 1), (6, .int .i64 1), (5, .slice A 1 c)] ?_)
 refine WLt (show (.int .u64 (IntKind.u64.wrap (1)) : Value) = .int .u64 1 from rfl) ?_
 refine WLc rfl rfl rfl rfl rfl (by kernel_rfl) (Len_ct 1 w (by decide) (by decide)) ?_
 rintro _ w4 ⟨r_, rfl, hF3⟩
 refine ⟨_, rfl, ?_⟩
 have hC5 := hC.call hF3
 refine WLc rfl rfl rfl rfl rfl (by kernel_rfl) (pdq1_ct A c r_ w4) ?_
 rintro _ w7 ⟨rfl, hF6⟩
 refine ⟨_, rfl, ?_⟩
 have hC8 := hC5.call hF6
 refine WLd rfl ?_
 refine (hret _ _ _ rfl ?_).2
 exact ⟨rfl, hC8.fr⟩

theorem Values_ct (A : Option Addr) (n c : Nat) (w : World) : Calls Try.prog 37 #[.slice A n c] w fun e w' => ∃ g, e = .returned (.func (.func 57) #[] #[.pointer (some ⟨g, 0, none⟩)]) ∧ Fr w w' [] ∧ w.heap.size ≤ g ∧ w'.heap[g]? = some (.cells #[.slice A n c] 33 (0, 0)) := by
 refine enterD (n := 4) Try.func37 rfl rfl (Nat.le_of_ble_eq_true rfl) ?_
 intro Q0 hN hret hret'
 have hC := Cx.start w
 refine WCs (fun K1 hK2 => ?_)
 refine WCg ?_
 refine WL.newM hC (fun b => .pointer (some ⟨b, 0, none⟩)) (.cells #[.slice A n c] 33) 1 (fun _ => by kernel_rfl) (fun g3 w4 hb7 hF5 hC6 => ?_)
 refine WLq 1 [(2, .nilFunc)] (WLd rfl (QXn (hK2 _ _ ?_)))
 refine WCs (fun K8 hK9 => ?_)
 refine WCg (WLq 2 [(2, .func (.func 57) #[] #[.pointer (some ⟨g3, 0, none⟩)]), (3, .func (.func 57) #[] #[.pointer (some ⟨g3, 0, none⟩)])] (WLd rfl (QXn (hK9 _ _ ?_))))
 refine WC.ret ?_
 refine (hret _ _ _ rfl ?_).1
 exact ⟨_, rfl, hC6.fr, by omega, hC6.get 0 rfl⟩

theorem Collect_ct (A : Option Addr) (c : Nat) (v : Int) (g : Nat) (w : World) (hg : w.heap[g]? = some (.cells #[.slice A 1 c] 33 (0, 0))) (hr : Rd w 1 (Go.Tw.encI .u32) A [v]) : Calls Try.prog 55 #[.func (.func 57) #[] #[.pointer (some ⟨g, 0, none⟩)]] w fun e w' => ∃ v_, e = .returned v_ ∧ Fr w w' [] ∧ w'.ownsRow w.heap.size 44 1 v_ 1 ([v].flatMap (Go.Tw.encI .u32)) := by
 refine enterD (n := 5) Try.func55 rfl rfl (Nat.le_of_ble_eq_true rfl) ?_
 intro Q0 hN hret hret'
 have hC := Cx.start w
 refine WCs (fun K1 hK2 => ?_)
 refine WCg (WLq 1 [(2, .slice none 0 0)] (WLd rfl (QXn (hK2 _ _ ?_))))
 refine WCs (fun K3 hK4 => ?_)
 refine WCg (WLq 1 [(3, .func (.func 57) #[] #[.pointer (some ⟨g, 0, none⟩)])] ?_)
 refine WLc rfl rfl rfl rfl rfl (by kernel_rfl) (append_ct A 1 c [v] g w (hC.fr.has hg (by simp)) rfl (Rd.fr hr hC.fr) (by decide)) ?_
 rintro _ w7 ⟨v_, rfl, hF6, ho5⟩
 have hC8 := hC.callN hF6 (own_ge ho5) (own_lt ho5)
 obtain ⟨A9, ac, rfl, ab⟩ := own_form ho5
 have aa := own_base (b' := 0) ho5 (fun _ _ => Nat.zero_le _)
 refine ⟨_, rfl, ?_⟩
 refine WLq 1 [(2, .slice A9 1 ac)] (WLd rfl (QXn (hK4 _ _ ?_)))
 refine WC.ret ?_
 refine (hret _ _ _ rfl ?_).1
 exact ⟨_, rfl, hC8.fr, own_base aa (hC8.geF 0 rfl)⟩

theorem Sorted_ct (A : Option Addr) (c : Nat) (v : Int) (g : Nat) (w : World) (hg : w.heap[g]? = some (.cells #[.slice A 1 c] 33 (0, 0))) (hr : Rd w 1 (Go.Tw.encI .u32) A [v]) : Calls Try.prog 36 #[.func (.func 57) #[] #[.pointer (some ⟨g, 0, none⟩)]] w fun e w' => ∃ v_, e = .returned v_ ∧ Fr w w' [] ∧ w'.ownsRow w.heap.size 44 1 v_ 1 ([v].flatMap (Go.Tw.encI .u32)) := by
 refine enterD (n := 9) Try.func36 rfl rfl (Nat.le_of_ble_eq_true rfl) ?_
 intro Q0 hN hret hret'
 have hC := Cx.start w
 refine WCs (fun K1 hK2 => ?_)
 refine WCg (WLq 1 [(2, .slice none 0 0)] (WLd rfl (QXn (hK2 _ _ ?_))))
 refine WCs (fun K3 hK4 => ?_)
 refine WCg (WLq 1 [(4, .func (.func 57) #[] #[.pointer (some ⟨g, 0, none⟩)])] ?_)
 refine WLc rfl rfl rfl rfl rfl (by kernel_rfl) (Collect_ct A c v g w (hC.fr.has hg (by simp)) (Rd.fr hr hC.fr)) ?_
 rintro _ w7 ⟨v_, rfl, hF6, ho5⟩
 have hC8 := hC.callN hF6 (own_ge ho5) (own_lt ho5)
 obtain ⟨A9, aa, rfl, ah⟩ := own_form ho5
 have ad := own_base (b' := 0) ho5 (fun _ _ => Nat.zero_le _)
 refine ⟨_, rfl, ?_⟩
 refine WLq 1 [(3, .slice A9 1 aa)] (WLd rfl (QXn (hK4 _ _ ?_)))
 refine WCs (fun ai ae => ?_)
 refine WCg (WLq 1 [(6, .slice A9 1 aa)] ?_)
 refine WLc rfl rfl rfl rfl rfl (by kernel_rfl) (Sort1_ct A9 aa w7) ?_
 rintro _ aj ⟨rfl, ab⟩
 refine ⟨_, rfl, ?_⟩
 have ac := hC8.call ab
 have af := own_fr ad ab (by simp)
 refine WLd rfl (QXn (ae _ _ ?_))
 refine WCs (fun ak ag => ?_)
 refine WCg (WLq 2 [(2, .slice A9 1 aa), (8, .slice A9 1 aa)] (WLd rfl (QXn (ag _ _ ?_))))
 refine WC.ret ?_
 refine (hret _ _ _ rfl ?_).1
 exact ⟨_, rfl, ac.fr, own_base af (ac.geF 0 rfl)⟩

theorem notV_ct (x : Int) (w : World) (h0 : 0 ≤ x) (h1 : x ≤ 4294967295) : Calls Try.prog 38 #[.int .u32 x] w fun e w' => e = .returned (.bool (!isVip x)) ∧ Fr w w' [] := by
 refine enterD (n := 6) Try.func38 rfl rfl (Nat.le_of_ble_eq_true rfl) ?_
 intro Q0 hN hret hret'
 have hC := Cx.start w
 refine WCs (fun K1 hK2 => ?_)
 refine WCg (WLq 1 [(2, .bool false)] (WLd rfl (QXn (hK2 _ _ ?_))))
 refine WCs (fun K3 hK4 => ?_)
 refine WCg (WLq 1 [(3, .int .u32 x)] ?_)
 refine WLc rfl rfl rfl rfl rfl (by kernel_rfl) (IsVip_ct x w (by omega) (by omega)) ?_
 rintro _ w6 ⟨rfl, hF5⟩
 refine ⟨_, rfl, ?_⟩
 have hC7 := hC.call hF5
 refine WLq 2 [(2, .bool (!(isVip x))), (5, .bool (!(isVip x)))] (WLd rfl (QXn (hK4 _ _ ?_)))
 refine WC.ret ?_
 refine (hret _ _ _ rfl ?_).1
 exact ⟨rfl, hC7.fr⟩

theorem IndexF_ct (A : Option Addr) (c : Nat) (xs : List Int) (w : World) (hr : Rd w 1 (Go.Tw.encI .u32) A xs) (hv : ∀ x ∈ xs, 0 ≤ x ∧ x ≤ 4294967295 ∧ isVip x = true) (hl : xs.length ≤ 1099511627776) : Calls Try.prog 54 #[.slice A xs.length c, .func (.func 38) #[] #[]] w fun e w' => e = .returned (.int .i64 (-1)) ∧ Fr w w' [] := by
 refine enterD (n := 19) Try.func54 rfl rfl (Nat.le_of_ble_eq_true rfl) ?_
 intro Q0 hN hret hret'
 have hC := Cx.start w
 refine WCs (fun K1 hK2 => ?_)
 refine WCg (WLq 1 [(4, .int .i64 0)] (WLd rfl (QXn (hK2 _ _ ?_))))
 refine WCs (fun K3 hK4 => ?_)
 refine WCs (fun K5 hK6 => ?_)
 refine WCg (WLq 3 [(8, .int .i64 0), (7, .int .i64 (xs.length : Int)), (6, .slice A xs.length c)] (WLd rfl (QXn (hK6 _ _ ?_))))
 refine WC.block ?_
 refine WC.loop (fun m_ E_ w_ => ∃ (i : Nat), m_ = xs.length - i ∧ E_ = [(0, .slice A xs.length c), (1, .func (.func 38) #[] #[]), (7, .int .i64 (xs.length : Int)), (8, .int .i64 (i : Int))] ∧ Cx w [] w_ [] [] ∧ (i ≤ xs.length)) ⟨_, _, ⟨0, rfl, rfl, hC, Nat.zero_le _⟩, sub_of ⟨rfl, rfl, rfl, rfl, trivial⟩⟩ (fun m10 E_ ap K7 hK8 hI9 => ?_)
 obtain ⟨i, rfl, rfl, ab, hi⟩ := hI9
 refine WCs (fun ar ad => ?_)
 refine WCg (WLq 1 [(9, .bool (decide ((i : Int) < (xs.length : Int))))] (WLd rfl (QXn (ad _ _ ?_))))
 refine WCs (fun au ae => ?_)
 refine WCa 9 (decide ((i : Int) < (xs.length : Int))) rfl (fun ac => ?_) (fun ac => ?_)
 ·
  have aq : (i : Int) < (xs.length : Int) := by have q_ := of_decide_eq_true ac; omega
  refine WCt rfl ?_
  refine WC.skip ?_
  refine QXn (ae _ _ ?_)
  refine WCs (fun av af => ?_)
  refine WC.block ?_
  refine WCs (fun aw ag => ?_)
  refine WCg (WLq 2 [(5, .int .i64 (i : Int)), (10, .int .i64 (i : Int))] (WLd rfl (QXn (ag _ _ ?_))))
  refine WCs (fun ax ah => ?_)
  refine WCg (WLq 3 [(13, .int .i64 (i : Int)), (12, .slice A xs.length c), (11, .func (.func 38) #[] #[])] ?_)
  obtain ⟨ai, aa⟩ := get_some (xs := xs) (i := i) (by omega)
  obtain ⟨b26, o28, aj, ak⟩ := hr.at_ _ _ aa
  refine WLi A xs.length c 14 .i64 (i : Int) b26 o28 i 1 (by kernel_rfl) aj (by omega) (by omega) (o28 + i) (by first | (simp; done) | omega) ?_
  refine WLo 44 (.pointer (some ⟨b26, o28 + i, none⟩)) (.int .u32 ai) 15 (run_load1 rfl (by simpa [Nat.add_assoc] using ab.fr.cell (ak 0 _ rfl) (by simp))) ?_
  refine WLc rfl rfl rfl rfl rfl (by kernel_rfl) (notV_ct ai ap (hv _ (List.mem_of_getElem? aa)).1 (hv _ (List.mem_of_getElem? aa)).2.1) ?_
  rintro _ ay ⟨rfl, al⟩
  refine ⟨_, rfl, ?_⟩
  have am := ab.call al
  refine WLd rfl (QXn (ah _ _ ?_))
  refine WC.know 16 (.bool (!isVip ai)) (.bool false) rfl (congrArg Value.bool (by rw [(hv _ (List.mem_of_getElem? aa)).2.2]; rfl)) ?_
  refine WCf rfl (WC.skip ?_)
  refine QXb ?_
  refine QXn (af _ _ ?_)
  refine WCg (WLq 1 [(18, .int .i64 (IntKind.i64.wrap ((i : Int) + 1)))] ?_)
  refine WLt (show (.int .i64 (IntKind.i64.wrap ((i : Int) + 1)) : Value) = .int .i64 ((i : Int) + 1) from by rw [wrap_in_i64 ((i : Int) + 1) (by omega) (by omega)]) ?_
  refine WLq 1 [(8, .int .i64 ((i : Int) + 1))] ?_
  refine WLd rfl ?_
  refine QXn ?_
  have an := am.pick [] [] rfl rfl
  refine fun a_ ha_ => hK8 _ _ _ ?_ ⟨i + 1, rfl, rfl, an, by omega⟩ a_ (ha_.weaken (sub_of ⟨rfl, rfl, rfl, rfl, trivial⟩))
  omega
 ·
  have aq : (xs.length : Int) ≤ (i : Int) := by have q_ := of_decide_eq_false ac; omega
  refine WCf rfl ?_
  refine WC.exit ?_
  refine QXe ?_
  refine QXe ?_
  refine QX.block_hit ?_
  refine QXn (hK4 _ _ ?_)
  refine WCs (fun az ao => ?_)
  refine WCg (WLq 1 [(4, .int .i64 (-1))] (WLd rfl (QXn (ao _ _ ?_))))
  refine WC.ret ?_
  refine (hret _ _ _ rfl ?_).1
  exact ⟨rfl, ab.fr⟩

theorem DeleteF_ct (A : Option Addr) (c : Nat) (xs : List Int) (w : World) (hr : Rd w 1 (Go.Tw.encI .u32) A xs) (hv : ∀ x ∈ xs, 0 ≤ x ∧ x ≤ 4294967295 ∧ isVip x = true) (hl : xs.length ≤ 1099511627776) : Calls Try.prog 35 #[.slice A xs.length c, .func (.func 38) #[] #[]] w fun e w' => e = .returned (.slice A xs.length c) ∧ Fr w w' [] := by
 refine enterD (n := 42) Try.func35 rfl rfl (Nat.le_of_ble_eq_true rfl) ?_
 intro Q0 hN hret hret'
 have hC := Cx.start w
 refine WCs (fun K1 hK2 => ?_)
 refine WCg (WLq 1 [(4, .slice none 0 0)] (WLd rfl (QXn (hK2 _ _ ?_))))
 refine WCs (fun K3 hK4 => ?_)
 refine WCg (WLq 2 [(9, .func (.func 38) #[] #[]), (8, .slice A xs.length c)] ?_)
 refine WLc rfl rfl rfl rfl rfl (by kernel_rfl) (IndexF_ct A c xs w (Rd.fr hr hC.fr) hv hl) ?_
 rintro _ w6 ⟨rfl, hF5⟩
 refine ⟨_, rfl, ?_⟩
 have hC7 := hC.call hF5
 refine WLq 1 [(5, .int .i64 (-1))] (WLd rfl (QXn (hK4 _ _ ?_)))
 refine WCs (fun K8 hK9 => ?_)
 refine WCs (fun ac aa => ?_)
 refine WCg (WLq 2 [(12, .bool true), (11, .int .i64 (-1))] (WLd rfl (QXn (aa _ _ ?_))))
 refine WCt rfl ?_
 refine WCs (fun ad ab => ?_)
 refine WCg (WLq 2 [(4, .slice A xs.length c), (13, .slice A xs.length c)] (WLd rfl (QXn (ab _ _ ?_))))
 refine WC.ret ?_
 refine QXr ?_
 refine (hret _ _ _ rfl ?_).1
 exact ⟨rfl, hC7.fr⟩

theorem Compact1_ct (A : Option Addr) (c : Nat) (w : World) : Calls Try.prog 40 #[.slice A 1 c] w fun e w' => e = .returned (.slice A 1 c) ∧ Fr w w' [] := by
 refine enterD (n := 61) Try.func40 rfl rfl (Nat.le_of_ble_eq_true rfl) ?_
 intro Q0 hN hret hret'
 have hC := Cx.start w
 refine WCs (fun K1 hK2 => ?_)
 refine WCg (WLq 1 [(2, .slice none 0 0)] (WLd rfl (QXn (hK2 _ _ ?_))))
 refine WCs (fun K3 hK4 => ?_)
 refine WCs (fun K5 hK6 => ?_)
 refine WCg (WLq 3 [(8, .bool true), (7, .int .i64 1), (6, .slice A 1 c)] (WLd rfl (QXn (hK6 _ _ ?_))))
 refine WCt rfl ?_
 refine WCs (fun K7 hK8 => ?_)
 refine WCg (WLq 2 [(2, .slice A 1 c), (9, .slice A 1 c)] (WLd rfl (QXn (hK8 _ _ ?_))))
 refine WC.ret ?_
 refine QXr ?_
 refine (hret _ _ _ rfl ?_).1
 exact ⟨rfl, hC.fr⟩

theorem Equal1_ct (A : Option Addr) (c : Nat) (w : World) : Calls Try.prog 41 #[.slice A 1 c, .slice none 0 0] w fun e w' => e = .returned (.bool false) ∧ Fr w w' [] := by
 refine enterD (n := 26) Try.func41 rfl rfl (Nat.le_of_ble_eq_true rfl) ?_
 intro Q0 hN hret hret'
 have hC := Cx.start w
 refine WCs (fun K1 hK2 => ?_)
 refine WCg (WLq 1 [(4, .bool false)] (WLd rfl (QXn (hK2 _ _ ?_))))
 refine WCs (fun K3 hK4 => ?_)
 refine WCs (fun K5 hK6 => ?_)
 refine WCg (WLq 5 [(10, .bool true), (9, .int .i64 0), (8, .slice none 0 0), (7, .int .i64 1), (6, .slice A 1 c)] (WLd rfl (QXn (hK6 _ _ ?_))))
 refine WCt rfl ?_
 refine WCs (fun K7 hK8 => ?_)
 refine WCg (WLq 1 [(4, .bool false)] (WLd rfl (QXn (hK8 _ _ ?_))))
 refine WC.ret ?_
 refine QXr ?_
 refine (hret _ _ _ rfl ?_).1
 exact ⟨rfl, hC.fr⟩

set_option maxHeartbeats 1000000 in
theorem Announce1_ct (p : Nat) (boot v : Int) (A : Option Addr) (c : Nat) (w : World) (hp : w.heap[p]? = some (.cells #[.int .i64 boot, .bool false, .slice none 0 0, .slice none 0 0] 78 (0, 0))) (hr : Rd w 1 (Go.Tw.encI .u32) A [v]) (hv : 0 ≤ v ∧ v ≤ 4294967295 ∧ isVip v = true) : Calls Try.prog 12 #[.pointer (some ⟨p, 0, none⟩), .slice A 1 c] w fun e w' => e = .returned (.tuple #[]) ∧ Fr w w' [p] ∧ ∃ A2 c2, w'.heap[p]? = some (.cells #[.int .i64 boot, .bool false, .slice A2 1 c2, .slice none 0 0] 78 (0, 0)) ∧ w'.ownsRow w.heap.size 44 1 (.slice A2 1 c2) 1 ([v].flatMap (Go.Tw.encI .u32)) := by
 refine enterD (n := 34) Try.func12 rfl rfl (Nat.le_of_ble_eq_true rfl) ?_
 intro Q0 hN hret hret'
 have hC := Cx.startMs w [(p, .cells #[.int .i64 boot, .bool false, .slice none 0 0, .slice none 0 0] 78)] (by simp) (by simp [hp])
 refine WCs (fun K1 hK2 => ?_)
 refine WCs (fun K3 hK4 => ?_)
 refine WCg (WLq 2 [(6, .bool false), (5, .pointer (some ⟨p, 0, none⟩))] (WLd rfl (QXn (hK4 _ _ ?_))))
 refine WCf rfl (WC.skip (QXn (hK2 _ _ ?_)))
 refine WCs (fun K5 hK6 => ?_)
 refine WCg (WLq 1 [(7, .slice A 1 c)] ?_)
 refine WLc rfl rfl rfl rfl rfl (by kernel_rfl) (Values_ct A 1 c w) ?_
 rintro _ w8 ⟨g7, rfl, hF9, ao, ap⟩
 have ah := hC.callB hF9 ao ap
 refine ⟨_, rfl, ?_⟩
 have ai := (Fr.refl w []).trans hF9 (by simp)
 refine WLc rfl rfl rfl rfl rfl (by kernel_rfl) (Sorted_ct A c v g7 w8 (ah.get 1 rfl) (Rd.fr hr ai)) ?_
 rintro _ aL ⟨v_, rfl, aj, ad⟩
 have aq := ah.callN aj (own_ge ad) (own_lt ad)
 obtain ⟨ab, aa, rfl, aK⟩ := own_form ad
 have ak := own_base (b' := 0) ad (fun _ _ => Nat.zero_le _)
 refine ⟨_, rfl, ?_⟩
 have ar := ai.trans aj (by simp)
 refine WLc rfl rfl rfl rfl rfl (by kernel_rfl) (DeleteF_ct ab aa [v] aL (own_rd ak (Go.Tw.encI_len _) (by decide)) (by intro x_ h_; simp only [List.mem_cons, List.not_mem_nil, or_false] at h_; subst h_; exact hv) (by simp)) ?_
 rintro _ aM ⟨rfl, ae⟩
 refine ⟨_, rfl, ?_⟩
 have au := aq.call ae
 have av := ar.trans ae (by simp)
 have aw := own_fr ak ae (by simp)
 refine WLq 1 [(4, .slice ab 1 aa)] (WLd rfl (QXn (hK6 _ _ ?_)))
 refine WCs (fun aP ax => ?_)
 refine WCg (WLq 1 [(11, .slice ab 1 aa)] ?_)
 refine WLc rfl rfl rfl rfl rfl (by kernel_rfl) (Compact1_ct ab aa aM) ?_
 rintro _ aN ⟨rfl, af⟩
 refine ⟨_, rfl, ?_⟩
 have al := au.call af
 have ay := av.trans af (by simp)
 have am := own_fr aw af (by simp)
 refine WLq 1 [(4, .slice ab 1 aa)] (WLd rfl (QXn (ax _ _ ?_)))
 refine WCs (fun aQ az => ?_)
 refine WCg (WLq 3 [(15, .int .i64 1), (14, .slice ab 1 aa), (13, .slice ab 1 aa)] ?_)
 have aA : ∀ w_, Sem.run Try.prog (Builtin.min_ #[3, 3] 3 #[.int .i64 1, .int .i64 39]) w_ = .ok (.int .i64 (min (1 : Int) (39 : Int))) w_ := fun w_ => run_minI
 refine WL.sem (Builtin.min_ #[3, 3] 3 #[.int .i64 1, .int .i64 39]) 16 (.int .i64 (min (1 : Int) (39 : Int))) (by kernel_rfl) (aA _) ?_
 refine WLt (show (.int .i64 (min (1 : Int) (39 : Int)) : Value) = .int .i64 1 from rfl) ?_
 have hle_ := own_le am
 have aB : 1 ≤ aa := by omega
 refine WL.slc 33 44 1 ab ab 1 aa 0 1 1 aa none (some (.int .i64 1)) 17 (by kernel_rfl) (by kernel_rfl) bnd.no (bnd.yes (by omega)) (by omega) aB (slcAt_pre _ _ _) (by first | rfl | omega) (by first | rfl | omega) ?_
 have aC := own_takeE (m := 1) (Go.Tw.encI_len _) am (by omega)
 refine WLq 1 [(4, .slice ab 1 aa)] (WLd rfl (QXn (az _ _ ?_)))
 refine WCs (fun aR aD => ?_)
 refine WCs (fun aS aE => ?_)
 refine WCg (WLq 4 [(21, .pointer (some ⟨p, 2, none⟩)), (20, .pointer (some ⟨p, 0, none⟩)), (19, .pointer (some ⟨p, 0, none⟩)), (18, .slice ab 1 aa)] ?_)
 refine WLo 33 (.pointer (some ⟨p, 2, none⟩)) (.slice none 0 0) 22 (run_ld (al.get 0 rfl) rfl) ?_
 refine WLc rfl rfl rfl rfl rfl (by kernel_rfl) (Equal1_ct ab aa aN) ?_
 rintro _ aT ⟨rfl, ag⟩
 refine ⟨_, rfl, ?_⟩
 have an := al.call ag
 have aO := ay.trans ag (by simp)
 have aF := own_fr aC ag (by simp)
 refine WLd rfl (QXn (aE _ _ ?_))
 refine WCf rfl (WC.skip (QXn (aD _ _ ?_)))
 refine WCs (fun aU aG => ?_)
 refine WCg (WLq 4 [(27, .pointer (some ⟨p, 2, none⟩)), (26, .pointer (some ⟨p, 0, none⟩)), (25, .slice ab 1 aa), (24, .pointer (some ⟨p, 0, none⟩))] ?_)
 refine WLs (c' := #[.int .i64 boot, .bool false, .slice ab 1 aa, .slice none 0 0]) an 0 33 p 2 (.slice ab 1 aa) (by kernel_rfl) rfl (by kernel_rfl) (fun aV aH ac => ?_)
 have aI := own_fr aF aH (blk_al (n1 := 1) (c1 := aa) (an.apartM 0 0 rfl rfl))
 refine WLd rfl (QXn (aG _ _ ?_))
 refine WCs (fun aW aJ => ?_)
 refine WCg (WLq 3 [(30, .pointer (some ⟨p, 1, none⟩)), (29, .pointer (some ⟨p, 0, none⟩)), (28, .pointer (some ⟨p, 0, none⟩))] ?_)
 refine WLo 4 (.pointer (some ⟨p, 1, none⟩)) (.bool false) 31 (run_ld (ac.get 0 rfl) rfl) ?_
 refine WLd rfl (QXn (aJ _ _ ?_))
 refine WCf rfl (WC.skip ?_)
 refine (hret _ _ _ rfl ?_).2
 exact ⟨rfl, ac.fr, _, _, ac.get 0 rfl, own_base aI (newF_of ac 0 rfl (by intro x hx; simp at hx; subst hx; exact lt_of_heap hp) (by intro q_ hq_; simp at hq_; subst hq_; exact ac.notin 0 0 rfl rfl))⟩

end Go.Proofs.Ytmahghppojbeoaa
