/- Contracts of functions of the program, each proved by a walk through its code; conditions stand in the statements. -/
import Derived.Test.YtmahghppojbeoaaSeK
namespace Go.Proofs.Ytmahghppojbeoaa
set_option linter.unusedSimpArgs false
set_option linter.unusedVariables false
set_option linter.unusedSectionVars false
open Go Go.RowKit Go.Tw
set_option linter.unusedVariables false
set_option maxRecDepth 20000
theorem ls_shut {w' : World} {p mb : Nat} {R : List Nat} {es : Array MapEntry} {cl : Nat} {L : Lm} (h1 : w'.heap[p]? = some (.cells #[.map (some mb)] 89 (0, 0))) (h2 : w'.heap[mb]? = some (.map es cl)) (hm : MapOk ekI encO es cl L) (hr : lrows w' R L) (ho : lok L) (hne : p ≠ mb) (hp : p ∉ R) (hmb : mb ∉ R) : lsAt w' (p :: mb :: R) p L :=
  ⟨mb, R, es, cl, h1, h2, hm, hr, ho, rfl, hne, hp, hmb⟩
theorem one_rd2 {w w' : World} {p mb : Nat} {R : List Nat} {L : Lm} (h : lrows w R L) (hf : Fr w w' [p, mb]) (hp : p ∉ R) (hmb : mb ∉ R) (m : Int) : Rd w' 1 (Go.Tw.encI .u32) (oneOf L m).a (oneOf L m).vs := by
  unfold oneOf
  cases hl : lookL L m with
  | none => exact Rd.nil _ _ _ _
  | some o =>
    refine (h.rd _ (al_look_mem hl)).frN hf fun b off e hb => ?_
    have := h.inn _ (al_look_mem hl) b off e
    simp only [List.mem_cons, List.not_mem_nil, or_false] at hb
    rcases hb with rfl | rfl
    · exact hp this
    · exact hmb this
theorem one_len {L : Lm} (h : lok L) (m : Int) : (oneOf L m).vs.length ≤ 39 := by
  unfold oneOf
  cases hl : lookL L m with
  | none => exact Nat.zero_le _
  | some o => exact h.vs _ (al_look_mem hl)
theorem mux_step {L : Lm} {vip : Int} {i : Nat} {m : Int} (hm : (sesL L)[i]? = some m) (b : Bool) (hb : (oneOf L m).vs.contains vip = b) : ((sesL L).take (i + 1)).filter (fun m => (oneOf L m).vs.contains vip) = ((sesL L).take i).filter (fun m => (oneOf L m).vs.contains vip) ++ (if b then [m] else []) := by
  obtain ⟨hk, rfl⟩ := List.getElem?_eq_some_iff.1 hm
  rw [List.take_succ_eq_append_getElem hk, List.filter_append]
  congr 1
  rw [List.filter_cons, hb]
  cases b <;> rfl
theorem filter_take_len {α : Type} (p : α → Bool) (xs : List α) (k : Nat) : ((xs.take k).filter p).length ≤ xs.length := Nat.le_trans (List.length_filter_le _ _) (by rw [List.length_take]; omega)
theorem tick_end {L : Lm} {now : Int} {i : Nat} (h : L.length ≤ i) : tickK L now i = tickL L now ∧ ((sesL L).take i).filter (goneB L now) = goneL L now := by
  unfold tickL tickK goneL
  rw [List.take_of_length_le (by rw [sesL_len]; exact h), List.take_of_length_le (by rw [sesL_len]; exact Nat.le_refl _)]
  exact ⟨rfl, rfl⟩
theorem rows_up {w w' : World} {p mb : Nat} {R : List Nat} {L : Lm} (h : lrows w R L) (hf : Fr w w' [p, mb]) (hp : p ∉ R) (hmb : mb ∉ R) : lrows w' R L := h.fr hf fun x hx hb => by
  simp only [List.mem_cons, List.not_mem_nil, or_false] at hb
  rcases hb with rfl | rfl
  · exact hp hx
  · exact hmb hx
def tickR (L : Lm) (now : Int) : Lm := if timB now = true then tickL L now else L
def goneR (L : Lm) (now : Int) : List Int := if timB now = true then goneL L now else []
theorem tick_xv {L : Lm} (hn : (L.map (·.1)).Nodup) {now : Int} {k : Nat} {m : Int} {xv : One} (hm : (sesL L)[k]? = some m) (hx : (lookL (tickK L now k) m).getD zO = xv) : oneOf L m = xv := by
  unfold oneOf; rw [← tick_old hn hm]; exact hx
theorem tim_b {n : Int} (h : timB n = true) : 0 ≤ n ∧ n ≤ 1099511627776 := of_decide_eq_true h
/-! ### a word of a mux -/
structure okIn (from_ kind now : Int) (nums : List Int) : Prop where
  mux : muxB from_ = true
  tm : timB now = true
  ne : nums ≠ []
  bt : timB (nums.headD 0) = true
  vs : vok (nums.drop 1)
  len : (nums.drop 1).length ≤ 39
  one : kind = 12 ∨ nums.length = 1
inductive RecvR (L : Lm) (from_ kind now : Int) (nums : List Int) : Lm → Option (Int × Int) → Prop
  | bad (h : ¬ okIn from_ kind now nums) : RecvR L from_ kind now nums L none
  | opn (h : okIn from_ kind now nums) (hk : kind = 10) : RecvR L from_ kind now nums (putL L from_ ⟨nums.headD 0, now, none, 0, []⟩) (some (11, nums.headD 0))
  | cls (h : okIn from_ kind now nums) (hk : kind = 12 ∨ kind = 13) (hb : (lookL L from_).isSome = false ∨ (oneOf L from_).boot ≠ nums.headD 0) : RecvR L from_ kind now nums L (some (14, nums.headD 0))
  | rts (h : okIn from_ kind now nums) (hk : kind = 12) (hs : (lookL L from_).isSome = true) (hb : (oneOf L from_).boot = nums.headD 0) (a : Option Addr) (c : Nat) : RecvR L from_ kind now nums (putL L from_ ⟨(oneOf L from_).boot, now, a, c, nums.drop 1⟩) none
  | kep (h : okIn from_ kind now nums) (hk : kind = 13) (hs : (lookL L from_).isSome = true) (hb : (oneOf L from_).boot = nums.headD 0) : RecvR L from_ kind now nums (putL L from_ ⟨(oneOf L from_).boot, now, (oneOf L from_).a, (oneOf L from_).c, (oneOf L from_).vs⟩) none
  | oth (h : okIn from_ kind now nums) (hk : kind ≠ 10 ∧ kind ≠ 12 ∧ kind ≠ 13) : RecvR L from_ kind now nums L none
theorem head_of {N : List Int} {e : Int} (h : N[0]? = some e) : N.headD 0 = e := by
  cases N with
  | nil => cases h
  | cons a r => simpa using h
theorem ne_of0 {N : List Int} {e : Int} (h : N[0]? = some e) : N ≠ [] := by rintro rfl; cases h
theorem one_bt {L : Lm} (h : lok L) (m : Int) : 0 ≤ (oneOf L m).boot ∧ (oneOf L m).boot ≤ 1099511627776 := by
  unfold oneOf
  cases hl : lookL L m with
  | none => exact ⟨by decide, by decide⟩
  | some o => exact h.bt _ (al_look_mem hl)
theorem one_inn {w : World} {R : List Nat} {L : Lm} (h : lrows w R L) (m : Int) : ∀ b off, (oneOf L m).a = some ⟨b, off, none⟩ → b ∈ R := by
  unfold oneOf
  cases hl : lookL L m with
  | none => exact fun b off e => by cases e
  | some o => exact h.inn _ (al_look_mem hl)
theorem blk_one {A : Option Addr} {n c b off : Nat} (h : A = some ⟨b, off, none⟩) : b ∈ blk (.slice A n c) := by subst h; simp [blk, Value.ownBlock]
theorem recv_close {w' : World} {p mb : Nat} {R R2 : List Nat} {es : Array MapEntry} {cl : Nat} {L : Lm} {k : Int} {o : One} (h1 : w'.heap[p]? = some (.cells #[.map (some mb)] 89 (0, 0))) (h2 : w'.heap[mb]? = some (.map es cl)) (hm : MapOk ekI encO es cl (putL L k o)) (hr : lrows w' R L) (hn : (L.map (·.1)).Nodup) (ho : lok L)
    (hk : muxB k = true) (hb : 0 ≤ o.boot ∧ o.boot ≤ 1099511627776) (hh : 0 ≤ o.heard ∧ o.heard ≤ 1099511627776) (hv : o.vs.length ≤ 39) (hrd : Rd w' 1 (Go.Tw.encI .u32) o.a o.vs) (hi : ∀ b off, o.a = some ⟨b, off, none⟩ → b ∈ R ++ R2) (hl : ∀ x ∈ R2, x < w'.heap.size)
    (hne : p ≠ mb) (hp : p ∉ R) (hp2 : p ∉ R2) (hmb : mb ∉ R) (hmb2 : mb ∉ R2) : lsAt w' (p :: mb :: (R ++ R2)) p (putL L k o) :=
  ls_shut h1 h2 hm (lrows_put hr hn hrd hi hl) (lok_put ho hn hk hb hh hv) hne (fun h => (List.mem_append.1 h).elim hp hp2) (fun h => (List.mem_append.1 h).elim hmb hmb2)
theorem contains_idx {xs : List Int} {x : Int} {i : Nat} {e : Int} (he : xs[i]? = some e) (h : x = e) : xs.contains x = true := by
  rw [List.contains_iff_mem]; subst h; exact List.mem_of_getElem? he
theorem contains_all {xs : List Int} {x : Int} (h : (xs.all fun e => !(x == e)) = true) : xs.contains x = false := by
  rw [List.all_eq_true] at h
  rw [← Bool.not_eq_true, List.contains_iff_mem]
  intro hx; have := h x hx; simp at this
theorem all_snoc {xs : List Int} {x : Int} {i : Nat} {e : Int} (he : xs[i]? = some e) (hm : ((xs.take i).all fun e => !(x == e)) = true) (h : ¬ x = e) : ((xs.take (i + 1)).all fun e => !(x == e)) = true := by
  obtain ⟨hi, rfl⟩ := List.getElem?_eq_some_iff.1 he
  rw [List.take_succ_eq_append_getElem hi, List.all_append, hm]; simpa using h
theorem newF_of {w0 w : World} {F0 : List Nat} {M : List (Nat × Obj)} {Fs : List (List Nat)} {F : List Nat} (h : Cx w0 F0 w M Fs) (j : Nat) (hj : Fs[j]? = some F) (_h0 : ∀ x ∈ F0, x < w0.heap.size) (hn : ∀ q ∈ F0, q ∉ F) : ∀ x ∈ F, w0.heap.size ≤ x := fun x hx => by
  rcases h.ownF F (List.mem_of_getElem? hj) x hx with h1 | h1
  · exact absurd hx (hn x h1)
  · exact h1

theorem NewL_ct  (w : World) : Calls Try.prog 22 #[] w fun e w' => ∃ p F, e = .returned (.pointer (some ⟨p, 0, none⟩)) ∧ Fr w w' [] ∧ lsAt w' F p [] ∧ ∀ x ∈ F, w.heap.size ≤ x := by
 refine enterD (n := 4) Try.func22 rfl rfl (Nat.le_of_ble_eq_true rfl) ?_
 intro Q0 hN hret hret'
 have hC := Cx.start w
 refine WCs (fun K1 hK2 => ?_)
 refine WCg (WLq 1 [(0, .pointer none)] (WLd rfl (QXn (hK2 _ _ ?_))))
 refine WCs (fun K3 hK4 => ?_)
 refine WCg ?_
 refine WL.newM hC (fun b => .map (some b)) (.map #[] 0) 1 (fun _ => by kernel_rfl) (fun g5 w6 hb9 hF7 hC8 => ?_)
 refine WLq 1 [(2, .agg #[.map (some g5)])] ?_
 refine WL.newM hC8 (fun b => .pointer (some ⟨b, 0, none⟩)) (.cells #[.map (some g5)] 89) 3 (fun _ => by kernel_rfl) (fun ab ae ac ad aa => ?_)
 refine WLq 1 [(0, .pointer (some ⟨ab, 0, none⟩))] (WLd rfl (QXn (hK4 _ _ ?_)))
 refine WC.ret ?_
 refine (hret _ _ _ rfl ?_).1
 exact ⟨ab, _, rfl, aa.fr, ls_shut (R := []) (aa.get 1 rfl) (aa.get 0 rfl) (MapOk.nil ekI encO) (lrows_nil _) lok_nil (aa.ne 1 0 rfl rfl (by decide)) (by simp) (by simp), fun x_ hx_ => by
  simp only [List.mem_cons, List.not_mem_nil, or_false] at hx_
  rcases hx_ with rfl | rfl
  ·
   exact (aa.new_ge 1 rfl).resolve_left (by simp)
  ·
   exact (aa.new_ge 0 rfl).resolve_left (by simp)⟩

theorem Sessions_ct (F : List Nat) (p : Nat) (L : Lm) (w : World) (ht : lsAt w F p L) : Calls Try.prog 28 #[.pointer (some ⟨p, 0, none⟩)] w fun e w' => ∃ v, e = .returned v ∧ Fr w w' [] ∧ w'.ownsRow w.heap.size 3 1 v L.length ((sesL L).flatMap (Go.Tw.encI .i64)) := by
 refine enterD (n := 11) Try.func28 rfl rfl (Nat.le_of_ble_eq_true rfl) ?_
 intro Q0 hN hret hret'
 have ht0 := ht
 obtain ⟨mb, R, es, cl, hp_, hmb_, hm_, hr_, hok_, rfl, hne_, hpR_, hmR_⟩ := ht
 have hk_ := hm_.keys
 have hl8_ := lok_len hok_ hk_
 have hsl_ := sesL_len L
 have hC := Cx.startMs w [(p, .cells #[.map (some mb)] 89), (mb, .map es cl)] (by simp [hne_]) (by simp [hp_, hmb_])
 refine WCs (fun K1 hK2 => ?_)
 refine WCg (WLq 1 [(2, .slice none 0 0)] (WLd rfl (QXn (hK2 _ _ ?_))))
 refine WCs (fun K3 hK4 => ?_)
 refine WCs (fun K5 hK6 => ?_)
 refine WCg (WLq 2 [(4, .bool false), (3, .pointer (some ⟨p, 0, none⟩))] (WLd rfl (QXn (hK6 _ _ ?_))))
 refine WCf rfl (WC.skip (QXn (hK4 _ _ ?_)))
 refine WCs (fun K7 hK8 => ?_)
 refine WCg (WLq 3 [(7, .pointer (some ⟨p, 0, none⟩)), (6, .pointer (some ⟨p, 0, none⟩)), (5, .pointer (some ⟨p, 0, none⟩))] ?_)
 refine WLo 87 (.pointer (some ⟨p, 0, none⟩)) (.map (some mb)) 8 (run_ld (hC.get 0 rfl) rfl) ?_
 refine WLc rfl rfl rfl rfl rfl (by kernel_rfl) (Go.Proofs.SkKeys.keys (some mb) w) ?_
 rintro _ _ ⟨rfl, rfl⟩
 refine ⟨_, rfl, ?_⟩
 have ab := hC.alloc (.cells #[.map (some mb)] 87)
 have hF9 : Fr w (w.alloc (.cells #[.map (some mb)] 87)) [] := Fr.alloc _ _
 have ae := (Fr.refl w []).trans hF9 (by simp)
 refine WLc rfl rfl rfl rfl rfl (by kernel_rfl) (keys_ct mb w.heap.size _ _ L (w.alloc (.cells #[.map (some mb)] 87)) (ab.get 2 rfl) (ab.get 1 rfl) hm_ hok_) ?_
 rintro _ ak ⟨v_, rfl, ad, aa⟩
 have ac := ab.callN ad (own_ge aa) (own_lt aa)
 obtain ⟨ai, aj, rfl, ah⟩ := own_form aa
 have af := own_base (b' := 0) aa (fun _ _ => Nat.zero_le _)
 refine ⟨_, rfl, ?_⟩
 have ag := ae.trans ad (by simp)
 refine WLq 1 [(2, .slice ai L.length aj)] (WLd rfl (QXn (hK8 _ _ ?_)))
 refine WC.ret ?_
 refine (hret _ _ _ rfl ?_).1
 exact ⟨_, rfl, ag, own_base af (newF_of ac 0 rfl (by intro x hx; simp at hx; rcases hx with rfl | rfl; exact lt_of_heap hp_; exact lt_of_heap hmb_) (by intro q_ hq_; simp at hq_; rcases hq_ with rfl | rfl; exact ac.notin 0 0 rfl rfl; exact ac.notin 0 1 rfl rfl))⟩

theorem IndexA_ct (A : Option Addr) (c : Nat) (xs : List Int) (x : Int) (w : World) (hr : Rd w 1 (Go.Tw.encI .u32) A xs) (hlen : xs.length ≤ 1099511627776) : Calls Try.prog 59 #[.slice A xs.length c, .int .u32 x] w fun e w' => ∃ r : Int, e = .returned (.int .i64 r) ∧ Fr w w' [] ∧ decide (0 ≤ r) = xs.contains x := by
 refine enterD (n := 19) Try.func59 rfl rfl (Nat.le_of_ble_eq_true rfl) ?_
 intro Q0 hN hret hret'
 have hC := Cx.start w
 refine WCs (fun K1 hK2 => ?_)
 refine WCg (WLq 1 [(4, .int .i64 0)] (WLd rfl (QXn (hK2 _ _ ?_))))
 refine WCs (fun K3 hK4 => ?_)
 refine WCs (fun K5 hK6 => ?_)
 refine WCg (WLq 3 [(8, .int .i64 0), (7, .int .i64 (xs.length : Int)), (6, .slice A xs.length c)] (WLd rfl (QXn (hK6 _ _ ?_))))
 refine WC.block ?_
 refine WC.loop (fun m_ E_ w_ => ∃ (i : Nat), m_ = xs.length - i ∧ E_ = [(0, .slice A xs.length c), (1, .int .u32 x), (7, .int .i64 (xs.length : Int)), (8, .int .i64 (i : Int))] ∧ Cx w [] w_ [] [] ∧ (i ≤ xs.length ∧ ((xs.take i).all fun e => !(x == e)) = true)) ⟨_, _, ⟨0, rfl, rfl, hC, Nat.zero_le _, rfl⟩, sub_of ⟨rfl, rfl, rfl, rfl, trivial⟩⟩ (fun m10 E_ ar K7 hK8 hI9 => ?_)
 obtain ⟨i, rfl, rfl, aa, hi, hall⟩ := hI9
 refine WCs (fun au ab => ?_)
 refine WCg (WLq 1 [(9, .bool (decide ((i : Int) < (xs.length : Int))))] (WLd rfl (QXn (ab _ _ ?_))))
 refine WCs (fun av ac => ?_)
 refine WCa 9 (decide ((i : Int) < (xs.length : Int))) rfl (fun ad => ?_) (fun ad => ?_)
 ·
  have ap : (i : Int) < (xs.length : Int) := by have q_ := of_decide_eq_true ad; omega
  refine WCt rfl ?_
  refine WC.skip ?_
  refine QXn (ac _ _ ?_)
  refine WCs (fun aw ag => ?_)
  refine WC.block ?_
  refine WCs (fun ax ah => ?_)
  refine WCg (WLq 2 [(5, .int .i64 (i : Int)), (10, .int .i64 (i : Int))] (WLd rfl (QXn (ah _ _ ?_))))
  refine WCs (fun ay ai => ?_)
  refine WCg (WLq 3 [(13, .int .i64 (i : Int)), (12, .slice A xs.length c), (11, .int .u32 x)] ?_)
  obtain ⟨aj, ae⟩ := get_some (xs := xs) (i := i) (by omega)
  obtain ⟨b26, o28, am, an⟩ := hr.at_ _ _ ae
  refine WLi A xs.length c 14 .i64 (i : Int) b26 o28 i 1 (by kernel_rfl) am (by omega) (by omega) (o28 + i) (by first | (simp; done) | omega) ?_
  refine WLo 44 (.pointer (some ⟨b26, o28 + i, none⟩)) (.int .u32 aj) 15 (run_load1 rfl (by simpa [Nat.add_assoc] using aa.fr.cell (an 0 _ rfl) (by simp))) ?_
  refine WLq 1 [(16, .bool (x == aj))] (WLd rfl (QXn (ai _ _ ?_)))
  refine WCa 16 (x == aj) rfl (fun af => ?_) (fun af => ?_)
  ·
   have aq : x = aj := by simpa using af
   refine WCt rfl ?_
   refine WCs (fun az ak => ?_)
   refine WCg (WLq 2 [(4, .int .i64 (i : Int)), (17, .int .i64 (i : Int))] (WLd rfl (QXn (ak _ _ ?_))))
   refine WC.ret ?_
   refine QXk ?_
   refine QXr ?_
   refine QXr ?_
   refine QXk ?_
   refine QXr ?_
   refine (hret _ _ _ rfl ?_).1
   clear hN hret hret' ak ai ah ag ac ab hK6 hK4 hK2
   exact ⟨_, rfl, aa.fr, by rw [contains_idx ae (by assumption)]; simp⟩
  ·
   have aq : ¬ (x = aj) := by simpa using af
   refine WCf rfl (WC.skip ?_)
   refine QXb ?_
   refine QXn (ag _ _ ?_)
   refine WCg (WLq 1 [(18, .int .i64 (IntKind.i64.wrap ((i : Int) + 1)))] ?_)
   refine WLt (show (.int .i64 (IntKind.i64.wrap ((i : Int) + 1)) : Value) = .int .i64 ((i : Int) + 1) from by rw [wrap_in_i64 ((i : Int) + 1) (by omega) (by omega)]) ?_
   refine WLq 1 [(8, .int .i64 ((i : Int) + 1))] ?_
   refine WLd rfl ?_
   refine QXn ?_
   have ao := aa.pick [] [] rfl rfl
   refine fun a_ ha_ => hK8 _ _ _ ?_ ⟨i + 1, rfl, rfl, ao, by omega, all_snoc ae hall (by assumption)⟩ a_ (ha_.weaken (sub_of ⟨rfl, rfl, rfl, rfl, trivial⟩))
   omega
 ·
  have ap : (xs.length : Int) ≤ (i : Int) := by have q_ := of_decide_eq_false ad; omega
  refine WCf rfl ?_
  refine WC.exit ?_
  refine QXe ?_
  refine QXe ?_
  refine QX.block_hit ?_
  refine QXn (hK4 _ _ ?_)
  refine WCs (fun aA al => ?_)
  refine WCg (WLq 1 [(4, .int .i64 (-1))] (WLd rfl (QXn (al _ _ ?_))))
  refine WC.ret ?_
  refine (hret _ _ _ rfl ?_).1
  clear hN hret hret' al ac ab hK6 hK4 hK2
  rw [List.take_of_length_le (by omega)] at hall
  exact ⟨_, rfl, aa.fr, by rw [contains_all hall]; rfl⟩

theorem ContA_ct (A : Option Addr) (c : Nat) (xs : List Int) (x : Int) (w : World) (hr : Rd w 1 (Go.Tw.encI .u32) A xs) (hlen : xs.length ≤ 1099511627776) : Calls Try.prog 48 #[.slice A xs.length c, .int .u32 x] w fun e w' => e = .returned (.bool (xs.contains x)) ∧ Fr w w' [] := by
 refine enterD (n := 9) Try.func48 rfl rfl (Nat.le_of_ble_eq_true rfl) ?_
 intro Q0 hN hret hret'
 have hC := Cx.start w
 refine WCs (fun K1 hK2 => ?_)
 refine WCg (WLq 1 [(4, .bool false)] (WLd rfl (QXn (hK2 _ _ ?_))))
 refine WCs (fun K3 hK4 => ?_)
 refine WCg (WLq 2 [(6, .int .u32 x), (5, .slice A xs.length c)] ?_)
 refine WLc rfl rfl rfl rfl rfl (by kernel_rfl) (IndexA_ct A c xs x w (Rd.fr hr hC.fr) hlen) ?_
 rintro _ w7 ⟨r5, rfl, hF6, hrc_⟩
 refine ⟨_, rfl, ?_⟩
 have hC8 := hC.call hF6
 refine WLq 2 [(4, .bool (decide (r5 ≥ 0))), (8, .bool (decide (r5 ≥ 0)))] (WLd rfl (QXn (hK4 _ _ ?_)))
 refine WC.ret ?_
 refine (hret _ _ _ rfl ?_).1
 exact ⟨by show Ending.returned (.bool (decide (_ ≥ (0 : Int)))) = _; rw [← hrc_], hC8.fr⟩

set_option maxHeartbeats 1000000 in
theorem Muxes_ct (F : List Nat) (p : Nat) (L : Lm) (vip : Int) (w : World) (ht : lsAt w F p L) : Calls Try.prog 27 #[.pointer (some ⟨p, 0, none⟩), .int .u32 vip] w fun e w' => ∃ v, e = .returned v ∧ Fr w w' [] ∧ w'.ownsRow w.heap.size 3 1 v (muxesL L vip).length ((muxesL L vip).flatMap (Go.Tw.encI .i64)) := by
 refine enterD (n := 30) Try.func27 rfl rfl (Nat.le_of_ble_eq_true rfl) ?_
 intro Q0 hN hret hret'
 have ht0 := ht
 obtain ⟨mb, R, es, cl, hp_, hmb_, hm_, hr_, hok_, rfl, hne_, hpR_, hmR_⟩ := ht
 have hk_ := hm_.keys
 have hl8_ := lok_len hok_ hk_
 have hsl_ := sesL_len L
 have hC := Cx.startMs w [(p, .cells #[.map (some mb)] 89), (mb, .map es cl)] (by simp [hne_]) (by simp [hp_, hmb_])
 refine WCs (fun K1 hK2 => ?_)
 refine WCg (WLq 1 [(4, .slice none 0 0)] (WLd rfl (QXn (hK2 _ _ ?_))))
 refine WCs (fun K3 hK4 => ?_)
 refine WCg (WLq 1 [(5, .slice none 0 0)] (WLd rfl (QXn (hK4 _ _ ?_))))
 refine WCs (fun K5 hK6 => ?_)
 refine WCs (fun K7 hK8 => ?_)
 refine WCg (WLq 1 [(8, .pointer (some ⟨p, 0, none⟩))] ?_)
 refine WLc rfl rfl rfl rfl rfl (by kernel_rfl) (Sessions_ct _ p L w (lsAt_fr ht0 (Fr.refl w []) (by simp))) ?_
 rintro _ a1 ⟨v_, rfl, ai, ho9⟩
 have ay := hC.callN ai (own_ge ho9) (own_lt ho9)
 obtain ⟨aw, ax, rfl, aS⟩ := own_form ho9
 have az := own_base (b' := 0) ho9 (fun _ _ => Nat.zero_le _)
 refine ⟨_, rfl, ?_⟩
 have aX := (Fr.refl w []).trans ai (by simp)
 refine WLq 2 [(11, .int .i64 0), (10, .int .i64 (L.length : Int))] (WLd rfl (QXn (hK8 _ _ ?_)))
 refine WC.block ?_
 have aA := ay.addNil
 refine WC.loop (fun m_ E_ w_ => ∃ (i : Nat) (A5 : Option Addr) (n5 c5 : Nat), m_ = L.length - i ∧ E_ = [(0, .pointer (some ⟨p, 0, none⟩)), (1, .int .u32 vip), (4, .slice none 0 0), (5, .slice A5 n5 c5), (9, .slice aw L.length ax), (10, .int .i64 (L.length : Int)), (11, .int .i64 (i : Int))] ∧ Cx w [p, mb] w_ [(p, .cells #[.map (some mb)] 89), (mb, .map es cl)] [blk (.slice aw L.length ax), blk (.slice A5 n5 c5)] ∧ World.ownsRow w_ 0 3 1 (.slice aw L.length ax) L.length ((sesL L).flatMap (Go.Tw.encI .i64)) ∧ World.ownsRow w_ 0 3 1 (.slice A5 n5 c5) n5 ((((sesL L).take i).filter (fun m => (oneOf L m).vs.contains vip)).flatMap (Go.Tw.encI .i64)) ∧ (i ≤ L.length)) ⟨_, _, ⟨0, none, 0, 0, rfl, rfl, aA, az, own_nil _ _ _ _, Nat.zero_le _⟩, sub_of ⟨rfl, rfl, rfl, rfl, rfl, rfl, rfl, trivial⟩⟩ (fun m23 E_ aT a2 aj aB => ?_)
 obtain ⟨i, A5, n5, c5, rfl, rfl, aa, ses_m23, hrow, hi⟩ := aB
 have hcn_ := own_count (Go.Tw.encI_len _) (by decide) hrow
 have hfl_ := filter_take_len (fun m => (oneOf L m).vs.contains vip) (sesL L) i
 refine WCs (fun a3 ak => ?_)
 refine WCg (WLq 1 [(12, .bool (decide ((i : Int) < (L.length : Int))))] (WLd rfl (QXn (ak _ _ ?_))))
 refine WCs (fun a4 al => ?_)
 refine WCa 12 (decide ((i : Int) < (L.length : Int))) rfl (fun ae => ?_) (fun ae => ?_)
 ·
  have aY : (i : Int) < (L.length : Int) := by have q_ := of_decide_eq_true ae; omega
  refine WCt rfl ?_
  refine WC.skip ?_
  refine QXn (al _ _ ?_)
  refine WCs (fun a5 am => ?_)
  refine WC.block ?_
  refine WCs (fun a6 aC => ?_)
  refine WCg ?_
  have aZ := own_count (Go.Tw.encI_len _) (by decide) ses_m23
  obtain ⟨ab, ad⟩ := get_some (xs := (sesL L)) (i := i) (by omega)
  obtain ⟨b37, an⟩ := own_addr (by decide) (Go.Tw.encI_len _) ses_m23 ad
  refine WLi aw L.length ax 13 .i64 (i : Int) b37 0 i 1 (by kernel_rfl) an (by omega) (by omega) i (by first | (simp; done) | omega) ?_
  refine WLo 3 (.pointer (some ⟨b37, i, none⟩)) (.int .i64 ab) 14 (run_load1 rfl (by simpa [Nat.add_assoc] using Rd.cell (own_rd ses_m23 (Go.Tw.encI_len _) (by decide)) an ad 0 _ rfl)) ?_
  refine WLq 1 [(7, .int .i64 ab)] (WLd rfl (QXn (aC _ _ ?_)))
  refine WCs (fun a7 aD => ?_)
  refine WCg (WLq 3 [(17, .pointer (some ⟨p, 0, none⟩)), (16, .pointer (some ⟨p, 0, none⟩)), (15, .pointer (some ⟨p, 0, none⟩))] ?_)
  refine WLo 87 (.pointer (some ⟨p, 0, none⟩)) (.map (some mb)) 18 (run_ld (aa.get 0 rfl) rfl) ?_
  refine WLq 1 [(19, .int .i64 ab)] ?_
  obtain ⟨xv42, ac⟩ : ∃ x_, (lookL L ab).getD zO = x_ := ⟨_, rfl⟩
  obtain ⟨bv44, aU⟩ : ∃ b_, (lookL L ab).isSome = b_ := ⟨_, rfl⟩
  have aE := lookM_1 (P := Try.prog) (w := aT) (ek := ekI) (ev := encO) (d := zO) (rfl : Program.underlying Try.prog 87 = some (.map 3 91)) keyI' (fun _ => by kernel_rfl) (aa.get 1 rfl) hm_ ab ac
  refine WL.sem (Instr.lookup 87 (.map (some mb)) (.int .i64 ab) false) 20 (.agg #[.int .i64 xv42.boot, .int .i64 xv42.heard, .slice xv42.a xv42.vs.length xv42.c]) (by kernel_rfl) aE ?_
  refine WLq 2 [(22, .int .u32 vip), (21, .slice xv42.a xv42.vs.length xv42.c)] ?_
  refine WLc rfl rfl rfl rfl rfl (by kernel_rfl) (ContA_ct xv42.a xv42.c xv42.vs vip aT ((show oneOf L ab = xv42 from ac) ▸ one_rd2 hr_ aa.fr hpR_ hmR_ ab) (by have q_ := one_len hok_ ab; rw [show oneOf L ab = xv42 from ac] at q_; omega)) ?_
  rintro _ a8 ⟨rfl, af⟩
  refine ⟨_, rfl, ?_⟩
  have ao := aa.call af
  have ap := own_fr ses_m23 af (by simp)
  have aq := own_fr hrow af (by simp)
  refine WLd rfl (QXn (aD _ _ ?_))
  refine WCa 23 (xv42.vs.contains vip) rfl (fun ag => ?_) (fun ag => ?_)
  ·
   refine WCt rfl ?_
   refine WCg (WLq 2 [(25, .int .i64 ab), (24, .slice A5 n5 c5)] ?_)
   refine WL.newM ao (fun b => .slice (some ⟨b, 0, none⟩) 1 1) (.cells #[.int .i64 ab] 3) 26 (fun _ => by kernel_rfl) (fun aV a9 a0 ar ah => ?_)
   have aF := own_fr ap ar (by simp)
   have aG := own_fr aq ar (by simp)
   obtain ⟨ba, bb, aH, aI, aJ, aK, aL, aM⟩ := app_run Try.prog ah 1 (v := .slice A5 n5 c5) rfl 37 37 3 1 8 n5 1 1 (some ⟨aV, 0, none⟩) rfl aG [.int .i64 ab] rfl (srcOk.blk 1 (ah.get 2 rfl)) rfl (by simp only [maxLen]; omega) (by omega)
   have au := own_snoc (enc := (Go.Tw.encI .i64)) (ys := (((sesL L).take i).filter (fun m => (oneOf L m).vs.contains vip))) ab aI
   obtain ⟨aN, aO, rfl, aW⟩ := own_form au
   refine WL.sem (Builtin.append_ #[37, 37] 37 #[.slice A5 n5 c5, .slice (some ⟨aV, 0, none⟩) 1 1]) 27 (.slice aN (n5 + 1) aO) (by kernel_rfl) aH ?_
   have aP := own_fr aF aJ (ah.disj 0 1 rfl rfl (by decide))
   refine WLq 1 [(5, .slice aN (n5 + 1) aO)] ?_
   refine WLd rfl ?_
   refine QXb ?_
   refine QXn (am _ _ ?_)
   refine WCg (WLq 1 [(28, .int .i64 (IntKind.i64.wrap ((i : Int) + 1)))] ?_)
   refine WLt (show (.int .i64 (IntKind.i64.wrap ((i : Int) + 1)) : Value) = .int .i64 ((i : Int) + 1) from by rw [wrap_in_i64 ((i : Int) + 1) (by omega) (by omega)]) ?_
   refine WLq 1 [(11, .int .i64 ((i : Int) + 1))] ?_
   refine WLd rfl ?_
   refine QXn ?_
   have aQ := aK.pick [0, 1] [0, 1] rfl rfl
   refine fun a_ ha_ => aj _ _ _ ?_ ⟨i + 1, aN, n5 + 1, aO, rfl, rfl, aQ, aP, (by rw [mux_step ad true (by rw [show oneOf L ab = xv42 from ac]; exact ag)]; exact au), by omega⟩ a_ (ha_.weaken (sub_of ⟨rfl, rfl, rfl, rfl, rfl, rfl, rfl, trivial⟩))
   omega
  ·
   refine WCf rfl (WC.skip ?_)
   refine QXb ?_
   refine QXn (am _ _ ?_)
   refine WCg (WLq 1 [(28, .int .i64 (IntKind.i64.wrap ((i : Int) + 1)))] ?_)
   refine WLt (show (.int .i64 (IntKind.i64.wrap ((i : Int) + 1)) : Value) = .int .i64 ((i : Int) + 1) from by rw [wrap_in_i64 ((i : Int) + 1) (by omega) (by omega)]) ?_
   refine WLq 1 [(11, .int .i64 ((i : Int) + 1))] ?_
   refine WLd rfl ?_
   refine QXn ?_
   have aR := ao.pick [0, 1] [0, 1] rfl rfl
   refine fun a_ ha_ => aj _ _ _ ?_ ⟨i + 1, A5, n5, c5, rfl, rfl, aR, ap, (by rw [mux_step ad false (by rw [show oneOf L ab = xv42 from ac]; exact ag)]; simpa using aq), by omega⟩ a_ (ha_.weaken (sub_of ⟨rfl, rfl, rfl, rfl, rfl, rfl, rfl, trivial⟩))
   omega
 ·
  have aY : (L.length : Int) ≤ (i : Int) := by have q_ := of_decide_eq_false ae; omega
  refine WCf rfl ?_
  refine WC.exit ?_
  refine QXe ?_
  refine QXe ?_
  refine QX.block_hit ?_
  refine QXn (hK6 _ _ ?_)
  refine WCs (fun bc av => ?_)
  refine WCg (WLq 2 [(4, .slice A5 n5 c5), (29, .slice A5 n5 c5)] (WLd rfl (QXn (av _ _ ?_))))
  refine WC.ret ?_
  refine (hret _ _ _ rfl ?_).1
  clear hN hret hret' av al ak hK8 hK6 hK4 hK2
  have ho_ := hrow
  rw [List.take_of_length_le (by omega)] at ho_ hcn_
  exact ⟨_, rfl, aa.fr.shrink (by intro x hx; simp only [List.mem_cons, List.not_mem_nil, or_false] at hx; rcases hx with rfl | rfl; exact (aa.get 0 rfl).trans hp_.symm; exact (aa.get 1 rfl).trans hmb_.symm), own_base (show World.ownsRow _ 0 _ _ _ (muxesL L vip).length ((muxesL L vip).flatMap (Go.Tw.encI .i64)) from by rw [show (muxesL L vip).length = n5 from hcn_]; exact ho_) (newF_of aa 1 rfl (by intro x hx; simp at hx; rcases hx with rfl | rfl; exact lt_of_heap hp_; exact lt_of_heap hmb_) (by intro q_ hq_; simp at hq_; rcases hq_ with rfl | rfl; exact aa.notin 1 0 rfl rfl; exact aa.notin 1 1 rfl rfl))⟩

set_option maxHeartbeats 1000000 in
theorem Tick_ct (F : List Nat) (p : Nat) (L : Lm) (now : Int) (w : World) (ht : lsAt w F p L) : Calls Try.prog 23 #[.pointer (some ⟨p, 0, none⟩), .int .i64 now] w fun e w' => ∃ v, e = .returned v ∧ Fr w w' F ∧ lsAt w' F p (tickR L now) ∧ w'.ownsRow w.heap.size 3 1 v (goneR L now).length ((goneR L now).flatMap (Go.Tw.encI .i64)) := by
 refine enterD (n := 43) Try.func23 rfl rfl (Nat.le_of_ble_eq_true rfl) ?_
 intro Q0 hN hret hret'
 have ht0 := ht
 obtain ⟨mb, R, es, cl, hp_, hmb_, hm_, hr_, hok_, rfl, hne_, hpR_, hmR_⟩ := ht
 have hk_ := hm_.keys
 have hl8_ := lok_len hok_ hk_
 have hsl_ := sesL_len L
 have hC := Cx.startMs w [(p, .cells #[.map (some mb)] 89), (mb, .map es cl)] (by simp [hne_]) (by simp [hp_, hmb_])
 refine WCs (fun K1 hK2 => ?_)
 refine WCg (WLq 1 [(4, .slice none 0 0)] (WLd rfl (QXn (hK2 _ _ ?_))))
 refine WCs (fun K3 hK4 => ?_)
 refine WCs (fun K5 hK6 => ?_)
 refine WCg (WLq 4 [(11, .int .i64 now), (10, .bool false), (9, .bool false), (8, .pointer (some ⟨p, 0, none⟩))] ?_)
 refine WLc rfl rfl rfl rfl rfl (by kernel_rfl) (goodTime_ct now w) ?_
 rintro _ w8 ⟨rfl, hF7⟩
 refine ⟨_, rfl, ?_⟩
 have hC9 := hC.call hF7
 have ae := (Fr.refl w []).trans hF7 (by simp)
 refine WLq 2 [(14, .bool (!(timB now))), (13, .bool (!(timB now)))] (WLd rfl (QXn (hK6 _ _ ?_)))
 refine WCa 14 (!(timB now)) rfl (fun ad => ?_) (fun ad => ?_)
 ·
  have al : (timB now) = false := by first | (simpa only [Bool.not_eq_true', Bool.not_eq_false'] using ad) | simpa using ad
  refine WCt rfl ?_
  refine WCs (fun bd aD => ?_)
  refine WCg (WLq 1 [(4, .slice none 0 0)] (WLd rfl (QXn (aD _ _ ?_))))
  refine WC.ret ?_
  refine QXr ?_
  refine (hret _ _ _ rfl ?_).1
  exact ⟨_, rfl, ae.mono (by simp), by unfold tickR; rw [if_neg (by rw [al]; simp)]; exact lsAt_fr ht0 ae (by simp), by unfold goneR; rw [if_neg (by rw [al]; simp)]; exact own_nil _ _ _ _⟩
 ·
  have al : (timB now) = true := by first | (simpa only [Bool.not_eq_true', Bool.not_eq_false'] using ad) | simpa using ad
  refine WCf rfl (WC.skip (QXn (hK4 _ _ ?_)))
  refine WCs (fun be am => ?_)
  refine WCg (WLq 1 [(5, .slice none 0 0)] (WLd rfl (QXn (am _ _ ?_))))
  refine WCs (fun bf an => ?_)
  refine WCs (fun bg ao => ?_)
  refine WCg (WLq 1 [(15, .pointer (some ⟨p, 0, none⟩))] ?_)
  refine WLc rfl rfl rfl rfl rfl (by kernel_rfl) (Sessions_ct _ p L w8 (lsAt_fr ht0 ae (by simp))) ?_
  rintro _ bh ⟨v_, rfl, ap, af⟩
  have aE := hC9.callN ap (own_ge af) (own_lt af)
  obtain ⟨aB, aC, rfl, a3⟩ := own_form af
  have aF := own_base (b' := 0) af (fun _ _ => Nat.zero_le _)
  refine ⟨_, rfl, ?_⟩
  have a7 := ae.trans ap (by simp)
  refine WLq 2 [(18, .int .i64 0), (17, .int .i64 (L.length : Int))] (WLd rfl (QXn (ao _ _ ?_)))
  refine WC.block ?_
  have aG := aE.addNil
  refine WC.loop (fun m_ E_ w_ => ∃ (i : Nat) (A5 : Option Addr) (n5 c5 : Nat) (es5 : Array MapEntry) (cl5 : Nat), m_ = L.length - i ∧ E_ = [(0, .pointer (some ⟨p, 0, none⟩)), (1, .int .i64 now), (4, .slice none 0 0), (5, .slice A5 n5 c5), (16, .slice aB L.length aC), (17, .int .i64 (L.length : Int)), (18, .int .i64 (i : Int))] ∧ Cx w [p, mb] w_ [(p, .cells #[.map (some mb)] 89), (mb, .map es5 cl5)] [blk (.slice aB L.length aC), blk (.slice A5 n5 c5)] ∧ World.ownsRow w_ 0 3 1 (.slice aB L.length aC) L.length ((sesL L).flatMap (Go.Tw.encI .i64)) ∧ World.ownsRow w_ 0 3 1 (.slice A5 n5 c5) n5 ((((sesL L).take i).filter (goneB L now)).flatMap (Go.Tw.encI .i64)) ∧ (i ≤ L.length ∧ MapOk ekI encO es5 cl5 (tickK L now i))) ⟨_, _, ⟨0, none, 0, 0, es, cl, rfl, rfl, aG, aF, own_nil _ _ _ _, Nat.zero_le _, hm_⟩, sub_of ⟨rfl, rfl, rfl, rfl, rfl, rfl, rfl, trivial⟩⟩ (fun m34 E_ a8 bi aq aH => ?_)
  obtain ⟨i, A5, n5, c5, es5, cl5, rfl, rfl, aa, ses_m34, hrow, hi, hm5⟩ := aH
  have hcn_ := own_count (Go.Tw.encI_len _) (by decide) hrow
  have hfl_ := filter_take_len (goneB L now) (sesL L) i
  obtain ⟨hnw0_, hnw1_⟩ := tim_b al
  refine WCs (fun bj ar => ?_)
  refine WCg (WLq 1 [(19, .bool (decide ((i : Int) < (L.length : Int))))] (WLd rfl (QXn (ar _ _ ?_))))
  refine WCs (fun bk au => ?_)
  refine WCa 19 (decide ((i : Int) < (L.length : Int))) rfl (fun ai => ?_) (fun ai => ?_)
  ·
   have a9 : (i : Int) < (L.length : Int) := by have q_ := of_decide_eq_true ai; omega
   refine WCt rfl ?_
   refine WC.skip ?_
   refine QXn (au _ _ ?_)
   refine WCs (fun bl av => ?_)
   refine WC.block ?_
   refine WCs (fun bm aI => ?_)
   refine WCg ?_
   have ba := own_count (Go.Tw.encI_len _) (by decide) ses_m34
   obtain ⟨ab, ac⟩ := get_some (xs := (sesL L)) (i := i) (by omega)
   obtain ⟨b48, aw⟩ := own_addr (by decide) (Go.Tw.encI_len _) ses_m34 ac
   refine WLi aB L.length aC 20 .i64 (i : Int) b48 0 i 1 (by kernel_rfl) aw (by omega) (by omega) i (by first | (simp; done) | omega) ?_
   refine WLo 3 (.pointer (some ⟨b48, i, none⟩)) (.int .i64 ab) 21 (run_load1 rfl (by simpa [Nat.add_assoc] using Rd.cell (own_rd ses_m34 (Go.Tw.encI_len _) (by decide)) aw ac 0 _ rfl)) ?_
   refine WLq 1 [(7, .int .i64 ab)] (WLd rfl (QXn (aI _ _ ?_)))
   refine WCs (fun bn aJ => ?_)
   refine WCg (WLq 4 [(25, .pointer (some ⟨p, 0, none⟩)), (24, .pointer (some ⟨p, 0, none⟩)), (23, .pointer (some ⟨p, 0, none⟩)), (22, .int .i64 now)] ?_)
   refine WLo 87 (.pointer (some ⟨p, 0, none⟩)) (.map (some mb)) 26 (run_ld (aa.get 0 rfl) rfl) ?_
   refine WLq 1 [(27, .int .i64 ab)] ?_
   obtain ⟨xv53, ah⟩ : ∃ x_, (lookL (tickK L now i) ab).getD zO = x_ := ⟨_, rfl⟩
   obtain ⟨bv55, a4⟩ : ∃ b_, (lookL (tickK L now i) ab).isSome = b_ := ⟨_, rfl⟩
   have aK := lookM_1 (P := Try.prog) (w := a8) (ek := ekI) (ev := encO) (d := zO) (rfl : Program.underlying Try.prog 87 = some (.map 3 91)) keyI' (fun _ => by kernel_rfl) (aa.get 1 rfl) hm5 ab ah
   refine WL.sem (Instr.lookup 87 (.map (some mb)) (.int .i64 ab) false) 28 (.agg #[.int .i64 xv53.boot, .int .i64 xv53.heard, .slice xv53.a xv53.vs.length xv53.c]) (by kernel_rfl) aK ?_
   have hxo_ := tick_xv hk_ ac ah
   obtain ⟨hhd0_, hhd1_⟩ := one_hd hok_ ab
   rw [hxo_] at hhd0_ hhd1_
   refine WLq 2 [(30, .int .i64 (IntKind.i64.wrap (now - xv53.heard))), (29, .int .i64 xv53.heard)] ?_
   refine WLt (show (.int .i64 (IntKind.i64.wrap (now - xv53.heard)) : Value) = .int .i64 (now - xv53.heard) from by rw [wrap_in_i64 (now - xv53.heard) (by omega) (by omega)]) ?_
   refine WLq 1 [(31, .bool (decide ((now - xv53.heard) > 12)))] (WLd rfl (QXn (aJ _ _ ?_)))
   refine WCa 31 (decide ((now - xv53.heard) > 12)) rfl (fun aj => ?_) (fun aj => ?_)
   ·
    have bb : (12 : Int) < (now - xv53.heard) := by have q_ := of_decide_eq_true aj; omega
    refine WCt rfl ?_
    refine WCs (fun bo aL => ?_)
    refine WCg (WLq 2 [(33, .int .i64 ab), (32, .slice A5 n5 c5)] ?_)
    refine WL.newM aa (fun b => .slice (some ⟨b, 0, none⟩) 1 1) (.cells #[.int .i64 ab] 3) 34 (fun _ => by kernel_rfl) (fun a5 bp bc ax ak => ?_)
    have aM := own_fr ses_m34 ax (by simp)
    have aN := own_fr hrow ax (by simp)
    obtain ⟨bq, br, aO, aP, aQ, ag, aR, aS⟩ := app_run Try.prog ak 1 (v := .slice A5 n5 c5) rfl 37 37 3 1 8 n5 1 1 (some ⟨a5, 0, none⟩) rfl aN [.int .i64 ab] rfl (srcOk.blk 1 (ak.get 2 rfl)) rfl (by simp only [maxLen]; omega) (by omega)
    have ay := own_snoc (enc := (Go.Tw.encI .i64)) (ys := (((sesL L).take i).filter (goneB L now))) ab aP
    obtain ⟨aT, aU, rfl, a6⟩ := own_form ay
    refine WL.sem (Builtin.append_ #[37, 37] 37 #[.slice A5 n5 c5, .slice (some ⟨a5, 0, none⟩) 1 1]) 35 (.slice aT (n5 + 1) aU) (by kernel_rfl) aO ?_
    have aV := own_fr aM aQ (ak.disj 0 1 rfl rfl (by decide))
    refine WLq 1 [(5, .slice aT (n5 + 1) aU)] (WLd rfl (QXn (aL _ _ ?_)))
    refine WCg (WLq 3 [(38, .pointer (some ⟨p, 0, none⟩)), (37, .pointer (some ⟨p, 0, none⟩)), (36, .pointer (some ⟨p, 0, none⟩))] ?_)
    refine WLo 87 (.pointer (some ⟨p, 0, none⟩)) (.map (some mb)) 39 (run_ld (ag.get 0 rfl) rfl) ?_
    refine WLq 1 [(40, .int .i64 ab)] ?_
    obtain ⟨bs, es82, aW, az, aX, aY⟩ := delM_run (P := Try.prog) (ek := ekI) (ev := encO) (ty := 0) ag 1 rfl (rfl : Program.underlying Try.prog 87 = some (.map 3 91)) keyI' hm5 ab 3
    refine WL.semN (Builtin.delete_ #[87, 3] 0 #[.map (some mb), .int .i64 ab]) _ (by kernel_rfl) aW ?_
    have aZ := own_fr aV az (ag.apartM 0 1 rfl rfl)
    have a0 := own_fr ay az (ag.apartM 1 1 rfl rfl)
    refine WLd rfl ?_
    refine QXb ?_
    refine QXn (av _ _ ?_)
    refine WCg (WLq 1 [(41, .int .i64 (IntKind.i64.wrap ((i : Int) + 1)))] ?_)
    refine WLt (show (.int .i64 (IntKind.i64.wrap ((i : Int) + 1)) : Value) = .int .i64 ((i : Int) + 1) from by rw [wrap_in_i64 ((i : Int) + 1) (by omega) (by omega)]) ?_
    refine WLq 1 [(18, .int .i64 ((i : Int) + 1))] ?_
    refine WLd rfl ?_
    refine QXn ?_
    have a1 := aX.pick [0, 1] [0, 1] rfl rfl
    refine fun a_ ha_ => aq _ _ _ ?_ ⟨i + 1, aT, n5 + 1, aU, es82, cl5, rfl, rfl, a1, aZ, (by rw [(tick_gone ac (show goneB L now ab = true from by unfold goneB; rw [hxo_]; exact decide_eq_true (by omega))).2]; exact a0), by omega, by rw [(tick_gone ac (show goneB L now ab = true from by unfold goneB; rw [hxo_]; exact decide_eq_true (by omega))).1]; exact aY⟩ a_ (ha_.weaken (sub_of ⟨rfl, rfl, rfl, rfl, rfl, rfl, rfl, trivial⟩))
    omega
   ·
    have bb : (now - xv53.heard) ≤ 12 := by have q_ := of_decide_eq_false aj; omega
    refine WCf rfl (WC.skip ?_)
    refine QXb ?_
    refine QXn (av _ _ ?_)
    refine WCg (WLq 1 [(41, .int .i64 (IntKind.i64.wrap ((i : Int) + 1)))] ?_)
    refine WLt (show (.int .i64 (IntKind.i64.wrap ((i : Int) + 1)) : Value) = .int .i64 ((i : Int) + 1) from by rw [wrap_in_i64 ((i : Int) + 1) (by omega) (by omega)]) ?_
    refine WLq 1 [(18, .int .i64 ((i : Int) + 1))] ?_
    refine WLd rfl ?_
    refine QXn ?_
    have a2 := aa.pick [0, 1] [0, 1] rfl rfl
    refine fun a_ ha_ => aq _ _ _ ?_ ⟨i + 1, A5, n5, c5, es5, cl5, rfl, rfl, a2, ses_m34, (by rw [(tick_stay ac (show goneB L now ab = false from by unfold goneB; rw [hxo_]; exact decide_eq_false (by omega))).2]; exact hrow), by omega, by rw [(tick_stay ac (show goneB L now ab = false from by unfold goneB; rw [hxo_]; exact decide_eq_false (by omega))).1]; exact hm5⟩ a_ (ha_.weaken (sub_of ⟨rfl, rfl, rfl, rfl, rfl, rfl, rfl, trivial⟩))
    omega
  ·
   have a9 : (L.length : Int) ≤ (i : Int) := by have q_ := of_decide_eq_false ai; omega
   refine WCf rfl ?_
   refine WC.exit ?_
   refine QXe ?_
   refine QXe ?_
   refine QX.block_hit ?_
   refine QXn (an _ _ ?_)
   refine WCs (fun bt aA => ?_)
   refine WCg (WLq 2 [(4, .slice A5 n5 c5), (42, .slice A5 n5 c5)] (WLd rfl (QXn (aA _ _ ?_))))
   refine WC.ret ?_
   refine (hret _ _ _ rfl ?_).1
   clear hN hret hret' aA au ar ao an am hK6 hK4 hK2
   have ho_ := hrow
   obtain ⟨hte1_, hte2_⟩ := tick_end (L := L) (now := now) (i := i) (by omega)
   rw [hte2_] at ho_ hcn_
   rw [hte1_] at hm5
   refine ⟨_, rfl, aa.fr.mono (fun x_ h_ => by simp only [List.mem_cons, List.not_mem_nil, or_false] at h_ ⊢; rcases h_ with rfl | rfl; exact .inl rfl; exact .inr (.inl rfl)), ?_, ?_⟩
   ·
    unfold tickR; rw [if_pos al]
    exact ls_shut (aa.get 0 rfl) (aa.get 1 rfl) hm5 (rows_up (lrows_tick hr_ hk_ now L.length) aa.fr hpR_ hmR_) (lok_tick hok_ hk_ now L.length) hne_ hpR_ hmR_
   ·
    unfold goneR; rw [if_pos al]
    exact own_base (show World.ownsRow _ 0 _ _ _ (goneL L now).length ((goneL L now).flatMap (Go.Tw.encI .i64)) from by rw [show (goneL L now).length = n5 from hcn_]; exact ho_) (newF_of aa 1 rfl (by intro x hx; simp at hx; rcases hx with rfl | rfl; exact lt_of_heap hp_; exact lt_of_heap hmb_) (by intro q_ hq_; simp at hq_; rcases hq_ with rfl | rfl; exact aa.notin 1 0 rfl rfl; exact aa.notin 1 1 rfl rfl))

end Go.Proofs.Ytmahghppojbeoaa
