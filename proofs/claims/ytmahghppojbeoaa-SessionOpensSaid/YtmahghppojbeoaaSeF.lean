/- Contracts of functions of the program, each proved by a walk through its code; conditions stand in the statements. -/
import Derived.Test.YtmahghppojbeoaaSeE
namespace Go.Proofs.Ytmahghppojbeoaa
set_option linter.unusedSimpArgs false
set_option linter.unusedVariables false
set_option linter.unusedSectionVars false
open Go Go.RowKit Go.Tw
set_option linter.unusedVariables false
set_option maxRecDepth 20000
theorem vok_nil : vok [] := fun k x h => absurd h (Nat.not_lt_zero _)
theorem vok_one {v : Int} (h : 0 ≤ v ∧ v < 4294967296 ∧ isVip v = true) : vok [v] := fun k x hk hx => by
  have hk0 : k = 0 := by simp at hk; exact hk
  subst hk0
  simp at hx; subst hx
  exact ⟨h, fun y h0 => absurd h0 (Nat.lt_irrefl _)⟩
theorem recv_opn {L L' : Lm} {f now : Int} {N : List Int} {ans : Option (Int × Int)} (h : okIn f 10 now N) (hz : RecvR L f 10 now N L' ans) : L' = putL L f ⟨N.headD 0, now, none, 0, []⟩ ∧ ans = some (11, N.headD 0) := by
  cases hz with
  | bad hb => exact absurd h hb
  | opn _ _ => exact ⟨rfl, rfl⟩
  | cls _ hk _ => rcases hk with hk | hk <;> cases hk
  | rts _ hk _ _ _ _ => cases hk
  | kep _ hk _ _ => cases hk
  | oth _ hk => exact absurd rfl hk.1
theorem recv_rts {L L' : Lm} {f now : Int} {N : List Int} {ans : Option (Int × Int)} (h : okIn f 12 now N) (hs : (lookL L f).isSome = true) (hb : (oneOf L f).boot = N.headD 0) (hz : RecvR L f 12 now N L' ans) : (∃ a c, L' = putL L f ⟨(oneOf L f).boot, now, a, c, N.drop 1⟩) ∧ ans = none := by
  cases hz with
  | bad hb => exact absurd h hb
  | opn _ hk => cases hk
  | cls _ _ hx => rcases hx with hx | hx
                  · rw [hs] at hx; cases hx
                  · exact absurd hb hx
  | rts _ _ _ _ a c => exact ⟨⟨a, c, rfl⟩, rfl⟩
  | kep _ hk _ _ => cases hk
  | oth _ hk => exact absurd rfl hk.2.1
theorem put1 (k : Int) (o o' : One) : putL [(k, o)] k o' = [(k, o')] := by simp [putL]
theorem look1 (k : Int) (o : One) : lookL [(k, o)] k = some o := by simp [lookL]
theorem one1 (k : Int) (o : One) : oneOf [(k, o)] k = o := by unfold oneOf; rw [look1]; rfl
theorem ses1 (k : Int) (o : One) : sesL [(k, o)] = [k] := by simp [sesL]
theorem mux1 (k v : Int) (o : One) : muxesL [(k, o)] v = if o.vs.contains v then [k] else [] := by
  unfold muxesL; rw [ses1, List.filter_cons, one1]; rfl
theorem gone1 (k now : Int) (o : One) : goneL [(k, o)] now = if 12 < now - o.heard then [k] else [] := by
  unfold goneL goneB; rw [ses1, List.filter_cons, one1]; simp
theorem tick1 (k now : Int) (o : One) : tickL [(k, o)] now = if 12 < now - o.heard then [] else [(k, o)] := by
  unfold tickL tickK goneB; rw [ses1, List.take_of_length_le (by simp), List.filter_cons, one1]
  by_cases h : 12 < now - o.heard
  · rw [if_pos (by simpa using h), if_pos h]; simp [delL]
  · rw [if_neg (by simpa using h), if_neg h]; rfl
theorem goneR1 (k now : Int) (o : One) (ht : timB now = true) : goneR [(k, o)] now = if 12 < now - o.heard then [k] else [] := by unfold goneR; rw [if_pos ht, gone1]
theorem tickR1 (k now : Int) (o : One) (ht : timB now = true) : tickR [(k, o)] now = if 12 < now - o.heard then [] else [(k, o)] := by unfold tickR; rw [if_pos ht, tick1]
theorem okIn_a1 : okIn 32 10 4 [0] := ⟨rfl, rfl, by simp, rfl, vok_nil, by simp, .inr rfl⟩
theorem okIn_a2 : okIn 32 12 5 [0, 16843009] := ⟨rfl, rfl, by simp, rfl, vok_one (by decide), by simp, .inl rfl⟩
theorem ls_open1 {w : World} {F : List Nat} {p : Nat} {f b now : Int} {L' : Lm} {N : List Int} (h : lsAt w F p L') (e : L' = putL [] f ⟨N.headD 0, now, none, 0, []⟩) (hb : N.headD 0 = b) : lsAt w F p [(f, ⟨b, now, none, 0, []⟩)] := by subst e hb; exact h
theorem ls_rts1 {w : World} {F : List Nat} {p : Nat} {f now : Int} {o : One} {L' : Lm} {N : List Int} {a : Option Addr} {c : Nat} (h : lsAt w F p L') (e : L' = putL [(f, o)] f ⟨(oneOf [(f, o)] f).boot, now, a, c, N.drop 1⟩) : lsAt w F p [(f, ⟨o.boot, now, a, c, N.drop 1⟩)] := by subst e; rw [put1, one1] at h; exact h
theorem ints_take {xs ys : List Int} {i : Nat} {a b : Int} (hm : xs.take i = ys.take i) (ha : xs[i]? = some a) (hb : ys[i]? = some b) (h : a = b) : xs.take (i + 1) = ys.take (i + 1) := by
  obtain ⟨h1, rfl⟩ := List.getElem?_eq_some_iff.1 ha
  obtain ⟨h2, rfl⟩ := List.getElem?_eq_some_iff.1 hb
  rw [List.take_succ_eq_append_getElem h1, List.take_succ_eq_append_getElem h2, hm, h]
theorem ints_end {xs ys : List Int} {i : Nat} (hm : xs.take i = ys.take i) (h1 : ¬ i < xs.length) (h2 : xs.length = ys.length) : xs = ys := by
  rw [List.take_of_length_le (by omega), List.take_of_length_le (by omega)] at hm; exact hm
theorem ints_ne {xs ys : List Int} {i : Nat} {a b : Int} (ha : xs[i]? = some a) (hb : ys[i]? = some b) (h : ¬ a = b) : xs ≠ ys := by
  intro e; subst e; rw [ha] at hb; exact h (Option.some.inj hb)

theorem Ints_ct (A B : Option Addr) (c c2 : Nat) (xs ys : List Int) (w : World) (hA : Rd w 1 (Go.Tw.encI .i64) A xs) (hB : Rd w 1 (Go.Tw.encI .i64) B ys) (h1 : xs.length ≤ 9223372036854775807) (h2 : ys.length ≤ 9223372036854775807) : Calls Try.prog 32 #[.slice A xs.length c, .slice B ys.length c2] w fun e w' => e = .returned (.bool (decide (xs = ys))) ∧ Fr w w' [] := by
 refine enterD (n := 26) Try.func32 rfl rfl (Nat.le_of_ble_eq_true rfl) ?_
 intro Q0 hN hret hret'
 have hC := Cx.start w
 refine WCs (fun K1 hK2 => ?_)
 refine WCg (WLq 1 [(4, .bool false)] (WLd rfl (QXn (hK2 _ _ ?_))))
 refine WCs (fun K3 hK4 => ?_)
 refine WCs (fun K5 hK6 => ?_)
 refine WCg (WLq 5 [(10, .bool ((xs.length : Int) != (ys.length : Int))), (9, .int .i64 (ys.length : Int)), (8, .slice B ys.length c2), (7, .int .i64 (xs.length : Int)), (6, .slice A xs.length c)] (WLd rfl (QXn (hK6 _ _ ?_))))
 refine WCa 10 ((xs.length : Int) != (ys.length : Int)) rfl (fun t7b => ?_) (fun t7b => ?_)
 ·
  have t7 : (xs.length : Int) ≠ (ys.length : Int) := by simpa using t7b
  refine WCt rfl ?_
  refine WCs (fun K8 hK9 => ?_)
  refine WCg (WLq 1 [(4, .bool false)] (WLd rfl (QXn (hK9 _ _ ?_))))
  refine WC.ret ?_
  refine QXr ?_
  refine (hret _ _ _ rfl ?_).1
  exact ⟨by rw [decide_eq_false (fun e_ => by subst e_; omega)]; rfl, hC.fr⟩
 ·
  have t7 : (xs.length : Int) = (ys.length : Int) := by simpa using t7b
  refine WCf rfl (WC.skip (QXn (hK4 _ _ ?_)))
  refine WCs (fun aE aj => ?_)
  refine WCs (fun aF ak => ?_)
  refine WCg (WLq 3 [(13, .int .i64 0), (12, .int .i64 (xs.length : Int)), (11, .slice A xs.length c)] (WLd rfl (QXn (ak _ _ ?_))))
  refine WC.block ?_
  refine WC.loop (fun m_ E_ w_ => ∃ (i : Nat), m_ = xs.length - i ∧ E_ = [(0, .slice A xs.length c), (1, .slice B ys.length c2), (12, .int .i64 (xs.length : Int)), (13, .int .i64 (i : Int))] ∧ Cx w [] w_ [] [] ∧ (i ≤ xs.length ∧ xs.take i = ys.take i)) ⟨_, _, ⟨0, rfl, rfl, hC, Nat.zero_le _, rfl⟩, sub_of ⟨rfl, rfl, rfl, rfl, trivial⟩⟩ (fun m17 E_ aG aH al am => ?_)
  obtain ⟨i, rfl, rfl, ag, hi, htk⟩ := am
  refine WCs (fun aI an => ?_)
  refine WCg (WLq 1 [(14, .bool (decide ((i : Int) < (xs.length : Int))))] (WLd rfl (QXn (an _ _ ?_))))
  refine WCs (fun aJ ao => ?_)
  refine WCa 14 (decide ((i : Int) < (xs.length : Int))) rfl (fun ad => ?_) (fun ad => ?_)
  ·
   have aB : (i : Int) < (xs.length : Int) := by have q_ := of_decide_eq_true ad; omega
   refine WCt rfl ?_
   refine WC.skip ?_
   refine QXn (ao _ _ ?_)
   refine WCs (fun aK ap => ?_)
   refine WC.block ?_
   refine WCs (fun aL aq => ?_)
   refine WCg (WLq 2 [(5, .int .i64 (i : Int)), (15, .int .i64 (i : Int))] (WLd rfl (QXn (aq _ _ ?_))))
   refine WCs (fun aM ar => ?_)
   refine WC.drawC ag [] (by kernel_rfl) (fun aN aC ac aa => ?_)
   refine WDq (NPt (NPb (NPt (NPt (NPb (NPt hN)))))) 0 16 (.slice A xs.length c) aa ?_
   refine WDq (NPt (NPb (NPt (NPt (NPb (NPt hN)))))) 1 17 (.int .i64 (i : Int)) aa ?_
   obtain ⟨ah, ae⟩ := get_some (xs := xs) (i := i) (by omega)
   obtain ⟨b37, o39, au, av⟩ := hA.at_ _ _ ae
   refine WDi (NPt (NPb (NPt (NPt (NPb (NPt hN)))))) 2 A xs.length c 18 .i64 (i : Int) b37 o39 i 1 (by kernel_rfl) (by kernel_rfl) au (by omega) (by omega) (o39 + i) (by first | (simp; done) | omega) aa ?_
   refine WDq (NPt (NPb (NPt (NPt (NPb (NPt hN)))))) 4 20 (.slice B ys.length c2) aa ?_
   refine WDq (NPt (NPb (NPt (NPt (NPb (NPt hN)))))) 5 21 (.int .i64 (i : Int)) aa ?_
   obtain ⟨ai, af⟩ := get_some (xs := ys) (i := i) (by omega)
   obtain ⟨b43, o45, aw, ax⟩ := hB.at_ _ _ af
   refine WDi (NPt (NPb (NPt (NPt (NPb (NPt hN)))))) 6 B ys.length c2 22 .i64 (i : Int) b43 o45 i 1 (by kernel_rfl) (by kernel_rfl) aw (by omega) (by omega) (o45 + i) (by first | (simp; done) | omega) aa ?_
   refine WDm (NPt (NPb (NPt (NPt (NPb (NPt hN)))))) 3 3 (.pointer (some ⟨b37, o39 + i, none⟩)) (.int .i64 ah) 19 (fun _ hS_ => run_load1 rfl (by simpa [Nat.add_assoc] using Fr.cell hS_ (ac.fr.cell (av 0 _ rfl) (by simp)) (by simp))) aa ?_
   refine WDm (NPt (NPb (NPt (NPt (NPb (NPt hN)))))) 7 3 (.pointer (some ⟨b43, o45 + i, none⟩)) (.int .i64 ai) 23 (fun _ hS_ => run_load1 rfl (by simpa [Nat.add_assoc] using Fr.cell hS_ (ac.fr.cell (ax 0 _ rfl) (by simp)) (by simp))) aa ?_
   refine WDq (NPt (NPb (NPt (NPt (NPb (NPt hN)))))) 8 24 (.bool (ah != ai)) aa ?_
   refine WD.done (by kernel_rfl) ?_
   refine QXn (ar _ _ ?_)
   refine WCa 24 (ah != ai) rfl (fun ab => ?_) (fun ab => ?_)
   ·
    have aD : ah ≠ ai := by simpa using ab
    refine WCt rfl ?_
    refine WCs (fun aO ay => ?_)
    refine WCg (WLq 1 [(4, .bool false)] (WLd rfl (QXn (ay _ _ ?_))))
    refine WC.ret ?_
    refine QXk ?_
    refine QXr ?_
    refine QXr ?_
    refine QXk ?_
    refine QXr ?_
    refine (hret _ _ _ rfl ?_).1
    exact ⟨by rw [decide_eq_false (ints_ne ae af (by simpa using ab))]; rfl, ac.fr⟩
   ·
    have aD : ah = ai := by simpa using ab
    refine WCf rfl (WC.skip ?_)
    refine QXb ?_
    refine QXn (ap _ _ ?_)
    refine WCg (WLq 1 [(25, .int .i64 (IntKind.i64.wrap ((i : Int) + 1)))] ?_)
    refine WLt (show (.int .i64 (IntKind.i64.wrap ((i : Int) + 1)) : Value) = .int .i64 ((i : Int) + 1) from by rw [wrap_in_i64 ((i : Int) + 1) (by omega) (by omega)]) ?_
    refine WLq 1 [(13, .int .i64 ((i : Int) + 1))] ?_
    refine WLd rfl ?_
    refine QXn ?_
    have az := ac.pick [] [] rfl rfl
    refine fun a_ ha_ => al _ _ _ ?_ ⟨i + 1, rfl, rfl, az, by omega, ints_take htk ae af (by simpa using ab)⟩ a_ (ha_.weaken (sub_of ⟨rfl, rfl, rfl, rfl, trivial⟩))
    omega
  ·
   have aB : (xs.length : Int) ≤ (i : Int) := by have q_ := of_decide_eq_false ad; omega
   refine WCf rfl ?_
   refine WC.exit ?_
   refine QXe ?_
   refine QXe ?_
   refine QX.block_hit ?_
   refine QXn (aj _ _ ?_)
   refine WCs (fun aP aA => ?_)
   refine WCg (WLq 1 [(4, .bool true)] (WLd rfl (QXn (aA _ _ ?_))))
   refine WC.ret ?_
   refine (hret _ _ _ rfl ?_).1
   exact ⟨by rw [decide_eq_true (ints_end htk (by omega) (by omega))]; rfl, ag.fr⟩

theorem Ints_n (A B : Option Addr) (n c n2 c2 : Nat) (xs ys : List Int) (w : World) (hA : Rd w 1 (Go.Tw.encI .i64) A xs) (hn : xs.length = n) (hB : Rd w 1 (Go.Tw.encI .i64) B ys) (hn2 : ys.length = n2) (h1 : n ≤ 9223372036854775807) (h2 : n2 ≤ 9223372036854775807) : Calls Try.prog 32 #[.slice A n c, .slice B n2 c2] w fun e w' => e = .returned (.bool (decide (xs = ys))) ∧ Fr w w' [] := by subst hn hn2; exact Ints_ct A B c c2 xs ys w hA hB h1 h2
theorem Recv_n (F : List Nat) (p : Nat) (L : Lm) (from_ kind now : Int) (An : Option Addr) (n cn : Nat) (nums : List Int) (Ad : Option Addr) (dn dc : Nat) (w : World) (ht : lsAt w F p L) (hf0 : isI64 from_) (hrn : Rd w 1 (Go.Tw.encI .i64) An nums) (hn : nums.length = n) (hnl : n ≤ 1099511627776) (hnc : n ≤ cn) : Calls Try.prog 30 #[.pointer (some ⟨p, 0, none⟩), .int .i64 from_, .agg #[.int .i64 kind, .slice An n cn, .slice Ad dn dc], .int .i64 now] w fun e w' => (∃ F' L', e = .returned (.tuple #[.agg #[.int .i64 0, .slice none 0 0, .slice none 0 0], .bool false]) ∧ Fr w w' F ∧ lsAt w' F' p L' ∧ (∀ x ∈ F', x ∈ F ∨ w.heap.size ≤ x) ∧ RecvR L from_ kind now nums L' none) ∨ (∃ F' L' k b A2 c2, e = .returned (.tuple #[.agg #[.int .i64 k, .slice A2 1 c2, .slice none 0 0], .bool true]) ∧ Fr w w' F ∧ lsAt w' F' p L' ∧ (∀ x ∈ F', x ∈ F ∨ w.heap.size ≤ x) ∧ RecvR L from_ kind now nums L' (some (k, b)) ∧ w'.ownsRow w.heap.size 3 1 (.slice A2 1 c2) 1 ([b].flatMap (Go.Tw.encI .i64)) ∧ ∀ x ∈ F', x ∉ blk (.slice A2 1 c2)) := by
  subst hn
  exact Recv_ct F p L from_ kind now An cn nums Ad dn dc w ht hf0 hrn hnl hnc
theorem Muxes_e (F : List Nat) (p : Nat) (L : Lm) (vip : Int) (Y : List Int) (he : muxesL L vip = Y) (w : World) (ht : lsAt w F p L) : Calls Try.prog 27 #[.pointer (some ⟨p, 0, none⟩), .int .u32 vip] w fun e w' => ∃ v, e = .returned v ∧ Fr w w' [] ∧ w'.ownsRow w.heap.size 3 1 v Y.length (Y.flatMap (Go.Tw.encI .i64)) := by subst he; exact Muxes_ct F p L vip w ht
theorem Tick_d (F : List Nat) (p : Nat) (L : Lm) (now : Int) (w : World) (ht : lsAt w F p L) : Calls Try.prog 23 #[.pointer (some ⟨p, 0, none⟩), .int .i64 now] w fun e w' => ∃ v, e = .returned v ∧ Fr w w' F ∧ lsAt w' F p (tickR L now) ∧ w'.ownsRow w.heap.size 3 1 v (goneR L now).length ((goneR L now).flatMap (Go.Tw.encI .i64)) ∧ ∀ x ∈ F, x ∉ blk v := (Tick_ct F p L now w ht).mono fun e w' ⟨v, h1, h2, h3, h4⟩ => ⟨v, h1, h2, h3, h4, fun x hx hb => absurd (lsAt_lt ht x hx) (Nat.not_lt.2 (own_ge h4 x hb))⟩
end Go.Proofs.Ytmahghppojbeoaa
