/- Contracts of functions of the program, each proved by a walk through its code; conditions stand in the statements. -/
import Derived.Test.YtfligklljkcbfaaGreatDoorStX16
namespace Go.Proofs.YtfligklljkcbfaaGreatDoor
set_option linter.unusedSimpArgs false
set_option linter.unusedVariables false
set_option linter.unusedSectionVars false
open Go Go.RowKit Go.Tw
set_option linter.unusedVariables false
set_option maxRecDepth 20000
theorem sm_int (z : Int) (a : 0 ≤ z) (b : z ≤ 16) : isI64 z ∧ isU32 z := ⟨⟨by omega, by omega⟩, ⟨by omega, by omega⟩⟩
theorem wf_sick {dip now : Int} (hd : isU32 dip) (hn : isI64 now) (seq : Int) (hs : isI64 seq) (up : Bool) : wfC ⟨16, 1, seq, now, 3, 0, 0, 0, [], dip, 0, up⟩ :=
  ⟨(sm_int 16 (by decide) (by decide)).1, (sm_int 1 (by decide) (by decide)).1, hs, hn, (sm_int 3 (by decide) (by decide)).1, (sm_int 0 (by decide) (by decide)).2, (sm_int 0 (by decide) (by decide)).1, (sm_int 0 (by decide) (by decide)).1, hd, (sm_int 0 (by decide) (by decide)).2, (fun _ h => nomatch h)⟩
theorem good_sick {dip now : Int} {up : Bool} {a : Option Addr} {c : Nat} (h : goodC (⟨⟨16, 1, 0, now, 3, 0, 0, 0, [], dip, 0, false⟩, a, c⟩ : Cmd).v = true) : goodC ⟨16, 1, 1, now, 3, 0, 0, 0, [], dip, 0, up⟩ = true := by
  simp [goodC, goodK, noneS, timB, mgrB] at h ⊢
  exact h
theorem apply_sick {V : CfgV} {dip now seq : Int} {up : Bool} (h : goodC ⟨16, 1, seq, now, 3, 0, 0, 0, [], dip, 0, up⟩ = true) : applyC V ⟨16, 1, seq, now, 3, 0, 0, 0, [], dip, 0, up⟩ = ⟨V.epoch + 1, max V.now now, V.svcs, V.snats, putK kA V.sick dip up, V.leases⟩ := by
  unfold applyC
  rw [if_neg (by rw [h]; decide), if_neg (show ¬ ((3 : Int) = 1) by decide), if_neg (show ¬ ((3 : Int) = 2) by decide), if_pos rfl]
  rfl
theorem put_back {ks : List Int} (hs : sortK kA ks) (d : Int) : putK kA (putK kA (putK kA ks d true) d false) d true = putK kA ks d true := by
  have h1 := put_sort (x := d) (out := true) hs
  have h2 := put_sort (x := d) (out := false) h1
  refine sortK_ext (put_sort h2) h1 fun a => ?_
  rw [put_mem h2, put_mem h1, put_mem hs]
  constructor
  · rintro (⟨(h | ⟨_, h⟩), h'⟩ | ⟨h, _⟩)
    · exact h.1
    · exact absurd (by rw [h]) h'
    · cases h
  · rintro (h | ⟨h, _⟩)
    · exact .inl ⟨.inl ⟨.inl h, h.2⟩, h.2⟩
    · cases h
theorem sick_C {L : List Cmd} {dip now : Int} (h : goodC (⟨⟨16, 1, 0, now, 3, 0, 0, 0, [], dip, 0, false⟩, none, 0⟩ : Cmd).v = true) :
    foldC (vals ([] ++ L ++ [(⟨⟨16, 1, 1, now, 3, 0, 0, 0, [], dip, 0, true⟩, none, 0⟩ : Cmd)])) = ⟨(foldC (vals L)).epoch + 1, max (foldC (vals L)).now now, (foldC (vals L)).svcs, (foldC (vals L)).snats, putK kA (foldC (vals L)).sick dip true, (foldC (vals L)).leases⟩ := by
  rw [show vals ([] ++ L ++ [(⟨⟨16, 1, 1, now, 3, 0, 0, 0, [], dip, 0, true⟩, none, 0⟩ : Cmd)]) = vals L ++ [⟨16, 1, 1, now, 3, 0, 0, 0, [], dip, 0, true⟩] by simp [vals], foldC_snoc, apply_sick (good_sick h)]
theorem sick_D {L : List Cmd} {dip now : Int} {n : Nat} (hw : wfCfg (foldC (vals L)) n) (h : goodC (⟨⟨16, 1, 0, now, 3, 0, 0, 0, [], dip, 0, false⟩, none, 0⟩ : Cmd).v = true) :
    foldC (vals ([] ++ L ++ [(⟨⟨16, 1, 1, now, 3, 0, 0, 0, [], dip, 0, true⟩, none, 0⟩ : Cmd), (⟨⟨16, 1, 0, now, 3, 0, 0, 0, [], dip, 0, false⟩, none, 0⟩ : Cmd), (⟨⟨16, 1, 1, now, 3, 0, 0, 0, [], dip, 0, true⟩, none, 0⟩ : Cmd)])) = ⟨(foldC (vals L)).epoch + 1 + 1 + 1, max (foldC (vals L)).now now, (foldC (vals L)).svcs, (foldC (vals L)).snats, putK kA (foldC (vals L)).sick dip true, (foldC (vals L)).leases⟩ := by
  rw [show vals ([] ++ L ++ [(⟨⟨16, 1, 1, now, 3, 0, 0, 0, [], dip, 0, true⟩, none, 0⟩ : Cmd), (⟨⟨16, 1, 0, now, 3, 0, 0, 0, [], dip, 0, false⟩, none, 0⟩ : Cmd), (⟨⟨16, 1, 1, now, 3, 0, 0, 0, [], dip, 0, true⟩, none, 0⟩ : Cmd)]) = ((vals L ++ [⟨16, 1, 1, now, 3, 0, 0, 0, [], dip, 0, true⟩]) ++ [⟨16, 1, 0, now, 3, 0, 0, 0, [], dip, 0, false⟩]) ++ [⟨16, 1, 1, now, 3, 0, 0, 0, [], dip, 0, true⟩] by simp [vals],
    foldC_snoc, foldC_snoc, foldC_snoc, apply_sick (good_sick h), apply_sick h, apply_sick (good_sick h)]
  simp only [put_back hw.ksort]
  congr 1
  omega
theorem sick_last {L : List Cmd} {dip now : Int} {k : Nat} {r : ResV} {x y z : Cmd} (h : goodC (⟨⟨16, 1, 0, now, 3, 0, 0, 0, [], dip, 0, false⟩, none, 0⟩ : Cmd).v = true) (hz : z = ⟨⟨16, 1, 1, now, 3, 0, 0, 0, [], dip, 0, true⟩, none, 0⟩)
    (hr : (resC (vals ([] ++ L ++ [x, y, z])))[k]? = some r) (hk : k = L.length + 2) : r.err = 0 := by
  subst hz hk
  rw [show vals ([] ++ L ++ [x, y, (⟨⟨16, 1, 1, now, 3, 0, 0, 0, [], dip, 0, true⟩, none, 0⟩ : Cmd)]) = vals (L ++ [x, y]) ++ [⟨16, 1, 1, now, 3, 0, 0, 0, [], dip, 0, true⟩] by simp [vals], resC_snoc, List.getElem?_append_right (by rw [res_len, vals_len]; simp), res_len, vals_len] at hr
  simp at hr
  subst hr
  unfold applyR
  rw [if_neg (by rw [good_sick h]; decide), if_neg (show ¬ ((3 : Int) = 1) by decide), if_neg (show ¬ ((3 : Int) = 2) by decide), if_pos rfl]
  rfl
theorem sick_out {ks : List Int} (hs : sortK kA ks) {d e : Int} {i : Nat} (h : (putK kA ks d true)[i]? = some e) : e ≠ d := by
  rcases (put_mem hs).1 (List.mem_of_getElem? h) with ⟨_, h⟩ | ⟨h, _⟩
  · intro q; exact h (by rw [q])
  · cases h
theorem sick_at {w : World} {L M : List Cmd} (h : ∀ m ∈ L, cmdAt w m) (hM : ∀ m ∈ M, cmdAt w m) : ∀ m ∈ [] ++ L ++ M, cmdAt w m := by
  intro m hm
  rcases List.mem_append.1 hm with q | q
  · exact h m (by simpa using q)
  · exact hM m q
theorem at2 {w : World} {x y z : Cmd} (hx : cmdAt w x) (hy : cmdAt w y) (hz : cmdAt w z) : ∀ m ∈ [x, y, z], cmdAt w m := by
  intro m hm
  simp only [List.mem_cons, List.not_mem_nil, or_false] at hm
  rcases hm with rfl | rfl | rfl
  · exact hx
  · exact hy
  · exact hz
theorem at1 {w : World} {x : Cmd} (hx : cmdAt w x) : ∀ m ∈ [x], cmdAt w m := by
  intro m hm
  rw [List.mem_singleton] at hm; subst hm; exact hx
def sickL3 (L : List Cmd) (dip now : Int) : List Cmd := [] ++ L ++ [(⟨⟨16, 1, 1, now, 3, 0, 0, 0, [], dip, 0, true⟩, none, 0⟩ : Cmd), (⟨⟨16, 1, 0, now, 3, 0, 0, 0, [], dip, 0, false⟩, none, 0⟩ : Cmd), (⟨⟨16, 1, 1, now, 3, 0, 0, 0, [], dip, 0, true⟩, none, 0⟩ : Cmd)]
def sickL1 (L : List Cmd) (dip now : Int) : List Cmd := [] ++ L ++ [(⟨⟨16, 1, 1, now, 3, 0, 0, 0, [], dip, 0, true⟩, none, 0⟩ : Cmd)]
theorem sick_len3 {L : List Cmd} {dip now : Int} : (resC (vals (sickL3 L dip now))).length = L.length + 3 := by rw [res_len, vals_len, sickL3]; simp
theorem sick_end {L : List Cmd} {dip now : Int} {k : Nat} {r : ResV} (h : goodC (⟨⟨16, 1, 0, now, 3, 0, 0, 0, [], dip, 0, false⟩, none, 0⟩ : Cmd).v = true) (hr : (resC (vals (sickL3 L dip now)))[k]? = some r) (hk : k = L.length + 2) : r.err = 0 :=
  sick_last h rfl hr hk
theorem sick_out3 {L : List Cmd} {dip now : Int} (hc : foldC (vals (sickL1 L dip now)) = ⟨(foldC (vals L)).epoch + 1, max (foldC (vals L)).now now, (foldC (vals L)).svcs, (foldC (vals L)).snats, putK kA (foldC (vals L)).sick dip true, (foldC (vals L)).leases⟩) (hs : sortK kA (foldC (vals L)).sick) {e : Int} {i : Nat} (h : (foldC (vals (sickL1 L dip now))).sick[i]? = some e) : e ≠ dip := by
  rw [hc] at h; exact sick_out hs h
theorem wf_all {w : World} {L : List Cmd} (h : ∀ m ∈ L, cmdAt w m) : wfCfg (foldC (vals L)) L.length := by
  have := wf_at h (Nat.le_refl L.length); rwa [List.take_length] at this
theorem wf_sick3 {w : World} {L : List Cmd} {dip now : Int} (h : ∀ m ∈ L, cmdAt w m) (hx : wfC ⟨16, 1, 0, now, 3, 0, 0, 0, [], dip, 0, false⟩) (hy : wfC ⟨16, 1, 1, now, 3, 0, 0, 0, [], dip, 0, true⟩) : wfCfg (foldC (vals (sickL3 L dip now))) (L.length + 3) := by
  have q := wf_all (w := w) (L := sickL3 L dip now) (sick_at h (at2 (cmd_nil hy rfl) (cmd_nil hx rfl) (cmd_nil hy rfl)))
  rwa [show (sickL3 L dip now).length = L.length + 3 by simp [sickL3]] at q
theorem wf_sick1 {w : World} {L : List Cmd} {dip now : Int} (h : ∀ m ∈ L, cmdAt w m) (hy : wfC ⟨16, 1, 1, now, 3, 0, 0, 0, [], dip, 0, true⟩) : wfCfg (foldC (vals (sickL1 L dip now))) (L.length + 1) := by
  have q := wf_all (w := w) (L := sickL1 L dip now) (sick_at h (at1 (cmd_nil hy rfl)))
  rwa [show (sickL1 L dip now).length = L.length + 1 by simp [sickL1]] at q
set_option maxHeartbeats 8000000 in
theorem StateSick_ct (A : Option Addr) (c : Nat) (L : List Cmd) (dip now : Int) (w : World) (hr : Rd w 12 cellsC A L) (hL : ∀ m ∈ L, cmdAt w m) (hlim : totE L ≤ 1099511627776) (hd : isU32 dip) (hnw : isI64 now) (hlc : L.length ≤ c) (hg : Rd w 1 (encI .u8) (some ⟨0, 0, none⟩) dbTab) : Calls Tryz.prog 4 #[.slice A L.length c, .int .u32 dip, .int .i64 now] w fun e w' => e = .returned (.bool true) ∧ Fr w w' [] := by
 refine enterD (n := 112) Tryz.func4 rfl rfl (Nat.le_of_ble_eq_true rfl) ?_
 intro Q0 hN hret hret'
 have hwx_ := wf_sick hd hnw 0 (sm_int 0 (by decide) (by decide)).1 false
 have hwy_ := wf_sick hd hnw 1 (sm_int 1 (by decide) (by decide)).1 true
 have hC := Cx.start w
 refine WCs (fun K1 hK2 => ?_)
 refine WCg (WLq 1 [(6, .bool false)] (WLd rfl (QXn (hK2 _ _ ?_))))
 refine WCs (fun K3 hK4 => ?_)
 refine WCs (fun K5 hK6 => ?_)
 refine WCg ?_
 refine WLc rfl rfl rfl rfl rfl (by kernel_rfl) (alive_ct w (Rd.fr hg hC.fr)) ?_
 rintro _ w8 ⟨rfl, hF7⟩
 refine ⟨_, rfl, ?_⟩
 have hC9 := hC.call hF7
 refine WLq 1 [(18, .bool false)] (WLd rfl (QXn (hK6 _ _ ?_)))
 refine WCf rfl (WC.skip (QXn (hK4 _ _ ?_)))
 refine WCs (fun Pb Jp => ?_)
 refine WCg (WLq 3 [(21, .agg #[.int .i64 16, .int .i64 1, .int .i64 0, .int .i64 now, .int .i64 3, .int .u32 0, .int .i64 0, .int .i64 0, .slice none 0 0, .int .u32 dip, .int .u32 0, .bool false]), (20, .int .u32 dip), (19, .int .i64 now)] ?_)
 refine WL.newM hC9 (fun b => .pointer (some ⟨b, 0, none⟩)) (.cells #[.int .i64 0, .int .i64 0, .int .i64 0, .int .i64 0, .int .i64 0, .int .u32 0, .int .i64 0, .int .i64 0, .slice none 0 0, .int .u32 0, .int .u32 0, .bool false] 45) 7 (fun _ => by kernel_rfl) (fun r5 Pc NA NB Jq => ?_)
 refine WLs (c' := #[.int .i64 16, .int .i64 1, .int .i64 0, .int .i64 now, .int .i64 3, .int .u32 0, .int .i64 0, .int .i64 0, .slice none 0 0, .int .u32 dip, .int .u32 0, .bool false]) Jq 0 45 r5 0 (.agg #[.int .i64 16, .int .i64 1, .int .i64 0, .int .i64 now, .int .i64 3, .int .u32 0, .int .i64 0, .int .i64 0, .slice none 0 0, .int .u32 dip, .int .u32 0, .bool false]) (by kernel_rfl) rfl (by kernel_rfl) (fun NC ND v9 => ?_)
 refine WLd rfl (QXn (Jp _ _ ?_))
 refine WCs (fun Pd Jr => ?_)
 refine WCs (fun Pe CW => ?_)
 refine WCg (WLq 1 [(22, .slice A L.length c)] ?_)
 refine WLc rfl rfl rfl rfl rfl (by kernel_rfl) (large_ct A c L NC (Rd.fr hr v9.fr) (fun m_ h_ => cmdAt.fr0 (hL m_ h_) v9.fr) hlim) ?_
 rintro _ NE ⟨rfl, Js⟩
 refine ⟨_, rfl, ?_⟩
 have wa := v9.call Js
 refine WLq 1 [(24, .bool (decide (300 < bigL (vals L))))] ?_
 refine WLa 24 (decide (300 < bigL (vals L))) rfl (fun r6 => ?_) (fun r6 => ?_)
 ·
  have NF : (300 : Int) < bigL (vals L) := by have q_ := of_decide_eq_true r6; omega
  refine WLq 4 [(28, .bool true), (27, undef), (26, undef), (25, undef)] (WLd rfl (QXn (CW _ _ ?_)))
  refine WCt rfl ?_
  refine WCs (fun Pf Jt => ?_)
  refine WCg (WLq 1 [(6, .bool true)] (WLd rfl (QXn (Jt _ _ ?_))))
  refine WC.ret ?_
  refine QXr ?_
  refine (hret _ _ _ rfl ?_).1
  exact ⟨rfl, wa.fr⟩
 ·
  have NF : bigL (vals L) ≤ 300 := by have q_ := of_decide_eq_false r6; omega
  refine WLo 45 (.pointer (some ⟨r5, 0, none⟩)) (.agg #[.int .i64 16, .int .i64 1, .int .i64 0, .int .i64 now, .int .i64 3, .int .u32 0, .int .i64 0, .int .i64 0, .slice none 0 0, .int .u32 dip, .int .u32 0, .bool false]) 25 (run_ld (wa.get 0 rfl) rfl) ?_
  refine WLc rfl rfl rfl rfl rfl (by kernel_rfl) (SGood_ct dip now NE hd) ?_
  rintro _ Pg ⟨rfl, Ju⟩
  refine ⟨_, rfl, ?_⟩
  have wb := wa.call Ju
  refine WLq 2 [(28, .bool (!(goodC (⟨⟨16, 1, 0, now, 3, 0, 0, 0, [], dip, 0, false⟩, none, 0⟩ : Cmd).v))), (27, .bool (!(goodC (⟨⟨16, 1, 0, now, 3, 0, 0, 0, [], dip, 0, false⟩, none, 0⟩ : Cmd).v)))] (WLd rfl (QXn (CW _ _ ?_)))
  refine WCa 28 (!(goodC (⟨⟨16, 1, 0, now, 3, 0, 0, 0, [], dip, 0, false⟩, none, 0⟩ : Cmd).v)) rfl (fun mI => ?_) (fun mI => ?_)
  ·
   have Ln : (goodC (⟨⟨16, 1, 0, now, 3, 0, 0, 0, [], dip, 0, false⟩, none, 0⟩ : Cmd).v) = false := by first | (simpa only [Bool.not_eq_true', Bool.not_eq_false'] using mI) | simpa using mI
   refine WCt rfl ?_
   refine WCs (fun Ph Jv => ?_)
   refine WCg (WLq 1 [(6, .bool true)] (WLd rfl (QXn (Jv _ _ ?_))))
   refine WC.ret ?_
   refine QXr ?_
   refine (hret _ _ _ rfl ?_).1
   exact ⟨rfl, wb.fr⟩
  ·
   have Ln : (goodC (⟨⟨16, 1, 0, now, 3, 0, 0, 0, [], dip, 0, false⟩, none, 0⟩ : Cmd).v) = true := by first | (simpa only [Bool.not_eq_true', Bool.not_eq_false'] using mI) | simpa using mI
   refine WCf rfl (WC.skip (QXn (Jr _ _ ?_)))
   refine WCs (fun Pi Jw => ?_)
   refine WCg ?_
   refine WLo 45 (.pointer (some ⟨r5, 0, none⟩)) (.agg #[.int .i64 16, .int .i64 1, .int .i64 0, .int .i64 now, .int .i64 3, .int .u32 0, .int .i64 0, .int .i64 0, .slice none 0 0, .int .u32 dip, .int .u32 0, .bool false]) 29 (run_ld (wb.get 0 rfl) rfl) ?_
   have hbl_ := bigL_len (vals L)
   rw [vals_len] at hbl_
   have hsm_ : L.length ≤ 300 := by have q_ := of_decide_eq_false r6; omega
   have hgx_ : goodC (⟨⟨16, 1, 0, now, 3, 0, 0, 0, [], dip, 0, false⟩, none, 0⟩ : Cmd).v = true := by simpa using Ln
   have hwf_ := wf_at hL (Nat.le_refl L.length)
   rw [List.take_length] at hwf_
   have hD_ : foldC (vals (sickL3 L dip now)) = _ := sick_D hwf_ hgx_
   have hC0_ : foldC (vals (sickL1 L dip now)) = _ := sick_C (L := L) hgx_
   refine WL.newM wb (fun b => .pointer (some ⟨b, 0, none⟩)) (.cells #[.int .i64 0, .int .i64 0, .int .i64 0, .int .i64 0, .int .i64 0, .int .u32 0, .int .i64 0, .int .i64 0, .slice none 0 0, .int .u32 0, .int .u32 0, .bool false] 45) 8 (fun _ => by kernel_rfl) (fun lF Pj NG NH Jx => ?_)
   refine WLs (c' := #[.int .i64 16, .int .i64 1, .int .i64 0, .int .i64 now, .int .i64 3, .int .u32 0, .int .i64 0, .int .i64 0, .slice none 0 0, .int .u32 dip, .int .u32 0, .bool false]) Jx 1 45 lF 0 (.agg #[.int .i64 16, .int .i64 1, .int .i64 0, .int .i64 now, .int .i64 3, .int .u32 0, .int .i64 0, .int .i64 0, .slice none 0 0, .int .u32 dip, .int .u32 0, .bool false]) (by kernel_rfl) rfl (by kernel_rfl) (fun Pk NI Jy => ?_)
   refine WLd rfl (QXn (Jw _ _ ?_))
   refine WCs (fun Pl Jz => ?_)
   refine WCg (WLq 1 [(30, .pointer (some ⟨lF, 2, none⟩))] ?_)
   refine WLs (c' := #[.int .i64 16, .int .i64 1, .int .i64 1, .int .i64 now, .int .i64 3, .int .u32 0, .int .i64 0, .int .i64 0, .slice none 0 0, .int .u32 dip, .int .u32 0, .bool false]) Jy 1 3 lF 2 (.int .i64 1) (by kernel_rfl) rfl (by kernel_rfl) (fun Pm NJ JA => ?_)
   refine WLq 1 [(31, .pointer (some ⟨lF, 11, none⟩))] ?_
   refine WLs (c' := #[.int .i64 16, .int .i64 1, .int .i64 1, .int .i64 now, .int .i64 3, .int .u32 0, .int .i64 0, .int .i64 0, .slice none 0 0, .int .u32 dip, .int .u32 0, .bool true]) JA 1 4 lF 11 (.bool true) (by kernel_rfl) rfl (by kernel_rfl) (fun NK NL r7 => ?_)
   refine WLd rfl (QXn (Jz _ _ ?_))
   refine WCs (fun Pn JB => ?_)
   refine WCg (WLq 1 [(33, .slice A L.length c)] ?_)
   refine WLc rfl rfl rfl rfl rfl (by kernel_rfl) (Fold_n A L.length c L NK (Rd.fr hr r7.fr) (by first | rfl | assumption | (simp; omega) | omega) (fun m_ h_ => cmdAt.fr0 (hL m_ h_) r7.fr) (by omega) (Rd.fr hg r7.fr)) ?_
   rintro _ Po ⟨f2, f3, ag, gT, gU, gV, gW, f4, f5, g8, g9, wc, rfl, JC, CX, JD⟩
   have JE := r7.callN JC JD CX.lt
   refine ⟨_, rfl, ?_⟩
   refine WLq 3 [(36, .slice g8 ((resC (vals L)).length) g9), (35, .agg #[.int .i64 ((foldC (vals L)).epoch), .int .i64 ((foldC (vals L)).now), .slice f2 ag.length f3, .slice gT ((foldC (vals L)).snats.length) gU, .slice gV ((foldC (vals L)).sick.length) gW, .slice f4 ((foldC (vals L)).leases.length) f5]), (32, .tuple #[.agg #[.int .i64 ((foldC (vals L)).epoch), .int .i64 ((foldC (vals L)).now), .slice f2 ag.length f3, .slice gT ((foldC (vals L)).snats.length) gU, .slice gV ((foldC (vals L)).sick.length) gW, .slice f4 ((foldC (vals L)).leases.length) f5], .slice g8 ((resC (vals L)).length) g9])] ?_
   refine WL.newM JE (fun b => .pointer (some ⟨b, 0, none⟩)) (.cells #[.int .i64 0, .int .i64 0, .slice none 0 0, .slice none 0 0, .slice none 0 0, .slice none 0 0] 31) 9 (fun _ => by kernel_rfl) (fun mA Pp NM NN JF => ?_)
   refine WLs (c' := #[.int .i64 ((foldC (vals L)).epoch), .int .i64 ((foldC (vals L)).now), .slice f2 ag.length f3, .slice gT ((foldC (vals L)).snats.length) gU, .slice gV ((foldC (vals L)).sick.length) gW, .slice f4 ((foldC (vals L)).leases.length) f5]) JF 2 31 mA 0 (.agg #[.int .i64 ((foldC (vals L)).epoch), .int .i64 ((foldC (vals L)).now), .slice f2 ag.length f3, .slice gT ((foldC (vals L)).snats.length) gU, .slice gV ((foldC (vals L)).sick.length) gW, .slice f4 ((foldC (vals L)).leases.length) f5]) (by kernel_rfl) rfl (by kernel_rfl) (fun Pq NO JG => ?_)
   refine WLq 1 [(10, .slice g8 ((resC (vals L)).length) g9)] (WLd rfl (QXn (JB _ _ ?_)))
   refine WC.seqI (fun E_ w_ => ∃ (gb : Nat) (ASb : Option Addr) (cSb : Nat) (xsb : List Svc) (ANb : Option Addr) (cNb : Nat) (AKb : Option Addr) (cKb : Nat) (ALb : Option Addr) (cLb : Nat) (ARb : Option Addr) (cRb : Nat) (Gb : List Nat), E_ = [(0, .slice A L.length c), (1, .int .u32 dip), (2, .int .i64 now), (6, .bool false), (7, .pointer (some ⟨r5, 0, none⟩)), (8, .pointer (some ⟨lF, 0, none⟩)), (9, .pointer (some ⟨mA, 0, none⟩)), (10, .slice g8 ((resC (vals L)).length) g9), (11, .pointer (some ⟨gb, 0, none⟩)), (12, .slice ARb ((resC (vals (sickL3 L dip now))).length) cRb)] ∧ Cx w [] w_ [(r5, .cells #[.int .i64 16, .int .i64 1, .int .i64 0, .int .i64 now, .int .i64 3, .int .u32 0, .int .i64 0, .int .i64 0, .slice none 0 0, .int .u32 dip, .int .u32 0, .bool false] 45), (lF, .cells #[.int .i64 16, .int .i64 1, .int .i64 1, .int .i64 now, .int .i64 3, .int .u32 0, .int .i64 0, .int .i64 0, .slice none 0 0, .int .u32 dip, .int .u32 0, .bool true] 45), (mA, .cells #[.int .i64 ((foldC (vals L)).epoch), .int .i64 ((foldC (vals L)).now), .slice f2 ag.length f3, .slice gT ((foldC (vals L)).snats.length) gU, .slice gV ((foldC (vals L)).sick.length) gW, .slice f4 ((foldC (vals L)).leases.length) f5] 31), (gb, .cells #[.int .i64 ((foldC (vals (sickL3 L dip now))).epoch), .int .i64 ((foldC (vals (sickL3 L dip now))).now), .slice ASb xsb.length cSb, .slice ANb ((foldC (vals (sickL3 L dip now))).snats.length) cNb, .slice AKb ((foldC (vals (sickL3 L dip now))).sick.length) cKb, .slice ALb ((foldC (vals (sickL3 L dip now))).leases.length) cLb] 31)] [wc, Gb] ∧ FoldR w_ Gb (foldC (vals (sickL3 L dip now))) (resC (vals (sickL3 L dip now))) ASb cSb xsb ANb cNb AKb cKb ALb cLb ARb cRb ∧ (True)) (fun Pr ah => ?_) ?_
   ·
    refine WC.drawC JG [] (by kernel_rfl) (fun ai NP mB g7 => ?_)
    refine WDq (NPt hN) 1 39 (.slice A L.length c) g7 ?_
    refine WDm (NPt hN) 3 45 (.pointer (some ⟨lF, 0, none⟩)) (.agg #[.int .i64 16, .int .i64 1, .int .i64 1, .int .i64 now, .int .i64 3, .int .u32 0, .int .i64 0, .int .i64 0, .slice none 0 0, .int .u32 dip, .int .u32 0, .bool true]) 41 (fun _ hS_ => run_ld (Fr.has hS_ (mB.get 1 rfl) (by simp)) rfl) g7 ?_
    refine WDm (NPt hN) 4 45 (.pointer (some ⟨r5, 0, none⟩)) (.agg #[.int .i64 16, .int .i64 1, .int .i64 0, .int .i64 now, .int .i64 3, .int .u32 0, .int .i64 0, .int .i64 0, .slice none 0 0, .int .u32 dip, .int .u32 0, .bool false]) 42 (fun _ hS_ => run_ld (Fr.has hS_ (mB.get 0 rfl) (by simp)) rfl) g7 ?_
    refine WDm (NPt hN) 5 45 (.pointer (some ⟨lF, 0, none⟩)) (.agg #[.int .i64 16, .int .i64 1, .int .i64 1, .int .i64 now, .int .i64 3, .int .u32 0, .int .i64 0, .int .i64 0, .slice none 0 0, .int .u32 dip, .int .u32 0, .bool true]) 43 (fun _ hS_ => run_ld (Fr.has hS_ (mB.get 1 rfl) (by simp)) rfl) g7 ?_
    refine WD.all3 0 6 12 (by kernel_rfl) ?_ ?_ ?_
    ·
     refine WO.new 0 (fun b => .slice (some ⟨b, 0, none⟩) 0 0) (.cells #[] 45) (by kernel_rfl) rfl rfl rfl rfl rfl (fun _ => by kernel_rfl) (fun ha NQ CY NR CZ JH => ?_)
     have r8 := mB.callB CZ CY JH
     have Ig := Nat.le_trans g7.size CY
     have i1 := g7.trans CZ (by simp)
     refine ⟨i1, ?_⟩
     refine WD.all3 2 6 12 (by kernel_rfl) ?_ ?_ ?_
     ·
      have JI : World.ownsRow NQ 0 45 12 (.slice (some ⟨ha, 0, none⟩) 0 0) 0 [] := own_of_blk (Nat.zero_le _) (r8.get 3 rfl) (Nat.le_refl _) (Nat.zero_le _) (by simp) rfl
      have C0 := r8.toF 3 rfl
      obtain ⟨Ps, Pt, JJ, C1, C2, s1, Ih, sa⟩ := app_run Tryz.prog C0 1 (v := .slice (some ⟨ha, 0, none⟩) 0 0) rfl 22 22 45 12 104 0 L.length c A rfl JI (L.flatMap cellsC) (flat_len_n cellsC_len (by first | rfl | assumption | (simp; done) | (simp; omega))) (Rd.src_n (Rd.fr hr C0.fr) cellsC_len (by decide) (by first | rfl | assumption | (simp; done) | (simp; omega))) (flat_one cellsC_one _) (by simp only [maxLen]; omega) (by omega)
      have mJ := own_app (enc := cellsC) (ys := []) (zs := L) C1
      obtain ⟨iL, iM, rfl, JK⟩ := own_form mJ
      have mK : ∀ x_ ∈ blk (.slice (some ⟨ha, 0, none⟩) 0 0), ai.heap.size ≤ x_ := by first | (simp [blk, Value.ownBlock, *]; done) | (intro x_ hx_; simp [blk, Value.ownBlock] at hx_; omega)
      have db : ∀ x_ ∈ blk (.slice iL (0 + L.length) iM), ai.heap.size ≤ x_ := fun x_ hx_ => (sa x_ hx_).elim (mK x_) (fun h_ => Nat.le_trans i1.size h_)
      have iN := i1.trans C2 (fun x_ hx_ => .inr (mK x_ hx_))
      refine WO.sem 2 (Builtin.append_ #[22, 22] 22 #[.slice (some ⟨ha, 0, none⟩) 0 0, .slice A L.length c]) 40 (.slice iL (0 + L.length) iM) (by kernel_rfl) (by kernel_rfl) JJ iN ?_
      refine WD.all2 6 12 (by kernel_rfl) ?_ ?_
      ·
       refine WO.new 6 (fun b => .slice (some ⟨b, 0, none⟩) 3 3) (.cells #[.int .i64 16, .int .i64 1, .int .i64 1, .int .i64 now, .int .i64 3, .int .u32 0, .int .i64 0, .int .i64 0, .slice none 0 0, .int .u32 dip, .int .u32 0, .bool true, .int .i64 16, .int .i64 1, .int .i64 0, .int .i64 now, .int .i64 3, .int .u32 0, .int .i64 0, .int .i64 0, .slice none 0 0, .int .u32 dip, .int .u32 0, .bool false, .int .i64 16, .int .i64 1, .int .i64 1, .int .i64 now, .int .i64 3, .int .u32 0, .int .i64 0, .int .i64 0, .slice none 0 0, .int .u32 dip, .int .u32 0, .bool true] 45) (by kernel_rfl) rfl rfl rfl rfl rfl (fun _ => by kernel_rfl) (fun sb NS s2 Lo mL C3 => ?_)
       have mM := s1.callB mL s2 C3
       have C4 := Nat.le_trans iN.size s2
       have iO := iN.trans mL (by simp)
       refine ⟨iO, ?_⟩
       have s3 := own_fr mJ mL (by simp)
       refine WD.all2 7 12 (by kernel_rfl) ?_ ?_
       ·
        obtain ⟨NT, JL, C5, C6, C7, lG, Ii, sc⟩ := app_run Tryz.prog mM 1 (v := .slice iL (0 + L.length) iM) rfl 22 22 45 12 104 (0 + L.length) 3 3 (some ⟨sb, 0, none⟩) rfl s3 [.int .i64 16, .int .i64 1, .int .i64 1, .int .i64 now, .int .i64 3, .int .u32 0, .int .i64 0, .int .i64 0, .slice none 0 0, .int .u32 dip, .int .u32 0, .bool true, .int .i64 16, .int .i64 1, .int .i64 0, .int .i64 now, .int .i64 3, .int .u32 0, .int .i64 0, .int .i64 0, .slice none 0 0, .int .u32 dip, .int .u32 0, .bool false, .int .i64 16, .int .i64 1, .int .i64 1, .int .i64 now, .int .i64 3, .int .u32 0, .int .i64 0, .int .i64 0, .slice none 0 0, .int .u32 dip, .int .u32 0, .bool true] rfl (srcOk.blk 3 (mM.get 3 rfl)) rfl (by simp only [maxLen]; omega) (by omega)
        have mN := own_app (enc := cellsC) (ys := [] ++ L) (zs := [(⟨⟨16, 1, 1, now, 3, 0, 0, 0, [], dip, 0, true⟩, none, 0⟩ : Cmd), (⟨⟨16, 1, 0, now, 3, 0, 0, 0, [], dip, 0, false⟩, none, 0⟩ : Cmd), (⟨⟨16, 1, 1, now, 3, 0, 0, 0, [], dip, 0, true⟩, none, 0⟩ : Cmd)]) C6
        obtain ⟨sd, se, rfl, JM⟩ := own_form mN
        have JN : ∀ x_ ∈ blk (.slice sd (0 + L.length + 3) se), ai.heap.size ≤ x_ := fun x_ hx_ => (sc x_ hx_).elim (db x_) (fun h_ => Nat.le_trans iO.size h_)
        have lH := iO.trans C7 (fun x_ hx_ => .inr (db x_ hx_))
        refine WO.sem 7 (Builtin.append_ #[22, 22] 22 #[.slice iL (0 + L.length) iM, .slice (some ⟨sb, 0, none⟩) 3 3]) 45 (.slice sd (0 + L.length + 3) se) (by kernel_rfl) (by kernel_rfl) C5 lH ?_
        refine WD.all2 8 12 (by kernel_rfl) ?_ ?_
        ·
         refine WO.call 8 (by kernel_rfl) rfl rfl rfl rfl rfl (by kernel_rfl) (Fold_n sd (0 + L.length + 3) se (sickL3 L dip now) JL (own_rd mN cellsC_len (by decide)) (by simp [sickL3]) (sick_at (fun m_ h_ => cmdAt.fr0 (hL m_ h_) lG.fr) (at2 (cmd_nil hwy_ rfl) (cmd_nil hwx_ rfl) (cmd_nil hwy_ rfl))) (by omega) (Rd.fr hg lG.fr)) ?_
         rintro _ NU ⟨dc, dd, de, df, dg, dh, di, dj, dk, hD, hE, C8, rfl, s4, s5, C9⟩
         have Da := lG.callN s4 C9 s5.lt
         have hb := lH.trans s4 (by simp)
         refine ⟨_, rfl, hb, ?_⟩
         refine WDq (NPt hN) 9 37 (.tuple #[.agg #[.int .i64 ((foldC (vals (sickL3 L dip now))).epoch), .int .i64 ((foldC (vals (sickL3 L dip now))).now), .slice dc de.length dd, .slice df ((foldC (vals (sickL3 L dip now))).snats.length) dg, .slice dh ((foldC (vals (sickL3 L dip now))).sick.length) di, .slice dj ((foldC (vals (sickL3 L dip now))).leases.length) dk], .slice hD ((resC (vals (sickL3 L dip now))).length) hE]) hb ?_
         refine WDq (NPt hN) 10 47 (.agg #[.int .i64 ((foldC (vals (sickL3 L dip now))).epoch), .int .i64 ((foldC (vals (sickL3 L dip now))).now), .slice dc de.length dd, .slice df ((foldC (vals (sickL3 L dip now))).snats.length) dg, .slice dh ((foldC (vals (sickL3 L dip now))).sick.length) di, .slice dj ((foldC (vals (sickL3 L dip now))).leases.length) dk]) hb ?_
         refine WDq (NPt hN) 11 48 (.slice hD ((resC (vals (sickL3 L dip now))).length) hE) hb ?_
         refine WD.new 12 (fun b => .pointer (some ⟨b, 0, none⟩)) (.cells #[.int .i64 0, .int .i64 0, .slice none 0 0, .slice none 0 0, .slice none 0 0, .slice none 0 0] 31) (by kernel_rfl) rfl rfl rfl rfl rfl (fun _ => by kernel_rfl) (fun wd NV s6 Lp mO Db => ?_)
         have s7 := Da.callB mO s6 Db
         have Dc := Nat.le_trans hb.size s6
         have mP := hb.trans mO (by simp)
         refine ⟨mP, ?_⟩
         have Dd := FoldR.fr s5 mO (by simp)
         obtain ⟨NW, De, s8, Df⟩ := sto_run (c' := #[.int .i64 ((foldC (vals (sickL3 L dip now))).epoch), .int .i64 ((foldC (vals (sickL3 L dip now))).now), .slice dc de.length dd, .slice df ((foldC (vals (sickL3 L dip now))).snats.length) dg, .slice dh ((foldC (vals (sickL3 L dip now))).sick.length) di, .slice dj ((foldC (vals (sickL3 L dip now))).leases.length) dk]) Tryz.prog s7 4 31 wd 0 (.agg #[.int .i64 ((foldC (vals (sickL3 L dip now))).epoch), .int .i64 ((foldC (vals (sickL3 L dip now))).now), .slice dc de.length dd, .slice df ((foldC (vals (sickL3 L dip now))).snats.length) dg, .slice dh ((foldC (vals (sickL3 L dip now))).sick.length) di, .slice dj ((foldC (vals (sickL3 L dip now))).leases.length) dk]) rfl (by kernel_rfl)
         have s9 := mP.trans s8 (by first | (simp; done) | (simp [*]; done) | (have q_ := mP.size; simp; omega))
         refine WD.semU 13 (Instr.storeAt 31 (.pointer (some ⟨wd, 0, none⟩)) (.agg #[.int .i64 ((foldC (vals (sickL3 L dip now))).epoch), .int .i64 ((foldC (vals (sickL3 L dip now))).now), .slice dc de.length dd, .slice df ((foldC (vals (sickL3 L dip now))).snats.length) dg, .slice dh ((foldC (vals (sickL3 L dip now))).sick.length) di, .slice dj ((foldC (vals (sickL3 L dip now))).leases.length) dk])) (by kernel_rfl) (by kernel_rfl) De s9 ?_
         have Dg := FoldR.fr Dd s8 (s7.apartM 2 4 rfl rfl)
         refine WDq (NPt hN) 14 12 (.slice hD ((resC (vals (sickL3 L dip now))).length) hE) s9 ?_
         refine WD.done (by kernel_rfl) ?_
         refine QXn ?_
         have Dh := Df.pickM [0, 1, 2, 4] [0, 2] (by decide) rfl rfl
         exact fun a_ ha_ => ah _ _ ⟨wd, dc, dd, de, df, dg, dh, di, dj, dk, hD, hE, C8, rfl, Dh, Dg, trivial⟩ a_ (ha_.weaken (sub_of ⟨rfl, rfl, rfl, rfl, rfl, rfl, rfl, rfl, rfl, rfl, trivial⟩))
        ·
         refine WO.new 12 (fun b => .pointer (some ⟨b, 0, none⟩)) (.cells #[.int .i64 0, .int .i64 0, .slice none 0 0, .slice none 0 0, .slice none 0 0, .slice none 0 0] 31) (by kernel_rfl) rfl rfl rfl rfl rfl (fun _ => by kernel_rfl) (fun we JO ta Lq mQ Di => ?_)
         have mR := lG.callB mQ ta Di
         have Dj := Nat.le_trans lH.size ta
         have tb := lH.trans mQ (by simp)
         refine ⟨tb, ?_⟩
         have Dk := own_fr mN mQ (by simp)
         refine WD.call 8 (by kernel_rfl) rfl rfl rfl rfl rfl (by kernel_rfl) (Fold_n sd (0 + L.length + 3) se (sickL3 L dip now) JO (own_rd Dk cellsC_len (by decide)) (by simp [sickL3]) (sick_at (fun m_ h_ => cmdAt.fr0 (hL m_ h_) mR.fr) (at2 (cmd_nil hwy_ rfl) (cmd_nil hwx_ rfl) (cmd_nil hwy_ rfl))) (by omega) (Rd.fr hg mR.fr)) ?_
         rintro _ NX ⟨dl, dm, dn, dp, dq, dr, ds, dt, du, hF, hG, Dl, rfl, tc, td, Dm⟩
         have te := mR.callN tc Dm td.lt
         have hc := tb.trans tc (by simp)
         refine ⟨_, rfl, hc, ?_⟩
         refine WDq (NPt hN) 9 37 (.tuple #[.agg #[.int .i64 ((foldC (vals (sickL3 L dip now))).epoch), .int .i64 ((foldC (vals (sickL3 L dip now))).now), .slice dl dn.length dm, .slice dp ((foldC (vals (sickL3 L dip now))).snats.length) dq, .slice dr ((foldC (vals (sickL3 L dip now))).sick.length) ds, .slice dt ((foldC (vals (sickL3 L dip now))).leases.length) du], .slice hF ((resC (vals (sickL3 L dip now))).length) hG]) hc ?_
         refine WDq (NPt hN) 10 47 (.agg #[.int .i64 ((foldC (vals (sickL3 L dip now))).epoch), .int .i64 ((foldC (vals (sickL3 L dip now))).now), .slice dl dn.length dm, .slice dp ((foldC (vals (sickL3 L dip now))).snats.length) dq, .slice dr ((foldC (vals (sickL3 L dip now))).sick.length) ds, .slice dt ((foldC (vals (sickL3 L dip now))).leases.length) du]) hc ?_
         refine WDq (NPt hN) 11 48 (.slice hF ((resC (vals (sickL3 L dip now))).length) hG) hc ?_
         obtain ⟨NY, Dn, tf, Do⟩ := sto_run (c' := #[.int .i64 ((foldC (vals (sickL3 L dip now))).epoch), .int .i64 ((foldC (vals (sickL3 L dip now))).now), .slice dl dn.length dm, .slice dp ((foldC (vals (sickL3 L dip now))).snats.length) dq, .slice dr ((foldC (vals (sickL3 L dip now))).sick.length) ds, .slice dt ((foldC (vals (sickL3 L dip now))).leases.length) du]) Tryz.prog te 4 31 we 0 (.agg #[.int .i64 ((foldC (vals (sickL3 L dip now))).epoch), .int .i64 ((foldC (vals (sickL3 L dip now))).now), .slice dl dn.length dm, .slice dp ((foldC (vals (sickL3 L dip now))).snats.length) dq, .slice dr ((foldC (vals (sickL3 L dip now))).sick.length) ds, .slice dt ((foldC (vals (sickL3 L dip now))).leases.length) du]) rfl (by kernel_rfl)
         have tg := hc.trans tf (by first | (simp; done) | (simp [*]; done) | (have q_ := hc.size; simp; omega))
         refine WD.semU 13 (Instr.storeAt 31 (.pointer (some ⟨we, 0, none⟩)) (.agg #[.int .i64 ((foldC (vals (sickL3 L dip now))).epoch), .int .i64 ((foldC (vals (sickL3 L dip now))).now), .slice dl dn.length dm, .slice dp ((foldC (vals (sickL3 L dip now))).snats.length) dq, .slice dr ((foldC (vals (sickL3 L dip now))).sick.length) ds, .slice dt ((foldC (vals (sickL3 L dip now))).leases.length) du])) (by kernel_rfl) (by kernel_rfl) Dn tg ?_
         have Dp := FoldR.fr td tf (te.apartM 2 4 rfl rfl)
         refine WDq (NPt hN) 14 12 (.slice hF ((resC (vals (sickL3 L dip now))).length) hG) tg ?_
         refine WD.done (by kernel_rfl) ?_
         refine QXn ?_
         have Dq := Do.pickM [0, 1, 2, 4] [0, 2] (by decide) rfl rfl
         exact fun a_ ha_ => ah _ _ ⟨we, dl, dm, dn, dp, dq, dr, ds, dt, du, hF, hG, Dl, rfl, Dq, Dp, trivial⟩ a_ (ha_.weaken (sub_of ⟨rfl, rfl, rfl, rfl, rfl, rfl, rfl, rfl, rfl, rfl, trivial⟩))
       ·
        refine WO.new 12 (fun b => .pointer (some ⟨b, 0, none⟩)) (.cells #[.int .i64 0, .int .i64 0, .slice none 0 0, .slice none 0 0, .slice none 0 0, .slice none 0 0] 31) (by kernel_rfl) rfl rfl rfl rfl rfl (fun _ => by kernel_rfl) (fun wf NZ th Lr mS Dr => ?_)
        have ti := mM.callB mS th Dr
        have Ds := Nat.le_trans iO.size th
        have mT := iO.trans mS (by simp)
        refine ⟨mT, ?_⟩
        have Dt := own_fr s3 mS (by simp)
        obtain ⟨N0, JP, Du, Dv, Dw, mU, Ij, sf⟩ := app_run Tryz.prog ti 1 (v := .slice iL (0 + L.length) iM) rfl 22 22 45 12 104 (0 + L.length) 3 3 (some ⟨sb, 0, none⟩) rfl Dt [.int .i64 16, .int .i64 1, .int .i64 1, .int .i64 now, .int .i64 3, .int .u32 0, .int .i64 0, .int .i64 0, .slice none 0 0, .int .u32 dip, .int .u32 0, .bool true, .int .i64 16, .int .i64 1, .int .i64 0, .int .i64 now, .int .i64 3, .int .u32 0, .int .i64 0, .int .i64 0, .slice none 0 0, .int .u32 dip, .int .u32 0, .bool false, .int .i64 16, .int .i64 1, .int .i64 1, .int .i64 now, .int .i64 3, .int .u32 0, .int .i64 0, .int .i64 0, .slice none 0 0, .int .u32 dip, .int .u32 0, .bool true] rfl (srcOk.blk 3 (ti.get 3 rfl)) rfl (by simp only [maxLen]; omega) (by omega)
        have tj := own_app (enc := cellsC) (ys := [] ++ L) (zs := [(⟨⟨16, 1, 1, now, 3, 0, 0, 0, [], dip, 0, true⟩, none, 0⟩ : Cmd), (⟨⟨16, 1, 0, now, 3, 0, 0, 0, [], dip, 0, false⟩, none, 0⟩ : Cmd), (⟨⟨16, 1, 1, now, 3, 0, 0, 0, [], dip, 0, true⟩, none, 0⟩ : Cmd)]) Dv
        obtain ⟨wg, wh, rfl, JQ⟩ := own_form tj
        have JR : ∀ x_ ∈ blk (.slice wg (0 + L.length + 3) wh), ai.heap.size ≤ x_ := fun x_ hx_ => (sf x_ hx_).elim (db x_) (fun h_ => Nat.le_trans mT.size h_)
        have tk := mT.trans Dw (fun x_ hx_ => .inr (db x_ hx_))
        refine WD.sem 7 (Builtin.append_ #[22, 22] 22 #[.slice iL (0 + L.length) iM, .slice (some ⟨sb, 0, none⟩) 3 3]) 45 (.slice wg (0 + L.length + 3) wh) (by kernel_rfl) (by kernel_rfl) Du tk ?_
        refine WD.call 8 (by kernel_rfl) rfl rfl rfl rfl rfl (by kernel_rfl) (Fold_n wg (0 + L.length + 3) wh (sickL3 L dip now) JP (own_rd tj cellsC_len (by decide)) (by simp [sickL3]) (sick_at (fun m_ h_ => cmdAt.fr0 (hL m_ h_) mU.fr) (at2 (cmd_nil hwy_ rfl) (cmd_nil hwx_ rfl) (cmd_nil hwy_ rfl))) (by omega) (Rd.fr hg mU.fr)) ?_
        rintro _ N1 ⟨dv, dw, dx, dy, dz, dA, dB, dC, dD, hH, hI, Dx, rfl, tl, tm, Dy⟩
        have tn := mU.callN tl Dy tm.lt
        have he := tk.trans tl (by simp)
        refine ⟨_, rfl, he, ?_⟩
        refine WDq (NPt hN) 9 37 (.tuple #[.agg #[.int .i64 ((foldC (vals (sickL3 L dip now))).epoch), .int .i64 ((foldC (vals (sickL3 L dip now))).now), .slice dv dx.length dw, .slice dy ((foldC (vals (sickL3 L dip now))).snats.length) dz, .slice dA ((foldC (vals (sickL3 L dip now))).sick.length) dB, .slice dC ((foldC (vals (sickL3 L dip now))).leases.length) dD], .slice hH ((resC (vals (sickL3 L dip now))).length) hI]) he ?_
        refine WDq (NPt hN) 10 47 (.agg #[.int .i64 ((foldC (vals (sickL3 L dip now))).epoch), .int .i64 ((foldC (vals (sickL3 L dip now))).now), .slice dv dx.length dw, .slice dy ((foldC (vals (sickL3 L dip now))).snats.length) dz, .slice dA ((foldC (vals (sickL3 L dip now))).sick.length) dB, .slice dC ((foldC (vals (sickL3 L dip now))).leases.length) dD]) he ?_
        refine WDq (NPt hN) 11 48 (.slice hH ((resC (vals (sickL3 L dip now))).length) hI) he ?_
        obtain ⟨N2, Dz, tp, DA⟩ := sto_run (c' := #[.int .i64 ((foldC (vals (sickL3 L dip now))).epoch), .int .i64 ((foldC (vals (sickL3 L dip now))).now), .slice dv dx.length dw, .slice dy ((foldC (vals (sickL3 L dip now))).snats.length) dz, .slice dA ((foldC (vals (sickL3 L dip now))).sick.length) dB, .slice dC ((foldC (vals (sickL3 L dip now))).leases.length) dD]) Tryz.prog tn 4 31 wf 0 (.agg #[.int .i64 ((foldC (vals (sickL3 L dip now))).epoch), .int .i64 ((foldC (vals (sickL3 L dip now))).now), .slice dv dx.length dw, .slice dy ((foldC (vals (sickL3 L dip now))).snats.length) dz, .slice dA ((foldC (vals (sickL3 L dip now))).sick.length) dB, .slice dC ((foldC (vals (sickL3 L dip now))).leases.length) dD]) rfl (by kernel_rfl)
        have tq := he.trans tp (by first | (simp; done) | (simp [*]; done) | (have q_ := he.size; simp; omega))
        refine WD.semU 13 (Instr.storeAt 31 (.pointer (some ⟨wf, 0, none⟩)) (.agg #[.int .i64 ((foldC (vals (sickL3 L dip now))).epoch), .int .i64 ((foldC (vals (sickL3 L dip now))).now), .slice dv dx.length dw, .slice dy ((foldC (vals (sickL3 L dip now))).snats.length) dz, .slice dA ((foldC (vals (sickL3 L dip now))).sick.length) dB, .slice dC ((foldC (vals (sickL3 L dip now))).leases.length) dD])) (by kernel_rfl) (by kernel_rfl) Dz tq ?_
        have DB := FoldR.fr tm tp (tn.apartM 2 4 rfl rfl)
        refine WDq (NPt hN) 14 12 (.slice hH ((resC (vals (sickL3 L dip now))).length) hI) tq ?_
        refine WD.done (by kernel_rfl) ?_
        refine QXn ?_
        have DC := DA.pickM [0, 1, 2, 4] [0, 2] (by decide) rfl rfl
        exact fun a_ ha_ => ah _ _ ⟨wf, dv, dw, dx, dy, dz, dA, dB, dC, dD, hH, hI, Dx, rfl, DC, DB, trivial⟩ a_ (ha_.weaken (sub_of ⟨rfl, rfl, rfl, rfl, rfl, rfl, rfl, rfl, rfl, rfl, trivial⟩))
      ·
       refine WO.new 12 (fun b => .pointer (some ⟨b, 0, none⟩)) (.cells #[.int .i64 0, .int .i64 0, .slice none 0 0, .slice none 0 0, .slice none 0 0, .slice none 0 0] 31) (by kernel_rfl) rfl rfl rfl rfl rfl (fun _ => by kernel_rfl) (fun wi N3 tr Ls mV DD => ?_)
       have DE := s1.callB mV tr DD
       have DF := Nat.le_trans iN.size tr
       have mW := iN.trans mV (by simp)
       refine ⟨mW, ?_⟩
       have DG := own_fr mJ mV (by simp)
       refine WD.new 6 (fun b => .slice (some ⟨b, 0, none⟩) 3 3) (.cells #[.int .i64 16, .int .i64 1, .int .i64 1, .int .i64 now, .int .i64 3, .int .u32 0, .int .i64 0, .int .i64 0, .slice none 0 0, .int .u32 dip, .int .u32 0, .bool true, .int .i64 16, .int .i64 1, .int .i64 0, .int .i64 now, .int .i64 3, .int .u32 0, .int .i64 0, .int .i64 0, .slice none 0 0, .int .u32 dip, .int .u32 0, .bool false, .int .i64 16, .int .i64 1, .int .i64 1, .int .i64 now, .int .i64 3, .int .u32 0, .int .i64 0, .int .i64 0, .slice none 0 0, .int .u32 dip, .int .u32 0, .bool true] 45) (by kernel_rfl) rfl rfl rfl rfl rfl (fun _ => by kernel_rfl) (fun DH N4 ts Lt mX DI => ?_)
       have tt := DE.callB mX ts DI
       have DJ := Nat.le_trans mW.size ts
       have mY := mW.trans mX (by simp)
       refine ⟨mY, ?_⟩
       have DK := own_fr DG mX (by simp)
       obtain ⟨N5, JS, DL, DM, DN, mZ, Ik, sg⟩ := app_run Tryz.prog tt 1 (v := .slice iL (0 + L.length) iM) rfl 22 22 45 12 104 (0 + L.length) 3 3 (some ⟨DH, 0, none⟩) rfl DK [.int .i64 16, .int .i64 1, .int .i64 1, .int .i64 now, .int .i64 3, .int .u32 0, .int .i64 0, .int .i64 0, .slice none 0 0, .int .u32 dip, .int .u32 0, .bool true, .int .i64 16, .int .i64 1, .int .i64 0, .int .i64 now, .int .i64 3, .int .u32 0, .int .i64 0, .int .i64 0, .slice none 0 0, .int .u32 dip, .int .u32 0, .bool false, .int .i64 16, .int .i64 1, .int .i64 1, .int .i64 now, .int .i64 3, .int .u32 0, .int .i64 0, .int .i64 0, .slice none 0 0, .int .u32 dip, .int .u32 0, .bool true] rfl (srcOk.blk 3 (tt.get 4 rfl)) rfl (by simp only [maxLen]; omega) (by omega)
       have tu := own_app (enc := cellsC) (ys := [] ++ L) (zs := [(⟨⟨16, 1, 1, now, 3, 0, 0, 0, [], dip, 0, true⟩, none, 0⟩ : Cmd), (⟨⟨16, 1, 0, now, 3, 0, 0, 0, [], dip, 0, false⟩, none, 0⟩ : Cmd), (⟨⟨16, 1, 1, now, 3, 0, 0, 0, [], dip, 0, true⟩, none, 0⟩ : Cmd)]) DM
       obtain ⟨wj, wk, rfl, JT⟩ := own_form tu
       have JU : ∀ x_ ∈ blk (.slice wj (0 + L.length + 3) wk), ai.heap.size ≤ x_ := fun x_ hx_ => (sg x_ hx_).elim (db x_) (fun h_ => Nat.le_trans mY.size h_)
       have tv := mY.trans DN (fun x_ hx_ => .inr (db x_ hx_))
       refine WD.sem 7 (Builtin.append_ #[22, 22] 22 #[.slice iL (0 + L.length) iM, .slice (some ⟨DH, 0, none⟩) 3 3]) 45 (.slice wj (0 + L.length + 3) wk) (by kernel_rfl) (by kernel_rfl) DL tv ?_
       refine WD.call 8 (by kernel_rfl) rfl rfl rfl rfl rfl (by kernel_rfl) (Fold_n wj (0 + L.length + 3) wk (sickL3 L dip now) JS (own_rd tu cellsC_len (by decide)) (by simp [sickL3]) (sick_at (fun m_ h_ => cmdAt.fr0 (hL m_ h_) mZ.fr) (at2 (cmd_nil hwy_ rfl) (cmd_nil hwx_ rfl) (cmd_nil hwy_ rfl))) (by omega) (Rd.fr hg mZ.fr)) ?_
       rintro _ N6 ⟨dE, dF, dG, dH, dI, dJ, dK, dL, dM, hJ, hK, DO, rfl, tw, tx, DP⟩
       have ty := mZ.callN tw DP tx.lt
       have hf := tv.trans tw (by simp)
       refine ⟨_, rfl, hf, ?_⟩
       refine WDq (NPt hN) 9 37 (.tuple #[.agg #[.int .i64 ((foldC (vals (sickL3 L dip now))).epoch), .int .i64 ((foldC (vals (sickL3 L dip now))).now), .slice dE dG.length dF, .slice dH ((foldC (vals (sickL3 L dip now))).snats.length) dI, .slice dJ ((foldC (vals (sickL3 L dip now))).sick.length) dK, .slice dL ((foldC (vals (sickL3 L dip now))).leases.length) dM], .slice hJ ((resC (vals (sickL3 L dip now))).length) hK]) hf ?_
       refine WDq (NPt hN) 10 47 (.agg #[.int .i64 ((foldC (vals (sickL3 L dip now))).epoch), .int .i64 ((foldC (vals (sickL3 L dip now))).now), .slice dE dG.length dF, .slice dH ((foldC (vals (sickL3 L dip now))).snats.length) dI, .slice dJ ((foldC (vals (sickL3 L dip now))).sick.length) dK, .slice dL ((foldC (vals (sickL3 L dip now))).leases.length) dM]) hf ?_
       refine WDq (NPt hN) 11 48 (.slice hJ ((resC (vals (sickL3 L dip now))).length) hK) hf ?_
       obtain ⟨N7, DQ, tA, DS⟩ := sto_run (c' := #[.int .i64 ((foldC (vals (sickL3 L dip now))).epoch), .int .i64 ((foldC (vals (sickL3 L dip now))).now), .slice dE dG.length dF, .slice dH ((foldC (vals (sickL3 L dip now))).snats.length) dI, .slice dJ ((foldC (vals (sickL3 L dip now))).sick.length) dK, .slice dL ((foldC (vals (sickL3 L dip now))).leases.length) dM]) Tryz.prog ty 3 31 wi 0 (.agg #[.int .i64 ((foldC (vals (sickL3 L dip now))).epoch), .int .i64 ((foldC (vals (sickL3 L dip now))).now), .slice dE dG.length dF, .slice dH ((foldC (vals (sickL3 L dip now))).snats.length) dI, .slice dJ ((foldC (vals (sickL3 L dip now))).sick.length) dK, .slice dL ((foldC (vals (sickL3 L dip now))).leases.length) dM]) rfl (by kernel_rfl)
       have tB := hf.trans tA (by first | (simp; done) | (simp [*]; done) | (have q_ := hf.size; simp; omega))
       refine WD.semU 13 (Instr.storeAt 31 (.pointer (some ⟨wi, 0, none⟩)) (.agg #[.int .i64 ((foldC (vals (sickL3 L dip now))).epoch), .int .i64 ((foldC (vals (sickL3 L dip now))).now), .slice dE dG.length dF, .slice dH ((foldC (vals (sickL3 L dip now))).snats.length) dI, .slice dJ ((foldC (vals (sickL3 L dip now))).sick.length) dK, .slice dL ((foldC (vals (sickL3 L dip now))).leases.length) dM])) (by kernel_rfl) (by kernel_rfl) DQ tB ?_
       have DT := FoldR.fr tx tA (ty.apartM 2 3 rfl rfl)
       refine WDq (NPt hN) 14 12 (.slice hJ ((resC (vals (sickL3 L dip now))).length) hK) tB ?_
       refine WD.done (by kernel_rfl) ?_
       refine QXn ?_
       have DU := DS.pickM [0, 1, 2, 3] [0, 2] (by decide) rfl rfl
       exact fun a_ ha_ => ah _ _ ⟨wi, dE, dF, dG, dH, dI, dJ, dK, dL, dM, hJ, hK, DO, rfl, DU, DT, trivial⟩ a_ (ha_.weaken (sub_of ⟨rfl, rfl, rfl, rfl, rfl, rfl, rfl, rfl, rfl, rfl, trivial⟩))
     ·
      refine WO.new 6 (fun b => .slice (some ⟨b, 0, none⟩) 3 3) (.cells #[.int .i64 16, .int .i64 1, .int .i64 1, .int .i64 now, .int .i64 3, .int .u32 0, .int .i64 0, .int .i64 0, .slice none 0 0, .int .u32 dip, .int .u32 0, .bool true, .int .i64 16, .int .i64 1, .int .i64 0, .int .i64 now, .int .i64 3, .int .u32 0, .int .i64 0, .int .i64 0, .slice none 0 0, .int .u32 dip, .int .u32 0, .bool false, .int .i64 16, .int .i64 1, .int .i64 1, .int .i64 now, .int .i64 3, .int .u32 0, .int .i64 0, .int .i64 0, .slice none 0 0, .int .u32 dip, .int .u32 0, .bool true] 45) (by kernel_rfl) rfl rfl rfl rfl rfl (fun _ => by kernel_rfl) (fun mC JV tC Lu tD DV => ?_)
      have m0 := r8.callB tD tC DV
      have DW := Nat.le_trans i1.size tC
      have iP := i1.trans tD (by simp)
      refine ⟨iP, ?_⟩
      refine WD.all2 2 12 (by kernel_rfl) ?_ ?_
      ·
       have DX : World.ownsRow JV 0 45 12 (.slice (some ⟨ha, 0, none⟩) 0 0) 0 [] := own_of_blk (Nat.zero_le _) (m0.get 3 rfl) (Nat.le_refl _) (Nat.zero_le _) (by simp) rfl
       have tE := m0.toF 3 rfl
       obtain ⟨N8, N9, DY, DZ, D0, m1, Il, sh⟩ := app_run Tryz.prog tE 1 (v := .slice (some ⟨ha, 0, none⟩) 0 0) rfl 22 22 45 12 104 0 L.length c A rfl DX (L.flatMap cellsC) (flat_len_n cellsC_len (by first | rfl | assumption | (simp; done) | (simp; omega))) (Rd.src_n (Rd.fr hr tE.fr) cellsC_len (by decide) (by first | rfl | assumption | (simp; done) | (simp; omega))) (flat_one cellsC_one _) (by simp only [maxLen]; omega) (by omega)
       have m2 := own_app (enc := cellsC) (ys := []) (zs := L) DZ
       obtain ⟨mD, mE, rfl, JW⟩ := own_form m2
       have m3 : ∀ x_ ∈ blk (.slice (some ⟨ha, 0, none⟩) 0 0), ai.heap.size ≤ x_ := by first | (simp [blk, Value.ownBlock, *]; done) | (intro x_ hx_; simp [blk, Value.ownBlock] at hx_; omega)
       have hM : ∀ x_ ∈ blk (.slice mD (0 + L.length) mE), ai.heap.size ≤ x_ := fun x_ hx_ => (sh x_ hx_).elim (m3 x_) (fun h_ => Nat.le_trans iP.size h_)
       have iQ := iP.trans D0 (fun x_ hx_ => .inr (m3 x_ hx_))
       refine WO.sem 2 (Builtin.append_ #[22, 22] 22 #[.slice (some ⟨ha, 0, none⟩) 0 0, .slice A L.length c]) 40 (.slice mD (0 + L.length) mE) (by kernel_rfl) (by kernel_rfl) DY iQ ?_
       refine WD.all2 7 12 (by kernel_rfl) ?_ ?_
       ·
        obtain ⟨Oa, JX, D1, D2, D3, lI, Im, si⟩ := app_run Tryz.prog m1 1 (v := .slice mD (0 + L.length) mE) rfl 22 22 45 12 104 (0 + L.length) 3 3 (some ⟨mC, 0, none⟩) rfl m2 [.int .i64 16, .int .i64 1, .int .i64 1, .int .i64 now, .int .i64 3, .int .u32 0, .int .i64 0, .int .i64 0, .slice none 0 0, .int .u32 dip, .int .u32 0, .bool true, .int .i64 16, .int .i64 1, .int .i64 0, .int .i64 now, .int .i64 3, .int .u32 0, .int .i64 0, .int .i64 0, .slice none 0 0, .int .u32 dip, .int .u32 0, .bool false, .int .i64 16, .int .i64 1, .int .i64 1, .int .i64 now, .int .i64 3, .int .u32 0, .int .i64 0, .int .i64 0, .slice none 0 0, .int .u32 dip, .int .u32 0, .bool true] rfl (srcOk.blk 3 (m1.get 3 rfl)) rfl (by simp only [maxLen]; omega) (by omega)
        have m4 := own_app (enc := cellsC) (ys := [] ++ L) (zs := [(⟨⟨16, 1, 1, now, 3, 0, 0, 0, [], dip, 0, true⟩, none, 0⟩ : Cmd), (⟨⟨16, 1, 0, now, 3, 0, 0, 0, [], dip, 0, false⟩, none, 0⟩ : Cmd), (⟨⟨16, 1, 1, now, 3, 0, 0, 0, [], dip, 0, true⟩, none, 0⟩ : Cmd)]) D2
        obtain ⟨sj, sk, rfl, JY⟩ := own_form m4
        have JZ : ∀ x_ ∈ blk (.slice sj (0 + L.length + 3) sk), ai.heap.size ≤ x_ := fun x_ hx_ => (si x_ hx_).elim (hM x_) (fun h_ => Nat.le_trans iQ.size h_)
        have lJ := iQ.trans D3 (fun x_ hx_ => .inr (hM x_ hx_))
        refine WO.sem 7 (Builtin.append_ #[22, 22] 22 #[.slice mD (0 + L.length) mE, .slice (some ⟨mC, 0, none⟩) 3 3]) 45 (.slice sj (0 + L.length + 3) sk) (by kernel_rfl) (by kernel_rfl) D1 lJ ?_
        refine WD.all2 8 12 (by kernel_rfl) ?_ ?_
        ·
         refine WO.call 8 (by kernel_rfl) rfl rfl rfl rfl rfl (by kernel_rfl) (Fold_n sj (0 + L.length + 3) sk (sickL3 L dip now) JX (own_rd m4 cellsC_len (by decide)) (by simp [sickL3]) (sick_at (fun m_ h_ => cmdAt.fr0 (hL m_ h_) lI.fr) (at2 (cmd_nil hwy_ rfl) (cmd_nil hwx_ rfl) (cmd_nil hwy_ rfl))) (by omega) (Rd.fr hg lI.fr)) ?_
         rintro _ Ob ⟨dN, dO, dP, dQ, dR, dS, dT, dU, dV, hO, hP, D4, rfl, tF, tG, D5⟩
         have D6 := lI.callN tF D5 tG.lt
         have hh := lJ.trans tF (by simp)
         refine ⟨_, rfl, hh, ?_⟩
         refine WDq (NPt hN) 9 37 (.tuple #[.agg #[.int .i64 ((foldC (vals (sickL3 L dip now))).epoch), .int .i64 ((foldC (vals (sickL3 L dip now))).now), .slice dN dP.length dO, .slice dQ ((foldC (vals (sickL3 L dip now))).snats.length) dR, .slice dS ((foldC (vals (sickL3 L dip now))).sick.length) dT, .slice dU ((foldC (vals (sickL3 L dip now))).leases.length) dV], .slice hO ((resC (vals (sickL3 L dip now))).length) hP]) hh ?_
         refine WDq (NPt hN) 10 47 (.agg #[.int .i64 ((foldC (vals (sickL3 L dip now))).epoch), .int .i64 ((foldC (vals (sickL3 L dip now))).now), .slice dN dP.length dO, .slice dQ ((foldC (vals (sickL3 L dip now))).snats.length) dR, .slice dS ((foldC (vals (sickL3 L dip now))).sick.length) dT, .slice dU ((foldC (vals (sickL3 L dip now))).leases.length) dV]) hh ?_
         refine WDq (NPt hN) 11 48 (.slice hO ((resC (vals (sickL3 L dip now))).length) hP) hh ?_
         refine WD.new 12 (fun b => .pointer (some ⟨b, 0, none⟩)) (.cells #[.int .i64 0, .int .i64 0, .slice none 0 0, .slice none 0 0, .slice none 0 0, .slice none 0 0] 31) (by kernel_rfl) rfl rfl rfl rfl rfl (fun _ => by kernel_rfl) (fun wl Oc tH Lv m5 D7 => ?_)
         have tI := D6.callB m5 tH D7
         have D8 := Nat.le_trans hh.size tH
         have m6 := hh.trans m5 (by simp)
         refine ⟨m6, ?_⟩
         have D9 := FoldR.fr tG m5 (by simp)
         obtain ⟨Od, Ea, tJ, Eb⟩ := sto_run (c' := #[.int .i64 ((foldC (vals (sickL3 L dip now))).epoch), .int .i64 ((foldC (vals (sickL3 L dip now))).now), .slice dN dP.length dO, .slice dQ ((foldC (vals (sickL3 L dip now))).snats.length) dR, .slice dS ((foldC (vals (sickL3 L dip now))).sick.length) dT, .slice dU ((foldC (vals (sickL3 L dip now))).leases.length) dV]) Tryz.prog tI 4 31 wl 0 (.agg #[.int .i64 ((foldC (vals (sickL3 L dip now))).epoch), .int .i64 ((foldC (vals (sickL3 L dip now))).now), .slice dN dP.length dO, .slice dQ ((foldC (vals (sickL3 L dip now))).snats.length) dR, .slice dS ((foldC (vals (sickL3 L dip now))).sick.length) dT, .slice dU ((foldC (vals (sickL3 L dip now))).leases.length) dV]) rfl (by kernel_rfl)
         have tK := m6.trans tJ (by first | (simp; done) | (simp [*]; done) | (have q_ := m6.size; simp; omega))
         refine WD.semU 13 (Instr.storeAt 31 (.pointer (some ⟨wl, 0, none⟩)) (.agg #[.int .i64 ((foldC (vals (sickL3 L dip now))).epoch), .int .i64 ((foldC (vals (sickL3 L dip now))).now), .slice dN dP.length dO, .slice dQ ((foldC (vals (sickL3 L dip now))).snats.length) dR, .slice dS ((foldC (vals (sickL3 L dip now))).sick.length) dT, .slice dU ((foldC (vals (sickL3 L dip now))).leases.length) dV])) (by kernel_rfl) (by kernel_rfl) Ea tK ?_
         have Ec := FoldR.fr D9 tJ (tI.apartM 2 4 rfl rfl)
         refine WDq (NPt hN) 14 12 (.slice hO ((resC (vals (sickL3 L dip now))).length) hP) tK ?_
         refine WD.done (by kernel_rfl) ?_
         refine QXn ?_
         have Ed := Eb.pickM [0, 1, 2, 4] [0, 2] (by decide) rfl rfl
         exact fun a_ ha_ => ah _ _ ⟨wl, dN, dO, dP, dQ, dR, dS, dT, dU, dV, hO, hP, D4, rfl, Ed, Ec, trivial⟩ a_ (ha_.weaken (sub_of ⟨rfl, rfl, rfl, rfl, rfl, rfl, rfl, rfl, rfl, rfl, trivial⟩))
        ·
         refine WO.new 12 (fun b => .pointer (some ⟨b, 0, none⟩)) (.cells #[.int .i64 0, .int .i64 0, .slice none 0 0, .slice none 0 0, .slice none 0 0, .slice none 0 0] 31) (by kernel_rfl) rfl rfl rfl rfl rfl (fun _ => by kernel_rfl) (fun wm J0 tL Lw m7 Ee => ?_)
         have m8 := lI.callB m7 tL Ee
         have Ef := Nat.le_trans lJ.size tL
         have tM := lJ.trans m7 (by simp)
         refine ⟨tM, ?_⟩
         have Eg := own_fr m4 m7 (by simp)
         refine WD.call 8 (by kernel_rfl) rfl rfl rfl rfl rfl (by kernel_rfl) (Fold_n sj (0 + L.length + 3) sk (sickL3 L dip now) J0 (own_rd Eg cellsC_len (by decide)) (by simp [sickL3]) (sick_at (fun m_ h_ => cmdAt.fr0 (hL m_ h_) m8.fr) (at2 (cmd_nil hwy_ rfl) (cmd_nil hwx_ rfl) (cmd_nil hwy_ rfl))) (by omega) (Rd.fr hg m8.fr)) ?_
         rintro _ Oe ⟨dW, dX, dY, dZ, d0, d1, d2, d3, d4, hQ, hR, Eh, rfl, tN, tO, Ei⟩
         have tP := m8.callN tN Ei tO.lt
         have hj := tM.trans tN (by simp)
         refine ⟨_, rfl, hj, ?_⟩
         refine WDq (NPt hN) 9 37 (.tuple #[.agg #[.int .i64 ((foldC (vals (sickL3 L dip now))).epoch), .int .i64 ((foldC (vals (sickL3 L dip now))).now), .slice dW dY.length dX, .slice dZ ((foldC (vals (sickL3 L dip now))).snats.length) d0, .slice d1 ((foldC (vals (sickL3 L dip now))).sick.length) d2, .slice d3 ((foldC (vals (sickL3 L dip now))).leases.length) d4], .slice hQ ((resC (vals (sickL3 L dip now))).length) hR]) hj ?_
         refine WDq (NPt hN) 10 47 (.agg #[.int .i64 ((foldC (vals (sickL3 L dip now))).epoch), .int .i64 ((foldC (vals (sickL3 L dip now))).now), .slice dW dY.length dX, .slice dZ ((foldC (vals (sickL3 L dip now))).snats.length) d0, .slice d1 ((foldC (vals (sickL3 L dip now))).sick.length) d2, .slice d3 ((foldC (vals (sickL3 L dip now))).leases.length) d4]) hj ?_
         refine WDq (NPt hN) 11 48 (.slice hQ ((resC (vals (sickL3 L dip now))).length) hR) hj ?_
         obtain ⟨Of, Ej, tQ, Ek⟩ := sto_run (c' := #[.int .i64 ((foldC (vals (sickL3 L dip now))).epoch), .int .i64 ((foldC (vals (sickL3 L dip now))).now), .slice dW dY.length dX, .slice dZ ((foldC (vals (sickL3 L dip now))).snats.length) d0, .slice d1 ((foldC (vals (sickL3 L dip now))).sick.length) d2, .slice d3 ((foldC (vals (sickL3 L dip now))).leases.length) d4]) Tryz.prog tP 4 31 wm 0 (.agg #[.int .i64 ((foldC (vals (sickL3 L dip now))).epoch), .int .i64 ((foldC (vals (sickL3 L dip now))).now), .slice dW dY.length dX, .slice dZ ((foldC (vals (sickL3 L dip now))).snats.length) d0, .slice d1 ((foldC (vals (sickL3 L dip now))).sick.length) d2, .slice d3 ((foldC (vals (sickL3 L dip now))).leases.length) d4]) rfl (by kernel_rfl)
         have tR := hj.trans tQ (by first | (simp; done) | (simp [*]; done) | (have q_ := hj.size; simp; omega))
         refine WD.semU 13 (Instr.storeAt 31 (.pointer (some ⟨wm, 0, none⟩)) (.agg #[.int .i64 ((foldC (vals (sickL3 L dip now))).epoch), .int .i64 ((foldC (vals (sickL3 L dip now))).now), .slice dW dY.length dX, .slice dZ ((foldC (vals (sickL3 L dip now))).snats.length) d0, .slice d1 ((foldC (vals (sickL3 L dip now))).sick.length) d2, .slice d3 ((foldC (vals (sickL3 L dip now))).leases.length) d4])) (by kernel_rfl) (by kernel_rfl) Ej tR ?_
         have El := FoldR.fr tO tQ (tP.apartM 2 4 rfl rfl)
         refine WDq (NPt hN) 14 12 (.slice hQ ((resC (vals (sickL3 L dip now))).length) hR) tR ?_
         refine WD.done (by kernel_rfl) ?_
         refine QXn ?_
         have Em := Ek.pickM [0, 1, 2, 4] [0, 2] (by decide) rfl rfl
         exact fun a_ ha_ => ah _ _ ⟨wm, dW, dX, dY, dZ, d0, d1, d2, d3, d4, hQ, hR, Eh, rfl, Em, El, trivial⟩ a_ (ha_.weaken (sub_of ⟨rfl, rfl, rfl, rfl, rfl, rfl, rfl, rfl, rfl, rfl, trivial⟩))
       ·
        refine WO.new 12 (fun b => .pointer (some ⟨b, 0, none⟩)) (.cells #[.int .i64 0, .int .i64 0, .slice none 0 0, .slice none 0 0, .slice none 0 0, .slice none 0 0] 31) (by kernel_rfl) rfl rfl rfl rfl rfl (fun _ => by kernel_rfl) (fun wn Og tS Lx m9 En => ?_)
        have tT := m1.callB m9 tS En
        have Eo := Nat.le_trans iQ.size tS
        have na := iQ.trans m9 (by simp)
        refine ⟨na, ?_⟩
        have Ep := own_fr m2 m9 (by simp)
        obtain ⟨Oh, J1, Er, Es, Et, nb, In, sl⟩ := app_run Tryz.prog tT 1 (v := .slice mD (0 + L.length) mE) rfl 22 22 45 12 104 (0 + L.length) 3 3 (some ⟨mC, 0, none⟩) rfl Ep [.int .i64 16, .int .i64 1, .int .i64 1, .int .i64 now, .int .i64 3, .int .u32 0, .int .i64 0, .int .i64 0, .slice none 0 0, .int .u32 dip, .int .u32 0, .bool true, .int .i64 16, .int .i64 1, .int .i64 0, .int .i64 now, .int .i64 3, .int .u32 0, .int .i64 0, .int .i64 0, .slice none 0 0, .int .u32 dip, .int .u32 0, .bool false, .int .i64 16, .int .i64 1, .int .i64 1, .int .i64 now, .int .i64 3, .int .u32 0, .int .i64 0, .int .i64 0, .slice none 0 0, .int .u32 dip, .int .u32 0, .bool true] rfl (srcOk.blk 3 (tT.get 3 rfl)) rfl (by simp only [maxLen]; omega) (by omega)
        have tU := own_app (enc := cellsC) (ys := [] ++ L) (zs := [(⟨⟨16, 1, 1, now, 3, 0, 0, 0, [], dip, 0, true⟩, none, 0⟩ : Cmd), (⟨⟨16, 1, 0, now, 3, 0, 0, 0, [], dip, 0, false⟩, none, 0⟩ : Cmd), (⟨⟨16, 1, 1, now, 3, 0, 0, 0, [], dip, 0, true⟩, none, 0⟩ : Cmd)]) Es
        obtain ⟨wo, wp, rfl, J2⟩ := own_form tU
        have J3 : ∀ x_ ∈ blk (.slice wo (0 + L.length + 3) wp), ai.heap.size ≤ x_ := fun x_ hx_ => (sl x_ hx_).elim (hM x_) (fun h_ => Nat.le_trans na.size h_)
        have tV := na.trans Et (fun x_ hx_ => .inr (hM x_ hx_))
        refine WD.sem 7 (Builtin.append_ #[22, 22] 22 #[.slice mD (0 + L.length) mE, .slice (some ⟨mC, 0, none⟩) 3 3]) 45 (.slice wo (0 + L.length + 3) wp) (by kernel_rfl) (by kernel_rfl) Er tV ?_
        refine WD.call 8 (by kernel_rfl) rfl rfl rfl rfl rfl (by kernel_rfl) (Fold_n wo (0 + L.length + 3) wp (sickL3 L dip now) J1 (own_rd tU cellsC_len (by decide)) (by simp [sickL3]) (sick_at (fun m_ h_ => cmdAt.fr0 (hL m_ h_) nb.fr) (at2 (cmd_nil hwy_ rfl) (cmd_nil hwx_ rfl) (cmd_nil hwy_ rfl))) (by omega) (Rd.fr hg nb.fr)) ?_
        rintro _ Oi ⟨d5, d6, d7, d8, d9, ea, eb, ec, ed, hS, hT, Eu, rfl, tW, tX, Ev⟩
        have tY := nb.callN tW Ev tX.lt
        have hk := tV.trans tW (by simp)
        refine ⟨_, rfl, hk, ?_⟩
        refine WDq (NPt hN) 9 37 (.tuple #[.agg #[.int .i64 ((foldC (vals (sickL3 L dip now))).epoch), .int .i64 ((foldC (vals (sickL3 L dip now))).now), .slice d5 d7.length d6, .slice d8 ((foldC (vals (sickL3 L dip now))).snats.length) d9, .slice ea ((foldC (vals (sickL3 L dip now))).sick.length) eb, .slice ec ((foldC (vals (sickL3 L dip now))).leases.length) ed], .slice hS ((resC (vals (sickL3 L dip now))).length) hT]) hk ?_
        refine WDq (NPt hN) 10 47 (.agg #[.int .i64 ((foldC (vals (sickL3 L dip now))).epoch), .int .i64 ((foldC (vals (sickL3 L dip now))).now), .slice d5 d7.length d6, .slice d8 ((foldC (vals (sickL3 L dip now))).snats.length) d9, .slice ea ((foldC (vals (sickL3 L dip now))).sick.length) eb, .slice ec ((foldC (vals (sickL3 L dip now))).leases.length) ed]) hk ?_
        refine WDq (NPt hN) 11 48 (.slice hS ((resC (vals (sickL3 L dip now))).length) hT) hk ?_
        obtain ⟨Oj, Ew, tZ, Ex⟩ := sto_run (c' := #[.int .i64 ((foldC (vals (sickL3 L dip now))).epoch), .int .i64 ((foldC (vals (sickL3 L dip now))).now), .slice d5 d7.length d6, .slice d8 ((foldC (vals (sickL3 L dip now))).snats.length) d9, .slice ea ((foldC (vals (sickL3 L dip now))).sick.length) eb, .slice ec ((foldC (vals (sickL3 L dip now))).leases.length) ed]) Tryz.prog tY 4 31 wn 0 (.agg #[.int .i64 ((foldC (vals (sickL3 L dip now))).epoch), .int .i64 ((foldC (vals (sickL3 L dip now))).now), .slice d5 d7.length d6, .slice d8 ((foldC (vals (sickL3 L dip now))).snats.length) d9, .slice ea ((foldC (vals (sickL3 L dip now))).sick.length) eb, .slice ec ((foldC (vals (sickL3 L dip now))).leases.length) ed]) rfl (by kernel_rfl)
        have t0 := hk.trans tZ (by first | (simp; done) | (simp [*]; done) | (have q_ := hk.size; simp; omega))
        refine WD.semU 13 (Instr.storeAt 31 (.pointer (some ⟨wn, 0, none⟩)) (.agg #[.int .i64 ((foldC (vals (sickL3 L dip now))).epoch), .int .i64 ((foldC (vals (sickL3 L dip now))).now), .slice d5 d7.length d6, .slice d8 ((foldC (vals (sickL3 L dip now))).snats.length) d9, .slice ea ((foldC (vals (sickL3 L dip now))).sick.length) eb, .slice ec ((foldC (vals (sickL3 L dip now))).leases.length) ed])) (by kernel_rfl) (by kernel_rfl) Ew t0 ?_
        have Ey := FoldR.fr tX tZ (tY.apartM 2 4 rfl rfl)
        refine WDq (NPt hN) 14 12 (.slice hS ((resC (vals (sickL3 L dip now))).length) hT) t0 ?_
        refine WD.done (by kernel_rfl) ?_
        refine QXn ?_
        have Ez := Ex.pickM [0, 1, 2, 4] [0, 2] (by decide) rfl rfl
        exact fun a_ ha_ => ah _ _ ⟨wn, d5, d6, d7, d8, d9, ea, eb, ec, ed, hS, hT, Eu, rfl, Ez, Ey, trivial⟩ a_ (ha_.weaken (sub_of ⟨rfl, rfl, rfl, rfl, rfl, rfl, rfl, rfl, rfl, rfl, trivial⟩))
      ·
       refine WO.new 12 (fun b => .pointer (some ⟨b, 0, none⟩)) (.cells #[.int .i64 0, .int .i64 0, .slice none 0 0, .slice none 0 0, .slice none 0 0, .slice none 0 0] 31) (by kernel_rfl) rfl rfl rfl rfl rfl (fun _ => by kernel_rfl) (fun wq J4 t1 Ly t2 EA => ?_)
       have t3 := m0.callB t2 t1 EA
       have EB := Nat.le_trans iP.size t1
       have nc := iP.trans t2 (by simp)
       refine ⟨nc, ?_⟩
       have EC : World.ownsRow J4 0 45 12 (.slice (some ⟨ha, 0, none⟩) 0 0) 0 [] := own_of_blk (Nat.zero_le _) (t3.get 3 rfl) (Nat.le_refl _) (Nat.zero_le _) (by simp) rfl
       have t4 := t3.toF 3 rfl
       obtain ⟨Ok, Ol, ED, EE, EF, t5, Io, sm⟩ := app_run Tryz.prog t4 1 (v := .slice (some ⟨ha, 0, none⟩) 0 0) rfl 22 22 45 12 104 0 L.length c A rfl EC (L.flatMap cellsC) (flat_len_n cellsC_len (by first | rfl | assumption | (simp; done) | (simp; omega))) (Rd.src_n (Rd.fr hr t4.fr) cellsC_len (by decide) (by first | rfl | assumption | (simp; done) | (simp; omega))) (flat_one cellsC_one _) (by simp only [maxLen]; omega) (by omega)
       have t6 := own_app (enc := cellsC) (ys := []) (zs := L) EE
       obtain ⟨so, sp, rfl, J5⟩ := own_form t6
       have nd : ∀ x_ ∈ blk (.slice (some ⟨ha, 0, none⟩) 0 0), ai.heap.size ≤ x_ := by first | (simp [blk, Value.ownBlock, *]; done) | (intro x_ hx_; simp [blk, Value.ownBlock] at hx_; omega)
       have nf : ∀ x_ ∈ blk (.slice so (0 + L.length) sp), ai.heap.size ≤ x_ := fun x_ hx_ => (sm x_ hx_).elim (nd x_) (fun h_ => Nat.le_trans nc.size h_)
       have ng := nc.trans EF (fun x_ hx_ => .inr (nd x_ hx_))
       refine WD.sem 2 (Builtin.append_ #[22, 22] 22 #[.slice (some ⟨ha, 0, none⟩) 0 0, .slice A L.length c]) 40 (.slice so (0 + L.length) sp) (by kernel_rfl) (by kernel_rfl) ED ng ?_
       obtain ⟨Om, J6, EG, EH, EI, nh, Ip, sq⟩ := app_run Tryz.prog t5 1 (v := .slice so (0 + L.length) sp) rfl 22 22 45 12 104 (0 + L.length) 3 3 (some ⟨mC, 0, none⟩) rfl t6 [.int .i64 16, .int .i64 1, .int .i64 1, .int .i64 now, .int .i64 3, .int .u32 0, .int .i64 0, .int .i64 0, .slice none 0 0, .int .u32 dip, .int .u32 0, .bool true, .int .i64 16, .int .i64 1, .int .i64 0, .int .i64 now, .int .i64 3, .int .u32 0, .int .i64 0, .int .i64 0, .slice none 0 0, .int .u32 dip, .int .u32 0, .bool false, .int .i64 16, .int .i64 1, .int .i64 1, .int .i64 now, .int .i64 3, .int .u32 0, .int .i64 0, .int .i64 0, .slice none 0 0, .int .u32 dip, .int .u32 0, .bool true] rfl (srcOk.blk 3 (t5.get 3 rfl)) rfl (by simp only [maxLen]; omega) (by omega)
       have t7 := own_app (enc := cellsC) (ys := [] ++ L) (zs := [(⟨⟨16, 1, 1, now, 3, 0, 0, 0, [], dip, 0, true⟩, none, 0⟩ : Cmd), (⟨⟨16, 1, 0, now, 3, 0, 0, 0, [], dip, 0, false⟩, none, 0⟩ : Cmd), (⟨⟨16, 1, 1, now, 3, 0, 0, 0, [], dip, 0, true⟩, none, 0⟩ : Cmd)]) EH
       obtain ⟨wr, ws, rfl, J7⟩ := own_form t7
       have J8 : ∀ x_ ∈ blk (.slice wr (0 + L.length + 3) ws), ai.heap.size ≤ x_ := fun x_ hx_ => (sq x_ hx_).elim (nf x_) (fun h_ => Nat.le_trans ng.size h_)
       have t8 := ng.trans EI (fun x_ hx_ => .inr (nf x_ hx_))
       refine WD.sem 7 (Builtin.append_ #[22, 22] 22 #[.slice so (0 + L.length) sp, .slice (some ⟨mC, 0, none⟩) 3 3]) 45 (.slice wr (0 + L.length + 3) ws) (by kernel_rfl) (by kernel_rfl) EG t8 ?_
       refine WD.call 8 (by kernel_rfl) rfl rfl rfl rfl rfl (by kernel_rfl) (Fold_n wr (0 + L.length + 3) ws (sickL3 L dip now) J6 (own_rd t7 cellsC_len (by decide)) (by simp [sickL3]) (sick_at (fun m_ h_ => cmdAt.fr0 (hL m_ h_) nh.fr) (at2 (cmd_nil hwy_ rfl) (cmd_nil hwx_ rfl) (cmd_nil hwy_ rfl))) (by omega) (Rd.fr hg nh.fr)) ?_
       rintro _ On ⟨ee, ef, eg, eh, ei, ej, ek, el, em, hU, hV, EJ, rfl, t9, ua, EK⟩
       have ub := nh.callN t9 EK ua.lt
       have hl := t8.trans t9 (by simp)
       refine ⟨_, rfl, hl, ?_⟩
       refine WDq (NPt hN) 9 37 (.tuple #[.agg #[.int .i64 ((foldC (vals (sickL3 L dip now))).epoch), .int .i64 ((foldC (vals (sickL3 L dip now))).now), .slice ee eg.length ef, .slice eh ((foldC (vals (sickL3 L dip now))).snats.length) ei, .slice ej ((foldC (vals (sickL3 L dip now))).sick.length) ek, .slice el ((foldC (vals (sickL3 L dip now))).leases.length) em], .slice hU ((resC (vals (sickL3 L dip now))).length) hV]) hl ?_
       refine WDq (NPt hN) 10 47 (.agg #[.int .i64 ((foldC (vals (sickL3 L dip now))).epoch), .int .i64 ((foldC (vals (sickL3 L dip now))).now), .slice ee eg.length ef, .slice eh ((foldC (vals (sickL3 L dip now))).snats.length) ei, .slice ej ((foldC (vals (sickL3 L dip now))).sick.length) ek, .slice el ((foldC (vals (sickL3 L dip now))).leases.length) em]) hl ?_
       refine WDq (NPt hN) 11 48 (.slice hU ((resC (vals (sickL3 L dip now))).length) hV) hl ?_
       obtain ⟨Oo, EL, uc, EM⟩ := sto_run (c' := #[.int .i64 ((foldC (vals (sickL3 L dip now))).epoch), .int .i64 ((foldC (vals (sickL3 L dip now))).now), .slice ee eg.length ef, .slice eh ((foldC (vals (sickL3 L dip now))).snats.length) ei, .slice ej ((foldC (vals (sickL3 L dip now))).sick.length) ek, .slice el ((foldC (vals (sickL3 L dip now))).leases.length) em]) Tryz.prog ub 4 31 wq 0 (.agg #[.int .i64 ((foldC (vals (sickL3 L dip now))).epoch), .int .i64 ((foldC (vals (sickL3 L dip now))).now), .slice ee eg.length ef, .slice eh ((foldC (vals (sickL3 L dip now))).snats.length) ei, .slice ej ((foldC (vals (sickL3 L dip now))).sick.length) ek, .slice el ((foldC (vals (sickL3 L dip now))).leases.length) em]) rfl (by kernel_rfl)
       have ud := hl.trans uc (by first | (simp; done) | (simp [*]; done) | (have q_ := hl.size; simp; omega))
       refine WD.semU 13 (Instr.storeAt 31 (.pointer (some ⟨wq, 0, none⟩)) (.agg #[.int .i64 ((foldC (vals (sickL3 L dip now))).epoch), .int .i64 ((foldC (vals (sickL3 L dip now))).now), .slice ee eg.length ef, .slice eh ((foldC (vals (sickL3 L dip now))).snats.length) ei, .slice ej ((foldC (vals (sickL3 L dip now))).sick.length) ek, .slice el ((foldC (vals (sickL3 L dip now))).leases.length) em])) (by kernel_rfl) (by kernel_rfl) EL ud ?_
       have EN := FoldR.fr ua uc (ub.apartM 2 4 rfl rfl)
       refine WDq (NPt hN) 14 12 (.slice hU ((resC (vals (sickL3 L dip now))).length) hV) ud ?_
       refine WD.done (by kernel_rfl) ?_
       refine QXn ?_
       have EO := EM.pickM [0, 1, 2, 4] [0, 2] (by decide) rfl rfl
       exact fun a_ ha_ => ah _ _ ⟨wq, ee, ef, eg, eh, ei, ej, ek, el, em, hU, hV, EJ, rfl, EO, EN, trivial⟩ a_ (ha_.weaken (sub_of ⟨rfl, rfl, rfl, rfl, rfl, rfl, rfl, rfl, rfl, rfl, trivial⟩))
     ·
      refine WO.new 12 (fun b => .pointer (some ⟨b, 0, none⟩)) (.cells #[.int .i64 0, .int .i64 0, .slice none 0 0, .slice none 0 0, .slice none 0 0, .slice none 0 0] 31) (by kernel_rfl) rfl rfl rfl rfl rfl (fun _ => by kernel_rfl) (fun mF J9 ue Lz uf EP => ?_)
      have ni := r8.callB uf ue EP
      have EQ := Nat.le_trans i1.size ue
      have iR := i1.trans uf (by simp)
      refine ⟨iR, ?_⟩
      refine WD.all2 2 6 (by kernel_rfl) ?_ ?_
      ·
       have ER : World.ownsRow J9 0 45 12 (.slice (some ⟨ha, 0, none⟩) 0 0) 0 [] := own_of_blk (Nat.zero_le _) (ni.get 3 rfl) (Nat.le_refl _) (Nat.zero_le _) (by simp) rfl
       have ug := ni.toF 3 rfl
       obtain ⟨Op, Oq, ES, ET, EU, EV, Iq, sr⟩ := app_run Tryz.prog ug 1 (v := .slice (some ⟨ha, 0, none⟩) 0 0) rfl 22 22 45 12 104 0 L.length c A rfl ER (L.flatMap cellsC) (flat_len_n cellsC_len (by first | rfl | assumption | (simp; done) | (simp; omega))) (Rd.src_n (Rd.fr hr ug.fr) cellsC_len (by decide) (by first | rfl | assumption | (simp; done) | (simp; omega))) (flat_one cellsC_one _) (by simp only [maxLen]; omega) (by omega)
       have uh := own_app (enc := cellsC) (ys := []) (zs := L) ET
       obtain ⟨ss, su, rfl, Ka⟩ := own_form uh
       have nj : ∀ x_ ∈ blk (.slice (some ⟨ha, 0, none⟩) 0 0), ai.heap.size ≤ x_ := by first | (simp [blk, Value.ownBlock, *]; done) | (intro x_ hx_; simp [blk, Value.ownBlock] at hx_; omega)
       have nk : ∀ x_ ∈ blk (.slice ss (0 + L.length) su), ai.heap.size ≤ x_ := fun x_ hx_ => (sr x_ hx_).elim (nj x_) (fun h_ => Nat.le_trans iR.size h_)
       have nl := iR.trans EU (fun x_ hx_ => .inr (nj x_ hx_))
       refine WO.sem 2 (Builtin.append_ #[22, 22] 22 #[.slice (some ⟨ha, 0, none⟩) 0 0, .slice A L.length c]) 40 (.slice ss (0 + L.length) su) (by kernel_rfl) (by kernel_rfl) ES nl ?_
       refine WD.new 6 (fun b => .slice (some ⟨b, 0, none⟩) 3 3) (.cells #[.int .i64 16, .int .i64 1, .int .i64 1, .int .i64 now, .int .i64 3, .int .u32 0, .int .i64 0, .int .i64 0, .slice none 0 0, .int .u32 dip, .int .u32 0, .bool true, .int .i64 16, .int .i64 1, .int .i64 0, .int .i64 now, .int .i64 3, .int .u32 0, .int .i64 0, .int .i64 0, .slice none 0 0, .int .u32 dip, .int .u32 0, .bool false, .int .i64 16, .int .i64 1, .int .i64 1, .int .i64 now, .int .i64 3, .int .u32 0, .int .i64 0, .int .i64 0, .slice none 0 0, .int .u32 dip, .int .u32 0, .bool true] 45) (by kernel_rfl) rfl rfl rfl rfl rfl (fun _ => by kernel_rfl) (fun EW Os ui LA nm EX => ?_)
       have uj := EV.callB nm ui EX
       have EY := Nat.le_trans nl.size ui
       have np := nl.trans nm (by simp)
       refine ⟨np, ?_⟩
       have EZ := own_fr uh nm (by simp)
       obtain ⟨Ot, Kb, E0, E1, E2, nq, Ir, sv⟩ := app_run Tryz.prog uj 1 (v := .slice ss (0 + L.length) su) rfl 22 22 45 12 104 (0 + L.length) 3 3 (some ⟨EW, 0, none⟩) rfl EZ [.int .i64 16, .int .i64 1, .int .i64 1, .int .i64 now, .int .i64 3, .int .u32 0, .int .i64 0, .int .i64 0, .slice none 0 0, .int .u32 dip, .int .u32 0, .bool true, .int .i64 16, .int .i64 1, .int .i64 0, .int .i64 now, .int .i64 3, .int .u32 0, .int .i64 0, .int .i64 0, .slice none 0 0, .int .u32 dip, .int .u32 0, .bool false, .int .i64 16, .int .i64 1, .int .i64 1, .int .i64 now, .int .i64 3, .int .u32 0, .int .i64 0, .int .i64 0, .slice none 0 0, .int .u32 dip, .int .u32 0, .bool true] rfl (srcOk.blk 3 (uj.get 4 rfl)) rfl (by simp only [maxLen]; omega) (by omega)
       have uk := own_app (enc := cellsC) (ys := [] ++ L) (zs := [(⟨⟨16, 1, 1, now, 3, 0, 0, 0, [], dip, 0, true⟩, none, 0⟩ : Cmd), (⟨⟨16, 1, 0, now, 3, 0, 0, 0, [], dip, 0, false⟩, none, 0⟩ : Cmd), (⟨⟨16, 1, 1, now, 3, 0, 0, 0, [], dip, 0, true⟩, none, 0⟩ : Cmd)]) E1
       obtain ⟨wt, wu, rfl, Kc⟩ := own_form uk
       have Kd : ∀ x_ ∈ blk (.slice wt (0 + L.length + 3) wu), ai.heap.size ≤ x_ := fun x_ hx_ => (sv x_ hx_).elim (nk x_) (fun h_ => Nat.le_trans np.size h_)
       have ul := np.trans E2 (fun x_ hx_ => .inr (nk x_ hx_))
       refine WD.sem 7 (Builtin.append_ #[22, 22] 22 #[.slice ss (0 + L.length) su, .slice (some ⟨EW, 0, none⟩) 3 3]) 45 (.slice wt (0 + L.length + 3) wu) (by kernel_rfl) (by kernel_rfl) E0 ul ?_
       refine WD.call 8 (by kernel_rfl) rfl rfl rfl rfl rfl (by kernel_rfl) (Fold_n wt (0 + L.length + 3) wu (sickL3 L dip now) Kb (own_rd uk cellsC_len (by decide)) (by simp [sickL3]) (sick_at (fun m_ h_ => cmdAt.fr0 (hL m_ h_) nq.fr) (at2 (cmd_nil hwy_ rfl) (cmd_nil hwx_ rfl) (cmd_nil hwy_ rfl))) (by omega) (Rd.fr hg nq.fr)) ?_
       rintro _ Ou ⟨en, eo, ep, er, es, et, eu, ev, ew, hW, hX, E3, rfl, um, un, E4⟩
       have uo := nq.callN um E4 un.lt
       have hm := ul.trans um (by simp)
       refine ⟨_, rfl, hm, ?_⟩
       refine WDq (NPt hN) 9 37 (.tuple #[.agg #[.int .i64 ((foldC (vals (sickL3 L dip now))).epoch), .int .i64 ((foldC (vals (sickL3 L dip now))).now), .slice en ep.length eo, .slice er ((foldC (vals (sickL3 L dip now))).snats.length) es, .slice et ((foldC (vals (sickL3 L dip now))).sick.length) eu, .slice ev ((foldC (vals (sickL3 L dip now))).leases.length) ew], .slice hW ((resC (vals (sickL3 L dip now))).length) hX]) hm ?_
       refine WDq (NPt hN) 10 47 (.agg #[.int .i64 ((foldC (vals (sickL3 L dip now))).epoch), .int .i64 ((foldC (vals (sickL3 L dip now))).now), .slice en ep.length eo, .slice er ((foldC (vals (sickL3 L dip now))).snats.length) es, .slice et ((foldC (vals (sickL3 L dip now))).sick.length) eu, .slice ev ((foldC (vals (sickL3 L dip now))).leases.length) ew]) hm ?_
       refine WDq (NPt hN) 11 48 (.slice hW ((resC (vals (sickL3 L dip now))).length) hX) hm ?_
       obtain ⟨Ov, E5, up, E6⟩ := sto_run (c' := #[.int .i64 ((foldC (vals (sickL3 L dip now))).epoch), .int .i64 ((foldC (vals (sickL3 L dip now))).now), .slice en ep.length eo, .slice er ((foldC (vals (sickL3 L dip now))).snats.length) es, .slice et ((foldC (vals (sickL3 L dip now))).sick.length) eu, .slice ev ((foldC (vals (sickL3 L dip now))).leases.length) ew]) Tryz.prog uo 3 31 mF 0 (.agg #[.int .i64 ((foldC (vals (sickL3 L dip now))).epoch), .int .i64 ((foldC (vals (sickL3 L dip now))).now), .slice en ep.length eo, .slice er ((foldC (vals (sickL3 L dip now))).snats.length) es, .slice et ((foldC (vals (sickL3 L dip now))).sick.length) eu, .slice ev ((foldC (vals (sickL3 L dip now))).leases.length) ew]) rfl (by kernel_rfl)
       have uq := hm.trans up (by first | (simp; done) | (simp [*]; done) | (have q_ := hm.size; simp; omega))
       refine WD.semU 13 (Instr.storeAt 31 (.pointer (some ⟨mF, 0, none⟩)) (.agg #[.int .i64 ((foldC (vals (sickL3 L dip now))).epoch), .int .i64 ((foldC (vals (sickL3 L dip now))).now), .slice en ep.length eo, .slice er ((foldC (vals (sickL3 L dip now))).snats.length) es, .slice et ((foldC (vals (sickL3 L dip now))).sick.length) eu, .slice ev ((foldC (vals (sickL3 L dip now))).leases.length) ew])) (by kernel_rfl) (by kernel_rfl) E5 uq ?_
       have E7 := FoldR.fr un up (uo.apartM 2 3 rfl rfl)
       refine WDq (NPt hN) 14 12 (.slice hW ((resC (vals (sickL3 L dip now))).length) hX) uq ?_
       refine WD.done (by kernel_rfl) ?_
       refine QXn ?_
       have E8 := E6.pickM [0, 1, 2, 3] [0, 2] (by decide) rfl rfl
       exact fun a_ ha_ => ah _ _ ⟨mF, en, eo, ep, er, es, et, eu, ev, ew, hW, hX, E3, rfl, E8, E7, trivial⟩ a_ (ha_.weaken (sub_of ⟨rfl, rfl, rfl, rfl, rfl, rfl, rfl, rfl, rfl, rfl, trivial⟩))
      ·
       refine WO.new 6 (fun b => .slice (some ⟨b, 0, none⟩) 3 3) (.cells #[.int .i64 16, .int .i64 1, .int .i64 1, .int .i64 now, .int .i64 3, .int .u32 0, .int .i64 0, .int .i64 0, .slice none 0 0, .int .u32 dip, .int .u32 0, .bool true, .int .i64 16, .int .i64 1, .int .i64 0, .int .i64 now, .int .i64 3, .int .u32 0, .int .i64 0, .int .i64 0, .slice none 0 0, .int .u32 dip, .int .u32 0, .bool false, .int .i64 16, .int .i64 1, .int .i64 1, .int .i64 now, .int .i64 3, .int .u32 0, .int .i64 0, .int .i64 0, .slice none 0 0, .int .u32 dip, .int .u32 0, .bool true] 45) (by kernel_rfl) rfl rfl rfl rfl rfl (fun _ => by kernel_rfl) (fun E9 Ke ur LB us Fa => ?_)
       have ut := ni.callB us ur Fa
       have Fb := Nat.le_trans iR.size ur
       have nr := iR.trans us (by simp)
       refine ⟨nr, ?_⟩
       have Fc : World.ownsRow Ke 0 45 12 (.slice (some ⟨ha, 0, none⟩) 0 0) 0 [] := own_of_blk (Nat.zero_le _) (ut.get 3 rfl) (Nat.le_refl _) (Nat.zero_le _) (by simp) rfl
       have uu := ut.toF 3 rfl
       obtain ⟨Ow, Ox, Fd, Fe, Ff, uv, Is, sw⟩ := app_run Tryz.prog uu 1 (v := .slice (some ⟨ha, 0, none⟩) 0 0) rfl 22 22 45 12 104 0 L.length c A rfl Fc (L.flatMap cellsC) (flat_len_n cellsC_len (by first | rfl | assumption | (simp; done) | (simp; omega))) (Rd.src_n (Rd.fr hr uu.fr) cellsC_len (by decide) (by first | rfl | assumption | (simp; done) | (simp; omega))) (flat_one cellsC_one _) (by simp only [maxLen]; omega) (by omega)
       have uw := own_app (enc := cellsC) (ys := []) (zs := L) Fe
       obtain ⟨sx, sy, rfl, Kf⟩ := own_form uw
       have ns : ∀ x_ ∈ blk (.slice (some ⟨ha, 0, none⟩) 0 0), ai.heap.size ≤ x_ := by first | (simp [blk, Value.ownBlock, *]; done) | (intro x_ hx_; simp [blk, Value.ownBlock] at hx_; omega)
       have nt : ∀ x_ ∈ blk (.slice sx (0 + L.length) sy), ai.heap.size ≤ x_ := fun x_ hx_ => (sw x_ hx_).elim (ns x_) (fun h_ => Nat.le_trans nr.size h_)
       have nu := nr.trans Ff (fun x_ hx_ => .inr (ns x_ hx_))
       refine WD.sem 2 (Builtin.append_ #[22, 22] 22 #[.slice (some ⟨ha, 0, none⟩) 0 0, .slice A L.length c]) 40 (.slice sx (0 + L.length) sy) (by kernel_rfl) (by kernel_rfl) Fd nu ?_
       obtain ⟨Oy, Kg, Fg, Fh, Fi, nv, Iu, sz⟩ := app_run Tryz.prog uv 1 (v := .slice sx (0 + L.length) sy) rfl 22 22 45 12 104 (0 + L.length) 3 3 (some ⟨E9, 0, none⟩) rfl uw [.int .i64 16, .int .i64 1, .int .i64 1, .int .i64 now, .int .i64 3, .int .u32 0, .int .i64 0, .int .i64 0, .slice none 0 0, .int .u32 dip, .int .u32 0, .bool true, .int .i64 16, .int .i64 1, .int .i64 0, .int .i64 now, .int .i64 3, .int .u32 0, .int .i64 0, .int .i64 0, .slice none 0 0, .int .u32 dip, .int .u32 0, .bool false, .int .i64 16, .int .i64 1, .int .i64 1, .int .i64 now, .int .i64 3, .int .u32 0, .int .i64 0, .int .i64 0, .slice none 0 0, .int .u32 dip, .int .u32 0, .bool true] rfl (srcOk.blk 3 (uv.get 4 rfl)) rfl (by simp only [maxLen]; omega) (by omega)
       have ux := own_app (enc := cellsC) (ys := [] ++ L) (zs := [(⟨⟨16, 1, 1, now, 3, 0, 0, 0, [], dip, 0, true⟩, none, 0⟩ : Cmd), (⟨⟨16, 1, 0, now, 3, 0, 0, 0, [], dip, 0, false⟩, none, 0⟩ : Cmd), (⟨⟨16, 1, 1, now, 3, 0, 0, 0, [], dip, 0, true⟩, none, 0⟩ : Cmd)]) Fh
       obtain ⟨wv, ww, rfl, Kh⟩ := own_form ux
       have Ki : ∀ x_ ∈ blk (.slice wv (0 + L.length + 3) ww), ai.heap.size ≤ x_ := fun x_ hx_ => (sz x_ hx_).elim (nt x_) (fun h_ => Nat.le_trans nu.size h_)
       have uy := nu.trans Fi (fun x_ hx_ => .inr (nt x_ hx_))
       refine WD.sem 7 (Builtin.append_ #[22, 22] 22 #[.slice sx (0 + L.length) sy, .slice (some ⟨E9, 0, none⟩) 3 3]) 45 (.slice wv (0 + L.length + 3) ww) (by kernel_rfl) (by kernel_rfl) Fg uy ?_
       refine WD.call 8 (by kernel_rfl) rfl rfl rfl rfl rfl (by kernel_rfl) (Fold_n wv (0 + L.length + 3) ww (sickL3 L dip now) Kg (own_rd ux cellsC_len (by decide)) (by simp [sickL3]) (sick_at (fun m_ h_ => cmdAt.fr0 (hL m_ h_) nv.fr) (at2 (cmd_nil hwy_ rfl) (cmd_nil hwx_ rfl) (cmd_nil hwy_ rfl))) (by omega) (Rd.fr hg nv.fr)) ?_
       rintro _ Oz ⟨ex, ey, ez, eA, eB, eC, eD, eE, eF, hY, hZ, Fj, rfl, uz, uA, Fk⟩
       have uB := nv.callN uz Fk uA.lt
       have hn := uy.trans uz (by simp)
       refine ⟨_, rfl, hn, ?_⟩
       refine WDq (NPt hN) 9 37 (.tuple #[.agg #[.int .i64 ((foldC (vals (sickL3 L dip now))).epoch), .int .i64 ((foldC (vals (sickL3 L dip now))).now), .slice ex ez.length ey, .slice eA ((foldC (vals (sickL3 L dip now))).snats.length) eB, .slice eC ((foldC (vals (sickL3 L dip now))).sick.length) eD, .slice eE ((foldC (vals (sickL3 L dip now))).leases.length) eF], .slice hY ((resC (vals (sickL3 L dip now))).length) hZ]) hn ?_
       refine WDq (NPt hN) 10 47 (.agg #[.int .i64 ((foldC (vals (sickL3 L dip now))).epoch), .int .i64 ((foldC (vals (sickL3 L dip now))).now), .slice ex ez.length ey, .slice eA ((foldC (vals (sickL3 L dip now))).snats.length) eB, .slice eC ((foldC (vals (sickL3 L dip now))).sick.length) eD, .slice eE ((foldC (vals (sickL3 L dip now))).leases.length) eF]) hn ?_
       refine WDq (NPt hN) 11 48 (.slice hY ((resC (vals (sickL3 L dip now))).length) hZ) hn ?_
       obtain ⟨OA, Fl, uC, Fm⟩ := sto_run (c' := #[.int .i64 ((foldC (vals (sickL3 L dip now))).epoch), .int .i64 ((foldC (vals (sickL3 L dip now))).now), .slice ex ez.length ey, .slice eA ((foldC (vals (sickL3 L dip now))).snats.length) eB, .slice eC ((foldC (vals (sickL3 L dip now))).sick.length) eD, .slice eE ((foldC (vals (sickL3 L dip now))).leases.length) eF]) Tryz.prog uB 3 31 mF 0 (.agg #[.int .i64 ((foldC (vals (sickL3 L dip now))).epoch), .int .i64 ((foldC (vals (sickL3 L dip now))).now), .slice ex ez.length ey, .slice eA ((foldC (vals (sickL3 L dip now))).snats.length) eB, .slice eC ((foldC (vals (sickL3 L dip now))).sick.length) eD, .slice eE ((foldC (vals (sickL3 L dip now))).leases.length) eF]) rfl (by kernel_rfl)
       have uD := hn.trans uC (by first | (simp; done) | (simp [*]; done) | (have q_ := hn.size; simp; omega))
       refine WD.semU 13 (Instr.storeAt 31 (.pointer (some ⟨mF, 0, none⟩)) (.agg #[.int .i64 ((foldC (vals (sickL3 L dip now))).epoch), .int .i64 ((foldC (vals (sickL3 L dip now))).now), .slice ex ez.length ey, .slice eA ((foldC (vals (sickL3 L dip now))).snats.length) eB, .slice eC ((foldC (vals (sickL3 L dip now))).sick.length) eD, .slice eE ((foldC (vals (sickL3 L dip now))).leases.length) eF])) (by kernel_rfl) (by kernel_rfl) Fl uD ?_
       have Fn := FoldR.fr uA uC (uB.apartM 2 3 rfl rfl)
       refine WDq (NPt hN) 14 12 (.slice hY ((resC (vals (sickL3 L dip now))).length) hZ) uD ?_
       refine WD.done (by kernel_rfl) ?_
       refine QXn ?_
       have Fo := Fm.pickM [0, 1, 2, 3] [0, 2] (by decide) rfl rfl
       exact fun a_ ha_ => ah _ _ ⟨mF, ex, ey, ez, eA, eB, eC, eD, eE, eF, hY, hZ, Fj, rfl, Fo, Fn, trivial⟩ a_ (ha_.weaken (sub_of ⟨rfl, rfl, rfl, rfl, rfl, rfl, rfl, rfl, rfl, rfl, trivial⟩))
    ·
     refine WO.new 6 (fun b => .slice (some ⟨b, 0, none⟩) 3 3) (.cells #[.int .i64 16, .int .i64 1, .int .i64 1, .int .i64 now, .int .i64 3, .int .u32 0, .int .i64 0, .int .i64 0, .slice none 0 0, .int .u32 dip, .int .u32 0, .bool true, .int .i64 16, .int .i64 1, .int .i64 0, .int .i64 now, .int .i64 3, .int .u32 0, .int .i64 0, .int .i64 0, .slice none 0 0, .int .u32 dip, .int .u32 0, .bool false, .int .i64 16, .int .i64 1, .int .i64 1, .int .i64 now, .int .i64 3, .int .u32 0, .int .i64 0, .int .i64 0, .slice none 0 0, .int .u32 dip, .int .u32 0, .bool true] 45) (by kernel_rfl) rfl rfl rfl rfl rfl (fun _ => by kernel_rfl) (fun iS OB uE LC uF Fp => ?_)
     have uG := mB.callB uF uE Fp
     have Fq := Nat.le_trans g7.size uE
     have iT := g7.trans uF (by simp)
     refine ⟨iT, ?_⟩
     refine WD.all2 0 12 (by kernel_rfl) ?_ ?_
     ·
      refine WO.new 0 (fun b => .slice (some ⟨b, 0, none⟩) 0 0) (.cells #[] 45) (by kernel_rfl) rfl rfl rfl rfl rfl (fun _ => by kernel_rfl) (fun iU Kj uH LD uI Fs => ?_)
      have nw := uG.callB uI uH Fs
      have Ft := Nat.le_trans iT.size uH
      have iV := iT.trans uI (by simp)
      refine ⟨iV, ?_⟩
      refine WD.all2 2 12 (by kernel_rfl) ?_ ?_
      ·
       have Fu : World.ownsRow Kj 0 45 12 (.slice (some ⟨iU, 0, none⟩) 0 0) 0 [] := own_of_blk (Nat.zero_le _) (nw.get 4 rfl) (Nat.le_refl _) (Nat.zero_le _) (by simp) rfl
       have uJ := nw.toF 4 rfl
       obtain ⟨OC, OD, Fv, Fw, Fx, nx, Iv, sA⟩ := app_run Tryz.prog uJ 1 (v := .slice (some ⟨iU, 0, none⟩) 0 0) rfl 22 22 45 12 104 0 L.length c A rfl Fu (L.flatMap cellsC) (flat_len_n cellsC_len (by first | rfl | assumption | (simp; done) | (simp; omega))) (Rd.src_n (Rd.fr hr uJ.fr) cellsC_len (by decide) (by first | rfl | assumption | (simp; done) | (simp; omega))) (flat_one cellsC_one _) (by simp only [maxLen]; omega) (by omega)
       have ny := own_app (enc := cellsC) (ys := []) (zs := L) Fw
       obtain ⟨mG, mH, rfl, Kk⟩ := own_form ny
       have nz : ∀ x_ ∈ blk (.slice (some ⟨iU, 0, none⟩) 0 0), ai.heap.size ≤ x_ := by first | (simp [blk, Value.ownBlock, *]; done) | (intro x_ hx_; simp [blk, Value.ownBlock] at hx_; omega)
       have h0 : ∀ x_ ∈ blk (.slice mG (0 + L.length) mH), ai.heap.size ≤ x_ := fun x_ hx_ => (sA x_ hx_).elim (nz x_) (fun h_ => Nat.le_trans iV.size h_)
       have iW := iV.trans Fx (fun x_ hx_ => .inr (nz x_ hx_))
       refine WO.sem 2 (Builtin.append_ #[22, 22] 22 #[.slice (some ⟨iU, 0, none⟩) 0 0, .slice A L.length c]) 40 (.slice mG (0 + L.length) mH) (by kernel_rfl) (by kernel_rfl) Fv iW ?_
       refine WD.all2 7 12 (by kernel_rfl) ?_ ?_
       ·
        obtain ⟨OE, Kl, Fy, Fz, FA, lK, Iw, sB⟩ := app_run Tryz.prog nx 1 (v := .slice mG (0 + L.length) mH) rfl 22 22 45 12 104 (0 + L.length) 3 3 (some ⟨iS, 0, none⟩) rfl ny [.int .i64 16, .int .i64 1, .int .i64 1, .int .i64 now, .int .i64 3, .int .u32 0, .int .i64 0, .int .i64 0, .slice none 0 0, .int .u32 dip, .int .u32 0, .bool true, .int .i64 16, .int .i64 1, .int .i64 0, .int .i64 now, .int .i64 3, .int .u32 0, .int .i64 0, .int .i64 0, .slice none 0 0, .int .u32 dip, .int .u32 0, .bool false, .int .i64 16, .int .i64 1, .int .i64 1, .int .i64 now, .int .i64 3, .int .u32 0, .int .i64 0, .int .i64 0, .slice none 0 0, .int .u32 dip, .int .u32 0, .bool true] rfl (srcOk.blk 3 (nx.get 3 rfl)) rfl (by simp only [maxLen]; omega) (by omega)
        have nA := own_app (enc := cellsC) (ys := [] ++ L) (zs := [(⟨⟨16, 1, 1, now, 3, 0, 0, 0, [], dip, 0, true⟩, none, 0⟩ : Cmd), (⟨⟨16, 1, 0, now, 3, 0, 0, 0, [], dip, 0, false⟩, none, 0⟩ : Cmd), (⟨⟨16, 1, 1, now, 3, 0, 0, 0, [], dip, 0, true⟩, none, 0⟩ : Cmd)]) Fz
        obtain ⟨sC, sD, rfl, Km⟩ := own_form nA
        have Kn : ∀ x_ ∈ blk (.slice sC (0 + L.length + 3) sD), ai.heap.size ≤ x_ := fun x_ hx_ => (sB x_ hx_).elim (h0 x_) (fun h_ => Nat.le_trans iW.size h_)
        have lL := iW.trans FA (fun x_ hx_ => .inr (h0 x_ hx_))
        refine WO.sem 7 (Builtin.append_ #[22, 22] 22 #[.slice mG (0 + L.length) mH, .slice (some ⟨iS, 0, none⟩) 3 3]) 45 (.slice sC (0 + L.length + 3) sD) (by kernel_rfl) (by kernel_rfl) Fy lL ?_
        refine WD.all2 8 12 (by kernel_rfl) ?_ ?_
        ·
         refine WO.call 8 (by kernel_rfl) rfl rfl rfl rfl rfl (by kernel_rfl) (Fold_n sC (0 + L.length + 3) sD (sickL3 L dip now) Kl (own_rd nA cellsC_len (by decide)) (by simp [sickL3]) (sick_at (fun m_ h_ => cmdAt.fr0 (hL m_ h_) lK.fr) (at2 (cmd_nil hwy_ rfl) (cmd_nil hwx_ rfl) (cmd_nil hwy_ rfl))) (by omega) (Rd.fr hg lK.fr)) ?_
         rintro _ OF ⟨eG, eH, eI, eJ, eK, eL, eM, eN, eO, h1, h2, FB, rfl, uK, uL, FC⟩
         have FD := lK.callN uK FC uL.lt
         have ho := lL.trans uK (by simp)
         refine ⟨_, rfl, ho, ?_⟩
         refine WDq (NPt hN) 9 37 (.tuple #[.agg #[.int .i64 ((foldC (vals (sickL3 L dip now))).epoch), .int .i64 ((foldC (vals (sickL3 L dip now))).now), .slice eG eI.length eH, .slice eJ ((foldC (vals (sickL3 L dip now))).snats.length) eK, .slice eL ((foldC (vals (sickL3 L dip now))).sick.length) eM, .slice eN ((foldC (vals (sickL3 L dip now))).leases.length) eO], .slice h1 ((resC (vals (sickL3 L dip now))).length) h2]) ho ?_
         refine WDq (NPt hN) 10 47 (.agg #[.int .i64 ((foldC (vals (sickL3 L dip now))).epoch), .int .i64 ((foldC (vals (sickL3 L dip now))).now), .slice eG eI.length eH, .slice eJ ((foldC (vals (sickL3 L dip now))).snats.length) eK, .slice eL ((foldC (vals (sickL3 L dip now))).sick.length) eM, .slice eN ((foldC (vals (sickL3 L dip now))).leases.length) eO]) ho ?_
         refine WDq (NPt hN) 11 48 (.slice h1 ((resC (vals (sickL3 L dip now))).length) h2) ho ?_
         refine WD.new 12 (fun b => .pointer (some ⟨b, 0, none⟩)) (.cells #[.int .i64 0, .int .i64 0, .slice none 0 0, .slice none 0 0, .slice none 0 0, .slice none 0 0] 31) (by kernel_rfl) rfl rfl rfl rfl rfl (fun _ => by kernel_rfl) (fun wx OG uM LE nB FE => ?_)
         have uN := FD.callB nB uM FE
         have FF := Nat.le_trans ho.size uM
         have nC := ho.trans nB (by simp)
         refine ⟨nC, ?_⟩
         have FG := FoldR.fr uL nB (by simp)
         obtain ⟨OH, FH, uO, FI⟩ := sto_run (c' := #[.int .i64 ((foldC (vals (sickL3 L dip now))).epoch), .int .i64 ((foldC (vals (sickL3 L dip now))).now), .slice eG eI.length eH, .slice eJ ((foldC (vals (sickL3 L dip now))).snats.length) eK, .slice eL ((foldC (vals (sickL3 L dip now))).sick.length) eM, .slice eN ((foldC (vals (sickL3 L dip now))).leases.length) eO]) Tryz.prog uN 4 31 wx 0 (.agg #[.int .i64 ((foldC (vals (sickL3 L dip now))).epoch), .int .i64 ((foldC (vals (sickL3 L dip now))).now), .slice eG eI.length eH, .slice eJ ((foldC (vals (sickL3 L dip now))).snats.length) eK, .slice eL ((foldC (vals (sickL3 L dip now))).sick.length) eM, .slice eN ((foldC (vals (sickL3 L dip now))).leases.length) eO]) rfl (by kernel_rfl)
         have uP := nC.trans uO (by first | (simp; done) | (simp [*]; done) | (have q_ := nC.size; simp; omega))
         refine WD.semU 13 (Instr.storeAt 31 (.pointer (some ⟨wx, 0, none⟩)) (.agg #[.int .i64 ((foldC (vals (sickL3 L dip now))).epoch), .int .i64 ((foldC (vals (sickL3 L dip now))).now), .slice eG eI.length eH, .slice eJ ((foldC (vals (sickL3 L dip now))).snats.length) eK, .slice eL ((foldC (vals (sickL3 L dip now))).sick.length) eM, .slice eN ((foldC (vals (sickL3 L dip now))).leases.length) eO])) (by kernel_rfl) (by kernel_rfl) FH uP ?_
         have FJ := FoldR.fr FG uO (uN.apartM 2 4 rfl rfl)
         refine WDq (NPt hN) 14 12 (.slice h1 ((resC (vals (sickL3 L dip now))).length) h2) uP ?_
         refine WD.done (by kernel_rfl) ?_
         refine QXn ?_
         have FK := FI.pickM [0, 1, 2, 4] [0, 2] (by decide) rfl rfl
         exact fun a_ ha_ => ah _ _ ⟨wx, eG, eH, eI, eJ, eK, eL, eM, eN, eO, h1, h2, FB, rfl, FK, FJ, trivial⟩ a_ (ha_.weaken (sub_of ⟨rfl, rfl, rfl, rfl, rfl, rfl, rfl, rfl, rfl, rfl, trivial⟩))
        ·
         refine WO.new 12 (fun b => .pointer (some ⟨b, 0, none⟩)) (.cells #[.int .i64 0, .int .i64 0, .slice none 0 0, .slice none 0 0, .slice none 0 0, .slice none 0 0] 31) (by kernel_rfl) rfl rfl rfl rfl rfl (fun _ => by kernel_rfl) (fun wy Ko uQ LF nD FL => ?_)
         have nE := lK.callB nD uQ FL
         have FM := Nat.le_trans lL.size uQ
         have uR := lL.trans nD (by simp)
         refine ⟨uR, ?_⟩
         have FN := own_fr nA nD (by simp)
         refine WD.call 8 (by kernel_rfl) rfl rfl rfl rfl rfl (by kernel_rfl) (Fold_n sC (0 + L.length + 3) sD (sickL3 L dip now) Ko (own_rd FN cellsC_len (by decide)) (by simp [sickL3]) (sick_at (fun m_ h_ => cmdAt.fr0 (hL m_ h_) nE.fr) (at2 (cmd_nil hwy_ rfl) (cmd_nil hwx_ rfl) (cmd_nil hwy_ rfl))) (by omega) (Rd.fr hg nE.fr)) ?_
         rintro _ OI ⟨eP, eQ, eR, eS, eT, eU, eV, eW, eX, h3, h4, FO, rfl, uS, uT, FP⟩
         have uU := nE.callN uS FP uT.lt
         have hp := uR.trans uS (by simp)
         refine ⟨_, rfl, hp, ?_⟩
         refine WDq (NPt hN) 9 37 (.tuple #[.agg #[.int .i64 ((foldC (vals (sickL3 L dip now))).epoch), .int .i64 ((foldC (vals (sickL3 L dip now))).now), .slice eP eR.length eQ, .slice eS ((foldC (vals (sickL3 L dip now))).snats.length) eT, .slice eU ((foldC (vals (sickL3 L dip now))).sick.length) eV, .slice eW ((foldC (vals (sickL3 L dip now))).leases.length) eX], .slice h3 ((resC (vals (sickL3 L dip now))).length) h4]) hp ?_
         refine WDq (NPt hN) 10 47 (.agg #[.int .i64 ((foldC (vals (sickL3 L dip now))).epoch), .int .i64 ((foldC (vals (sickL3 L dip now))).now), .slice eP eR.length eQ, .slice eS ((foldC (vals (sickL3 L dip now))).snats.length) eT, .slice eU ((foldC (vals (sickL3 L dip now))).sick.length) eV, .slice eW ((foldC (vals (sickL3 L dip now))).leases.length) eX]) hp ?_
         refine WDq (NPt hN) 11 48 (.slice h3 ((resC (vals (sickL3 L dip now))).length) h4) hp ?_
         obtain ⟨OJ, FQ, uV, FR⟩ := sto_run (c' := #[.int .i64 ((foldC (vals (sickL3 L dip now))).epoch), .int .i64 ((foldC (vals (sickL3 L dip now))).now), .slice eP eR.length eQ, .slice eS ((foldC (vals (sickL3 L dip now))).snats.length) eT, .slice eU ((foldC (vals (sickL3 L dip now))).sick.length) eV, .slice eW ((foldC (vals (sickL3 L dip now))).leases.length) eX]) Tryz.prog uU 4 31 wy 0 (.agg #[.int .i64 ((foldC (vals (sickL3 L dip now))).epoch), .int .i64 ((foldC (vals (sickL3 L dip now))).now), .slice eP eR.length eQ, .slice eS ((foldC (vals (sickL3 L dip now))).snats.length) eT, .slice eU ((foldC (vals (sickL3 L dip now))).sick.length) eV, .slice eW ((foldC (vals (sickL3 L dip now))).leases.length) eX]) rfl (by kernel_rfl)
         have uW := hp.trans uV (by first | (simp; done) | (simp [*]; done) | (have q_ := hp.size; simp; omega))
         refine WD.semU 13 (Instr.storeAt 31 (.pointer (some ⟨wy, 0, none⟩)) (.agg #[.int .i64 ((foldC (vals (sickL3 L dip now))).epoch), .int .i64 ((foldC (vals (sickL3 L dip now))).now), .slice eP eR.length eQ, .slice eS ((foldC (vals (sickL3 L dip now))).snats.length) eT, .slice eU ((foldC (vals (sickL3 L dip now))).sick.length) eV, .slice eW ((foldC (vals (sickL3 L dip now))).leases.length) eX])) (by kernel_rfl) (by kernel_rfl) FQ uW ?_
         have FS := FoldR.fr uT uV (uU.apartM 2 4 rfl rfl)
         refine WDq (NPt hN) 14 12 (.slice h3 ((resC (vals (sickL3 L dip now))).length) h4) uW ?_
         refine WD.done (by kernel_rfl) ?_
         refine QXn ?_
         have FT := FR.pickM [0, 1, 2, 4] [0, 2] (by decide) rfl rfl
         exact fun a_ ha_ => ah _ _ ⟨wy, eP, eQ, eR, eS, eT, eU, eV, eW, eX, h3, h4, FO, rfl, FT, FS, trivial⟩ a_ (ha_.weaken (sub_of ⟨rfl, rfl, rfl, rfl, rfl, rfl, rfl, rfl, rfl, rfl, trivial⟩))
       ·
        refine WO.new 12 (fun b => .pointer (some ⟨b, 0, none⟩)) (.cells #[.int .i64 0, .int .i64 0, .slice none 0 0, .slice none 0 0, .slice none 0 0, .slice none 0 0] 31) (by kernel_rfl) rfl rfl rfl rfl rfl (fun _ => by kernel_rfl) (fun wz OK uX LG nF FU => ?_)
        have uY := nx.callB nF uX FU
        have FV := Nat.le_trans iW.size uX
        have nG := iW.trans nF (by simp)
        refine ⟨nG, ?_⟩
        have FW := own_fr ny nF (by simp)
        obtain ⟨OL, Kp, FX, FY, FZ, nH, Ix, sE⟩ := app_run Tryz.prog uY 1 (v := .slice mG (0 + L.length) mH) rfl 22 22 45 12 104 (0 + L.length) 3 3 (some ⟨iS, 0, none⟩) rfl FW [.int .i64 16, .int .i64 1, .int .i64 1, .int .i64 now, .int .i64 3, .int .u32 0, .int .i64 0, .int .i64 0, .slice none 0 0, .int .u32 dip, .int .u32 0, .bool true, .int .i64 16, .int .i64 1, .int .i64 0, .int .i64 now, .int .i64 3, .int .u32 0, .int .i64 0, .int .i64 0, .slice none 0 0, .int .u32 dip, .int .u32 0, .bool false, .int .i64 16, .int .i64 1, .int .i64 1, .int .i64 now, .int .i64 3, .int .u32 0, .int .i64 0, .int .i64 0, .slice none 0 0, .int .u32 dip, .int .u32 0, .bool true] rfl (srcOk.blk 3 (uY.get 3 rfl)) rfl (by simp only [maxLen]; omega) (by omega)
        have uZ := own_app (enc := cellsC) (ys := [] ++ L) (zs := [(⟨⟨16, 1, 1, now, 3, 0, 0, 0, [], dip, 0, true⟩, none, 0⟩ : Cmd), (⟨⟨16, 1, 0, now, 3, 0, 0, 0, [], dip, 0, false⟩, none, 0⟩ : Cmd), (⟨⟨16, 1, 1, now, 3, 0, 0, 0, [], dip, 0, true⟩, none, 0⟩ : Cmd)]) FY
        obtain ⟨wA, wB, rfl, Kq⟩ := own_form uZ
        have Kr : ∀ x_ ∈ blk (.slice wA (0 + L.length + 3) wB), ai.heap.size ≤ x_ := fun x_ hx_ => (sE x_ hx_).elim (h0 x_) (fun h_ => Nat.le_trans nG.size h_)
        have u0 := nG.trans FZ (fun x_ hx_ => .inr (h0 x_ hx_))
        refine WD.sem 7 (Builtin.append_ #[22, 22] 22 #[.slice mG (0 + L.length) mH, .slice (some ⟨iS, 0, none⟩) 3 3]) 45 (.slice wA (0 + L.length + 3) wB) (by kernel_rfl) (by kernel_rfl) FX u0 ?_
        refine WD.call 8 (by kernel_rfl) rfl rfl rfl rfl rfl (by kernel_rfl) (Fold_n wA (0 + L.length + 3) wB (sickL3 L dip now) Kp (own_rd uZ cellsC_len (by decide)) (by simp [sickL3]) (sick_at (fun m_ h_ => cmdAt.fr0 (hL m_ h_) nH.fr) (at2 (cmd_nil hwy_ rfl) (cmd_nil hwx_ rfl) (cmd_nil hwy_ rfl))) (by omega) (Rd.fr hg nH.fr)) ?_
        rintro _ OM ⟨eY, eZ, e0, e1, e2, e3, e4, e5, e6, h5, h6, F0, rfl, u1, u2, F1⟩
        have u3 := nH.callN u1 F1 u2.lt
        have hq := u0.trans u1 (by simp)
        refine ⟨_, rfl, hq, ?_⟩
        refine WDq (NPt hN) 9 37 (.tuple #[.agg #[.int .i64 ((foldC (vals (sickL3 L dip now))).epoch), .int .i64 ((foldC (vals (sickL3 L dip now))).now), .slice eY e0.length eZ, .slice e1 ((foldC (vals (sickL3 L dip now))).snats.length) e2, .slice e3 ((foldC (vals (sickL3 L dip now))).sick.length) e4, .slice e5 ((foldC (vals (sickL3 L dip now))).leases.length) e6], .slice h5 ((resC (vals (sickL3 L dip now))).length) h6]) hq ?_
        refine WDq (NPt hN) 10 47 (.agg #[.int .i64 ((foldC (vals (sickL3 L dip now))).epoch), .int .i64 ((foldC (vals (sickL3 L dip now))).now), .slice eY e0.length eZ, .slice e1 ((foldC (vals (sickL3 L dip now))).snats.length) e2, .slice e3 ((foldC (vals (sickL3 L dip now))).sick.length) e4, .slice e5 ((foldC (vals (sickL3 L dip now))).leases.length) e6]) hq ?_
        refine WDq (NPt hN) 11 48 (.slice h5 ((resC (vals (sickL3 L dip now))).length) h6) hq ?_
        obtain ⟨ON, F2, u4, F3⟩ := sto_run (c' := #[.int .i64 ((foldC (vals (sickL3 L dip now))).epoch), .int .i64 ((foldC (vals (sickL3 L dip now))).now), .slice eY e0.length eZ, .slice e1 ((foldC (vals (sickL3 L dip now))).snats.length) e2, .slice e3 ((foldC (vals (sickL3 L dip now))).sick.length) e4, .slice e5 ((foldC (vals (sickL3 L dip now))).leases.length) e6]) Tryz.prog u3 4 31 wz 0 (.agg #[.int .i64 ((foldC (vals (sickL3 L dip now))).epoch), .int .i64 ((foldC (vals (sickL3 L dip now))).now), .slice eY e0.length eZ, .slice e1 ((foldC (vals (sickL3 L dip now))).snats.length) e2, .slice e3 ((foldC (vals (sickL3 L dip now))).sick.length) e4, .slice e5 ((foldC (vals (sickL3 L dip now))).leases.length) e6]) rfl (by kernel_rfl)
        have u5 := hq.trans u4 (by first | (simp; done) | (simp [*]; done) | (have q_ := hq.size; simp; omega))
        refine WD.semU 13 (Instr.storeAt 31 (.pointer (some ⟨wz, 0, none⟩)) (.agg #[.int .i64 ((foldC (vals (sickL3 L dip now))).epoch), .int .i64 ((foldC (vals (sickL3 L dip now))).now), .slice eY e0.length eZ, .slice e1 ((foldC (vals (sickL3 L dip now))).snats.length) e2, .slice e3 ((foldC (vals (sickL3 L dip now))).sick.length) e4, .slice e5 ((foldC (vals (sickL3 L dip now))).leases.length) e6])) (by kernel_rfl) (by kernel_rfl) F2 u5 ?_
        have F4 := FoldR.fr u2 u4 (u3.apartM 2 4 rfl rfl)
        refine WDq (NPt hN) 14 12 (.slice h5 ((resC (vals (sickL3 L dip now))).length) h6) u5 ?_
        refine WD.done (by kernel_rfl) ?_
        refine QXn ?_
        have F5 := F3.pickM [0, 1, 2, 4] [0, 2] (by decide) rfl rfl
        exact fun a_ ha_ => ah _ _ ⟨wz, eY, eZ, e0, e1, e2, e3, e4, e5, e6, h5, h6, F0, rfl, F5, F4, trivial⟩ a_ (ha_.weaken (sub_of ⟨rfl, rfl, rfl, rfl, rfl, rfl, rfl, rfl, rfl, rfl, trivial⟩))
      ·
       refine WO.new 12 (fun b => .pointer (some ⟨b, 0, none⟩)) (.cells #[.int .i64 0, .int .i64 0, .slice none 0 0, .slice none 0 0, .slice none 0 0, .slice none 0 0] 31) (by kernel_rfl) rfl rfl rfl rfl rfl (fun _ => by kernel_rfl) (fun wC Ks u6 LH u7 F6 => ?_)
       have u9 := nw.callB u7 u6 F6
       have F7 := Nat.le_trans iV.size u6
       have nI := iV.trans u7 (by simp)
       refine ⟨nI, ?_⟩
       have F8 : World.ownsRow Ks 0 45 12 (.slice (some ⟨iU, 0, none⟩) 0 0) 0 [] := own_of_blk (Nat.zero_le _) (u9.get 4 rfl) (Nat.le_refl _) (Nat.zero_le _) (by simp) rfl
       have va := u9.toF 4 rfl
       obtain ⟨OO, OP, F9, Ga, Gd, vb, Iy, sF⟩ := app_run Tryz.prog va 1 (v := .slice (some ⟨iU, 0, none⟩) 0 0) rfl 22 22 45 12 104 0 L.length c A rfl F8 (L.flatMap cellsC) (flat_len_n cellsC_len (by first | rfl | assumption | (simp; done) | (simp; omega))) (Rd.src_n (Rd.fr hr va.fr) cellsC_len (by decide) (by first | rfl | assumption | (simp; done) | (simp; omega))) (flat_one cellsC_one _) (by simp only [maxLen]; omega) (by omega)
       have vc := own_app (enc := cellsC) (ys := []) (zs := L) Ga
       obtain ⟨sG, sH, rfl, Kt⟩ := own_form vc
       have nJ : ∀ x_ ∈ blk (.slice (some ⟨iU, 0, none⟩) 0 0), ai.heap.size ≤ x_ := by first | (simp [blk, Value.ownBlock, *]; done) | (intro x_ hx_; simp [blk, Value.ownBlock] at hx_; omega)
       have nK : ∀ x_ ∈ blk (.slice sG (0 + L.length) sH), ai.heap.size ≤ x_ := fun x_ hx_ => (sF x_ hx_).elim (nJ x_) (fun h_ => Nat.le_trans nI.size h_)
       have nL := nI.trans Gd (fun x_ hx_ => .inr (nJ x_ hx_))
       refine WD.sem 2 (Builtin.append_ #[22, 22] 22 #[.slice (some ⟨iU, 0, none⟩) 0 0, .slice A L.length c]) 40 (.slice sG (0 + L.length) sH) (by kernel_rfl) (by kernel_rfl) F9 nL ?_
       obtain ⟨OQ, Ku, Ge, Gf, Gg, nM, Iz, sI⟩ := app_run Tryz.prog vb 1 (v := .slice sG (0 + L.length) sH) rfl 22 22 45 12 104 (0 + L.length) 3 3 (some ⟨iS, 0, none⟩) rfl vc [.int .i64 16, .int .i64 1, .int .i64 1, .int .i64 now, .int .i64 3, .int .u32 0, .int .i64 0, .int .i64 0, .slice none 0 0, .int .u32 dip, .int .u32 0, .bool true, .int .i64 16, .int .i64 1, .int .i64 0, .int .i64 now, .int .i64 3, .int .u32 0, .int .i64 0, .int .i64 0, .slice none 0 0, .int .u32 dip, .int .u32 0, .bool false, .int .i64 16, .int .i64 1, .int .i64 1, .int .i64 now, .int .i64 3, .int .u32 0, .int .i64 0, .int .i64 0, .slice none 0 0, .int .u32 dip, .int .u32 0, .bool true] rfl (srcOk.blk 3 (vb.get 3 rfl)) rfl (by simp only [maxLen]; omega) (by omega)
       have vd := own_app (enc := cellsC) (ys := [] ++ L) (zs := [(⟨⟨16, 1, 1, now, 3, 0, 0, 0, [], dip, 0, true⟩, none, 0⟩ : Cmd), (⟨⟨16, 1, 0, now, 3, 0, 0, 0, [], dip, 0, false⟩, none, 0⟩ : Cmd), (⟨⟨16, 1, 1, now, 3, 0, 0, 0, [], dip, 0, true⟩, none, 0⟩ : Cmd)]) Gf
       obtain ⟨wD, wE, rfl, Kv⟩ := own_form vd
       have Kw : ∀ x_ ∈ blk (.slice wD (0 + L.length + 3) wE), ai.heap.size ≤ x_ := fun x_ hx_ => (sI x_ hx_).elim (nK x_) (fun h_ => Nat.le_trans nL.size h_)
       have ve := nL.trans Gg (fun x_ hx_ => .inr (nK x_ hx_))
       refine WD.sem 7 (Builtin.append_ #[22, 22] 22 #[.slice sG (0 + L.length) sH, .slice (some ⟨iS, 0, none⟩) 3 3]) 45 (.slice wD (0 + L.length + 3) wE) (by kernel_rfl) (by kernel_rfl) Ge ve ?_
       refine WD.call 8 (by kernel_rfl) rfl rfl rfl rfl rfl (by kernel_rfl) (Fold_n wD (0 + L.length + 3) wE (sickL3 L dip now) Ku (own_rd vd cellsC_len (by decide)) (by simp [sickL3]) (sick_at (fun m_ h_ => cmdAt.fr0 (hL m_ h_) nM.fr) (at2 (cmd_nil hwy_ rfl) (cmd_nil hwx_ rfl) (cmd_nil hwy_ rfl))) (by omega) (Rd.fr hg nM.fr)) ?_
       rintro _ OR ⟨e7, e8, e9, fa, fb, fc, fd, fe, ff, h7, h8, Gh, rfl, vf, vg, Gi⟩
       have vh := nM.callN vf Gi vg.lt
       have hs := ve.trans vf (by simp)
       refine ⟨_, rfl, hs, ?_⟩
       refine WDq (NPt hN) 9 37 (.tuple #[.agg #[.int .i64 ((foldC (vals (sickL3 L dip now))).epoch), .int .i64 ((foldC (vals (sickL3 L dip now))).now), .slice e7 e9.length e8, .slice fa ((foldC (vals (sickL3 L dip now))).snats.length) fb, .slice fc ((foldC (vals (sickL3 L dip now))).sick.length) fd, .slice fe ((foldC (vals (sickL3 L dip now))).leases.length) ff], .slice h7 ((resC (vals (sickL3 L dip now))).length) h8]) hs ?_
       refine WDq (NPt hN) 10 47 (.agg #[.int .i64 ((foldC (vals (sickL3 L dip now))).epoch), .int .i64 ((foldC (vals (sickL3 L dip now))).now), .slice e7 e9.length e8, .slice fa ((foldC (vals (sickL3 L dip now))).snats.length) fb, .slice fc ((foldC (vals (sickL3 L dip now))).sick.length) fd, .slice fe ((foldC (vals (sickL3 L dip now))).leases.length) ff]) hs ?_
       refine WDq (NPt hN) 11 48 (.slice h7 ((resC (vals (sickL3 L dip now))).length) h8) hs ?_
       obtain ⟨OS, Gj, vi, Gk⟩ := sto_run (c' := #[.int .i64 ((foldC (vals (sickL3 L dip now))).epoch), .int .i64 ((foldC (vals (sickL3 L dip now))).now), .slice e7 e9.length e8, .slice fa ((foldC (vals (sickL3 L dip now))).snats.length) fb, .slice fc ((foldC (vals (sickL3 L dip now))).sick.length) fd, .slice fe ((foldC (vals (sickL3 L dip now))).leases.length) ff]) Tryz.prog vh 4 31 wC 0 (.agg #[.int .i64 ((foldC (vals (sickL3 L dip now))).epoch), .int .i64 ((foldC (vals (sickL3 L dip now))).now), .slice e7 e9.length e8, .slice fa ((foldC (vals (sickL3 L dip now))).snats.length) fb, .slice fc ((foldC (vals (sickL3 L dip now))).sick.length) fd, .slice fe ((foldC (vals (sickL3 L dip now))).leases.length) ff]) rfl (by kernel_rfl)
       have vj := hs.trans vi (by first | (simp; done) | (simp [*]; done) | (have q_ := hs.size; simp; omega))
       refine WD.semU 13 (Instr.storeAt 31 (.pointer (some ⟨wC, 0, none⟩)) (.agg #[.int .i64 ((foldC (vals (sickL3 L dip now))).epoch), .int .i64 ((foldC (vals (sickL3 L dip now))).now), .slice e7 e9.length e8, .slice fa ((foldC (vals (sickL3 L dip now))).snats.length) fb, .slice fc ((foldC (vals (sickL3 L dip now))).sick.length) fd, .slice fe ((foldC (vals (sickL3 L dip now))).leases.length) ff])) (by kernel_rfl) (by kernel_rfl) Gj vj ?_
       have Gl := FoldR.fr vg vi (vh.apartM 2 4 rfl rfl)
       refine WDq (NPt hN) 14 12 (.slice h7 ((resC (vals (sickL3 L dip now))).length) h8) vj ?_
       refine WD.done (by kernel_rfl) ?_
       refine QXn ?_
       have Gm := Gk.pickM [0, 1, 2, 4] [0, 2] (by decide) rfl rfl
       exact fun a_ ha_ => ah _ _ ⟨wC, e7, e8, e9, fa, fb, fc, fd, fe, ff, h7, h8, Gh, rfl, Gm, Gl, trivial⟩ a_ (ha_.weaken (sub_of ⟨rfl, rfl, rfl, rfl, rfl, rfl, rfl, rfl, rfl, rfl, trivial⟩))
     ·
      refine WO.new 12 (fun b => .pointer (some ⟨b, 0, none⟩)) (.cells #[.int .i64 0, .int .i64 0, .slice none 0 0, .slice none 0 0, .slice none 0 0, .slice none 0 0] 31) (by kernel_rfl) rfl rfl rfl rfl rfl (fun _ => by kernel_rfl) (fun wF OT vk LI vl Gn => ?_)
      have Gp := uG.callB vl vk Gn
      have Gq := Nat.le_trans iT.size vk
      have nN := iT.trans vl (by simp)
      refine ⟨nN, ?_⟩
      refine WD.new 0 (fun b => .slice (some ⟨b, 0, none⟩) 0 0) (.cells #[] 45) (by kernel_rfl) rfl rfl rfl rfl rfl (fun _ => by kernel_rfl) (fun sJ Kx vm LJ vn Gr => ?_)
      have vo := Gp.callB vn vm Gr
      have Gs := Nat.le_trans nN.size vm
      have nO := nN.trans vn (by simp)
      refine ⟨nO, ?_⟩
      have Gt : World.ownsRow Kx 0 45 12 (.slice (some ⟨sJ, 0, none⟩) 0 0) 0 [] := own_of_blk (Nat.zero_le _) (vo.get 5 rfl) (Nat.le_refl _) (Nat.zero_le _) (by simp) rfl
      have vp := vo.toF 5 rfl
      obtain ⟨OU, OV, Gu, Gv, Gw, vq, IA, sM⟩ := app_run Tryz.prog vp 1 (v := .slice (some ⟨sJ, 0, none⟩) 0 0) rfl 22 22 45 12 104 0 L.length c A rfl Gt (L.flatMap cellsC) (flat_len_n cellsC_len (by first | rfl | assumption | (simp; done) | (simp; omega))) (Rd.src_n (Rd.fr hr vp.fr) cellsC_len (by decide) (by first | rfl | assumption | (simp; done) | (simp; omega))) (flat_one cellsC_one _) (by simp only [maxLen]; omega) (by omega)
      have vr := own_app (enc := cellsC) (ys := []) (zs := L) Gv
      obtain ⟨sO, sP, rfl, Ky⟩ := own_form vr
      have nP : ∀ x_ ∈ blk (.slice (some ⟨sJ, 0, none⟩) 0 0), ai.heap.size ≤ x_ := by first | (simp [blk, Value.ownBlock, *]; done) | (intro x_ hx_; simp [blk, Value.ownBlock] at hx_; omega)
      have nQ : ∀ x_ ∈ blk (.slice sO (0 + L.length) sP), ai.heap.size ≤ x_ := fun x_ hx_ => (sM x_ hx_).elim (nP x_) (fun h_ => Nat.le_trans nO.size h_)
      have nR := nO.trans Gw (fun x_ hx_ => .inr (nP x_ hx_))
      refine WD.sem 2 (Builtin.append_ #[22, 22] 22 #[.slice (some ⟨sJ, 0, none⟩) 0 0, .slice A L.length c]) 40 (.slice sO (0 + L.length) sP) (by kernel_rfl) (by kernel_rfl) Gu nR ?_
      obtain ⟨OW, Kz, Gx, Gy, Gz, nS, IB, sQ⟩ := app_run Tryz.prog vq 1 (v := .slice sO (0 + L.length) sP) rfl 22 22 45 12 104 (0 + L.length) 3 3 (some ⟨iS, 0, none⟩) rfl vr [.int .i64 16, .int .i64 1, .int .i64 1, .int .i64 now, .int .i64 3, .int .u32 0, .int .i64 0, .int .i64 0, .slice none 0 0, .int .u32 dip, .int .u32 0, .bool true, .int .i64 16, .int .i64 1, .int .i64 0, .int .i64 now, .int .i64 3, .int .u32 0, .int .i64 0, .int .i64 0, .slice none 0 0, .int .u32 dip, .int .u32 0, .bool false, .int .i64 16, .int .i64 1, .int .i64 1, .int .i64 now, .int .i64 3, .int .u32 0, .int .i64 0, .int .i64 0, .slice none 0 0, .int .u32 dip, .int .u32 0, .bool true] rfl (srcOk.blk 3 (vq.get 3 rfl)) rfl (by simp only [maxLen]; omega) (by omega)
      have vs := own_app (enc := cellsC) (ys := [] ++ L) (zs := [(⟨⟨16, 1, 1, now, 3, 0, 0, 0, [], dip, 0, true⟩, none, 0⟩ : Cmd), (⟨⟨16, 1, 0, now, 3, 0, 0, 0, [], dip, 0, false⟩, none, 0⟩ : Cmd), (⟨⟨16, 1, 1, now, 3, 0, 0, 0, [], dip, 0, true⟩, none, 0⟩ : Cmd)]) Gy
      obtain ⟨wG, wH, rfl, KA⟩ := own_form vs
      have KB : ∀ x_ ∈ blk (.slice wG (0 + L.length + 3) wH), ai.heap.size ≤ x_ := fun x_ hx_ => (sQ x_ hx_).elim (nQ x_) (fun h_ => Nat.le_trans nR.size h_)
      have vt := nR.trans Gz (fun x_ hx_ => .inr (nQ x_ hx_))
      refine WD.sem 7 (Builtin.append_ #[22, 22] 22 #[.slice sO (0 + L.length) sP, .slice (some ⟨iS, 0, none⟩) 3 3]) 45 (.slice wG (0 + L.length + 3) wH) (by kernel_rfl) (by kernel_rfl) Gx vt ?_
      refine WD.call 8 (by kernel_rfl) rfl rfl rfl rfl rfl (by kernel_rfl) (Fold_n wG (0 + L.length + 3) wH (sickL3 L dip now) Kz (own_rd vs cellsC_len (by decide)) (by simp [sickL3]) (sick_at (fun m_ h_ => cmdAt.fr0 (hL m_ h_) nS.fr) (at2 (cmd_nil hwy_ rfl) (cmd_nil hwx_ rfl) (cmd_nil hwy_ rfl))) (by omega) (Rd.fr hg nS.fr)) ?_
      rintro _ OX ⟨fg, fh, fi, fj, fk, fl, fm, fn, fo, h9, ia, GA, rfl, vu, vv, GB⟩
      have vw := nS.callN vu GB vv.lt
      have ht := vt.trans vu (by simp)
      refine ⟨_, rfl, ht, ?_⟩
      refine WDq (NPt hN) 9 37 (.tuple #[.agg #[.int .i64 ((foldC (vals (sickL3 L dip now))).epoch), .int .i64 ((foldC (vals (sickL3 L dip now))).now), .slice fg fi.length fh, .slice fj ((foldC (vals (sickL3 L dip now))).snats.length) fk, .slice fl ((foldC (vals (sickL3 L dip now))).sick.length) fm, .slice fn ((foldC (vals (sickL3 L dip now))).leases.length) fo], .slice h9 ((resC (vals (sickL3 L dip now))).length) ia]) ht ?_
      refine WDq (NPt hN) 10 47 (.agg #[.int .i64 ((foldC (vals (sickL3 L dip now))).epoch), .int .i64 ((foldC (vals (sickL3 L dip now))).now), .slice fg fi.length fh, .slice fj ((foldC (vals (sickL3 L dip now))).snats.length) fk, .slice fl ((foldC (vals (sickL3 L dip now))).sick.length) fm, .slice fn ((foldC (vals (sickL3 L dip now))).leases.length) fo]) ht ?_
      refine WDq (NPt hN) 11 48 (.slice h9 ((resC (vals (sickL3 L dip now))).length) ia) ht ?_
      obtain ⟨OY, GC, vx, GD⟩ := sto_run (c' := #[.int .i64 ((foldC (vals (sickL3 L dip now))).epoch), .int .i64 ((foldC (vals (sickL3 L dip now))).now), .slice fg fi.length fh, .slice fj ((foldC (vals (sickL3 L dip now))).snats.length) fk, .slice fl ((foldC (vals (sickL3 L dip now))).sick.length) fm, .slice fn ((foldC (vals (sickL3 L dip now))).leases.length) fo]) Tryz.prog vw 4 31 wF 0 (.agg #[.int .i64 ((foldC (vals (sickL3 L dip now))).epoch), .int .i64 ((foldC (vals (sickL3 L dip now))).now), .slice fg fi.length fh, .slice fj ((foldC (vals (sickL3 L dip now))).snats.length) fk, .slice fl ((foldC (vals (sickL3 L dip now))).sick.length) fm, .slice fn ((foldC (vals (sickL3 L dip now))).leases.length) fo]) rfl (by kernel_rfl)
      have vy := ht.trans vx (by first | (simp; done) | (simp [*]; done) | (have q_ := ht.size; simp; omega))
      refine WD.semU 13 (Instr.storeAt 31 (.pointer (some ⟨wF, 0, none⟩)) (.agg #[.int .i64 ((foldC (vals (sickL3 L dip now))).epoch), .int .i64 ((foldC (vals (sickL3 L dip now))).now), .slice fg fi.length fh, .slice fj ((foldC (vals (sickL3 L dip now))).snats.length) fk, .slice fl ((foldC (vals (sickL3 L dip now))).sick.length) fm, .slice fn ((foldC (vals (sickL3 L dip now))).leases.length) fo])) (by kernel_rfl) (by kernel_rfl) GC vy ?_
      have GE := FoldR.fr vv vx (vw.apartM 2 4 rfl rfl)
      refine WDq (NPt hN) 14 12 (.slice h9 ((resC (vals (sickL3 L dip now))).length) ia) vy ?_
      refine WD.done (by kernel_rfl) ?_
      refine QXn ?_
      have GF := GD.pickM [0, 1, 2, 4] [0, 2] (by decide) rfl rfl
      exact fun a_ ha_ => ah _ _ ⟨wF, fg, fh, fi, fj, fk, fl, fm, fn, fo, h9, ia, GA, rfl, GF, GE, trivial⟩ a_ (ha_.weaken (sub_of ⟨rfl, rfl, rfl, rfl, rfl, rfl, rfl, rfl, rfl, rfl, trivial⟩))
    ·
     refine WO.new 12 (fun b => .pointer (some ⟨b, 0, none⟩)) (.cells #[.int .i64 0, .int .i64 0, .slice none 0 0, .slice none 0 0, .slice none 0 0, .slice none 0 0] 31) (by kernel_rfl) rfl rfl rfl rfl rfl (fun _ => by kernel_rfl) (fun ib OZ vz LK vA GG => ?_)
     have vB := mB.callB vA vz GG
     have GH := Nat.le_trans g7.size vz
     have iX := g7.trans vA (by simp)
     refine ⟨iX, ?_⟩
     refine WD.all2 0 6 (by kernel_rfl) ?_ ?_
     ·
      refine WO.new 0 (fun b => .slice (some ⟨b, 0, none⟩) 0 0) (.cells #[] 45) (by kernel_rfl) rfl rfl rfl rfl rfl (fun _ => by kernel_rfl) (fun iY KC vC LL vD GI => ?_)
      have nT := vB.callB vD vC GI
      have GJ := Nat.le_trans iX.size vC
      have iZ := iX.trans vD (by simp)
      refine ⟨iZ, ?_⟩
      refine WD.all2 2 6 (by kernel_rfl) ?_ ?_
      ·
       have GK : World.ownsRow KC 0 45 12 (.slice (some ⟨iY, 0, none⟩) 0 0) 0 [] := own_of_blk (Nat.zero_le _) (nT.get 4 rfl) (Nat.le_refl _) (Nat.zero_le _) (by simp) rfl
       have vE := nT.toF 4 rfl
       obtain ⟨O0, O1, GL, GM, GN, GO, IC, sT⟩ := app_run Tryz.prog vE 1 (v := .slice (some ⟨iY, 0, none⟩) 0 0) rfl 22 22 45 12 104 0 L.length c A rfl GK (L.flatMap cellsC) (flat_len_n cellsC_len (by first | rfl | assumption | (simp; done) | (simp; omega))) (Rd.src_n (Rd.fr hr vE.fr) cellsC_len (by decide) (by first | rfl | assumption | (simp; done) | (simp; omega))) (flat_one cellsC_one _) (by simp only [maxLen]; omega) (by omega)
       have vF := own_app (enc := cellsC) (ys := []) (zs := L) GM
       obtain ⟨sU, sV, rfl, KD⟩ := own_form vF
       have nU : ∀ x_ ∈ blk (.slice (some ⟨iY, 0, none⟩) 0 0), ai.heap.size ≤ x_ := by first | (simp [blk, Value.ownBlock, *]; done) | (intro x_ hx_; simp [blk, Value.ownBlock] at hx_; omega)
       have nV : ∀ x_ ∈ blk (.slice sU (0 + L.length) sV), ai.heap.size ≤ x_ := fun x_ hx_ => (sT x_ hx_).elim (nU x_) (fun h_ => Nat.le_trans iZ.size h_)
       have nW := iZ.trans GN (fun x_ hx_ => .inr (nU x_ hx_))
       refine WO.sem 2 (Builtin.append_ #[22, 22] 22 #[.slice (some ⟨iY, 0, none⟩) 0 0, .slice A L.length c]) 40 (.slice sU (0 + L.length) sV) (by kernel_rfl) (by kernel_rfl) GL nW ?_
       refine WD.new 6 (fun b => .slice (some ⟨b, 0, none⟩) 3 3) (.cells #[.int .i64 16, .int .i64 1, .int .i64 1, .int .i64 now, .int .i64 3, .int .u32 0, .int .i64 0, .int .i64 0, .slice none 0 0, .int .u32 dip, .int .u32 0, .bool true, .int .i64 16, .int .i64 1, .int .i64 0, .int .i64 now, .int .i64 3, .int .u32 0, .int .i64 0, .int .i64 0, .slice none 0 0, .int .u32 dip, .int .u32 0, .bool false, .int .i64 16, .int .i64 1, .int .i64 1, .int .i64 now, .int .i64 3, .int .u32 0, .int .i64 0, .int .i64 0, .slice none 0 0, .int .u32 dip, .int .u32 0, .bool true] 45) (by kernel_rfl) rfl rfl rfl rfl rfl (fun _ => by kernel_rfl) (fun GP O2 vG LM nX GQ => ?_)
       have vH := GO.callB nX vG GQ
       have GR := Nat.le_trans nW.size vG
       have nY := nW.trans nX (by simp)
       refine ⟨nY, ?_⟩
       have GS := own_fr vF nX (by simp)
       obtain ⟨O3, KE, GT, GU, GV, nZ, ID, sW⟩ := app_run Tryz.prog vH 1 (v := .slice sU (0 + L.length) sV) rfl 22 22 45 12 104 (0 + L.length) 3 3 (some ⟨GP, 0, none⟩) rfl GS [.int .i64 16, .int .i64 1, .int .i64 1, .int .i64 now, .int .i64 3, .int .u32 0, .int .i64 0, .int .i64 0, .slice none 0 0, .int .u32 dip, .int .u32 0, .bool true, .int .i64 16, .int .i64 1, .int .i64 0, .int .i64 now, .int .i64 3, .int .u32 0, .int .i64 0, .int .i64 0, .slice none 0 0, .int .u32 dip, .int .u32 0, .bool false, .int .i64 16, .int .i64 1, .int .i64 1, .int .i64 now, .int .i64 3, .int .u32 0, .int .i64 0, .int .i64 0, .slice none 0 0, .int .u32 dip, .int .u32 0, .bool true] rfl (srcOk.blk 3 (vH.get 4 rfl)) rfl (by simp only [maxLen]; omega) (by omega)
       have vI := own_app (enc := cellsC) (ys := [] ++ L) (zs := [(⟨⟨16, 1, 1, now, 3, 0, 0, 0, [], dip, 0, true⟩, none, 0⟩ : Cmd), (⟨⟨16, 1, 0, now, 3, 0, 0, 0, [], dip, 0, false⟩, none, 0⟩ : Cmd), (⟨⟨16, 1, 1, now, 3, 0, 0, 0, [], dip, 0, true⟩, none, 0⟩ : Cmd)]) GU
       obtain ⟨wI, wJ, rfl, KF⟩ := own_form vI
       have KG : ∀ x_ ∈ blk (.slice wI (0 + L.length + 3) wJ), ai.heap.size ≤ x_ := fun x_ hx_ => (sW x_ hx_).elim (nV x_) (fun h_ => Nat.le_trans nY.size h_)
       have vJ := nY.trans GV (fun x_ hx_ => .inr (nV x_ hx_))
       refine WD.sem 7 (Builtin.append_ #[22, 22] 22 #[.slice sU (0 + L.length) sV, .slice (some ⟨GP, 0, none⟩) 3 3]) 45 (.slice wI (0 + L.length + 3) wJ) (by kernel_rfl) (by kernel_rfl) GT vJ ?_
       refine WD.call 8 (by kernel_rfl) rfl rfl rfl rfl rfl (by kernel_rfl) (Fold_n wI (0 + L.length + 3) wJ (sickL3 L dip now) KE (own_rd vI cellsC_len (by decide)) (by simp [sickL3]) (sick_at (fun m_ h_ => cmdAt.fr0 (hL m_ h_) nZ.fr) (at2 (cmd_nil hwy_ rfl) (cmd_nil hwx_ rfl) (cmd_nil hwy_ rfl))) (by omega) (Rd.fr hg nZ.fr)) ?_
       rintro _ O4 ⟨fp, fq, fs, ft, fu, fv, fw, fx, fy, ic, ie, GW, rfl, vK, vL, GX⟩
       have vM := nZ.callN vK GX vL.lt
       have hu := vJ.trans vK (by simp)
       refine ⟨_, rfl, hu, ?_⟩
       refine WDq (NPt hN) 9 37 (.tuple #[.agg #[.int .i64 ((foldC (vals (sickL3 L dip now))).epoch), .int .i64 ((foldC (vals (sickL3 L dip now))).now), .slice fp fs.length fq, .slice ft ((foldC (vals (sickL3 L dip now))).snats.length) fu, .slice fv ((foldC (vals (sickL3 L dip now))).sick.length) fw, .slice fx ((foldC (vals (sickL3 L dip now))).leases.length) fy], .slice ic ((resC (vals (sickL3 L dip now))).length) ie]) hu ?_
       refine WDq (NPt hN) 10 47 (.agg #[.int .i64 ((foldC (vals (sickL3 L dip now))).epoch), .int .i64 ((foldC (vals (sickL3 L dip now))).now), .slice fp fs.length fq, .slice ft ((foldC (vals (sickL3 L dip now))).snats.length) fu, .slice fv ((foldC (vals (sickL3 L dip now))).sick.length) fw, .slice fx ((foldC (vals (sickL3 L dip now))).leases.length) fy]) hu ?_
       refine WDq (NPt hN) 11 48 (.slice ic ((resC (vals (sickL3 L dip now))).length) ie) hu ?_
       obtain ⟨O5, GY, vN, GZ⟩ := sto_run (c' := #[.int .i64 ((foldC (vals (sickL3 L dip now))).epoch), .int .i64 ((foldC (vals (sickL3 L dip now))).now), .slice fp fs.length fq, .slice ft ((foldC (vals (sickL3 L dip now))).snats.length) fu, .slice fv ((foldC (vals (sickL3 L dip now))).sick.length) fw, .slice fx ((foldC (vals (sickL3 L dip now))).leases.length) fy]) Tryz.prog vM 3 31 ib 0 (.agg #[.int .i64 ((foldC (vals (sickL3 L dip now))).epoch), .int .i64 ((foldC (vals (sickL3 L dip now))).now), .slice fp fs.length fq, .slice ft ((foldC (vals (sickL3 L dip now))).snats.length) fu, .slice fv ((foldC (vals (sickL3 L dip now))).sick.length) fw, .slice fx ((foldC (vals (sickL3 L dip now))).leases.length) fy]) rfl (by kernel_rfl)
       have vO := hu.trans vN (by first | (simp; done) | (simp [*]; done) | (have q_ := hu.size; simp; omega))
       refine WD.semU 13 (Instr.storeAt 31 (.pointer (some ⟨ib, 0, none⟩)) (.agg #[.int .i64 ((foldC (vals (sickL3 L dip now))).epoch), .int .i64 ((foldC (vals (sickL3 L dip now))).now), .slice fp fs.length fq, .slice ft ((foldC (vals (sickL3 L dip now))).snats.length) fu, .slice fv ((foldC (vals (sickL3 L dip now))).sick.length) fw, .slice fx ((foldC (vals (sickL3 L dip now))).leases.length) fy])) (by kernel_rfl) (by kernel_rfl) GY vO ?_
       have G0 := FoldR.fr vL vN (vM.apartM 2 3 rfl rfl)
       refine WDq (NPt hN) 14 12 (.slice ic ((resC (vals (sickL3 L dip now))).length) ie) vO ?_
       refine WD.done (by kernel_rfl) ?_
       refine QXn ?_
       have G1 := GZ.pickM [0, 1, 2, 3] [0, 2] (by decide) rfl rfl
       exact fun a_ ha_ => ah _ _ ⟨ib, fp, fq, fs, ft, fu, fv, fw, fx, fy, ic, ie, GW, rfl, G1, G0, trivial⟩ a_ (ha_.weaken (sub_of ⟨rfl, rfl, rfl, rfl, rfl, rfl, rfl, rfl, rfl, rfl, trivial⟩))
      ·
       refine WO.new 6 (fun b => .slice (some ⟨b, 0, none⟩) 3 3) (.cells #[.int .i64 16, .int .i64 1, .int .i64 1, .int .i64 now, .int .i64 3, .int .u32 0, .int .i64 0, .int .i64 0, .slice none 0 0, .int .u32 dip, .int .u32 0, .bool true, .int .i64 16, .int .i64 1, .int .i64 0, .int .i64 now, .int .i64 3, .int .u32 0, .int .i64 0, .int .i64 0, .slice none 0 0, .int .u32 dip, .int .u32 0, .bool false, .int .i64 16, .int .i64 1, .int .i64 1, .int .i64 now, .int .i64 3, .int .u32 0, .int .i64 0, .int .i64 0, .slice none 0 0, .int .u32 dip, .int .u32 0, .bool true] 45) (by kernel_rfl) rfl rfl rfl rfl rfl (fun _ => by kernel_rfl) (fun G2 KH vP LN vQ G3 => ?_)
       have vR := nT.callB vQ vP G3
       have G4 := Nat.le_trans iZ.size vP
       have n0 := iZ.trans vQ (by simp)
       refine ⟨n0, ?_⟩
       have G5 : World.ownsRow KH 0 45 12 (.slice (some ⟨iY, 0, none⟩) 0 0) 0 [] := own_of_blk (Nat.zero_le _) (vR.get 4 rfl) (Nat.le_refl _) (Nat.zero_le _) (by simp) rfl
       have vS := vR.toF 4 rfl
       obtain ⟨O6, O7, G6, G7, G8, vT, IE, sX⟩ := app_run Tryz.prog vS 1 (v := .slice (some ⟨iY, 0, none⟩) 0 0) rfl 22 22 45 12 104 0 L.length c A rfl G5 (L.flatMap cellsC) (flat_len_n cellsC_len (by first | rfl | assumption | (simp; done) | (simp; omega))) (Rd.src_n (Rd.fr hr vS.fr) cellsC_len (by decide) (by first | rfl | assumption | (simp; done) | (simp; omega))) (flat_one cellsC_one _) (by simp only [maxLen]; omega) (by omega)
       have vU := own_app (enc := cellsC) (ys := []) (zs := L) G7
       obtain ⟨sY, sZ, rfl, KI⟩ := own_form vU
       have n1 : ∀ x_ ∈ blk (.slice (some ⟨iY, 0, none⟩) 0 0), ai.heap.size ≤ x_ := by first | (simp [blk, Value.ownBlock, *]; done) | (intro x_ hx_; simp [blk, Value.ownBlock] at hx_; omega)
       have n2 : ∀ x_ ∈ blk (.slice sY (0 + L.length) sZ), ai.heap.size ≤ x_ := fun x_ hx_ => (sX x_ hx_).elim (n1 x_) (fun h_ => Nat.le_trans n0.size h_)
       have n3 := n0.trans G8 (fun x_ hx_ => .inr (n1 x_ hx_))
       refine WD.sem 2 (Builtin.append_ #[22, 22] 22 #[.slice (some ⟨iY, 0, none⟩) 0 0, .slice A L.length c]) 40 (.slice sY (0 + L.length) sZ) (by kernel_rfl) (by kernel_rfl) G6 n3 ?_
       obtain ⟨O8, KJ, G9, Ha, Hb, n4, IF, s0⟩ := app_run Tryz.prog vT 1 (v := .slice sY (0 + L.length) sZ) rfl 22 22 45 12 104 (0 + L.length) 3 3 (some ⟨G2, 0, none⟩) rfl vU [.int .i64 16, .int .i64 1, .int .i64 1, .int .i64 now, .int .i64 3, .int .u32 0, .int .i64 0, .int .i64 0, .slice none 0 0, .int .u32 dip, .int .u32 0, .bool true, .int .i64 16, .int .i64 1, .int .i64 0, .int .i64 now, .int .i64 3, .int .u32 0, .int .i64 0, .int .i64 0, .slice none 0 0, .int .u32 dip, .int .u32 0, .bool false, .int .i64 16, .int .i64 1, .int .i64 1, .int .i64 now, .int .i64 3, .int .u32 0, .int .i64 0, .int .i64 0, .slice none 0 0, .int .u32 dip, .int .u32 0, .bool true] rfl (srcOk.blk 3 (vT.get 4 rfl)) rfl (by simp only [maxLen]; omega) (by omega)
       have vV := own_app (enc := cellsC) (ys := [] ++ L) (zs := [(⟨⟨16, 1, 1, now, 3, 0, 0, 0, [], dip, 0, true⟩, none, 0⟩ : Cmd), (⟨⟨16, 1, 0, now, 3, 0, 0, 0, [], dip, 0, false⟩, none, 0⟩ : Cmd), (⟨⟨16, 1, 1, now, 3, 0, 0, 0, [], dip, 0, true⟩, none, 0⟩ : Cmd)]) Ha
       obtain ⟨wK, wL, rfl, KK⟩ := own_form vV
       have KL : ∀ x_ ∈ blk (.slice wK (0 + L.length + 3) wL), ai.heap.size ≤ x_ := fun x_ hx_ => (s0 x_ hx_).elim (n2 x_) (fun h_ => Nat.le_trans n3.size h_)
       have vW := n3.trans Hb (fun x_ hx_ => .inr (n2 x_ hx_))
       refine WD.sem 7 (Builtin.append_ #[22, 22] 22 #[.slice sY (0 + L.length) sZ, .slice (some ⟨G2, 0, none⟩) 3 3]) 45 (.slice wK (0 + L.length + 3) wL) (by kernel_rfl) (by kernel_rfl) G9 vW ?_
       refine WD.call 8 (by kernel_rfl) rfl rfl rfl rfl rfl (by kernel_rfl) (Fold_n wK (0 + L.length + 3) wL (sickL3 L dip now) KJ (own_rd vV cellsC_len (by decide)) (by simp [sickL3]) (sick_at (fun m_ h_ => cmdAt.fr0 (hL m_ h_) n4.fr) (at2 (cmd_nil hwy_ rfl) (cmd_nil hwx_ rfl) (cmd_nil hwy_ rfl))) (by omega) (Rd.fr hg n4.fr)) ?_
       rintro _ O9 ⟨fz, fA, fB, fC, fD, fE, fF, fG, fH, ig, ih, Hc, rfl, vX, vY, Hd⟩
       have vZ := n4.callN vX Hd vY.lt
       have hv := vW.trans vX (by simp)
       refine ⟨_, rfl, hv, ?_⟩
       refine WDq (NPt hN) 9 37 (.tuple #[.agg #[.int .i64 ((foldC (vals (sickL3 L dip now))).epoch), .int .i64 ((foldC (vals (sickL3 L dip now))).now), .slice fz fB.length fA, .slice fC ((foldC (vals (sickL3 L dip now))).snats.length) fD, .slice fE ((foldC (vals (sickL3 L dip now))).sick.length) fF, .slice fG ((foldC (vals (sickL3 L dip now))).leases.length) fH], .slice ig ((resC (vals (sickL3 L dip now))).length) ih]) hv ?_
       refine WDq (NPt hN) 10 47 (.agg #[.int .i64 ((foldC (vals (sickL3 L dip now))).epoch), .int .i64 ((foldC (vals (sickL3 L dip now))).now), .slice fz fB.length fA, .slice fC ((foldC (vals (sickL3 L dip now))).snats.length) fD, .slice fE ((foldC (vals (sickL3 L dip now))).sick.length) fF, .slice fG ((foldC (vals (sickL3 L dip now))).leases.length) fH]) hv ?_
       refine WDq (NPt hN) 11 48 (.slice ig ((resC (vals (sickL3 L dip now))).length) ih) hv ?_
       obtain ⟨Pa, He, v0, Hf⟩ := sto_run (c' := #[.int .i64 ((foldC (vals (sickL3 L dip now))).epoch), .int .i64 ((foldC (vals (sickL3 L dip now))).now), .slice fz fB.length fA, .slice fC ((foldC (vals (sickL3 L dip now))).snats.length) fD, .slice fE ((foldC (vals (sickL3 L dip now))).sick.length) fF, .slice fG ((foldC (vals (sickL3 L dip now))).leases.length) fH]) Tryz.prog vZ 3 31 ib 0 (.agg #[.int .i64 ((foldC (vals (sickL3 L dip now))).epoch), .int .i64 ((foldC (vals (sickL3 L dip now))).now), .slice fz fB.length fA, .slice fC ((foldC (vals (sickL3 L dip now))).snats.length) fD, .slice fE ((foldC (vals (sickL3 L dip now))).sick.length) fF, .slice fG ((foldC (vals (sickL3 L dip now))).leases.length) fH]) rfl (by kernel_rfl)
       have v1 := hv.trans v0 (by first | (simp; done) | (simp [*]; done) | (have q_ := hv.size; simp; omega))
       refine WD.semU 13 (Instr.storeAt 31 (.pointer (some ⟨ib, 0, none⟩)) (.agg #[.int .i64 ((foldC (vals (sickL3 L dip now))).epoch), .int .i64 ((foldC (vals (sickL3 L dip now))).now), .slice fz fB.length fA, .slice fC ((foldC (vals (sickL3 L dip now))).snats.length) fD, .slice fE ((foldC (vals (sickL3 L dip now))).sick.length) fF, .slice fG ((foldC (vals (sickL3 L dip now))).leases.length) fH])) (by kernel_rfl) (by kernel_rfl) He v1 ?_
       have Hg := FoldR.fr vY v0 (vZ.apartM 2 3 rfl rfl)
       refine WDq (NPt hN) 14 12 (.slice ig ((resC (vals (sickL3 L dip now))).length) ih) v1 ?_
       refine WD.done (by kernel_rfl) ?_
       refine QXn ?_
       have wM := Hf.pickM [0, 1, 2, 3] [0, 2] (by decide) rfl rfl
       exact fun a_ ha_ => ah _ _ ⟨ib, fz, fA, fB, fC, fD, fE, fF, fG, fH, ig, ih, Hc, rfl, wM, Hg, trivial⟩ a_ (ha_.weaken (sub_of ⟨rfl, rfl, rfl, rfl, rfl, rfl, rfl, rfl, rfl, rfl, trivial⟩))
     ·
      refine WO.new 6 (fun b => .slice (some ⟨b, 0, none⟩) 3 3) (.cells #[.int .i64 16, .int .i64 1, .int .i64 1, .int .i64 now, .int .i64 3, .int .u32 0, .int .i64 0, .int .i64 0, .slice none 0 0, .int .u32 dip, .int .u32 0, .bool true, .int .i64 16, .int .i64 1, .int .i64 0, .int .i64 now, .int .i64 3, .int .u32 0, .int .i64 0, .int .i64 0, .slice none 0 0, .int .u32 dip, .int .u32 0, .bool false, .int .i64 16, .int .i64 1, .int .i64 1, .int .i64 now, .int .i64 3, .int .u32 0, .int .i64 0, .int .i64 0, .slice none 0 0, .int .u32 dip, .int .u32 0, .bool true] 45) (by kernel_rfl) rfl rfl rfl rfl rfl (fun _ => by kernel_rfl) (fun v2 LO n5 KM n6 wN => ?_)
      have wO := vB.callB n6 n5 wN
      have Cp := Nat.le_trans iX.size n5
      have i2 := iX.trans n6 (by simp)
      refine ⟨i2, ?_⟩
      refine WD.new 0 (fun b => .slice (some ⟨b, 0, none⟩) 0 0) (.cells #[] 45) (by kernel_rfl) rfl rfl rfl rfl rfl (fun _ => by kernel_rfl) (fun lM Hh n7 KN n8 wP => ?_)
      have oa := wO.callB n8 n7 wP
      have Cq := Nat.le_trans i2.size n7
      have i3 := i2.trans n8 (by simp)
      refine ⟨i3, ?_⟩
      have wQ : World.ownsRow Hh 0 45 12 (.slice (some ⟨lM, 0, none⟩) 0 0) 0 [] := own_of_blk (Nat.zero_le _) (oa.get 5 rfl) (Nat.le_refl _) (Nat.zero_le _) (by simp) rfl
      have ob := oa.toF 5 rfl
      obtain ⟨LP, LQ, wR, wS, wT, oc, Hi, od⟩ := app_run Tryz.prog ob 1 (v := .slice (some ⟨lM, 0, none⟩) 0 0) rfl 22 22 45 12 104 0 L.length c A rfl wQ (L.flatMap cellsC) (flat_len_n cellsC_len (by first | rfl | assumption | (simp; done) | (simp; omega))) (Rd.src_n (Rd.fr hr ob.fr) cellsC_len (by decide) (by first | rfl | assumption | (simp; done) | (simp; omega))) (flat_one cellsC_one _) (by simp only [maxLen]; omega) (by omega)
      have oe := own_app (enc := cellsC) (ys := []) (zs := L) wS
      obtain ⟨lN, lO, rfl, IG⟩ := own_form oe
      have lP : ∀ x_ ∈ blk (.slice (some ⟨lM, 0, none⟩) 0 0), ai.heap.size ≤ x_ := by first | (simp [blk, Value.ownBlock, *]; done) | (intro x_ hx_; simp [blk, Value.ownBlock] at hx_; omega)
      have lQ : ∀ x_ ∈ blk (.slice lN (0 + L.length) lO), ai.heap.size ≤ x_ := fun x_ hx_ => (od x_ hx_).elim (lP x_) (fun h_ => Nat.le_trans i3.size h_)
      have i4 := i3.trans wT (fun x_ hx_ => .inr (lP x_ hx_))
      refine WD.sem 2 (Builtin.append_ #[22, 22] 22 #[.slice (some ⟨lM, 0, none⟩) 0 0, .slice A L.length c]) 40 (.slice lN (0 + L.length) lO) (by kernel_rfl) (by kernel_rfl) wR i4 ?_
      obtain ⟨LR, Hj, wU, wV, wW, i5, Hk, of⟩ := app_run Tryz.prog oc 1 (v := .slice lN (0 + L.length) lO) rfl 22 22 45 12 104 (0 + L.length) 3 3 (some ⟨v2, 0, none⟩) rfl oe [.int .i64 16, .int .i64 1, .int .i64 1, .int .i64 now, .int .i64 3, .int .u32 0, .int .i64 0, .int .i64 0, .slice none 0 0, .int .u32 dip, .int .u32 0, .bool true, .int .i64 16, .int .i64 1, .int .i64 0, .int .i64 now, .int .i64 3, .int .u32 0, .int .i64 0, .int .i64 0, .slice none 0 0, .int .u32 dip, .int .u32 0, .bool false, .int .i64 16, .int .i64 1, .int .i64 1, .int .i64 now, .int .i64 3, .int .u32 0, .int .i64 0, .int .i64 0, .slice none 0 0, .int .u32 dip, .int .u32 0, .bool true] rfl (srcOk.blk 3 (oc.get 4 rfl)) rfl (by simp only [maxLen]; omega) (by omega)
      have og := own_app (enc := cellsC) (ys := [] ++ L) (zs := [(⟨⟨16, 1, 1, now, 3, 0, 0, 0, [], dip, 0, true⟩, none, 0⟩ : Cmd), (⟨⟨16, 1, 0, now, 3, 0, 0, 0, [], dip, 0, false⟩, none, 0⟩ : Cmd), (⟨⟨16, 1, 1, now, 3, 0, 0, 0, [], dip, 0, true⟩, none, 0⟩ : Cmd)]) wV
      obtain ⟨oh, oi, rfl, IH⟩ := own_form og
      have II : ∀ x_ ∈ blk (.slice oh (0 + L.length + 3) oi), ai.heap.size ≤ x_ := fun x_ hx_ => (of x_ hx_).elim (lQ x_) (fun h_ => Nat.le_trans i4.size h_)
      have oj := i4.trans wW (fun x_ hx_ => .inr (lQ x_ hx_))
      refine WD.sem 7 (Builtin.append_ #[22, 22] 22 #[.slice lN (0 + L.length) lO, .slice (some ⟨v2, 0, none⟩) 3 3]) 45 (.slice oh (0 + L.length + 3) oi) (by kernel_rfl) (by kernel_rfl) wU oj ?_
      refine WD.call 8 (by kernel_rfl) rfl rfl rfl rfl rfl (by kernel_rfl) (Fold_n oh (0 + L.length + 3) oi (sickL3 L dip now) Hj (own_rd og cellsC_len (by decide)) (by simp [sickL3]) (sick_at (fun m_ h_ => cmdAt.fr0 (hL m_ h_) i5.fr) (at2 (cmd_nil hwy_ rfl) (cmd_nil hwx_ rfl) (cmd_nil hwy_ rfl))) (by omega) (Rd.fr hg i5.fr)) ?_
      rintro _ LS ⟨ak, al, am, an, ao, ap, aq, ar, au, gd, gf, wX, rfl, ol, om, wY⟩
      have on := i5.callN ol wY om.lt
      have fI := oj.trans ol (by simp)
      refine ⟨_, rfl, fI, ?_⟩
      refine WDq (NPt hN) 9 37 (.tuple #[.agg #[.int .i64 ((foldC (vals (sickL3 L dip now))).epoch), .int .i64 ((foldC (vals (sickL3 L dip now))).now), .slice ak am.length al, .slice an ((foldC (vals (sickL3 L dip now))).snats.length) ao, .slice ap ((foldC (vals (sickL3 L dip now))).sick.length) aq, .slice ar ((foldC (vals (sickL3 L dip now))).leases.length) au], .slice gd ((resC (vals (sickL3 L dip now))).length) gf]) fI ?_
      refine WDq (NPt hN) 10 47 (.agg #[.int .i64 ((foldC (vals (sickL3 L dip now))).epoch), .int .i64 ((foldC (vals (sickL3 L dip now))).now), .slice ak am.length al, .slice an ((foldC (vals (sickL3 L dip now))).snats.length) ao, .slice ap ((foldC (vals (sickL3 L dip now))).sick.length) aq, .slice ar ((foldC (vals (sickL3 L dip now))).leases.length) au]) fI ?_
      refine WDq (NPt hN) 11 48 (.slice gd ((resC (vals (sickL3 L dip now))).length) gf) fI ?_
      obtain ⟨LT, wZ, oo, w0⟩ := sto_run (c' := #[.int .i64 ((foldC (vals (sickL3 L dip now))).epoch), .int .i64 ((foldC (vals (sickL3 L dip now))).now), .slice ak am.length al, .slice an ((foldC (vals (sickL3 L dip now))).snats.length) ao, .slice ap ((foldC (vals (sickL3 L dip now))).sick.length) aq, .slice ar ((foldC (vals (sickL3 L dip now))).leases.length) au]) Tryz.prog on 3 31 ib 0 (.agg #[.int .i64 ((foldC (vals (sickL3 L dip now))).epoch), .int .i64 ((foldC (vals (sickL3 L dip now))).now), .slice ak am.length al, .slice an ((foldC (vals (sickL3 L dip now))).snats.length) ao, .slice ap ((foldC (vals (sickL3 L dip now))).sick.length) aq, .slice ar ((foldC (vals (sickL3 L dip now))).leases.length) au]) rfl (by kernel_rfl)
      have op := fI.trans oo (by first | (simp; done) | (simp [*]; done) | (have q_ := fI.size; simp; omega))
      refine WD.semU 13 (Instr.storeAt 31 (.pointer (some ⟨ib, 0, none⟩)) (.agg #[.int .i64 ((foldC (vals (sickL3 L dip now))).epoch), .int .i64 ((foldC (vals (sickL3 L dip now))).now), .slice ak am.length al, .slice an ((foldC (vals (sickL3 L dip now))).snats.length) ao, .slice ap ((foldC (vals (sickL3 L dip now))).sick.length) aq, .slice ar ((foldC (vals (sickL3 L dip now))).leases.length) au])) (by kernel_rfl) (by kernel_rfl) wZ op ?_
      have w1 := FoldR.fr om oo (on.apartM 2 3 rfl rfl)
      refine WDq (NPt hN) 14 12 (.slice gd ((resC (vals (sickL3 L dip now))).length) gf) op ?_
      refine WD.done (by kernel_rfl) ?_
      refine QXn ?_
      have w2 := w0.pickM [0, 1, 2, 3] [0, 2] (by decide) rfl rfl
      exact fun a_ ha_ => ah _ _ ⟨ib, ak, al, am, an, ao, ap, aq, ar, au, gd, gf, wX, rfl, w2, w1, trivial⟩ a_ (ha_.weaken (sub_of ⟨rfl, rfl, rfl, rfl, rfl, rfl, rfl, rfl, rfl, rfl, trivial⟩))
   rintro E_ Pu ⟨gb, ASb, cSb, xsb, ANb, cNb, AKb, cKb, ALb, cLb, ARb, cRb, Gb, rfl, KO, hFRb, IJ⟩
   refine WC.seqI (fun E_ w_ => ∃ (gc : Nat) (ASc : Option Addr) (cSc : Nat) (xsc : List Svc) (ANc : Option Addr) (cNc : Nat) (AKc : Option Addr) (cKc : Nat) (ALc : Option Addr) (cLc : Nat) (ARc : Option Addr) (cRc : Nat) (Gc : List Nat), E_ = [(0, .slice A L.length c), (1, .int .u32 dip), (2, .int .i64 now), (6, .bool false), (7, .pointer (some ⟨r5, 0, none⟩)), (8, .pointer (some ⟨lF, 0, none⟩)), (9, .pointer (some ⟨mA, 0, none⟩)), (10, .slice g8 ((resC (vals L)).length) g9), (11, .pointer (some ⟨gb, 0, none⟩)), (12, .slice ARb ((resC (vals (sickL3 L dip now))).length) cRb), (13, .pointer (some ⟨gc, 0, none⟩)), (14, .slice ARc ((resC (vals (sickL1 L dip now))).length) cRc)] ∧ Cx w [] w_ [(r5, .cells #[.int .i64 16, .int .i64 1, .int .i64 0, .int .i64 now, .int .i64 3, .int .u32 0, .int .i64 0, .int .i64 0, .slice none 0 0, .int .u32 dip, .int .u32 0, .bool false] 45), (lF, .cells #[.int .i64 16, .int .i64 1, .int .i64 1, .int .i64 now, .int .i64 3, .int .u32 0, .int .i64 0, .int .i64 0, .slice none 0 0, .int .u32 dip, .int .u32 0, .bool true] 45), (mA, .cells #[.int .i64 ((foldC (vals L)).epoch), .int .i64 ((foldC (vals L)).now), .slice f2 ag.length f3, .slice gT ((foldC (vals L)).snats.length) gU, .slice gV ((foldC (vals L)).sick.length) gW, .slice f4 ((foldC (vals L)).leases.length) f5] 31), (gb, .cells #[.int .i64 ((foldC (vals (sickL3 L dip now))).epoch), .int .i64 ((foldC (vals (sickL3 L dip now))).now), .slice ASb xsb.length cSb, .slice ANb ((foldC (vals (sickL3 L dip now))).snats.length) cNb, .slice AKb ((foldC (vals (sickL3 L dip now))).sick.length) cKb, .slice ALb ((foldC (vals (sickL3 L dip now))).leases.length) cLb] 31), (gc, .cells #[.int .i64 ((foldC (vals (sickL1 L dip now))).epoch), .int .i64 ((foldC (vals (sickL1 L dip now))).now), .slice ASc xsc.length cSc, .slice ANc ((foldC (vals (sickL1 L dip now))).snats.length) cNc, .slice AKc ((foldC (vals (sickL1 L dip now))).sick.length) cKc, .slice ALc ((foldC (vals (sickL1 L dip now))).leases.length) cLc] 31)] [wc, Gb, Gc] ∧ FoldR w_ Gb (foldC (vals (sickL3 L dip now))) (resC (vals (sickL3 L dip now))) ASb cSb xsb ANb cNb AKb cKb ALb cLb ARb cRb ∧ FoldR w_ Gc (foldC (vals (sickL1 L dip now))) (resC (vals (sickL1 L dip now))) ASc cSc xsc ANc cNc AKc cKc ALc cLc ARc cRc ∧ (True)) (fun LU ab => ?_) ?_
   ·
    refine WC.drawC KO [] (by kernel_rfl) (fun aa w3 ii aj => ?_)
    have i6 := FoldR.fr hFRb w3 (by simp)
    refine WDq (NPt hN) 1 51 (.slice A L.length c) aj ?_
    refine WDm (NPt hN) 3 45 (.pointer (some ⟨lF, 0, none⟩)) (.agg #[.int .i64 16, .int .i64 1, .int .i64 1, .int .i64 now, .int .i64 3, .int .u32 0, .int .i64 0, .int .i64 0, .slice none 0 0, .int .u32 dip, .int .u32 0, .bool true]) 53 (fun _ hS_ => run_ld (Fr.has hS_ (ii.get 1 rfl) (by simp)) rfl) aj ?_
    refine WD.all3 0 4 10 (by kernel_rfl) ?_ ?_ ?_
    ·
     refine WO.new 0 (fun b => .slice (some ⟨b, 0, none⟩) 0 0) (.cells #[] 45) (by kernel_rfl) rfl rfl rfl rfl rfl (fun _ => by kernel_rfl) (fun ac Hl oq KP i7 w4 => ?_)
     have ij := ii.callB i7 oq w4
     have Cr := Nat.le_trans aj.size oq
     have c9 := aj.trans i7 (by simp)
     refine ⟨c9, ?_⟩
     have i8 := FoldR.fr i6 i7 (by simp)
     refine WD.all3 2 4 10 (by kernel_rfl) ?_ ?_ ?_
     ·
      have w5 : World.ownsRow Hl 0 45 12 (.slice (some ⟨ac, 0, none⟩) 0 0) 0 [] := own_of_blk (Nat.zero_le _) (ij.get 4 rfl) (Nat.le_refl _) (Nat.zero_le _) (by simp) rfl
      have i9 := ij.toF 4 rfl
      obtain ⟨LV, LW, w6, w7, ot, ou, Hm, ov⟩ := app_run Tryz.prog i9 2 (v := .slice (some ⟨ac, 0, none⟩) 0 0) rfl 22 22 45 12 104 0 L.length c A rfl w5 (L.flatMap cellsC) (flat_len_n cellsC_len (by first | rfl | assumption | (simp; done) | (simp; omega))) (Rd.src_n (Rd.fr hr i9.fr) cellsC_len (by decide) (by first | rfl | assumption | (simp; done) | (simp; omega))) (flat_one cellsC_one _) (by simp only [maxLen]; omega) (by omega)
      have ja := own_app (enc := cellsC) (ys := []) (zs := L) w7
      obtain ⟨f6, f7, rfl, IK⟩ := own_form ja
      have lR : ∀ x_ ∈ blk (.slice (some ⟨ac, 0, none⟩) 0 0), aa.heap.size ≤ x_ := by first | (simp [blk, Value.ownBlock, *]; done) | (intro x_ hx_; simp [blk, Value.ownBlock] at hx_; omega)
      have av : ∀ x_ ∈ blk (.slice f6 (0 + L.length) f7), aa.heap.size ≤ x_ := fun x_ hx_ => (ov x_ hx_).elim (lR x_) (fun h_ => Nat.le_trans c9.size h_)
      have gX := c9.trans ot (fun x_ hx_ => .inr (lR x_ hx_))
      refine WO.sem 2 (Builtin.append_ #[22, 22] 22 #[.slice (some ⟨ac, 0, none⟩) 0 0, .slice A L.length c]) 52 (.slice f6 (0 + L.length) f7) (by kernel_rfl) (by kernel_rfl) w6 gX ?_
      have ow := FoldR.fr i8 ot (i9.disj 1 2 rfl rfl (by decide))
      refine WD.all2 4 10 (by kernel_rfl) ?_ ?_
      ·
       refine WO.new 4 (fun b => .slice (some ⟨b, 0, none⟩) 1 1) (.cells #[.int .i64 16, .int .i64 1, .int .i64 1, .int .i64 now, .int .i64 3, .int .u32 0, .int .i64 0, .int .i64 0, .slice none 0 0, .int .u32 dip, .int .u32 0, .bool true] 45) (by kernel_rfl) rfl rfl rfl rfl rfl (fun _ => by kernel_rfl) (fun lS LX ox KQ ik w9 => ?_)
       have il := ou.callB ik ox w9
       have Cs := Nat.le_trans gX.size ox
       have gY := gX.trans ik (by simp)
       refine ⟨gY, ?_⟩
       have oy := FoldR.fr ow ik (by simp)
       have oz := own_fr ja ik (by simp)
       refine WD.all2 5 10 (by kernel_rfl) ?_ ?_
       ·
        obtain ⟨LY, Hn, xa, xb, oA, im, Ho, oB⟩ := app_run Tryz.prog il 2 (v := .slice f6 (0 + L.length) f7) rfl 22 22 45 12 104 (0 + L.length) 1 1 (some ⟨lS, 0, none⟩) rfl oz [.int .i64 16, .int .i64 1, .int .i64 1, .int .i64 now, .int .i64 3, .int .u32 0, .int .i64 0, .int .i64 0, .slice none 0 0, .int .u32 dip, .int .u32 0, .bool true] rfl (srcOk.blk 1 (il.get 4 rfl)) rfl (by simp only [maxLen]; omega) (by omega)
        have jb := own_snoc (enc := cellsC) (ys := [] ++ L) (⟨⟨16, 1, 1, now, 3, 0, 0, 0, [], dip, 0, true⟩, none, 0⟩ : Cmd) xb
        obtain ⟨lT, lU, rfl, IL⟩ := own_form jb
        have IM : ∀ x_ ∈ blk (.slice lT (0 + L.length + 1) lU), aa.heap.size ≤ x_ := fun x_ hx_ => (oB x_ hx_).elim (av x_) (fun h_ => Nat.le_trans gY.size h_)
        have io := gY.trans oA (fun x_ hx_ => .inr (av x_ hx_))
        refine WO.sem 5 (Builtin.append_ #[22, 22] 22 #[.slice f6 (0 + L.length) f7, .slice (some ⟨lS, 0, none⟩) 1 1]) 55 (.slice lT (0 + L.length + 1) lU) (by kernel_rfl) (by kernel_rfl) xa io ?_
        have oC := FoldR.fr oy oA (il.disj 1 2 rfl rfl (by decide))
        refine WD.all2 6 10 (by kernel_rfl) ?_ ?_
        ·
         refine WO.call 6 (by kernel_rfl) rfl rfl rfl rfl rfl (by kernel_rfl) (Fold_n lT (0 + L.length + 1) lU (sickL1 L dip now) Hn (own_rd jb cellsC_len (by decide)) (by simp [sickL1]) (sick_at (fun m_ h_ => cmdAt.fr0 (hL m_ h_) im.fr) (at1 (cmd_nil hwy_ rfl))) (by omega) (Rd.fr hg im.fr)) ?_
         rintro _ LZ ⟨aw, ax, ay, az, aA, aB, aC, aD, aE, gg, gh, xc, rfl, jc, oD, xd⟩
         have xe := im.callN jc xd oD.lt
         have fJ := io.trans jc (by simp)
         refine ⟨_, rfl, fJ, ?_⟩
         have xf := FoldR.fr oC jc (by simp)
         refine WDq (NPt hN) 7 49 (.tuple #[.agg #[.int .i64 ((foldC (vals (sickL1 L dip now))).epoch), .int .i64 ((foldC (vals (sickL1 L dip now))).now), .slice aw ay.length ax, .slice az ((foldC (vals (sickL1 L dip now))).snats.length) aA, .slice aB ((foldC (vals (sickL1 L dip now))).sick.length) aC, .slice aD ((foldC (vals (sickL1 L dip now))).leases.length) aE], .slice gg ((resC (vals (sickL1 L dip now))).length) gh]) fJ ?_
         refine WDq (NPt hN) 8 57 (.agg #[.int .i64 ((foldC (vals (sickL1 L dip now))).epoch), .int .i64 ((foldC (vals (sickL1 L dip now))).now), .slice aw ay.length ax, .slice az ((foldC (vals (sickL1 L dip now))).snats.length) aA, .slice aB ((foldC (vals (sickL1 L dip now))).sick.length) aC, .slice aD ((foldC (vals (sickL1 L dip now))).leases.length) aE]) fJ ?_
         refine WDq (NPt hN) 9 58 (.slice gg ((resC (vals (sickL1 L dip now))).length) gh) fJ ?_
         refine WD.new 10 (fun b => .pointer (some ⟨b, 0, none⟩)) (.cells #[.int .i64 0, .int .i64 0, .slice none 0 0, .slice none 0 0, .slice none 0 0, .slice none 0 0] 31) (by kernel_rfl) rfl rfl rfl rfl rfl (fun _ => by kernel_rfl) (fun oE L0 oF KR ip xg => ?_)
         have jd := xe.callB ip oF xg
         have Ct := Nat.le_trans fJ.size oF
         have je := fJ.trans ip (by simp)
         refine ⟨je, ?_⟩
         have xh := FoldR.fr xf ip (by simp)
         have xi := FoldR.fr oD ip (by simp)
         obtain ⟨L1, xj, jf, xk⟩ := sto_run (c' := #[.int .i64 ((foldC (vals (sickL1 L dip now))).epoch), .int .i64 ((foldC (vals (sickL1 L dip now))).now), .slice aw ay.length ax, .slice az ((foldC (vals (sickL1 L dip now))).snats.length) aA, .slice aB ((foldC (vals (sickL1 L dip now))).sick.length) aC, .slice aD ((foldC (vals (sickL1 L dip now))).leases.length) aE]) Tryz.prog jd 5 31 oE 0 (.agg #[.int .i64 ((foldC (vals (sickL1 L dip now))).epoch), .int .i64 ((foldC (vals (sickL1 L dip now))).now), .slice aw ay.length ax, .slice az ((foldC (vals (sickL1 L dip now))).snats.length) aA, .slice aB ((foldC (vals (sickL1 L dip now))).sick.length) aC, .slice aD ((foldC (vals (sickL1 L dip now))).leases.length) aE]) rfl (by kernel_rfl)
         have oG := je.trans jf (by first | (simp; done) | (simp [*]; done) | (have q_ := je.size; simp; omega))
         refine WD.semU 11 (Instr.storeAt 31 (.pointer (some ⟨oE, 0, none⟩)) (.agg #[.int .i64 ((foldC (vals (sickL1 L dip now))).epoch), .int .i64 ((foldC (vals (sickL1 L dip now))).now), .slice aw ay.length ax, .slice az ((foldC (vals (sickL1 L dip now))).snats.length) aA, .slice aB ((foldC (vals (sickL1 L dip now))).sick.length) aC, .slice aD ((foldC (vals (sickL1 L dip now))).leases.length) aE])) (by kernel_rfl) (by kernel_rfl) xj oG ?_
         have xl := FoldR.fr xh jf (jd.apartM 1 5 rfl rfl)
         have xm := FoldR.fr xi jf (jd.apartM 3 5 rfl rfl)
         refine WDq (NPt hN) 12 14 (.slice gg ((resC (vals (sickL1 L dip now))).length) gh) oG ?_
         refine WD.done (by kernel_rfl) ?_
         refine QXn ?_
         have xn := xk.pickM [0, 1, 2, 3, 5] [0, 1, 3] (by decide) rfl rfl
         exact fun a_ ha_ => ab _ _ ⟨oE, aw, ax, ay, az, aA, aB, aC, aD, aE, gg, gh, xc, rfl, xn, xl, xm, trivial⟩ a_ (ha_.weaken (sub_of ⟨rfl, rfl, rfl, rfl, rfl, rfl, rfl, rfl, rfl, rfl, rfl, rfl, trivial⟩))
        ·
         refine WO.new 10 (fun b => .pointer (some ⟨b, 0, none⟩)) (.cells #[.int .i64 0, .int .i64 0, .slice none 0 0, .slice none 0 0, .slice none 0 0, .slice none 0 0] 31) (by kernel_rfl) rfl rfl rfl rfl rfl (fun _ => by kernel_rfl) (fun oH Hp oI KS iq xo => ?_)
         have jg := im.callB iq oI xo
         have Cu := Nat.le_trans io.size oI
         have oJ := io.trans iq (by simp)
         refine ⟨oJ, ?_⟩
         have xp := FoldR.fr oC iq (by simp)
         have xq := own_fr jb iq (by simp)
         refine WD.call 6 (by kernel_rfl) rfl rfl rfl rfl rfl (by kernel_rfl) (Fold_n lT (0 + L.length + 1) lU (sickL1 L dip now) Hp (own_rd xq cellsC_len (by decide)) (by simp [sickL1]) (sick_at (fun m_ h_ => cmdAt.fr0 (hL m_ h_) jg.fr) (at1 (cmd_nil hwy_ rfl))) (by omega) (Rd.fr hg jg.fr)) ?_
         rintro _ L2 ⟨aF, aG, aH, aI, aJ, aK, aL, aM, aN, gi, gj, xr, rfl, jh, oK, xt⟩
         have ji := jg.callN jh xt oK.lt
         have fK := oJ.trans jh (by simp)
         refine ⟨_, rfl, fK, ?_⟩
         have xu := FoldR.fr xp jh (by simp)
         refine WDq (NPt hN) 7 49 (.tuple #[.agg #[.int .i64 ((foldC (vals (sickL1 L dip now))).epoch), .int .i64 ((foldC (vals (sickL1 L dip now))).now), .slice aF aH.length aG, .slice aI ((foldC (vals (sickL1 L dip now))).snats.length) aJ, .slice aK ((foldC (vals (sickL1 L dip now))).sick.length) aL, .slice aM ((foldC (vals (sickL1 L dip now))).leases.length) aN], .slice gi ((resC (vals (sickL1 L dip now))).length) gj]) fK ?_
         refine WDq (NPt hN) 8 57 (.agg #[.int .i64 ((foldC (vals (sickL1 L dip now))).epoch), .int .i64 ((foldC (vals (sickL1 L dip now))).now), .slice aF aH.length aG, .slice aI ((foldC (vals (sickL1 L dip now))).snats.length) aJ, .slice aK ((foldC (vals (sickL1 L dip now))).sick.length) aL, .slice aM ((foldC (vals (sickL1 L dip now))).leases.length) aN]) fK ?_
         refine WDq (NPt hN) 9 58 (.slice gi ((resC (vals (sickL1 L dip now))).length) gj) fK ?_
         obtain ⟨L3, xv, jj, xw⟩ := sto_run (c' := #[.int .i64 ((foldC (vals (sickL1 L dip now))).epoch), .int .i64 ((foldC (vals (sickL1 L dip now))).now), .slice aF aH.length aG, .slice aI ((foldC (vals (sickL1 L dip now))).snats.length) aJ, .slice aK ((foldC (vals (sickL1 L dip now))).sick.length) aL, .slice aM ((foldC (vals (sickL1 L dip now))).leases.length) aN]) Tryz.prog ji 5 31 oH 0 (.agg #[.int .i64 ((foldC (vals (sickL1 L dip now))).epoch), .int .i64 ((foldC (vals (sickL1 L dip now))).now), .slice aF aH.length aG, .slice aI ((foldC (vals (sickL1 L dip now))).snats.length) aJ, .slice aK ((foldC (vals (sickL1 L dip now))).sick.length) aL, .slice aM ((foldC (vals (sickL1 L dip now))).leases.length) aN]) rfl (by kernel_rfl)
         have oL := fK.trans jj (by first | (simp; done) | (simp [*]; done) | (have q_ := fK.size; simp; omega))
         refine WD.semU 11 (Instr.storeAt 31 (.pointer (some ⟨oH, 0, none⟩)) (.agg #[.int .i64 ((foldC (vals (sickL1 L dip now))).epoch), .int .i64 ((foldC (vals (sickL1 L dip now))).now), .slice aF aH.length aG, .slice aI ((foldC (vals (sickL1 L dip now))).snats.length) aJ, .slice aK ((foldC (vals (sickL1 L dip now))).sick.length) aL, .slice aM ((foldC (vals (sickL1 L dip now))).leases.length) aN])) (by kernel_rfl) (by kernel_rfl) xv oL ?_
         have xx := FoldR.fr xu jj (ji.apartM 1 5 rfl rfl)
         have xy := FoldR.fr oK jj (ji.apartM 3 5 rfl rfl)
         refine WDq (NPt hN) 12 14 (.slice gi ((resC (vals (sickL1 L dip now))).length) gj) oL ?_
         refine WD.done (by kernel_rfl) ?_
         refine QXn ?_
         have xz := xw.pickM [0, 1, 2, 3, 5] [0, 1, 3] (by decide) rfl rfl
         exact fun a_ ha_ => ab _ _ ⟨oH, aF, aG, aH, aI, aJ, aK, aL, aM, aN, gi, gj, xr, rfl, xz, xx, xy, trivial⟩ a_ (ha_.weaken (sub_of ⟨rfl, rfl, rfl, rfl, rfl, rfl, rfl, rfl, rfl, rfl, rfl, rfl, trivial⟩))
       ·
        refine WO.new 10 (fun b => .pointer (some ⟨b, 0, none⟩)) (.cells #[.int .i64 0, .int .i64 0, .slice none 0 0, .slice none 0 0, .slice none 0 0, .slice none 0 0] 31) (by kernel_rfl) rfl rfl rfl rfl rfl (fun _ => by kernel_rfl) (fun oM L4 oN KT ir xA => ?_)
        have jk := il.callB ir oN xA
        have Cv := Nat.le_trans gY.size oN
        have jl := gY.trans ir (by simp)
        refine ⟨jl, ?_⟩
        have xB := FoldR.fr oy ir (by simp)
        have xC := own_fr oz ir (by simp)
        obtain ⟨L5, Hq, xD, xE, oO, jm, Hr, oP⟩ := app_run Tryz.prog jk 2 (v := .slice f6 (0 + L.length) f7) rfl 22 22 45 12 104 (0 + L.length) 1 1 (some ⟨lS, 0, none⟩) rfl xC [.int .i64 16, .int .i64 1, .int .i64 1, .int .i64 now, .int .i64 3, .int .u32 0, .int .i64 0, .int .i64 0, .slice none 0 0, .int .u32 dip, .int .u32 0, .bool true] rfl (srcOk.blk 1 (jk.get 4 rfl)) rfl (by simp only [maxLen]; omega) (by omega)
        have oQ := own_snoc (enc := cellsC) (ys := [] ++ L) (⟨⟨16, 1, 1, now, 3, 0, 0, 0, [], dip, 0, true⟩, none, 0⟩ : Cmd) xE
        obtain ⟨oR, oS, rfl, IN⟩ := own_form oQ
        have IO : ∀ x_ ∈ blk (.slice oR (0 + L.length + 1) oS), aa.heap.size ≤ x_ := fun x_ hx_ => (oP x_ hx_).elim (av x_) (fun h_ => Nat.le_trans jl.size h_)
        have oT := jl.trans oO (fun x_ hx_ => .inr (av x_ hx_))
        refine WD.sem 5 (Builtin.append_ #[22, 22] 22 #[.slice f6 (0 + L.length) f7, .slice (some ⟨lS, 0, none⟩) 1 1]) 55 (.slice oR (0 + L.length + 1) oS) (by kernel_rfl) (by kernel_rfl) xD oT ?_
        have xF := FoldR.fr xB oO (jk.disj 1 2 rfl rfl (by decide))
        refine WD.call 6 (by kernel_rfl) rfl rfl rfl rfl rfl (by kernel_rfl) (Fold_n oR (0 + L.length + 1) oS (sickL1 L dip now) Hq (own_rd oQ cellsC_len (by decide)) (by simp [sickL1]) (sick_at (fun m_ h_ => cmdAt.fr0 (hL m_ h_) jm.fr) (at1 (cmd_nil hwy_ rfl))) (by omega) (Rd.fr hg jm.fr)) ?_
        rintro _ L6 ⟨aO, aP, aQ, aR, aS, aT, aU, aV, aW, gk, gl, xG, rfl, jn, oU, xH⟩
        have jo := jm.callN jn xH oU.lt
        have fL := oT.trans jn (by simp)
        refine ⟨_, rfl, fL, ?_⟩
        have xI := FoldR.fr xF jn (by simp)
        refine WDq (NPt hN) 7 49 (.tuple #[.agg #[.int .i64 ((foldC (vals (sickL1 L dip now))).epoch), .int .i64 ((foldC (vals (sickL1 L dip now))).now), .slice aO aQ.length aP, .slice aR ((foldC (vals (sickL1 L dip now))).snats.length) aS, .slice aT ((foldC (vals (sickL1 L dip now))).sick.length) aU, .slice aV ((foldC (vals (sickL1 L dip now))).leases.length) aW], .slice gk ((resC (vals (sickL1 L dip now))).length) gl]) fL ?_
        refine WDq (NPt hN) 8 57 (.agg #[.int .i64 ((foldC (vals (sickL1 L dip now))).epoch), .int .i64 ((foldC (vals (sickL1 L dip now))).now), .slice aO aQ.length aP, .slice aR ((foldC (vals (sickL1 L dip now))).snats.length) aS, .slice aT ((foldC (vals (sickL1 L dip now))).sick.length) aU, .slice aV ((foldC (vals (sickL1 L dip now))).leases.length) aW]) fL ?_
        refine WDq (NPt hN) 9 58 (.slice gk ((resC (vals (sickL1 L dip now))).length) gl) fL ?_
        obtain ⟨L7, xJ, jp, xK⟩ := sto_run (c' := #[.int .i64 ((foldC (vals (sickL1 L dip now))).epoch), .int .i64 ((foldC (vals (sickL1 L dip now))).now), .slice aO aQ.length aP, .slice aR ((foldC (vals (sickL1 L dip now))).snats.length) aS, .slice aT ((foldC (vals (sickL1 L dip now))).sick.length) aU, .slice aV ((foldC (vals (sickL1 L dip now))).leases.length) aW]) Tryz.prog jo 5 31 oM 0 (.agg #[.int .i64 ((foldC (vals (sickL1 L dip now))).epoch), .int .i64 ((foldC (vals (sickL1 L dip now))).now), .slice aO aQ.length aP, .slice aR ((foldC (vals (sickL1 L dip now))).snats.length) aS, .slice aT ((foldC (vals (sickL1 L dip now))).sick.length) aU, .slice aV ((foldC (vals (sickL1 L dip now))).leases.length) aW]) rfl (by kernel_rfl)
        have oV := fL.trans jp (by first | (simp; done) | (simp [*]; done) | (have q_ := fL.size; simp; omega))
        refine WD.semU 11 (Instr.storeAt 31 (.pointer (some ⟨oM, 0, none⟩)) (.agg #[.int .i64 ((foldC (vals (sickL1 L dip now))).epoch), .int .i64 ((foldC (vals (sickL1 L dip now))).now), .slice aO aQ.length aP, .slice aR ((foldC (vals (sickL1 L dip now))).snats.length) aS, .slice aT ((foldC (vals (sickL1 L dip now))).sick.length) aU, .slice aV ((foldC (vals (sickL1 L dip now))).leases.length) aW])) (by kernel_rfl) (by kernel_rfl) xJ oV ?_
        have xL := FoldR.fr xI jp (jo.apartM 1 5 rfl rfl)
        have xM := FoldR.fr oU jp (jo.apartM 3 5 rfl rfl)
        refine WDq (NPt hN) 12 14 (.slice gk ((resC (vals (sickL1 L dip now))).length) gl) oV ?_
        refine WD.done (by kernel_rfl) ?_
        refine QXn ?_
        have xN := xK.pickM [0, 1, 2, 3, 5] [0, 1, 3] (by decide) rfl rfl
        exact fun a_ ha_ => ab _ _ ⟨oM, aO, aP, aQ, aR, aS, aT, aU, aV, aW, gk, gl, xG, rfl, xN, xL, xM, trivial⟩ a_ (ha_.weaken (sub_of ⟨rfl, rfl, rfl, rfl, rfl, rfl, rfl, rfl, rfl, rfl, rfl, rfl, trivial⟩))
      ·
       refine WO.new 10 (fun b => .pointer (some ⟨b, 0, none⟩)) (.cells #[.int .i64 0, .int .i64 0, .slice none 0 0, .slice none 0 0, .slice none 0 0, .slice none 0 0] 31) (by kernel_rfl) rfl rfl rfl rfl rfl (fun _ => by kernel_rfl) (fun oW L8 oX KU it xO => ?_)
       have xP := ou.callB it oX xO
       have Cw := Nat.le_trans gX.size oX
       have jq := gX.trans it (by simp)
       refine ⟨jq, ?_⟩
       have xQ := FoldR.fr ow it (by simp)
       have xR := own_fr ja it (by simp)
       refine WD.new 4 (fun b => .slice (some ⟨b, 0, none⟩) 1 1) (.cells #[.int .i64 16, .int .i64 1, .int .i64 1, .int .i64 now, .int .i64 3, .int .u32 0, .int .i64 0, .int .i64 0, .slice none 0 0, .int .u32 dip, .int .u32 0, .bool true] 45) (by kernel_rfl) rfl rfl rfl rfl rfl (fun _ => by kernel_rfl) (fun v3 L9 oY KV iu xS => ?_)
       have jr := xP.callB iu oY xS
       have Cy := Nat.le_trans jq.size oY
       have js := jq.trans iu (by simp)
       refine ⟨js, ?_⟩
       have xT := FoldR.fr xQ iu (by simp)
       have xU := own_fr xR iu (by simp)
       obtain ⟨Ma, Hs, xV, xW, oZ, jt, Ht, o0⟩ := app_run Tryz.prog jr 2 (v := .slice f6 (0 + L.length) f7) rfl 22 22 45 12 104 (0 + L.length) 1 1 (some ⟨v3, 0, none⟩) rfl xU [.int .i64 16, .int .i64 1, .int .i64 1, .int .i64 now, .int .i64 3, .int .u32 0, .int .i64 0, .int .i64 0, .slice none 0 0, .int .u32 dip, .int .u32 0, .bool true] rfl (srcOk.blk 1 (jr.get 5 rfl)) rfl (by simp only [maxLen]; omega) (by omega)
       have o1 := own_snoc (enc := cellsC) (ys := [] ++ L) (⟨⟨16, 1, 1, now, 3, 0, 0, 0, [], dip, 0, true⟩, none, 0⟩ : Cmd) xW
       obtain ⟨o2, o3, rfl, IP⟩ := own_form o1
       have IQ : ∀ x_ ∈ blk (.slice o2 (0 + L.length + 1) o3), aa.heap.size ≤ x_ := fun x_ hx_ => (o0 x_ hx_).elim (av x_) (fun h_ => Nat.le_trans js.size h_)
       have o4 := js.trans oZ (fun x_ hx_ => .inr (av x_ hx_))
       refine WD.sem 5 (Builtin.append_ #[22, 22] 22 #[.slice f6 (0 + L.length) f7, .slice (some ⟨v3, 0, none⟩) 1 1]) 55 (.slice o2 (0 + L.length + 1) o3) (by kernel_rfl) (by kernel_rfl) xV o4 ?_
       have xX := FoldR.fr xT oZ (jr.disj 1 2 rfl rfl (by decide))
       refine WD.call 6 (by kernel_rfl) rfl rfl rfl rfl rfl (by kernel_rfl) (Fold_n o2 (0 + L.length + 1) o3 (sickL1 L dip now) Hs (own_rd o1 cellsC_len (by decide)) (by simp [sickL1]) (sick_at (fun m_ h_ => cmdAt.fr0 (hL m_ h_) jt.fr) (at1 (cmd_nil hwy_ rfl))) (by omega) (Rd.fr hg jt.fr)) ?_
       rintro _ Mb ⟨aX, aY, aZ, a0, a1, a2, a3, a4, a5, gm, gn, xY, rfl, ju, o5, xZ⟩
       have jv := jt.callN ju xZ o5.lt
       have fM := o4.trans ju (by simp)
       refine ⟨_, rfl, fM, ?_⟩
       have x0 := FoldR.fr xX ju (by simp)
       refine WDq (NPt hN) 7 49 (.tuple #[.agg #[.int .i64 ((foldC (vals (sickL1 L dip now))).epoch), .int .i64 ((foldC (vals (sickL1 L dip now))).now), .slice aX aZ.length aY, .slice a0 ((foldC (vals (sickL1 L dip now))).snats.length) a1, .slice a2 ((foldC (vals (sickL1 L dip now))).sick.length) a3, .slice a4 ((foldC (vals (sickL1 L dip now))).leases.length) a5], .slice gm ((resC (vals (sickL1 L dip now))).length) gn]) fM ?_
       refine WDq (NPt hN) 8 57 (.agg #[.int .i64 ((foldC (vals (sickL1 L dip now))).epoch), .int .i64 ((foldC (vals (sickL1 L dip now))).now), .slice aX aZ.length aY, .slice a0 ((foldC (vals (sickL1 L dip now))).snats.length) a1, .slice a2 ((foldC (vals (sickL1 L dip now))).sick.length) a3, .slice a4 ((foldC (vals (sickL1 L dip now))).leases.length) a5]) fM ?_
       refine WDq (NPt hN) 9 58 (.slice gm ((resC (vals (sickL1 L dip now))).length) gn) fM ?_
       obtain ⟨Mc, x1, jw, x2⟩ := sto_run (c' := #[.int .i64 ((foldC (vals (sickL1 L dip now))).epoch), .int .i64 ((foldC (vals (sickL1 L dip now))).now), .slice aX aZ.length aY, .slice a0 ((foldC (vals (sickL1 L dip now))).snats.length) a1, .slice a2 ((foldC (vals (sickL1 L dip now))).sick.length) a3, .slice a4 ((foldC (vals (sickL1 L dip now))).leases.length) a5]) Tryz.prog jv 4 31 oW 0 (.agg #[.int .i64 ((foldC (vals (sickL1 L dip now))).epoch), .int .i64 ((foldC (vals (sickL1 L dip now))).now), .slice aX aZ.length aY, .slice a0 ((foldC (vals (sickL1 L dip now))).snats.length) a1, .slice a2 ((foldC (vals (sickL1 L dip now))).sick.length) a3, .slice a4 ((foldC (vals (sickL1 L dip now))).leases.length) a5]) rfl (by kernel_rfl)
       have o6 := fM.trans jw (by first | (simp; done) | (simp [*]; done) | (have q_ := fM.size; simp; omega))
       refine WD.semU 11 (Instr.storeAt 31 (.pointer (some ⟨oW, 0, none⟩)) (.agg #[.int .i64 ((foldC (vals (sickL1 L dip now))).epoch), .int .i64 ((foldC (vals (sickL1 L dip now))).now), .slice aX aZ.length aY, .slice a0 ((foldC (vals (sickL1 L dip now))).snats.length) a1, .slice a2 ((foldC (vals (sickL1 L dip now))).sick.length) a3, .slice a4 ((foldC (vals (sickL1 L dip now))).leases.length) a5])) (by kernel_rfl) (by kernel_rfl) x1 o6 ?_
       have x3 := FoldR.fr x0 jw (jv.apartM 1 4 rfl rfl)
       have x4 := FoldR.fr o5 jw (jv.apartM 3 4 rfl rfl)
       refine WDq (NPt hN) 12 14 (.slice gm ((resC (vals (sickL1 L dip now))).length) gn) o6 ?_
       refine WD.done (by kernel_rfl) ?_
       refine QXn ?_
       have x5 := x2.pickM [0, 1, 2, 3, 4] [0, 1, 3] (by decide) rfl rfl
       exact fun a_ ha_ => ab _ _ ⟨oW, aX, aY, aZ, a0, a1, a2, a3, a4, a5, gm, gn, xY, rfl, x5, x3, x4, trivial⟩ a_ (ha_.weaken (sub_of ⟨rfl, rfl, rfl, rfl, rfl, rfl, rfl, rfl, rfl, rfl, rfl, rfl, trivial⟩))
     ·
      refine WO.new 4 (fun b => .slice (some ⟨b, 0, none⟩) 1 1) (.cells #[.int .i64 16, .int .i64 1, .int .i64 1, .int .i64 now, .int .i64 3, .int .u32 0, .int .i64 0, .int .i64 0, .slice none 0 0, .int .u32 dip, .int .u32 0, .bool true] 45) (by kernel_rfl) rfl rfl rfl rfl rfl (fun _ => by kernel_rfl) (fun hw Hu o7 KW jx x6 => ?_)
      have jy := ij.callB jx o7 x6
      have Cz := Nat.le_trans c9.size o7
      have gZ := c9.trans jx (by simp)
      refine ⟨gZ, ?_⟩
      have o8 := FoldR.fr i8 jx (by simp)
      refine WD.all2 2 10 (by kernel_rfl) ?_ ?_
      ·
       have x7 : World.ownsRow Hu 0 45 12 (.slice (some ⟨ac, 0, none⟩) 0 0) 0 [] := own_of_blk (Nat.zero_le _) (jy.get 4 rfl) (Nat.le_refl _) (Nat.zero_le _) (by simp) rfl
       have jz := jy.toF 4 rfl
       obtain ⟨Md, Me, x8, x9, o9, iv, Hv, pa⟩ := app_run Tryz.prog jz 2 (v := .slice (some ⟨ac, 0, none⟩) 0 0) rfl 22 22 45 12 104 0 L.length c A rfl x7 (L.flatMap cellsC) (flat_len_n cellsC_len (by first | rfl | assumption | (simp; done) | (simp; omega))) (Rd.src_n (Rd.fr hr jz.fr) cellsC_len (by decide) (by first | rfl | assumption | (simp; done) | (simp; omega))) (flat_one cellsC_one _) (by simp only [maxLen]; omega) (by omega)
       have jA := own_app (enc := cellsC) (ys := []) (zs := L) x9
       obtain ⟨hx, hy, rfl, IR⟩ := own_form jA
       have lV : ∀ x_ ∈ blk (.slice (some ⟨ac, 0, none⟩) 0 0), aa.heap.size ≤ x_ := by first | (simp [blk, Value.ownBlock, *]; done) | (intro x_ hx_; simp [blk, Value.ownBlock] at hx_; omega)
       have go : ∀ x_ ∈ blk (.slice hx (0 + L.length) hy), aa.heap.size ≤ x_ := fun x_ hx_ => (pa x_ hx_).elim (lV x_) (fun h_ => Nat.le_trans gZ.size h_)
       have g0 := gZ.trans o9 (fun x_ hx_ => .inr (lV x_ hx_))
       refine WO.sem 2 (Builtin.append_ #[22, 22] 22 #[.slice (some ⟨ac, 0, none⟩) 0 0, .slice A L.length c]) 52 (.slice hx (0 + L.length) hy) (by kernel_rfl) (by kernel_rfl) x8 g0 ?_
       have pb := FoldR.fr o8 o9 (jz.disj 1 2 rfl rfl (by decide))
       refine WD.all2 5 10 (by kernel_rfl) ?_ ?_
       ·
        obtain ⟨Mf, Hw, ya, yb, pc, iw, Hx, pd⟩ := app_run Tryz.prog iv 2 (v := .slice hx (0 + L.length) hy) rfl 22 22 45 12 104 (0 + L.length) 1 1 (some ⟨hw, 0, none⟩) rfl jA [.int .i64 16, .int .i64 1, .int .i64 1, .int .i64 now, .int .i64 3, .int .u32 0, .int .i64 0, .int .i64 0, .slice none 0 0, .int .u32 dip, .int .u32 0, .bool true] rfl (srcOk.blk 1 (iv.get 4 rfl)) rfl (by simp only [maxLen]; omega) (by omega)
        have jB := own_snoc (enc := cellsC) (ys := [] ++ L) (⟨⟨16, 1, 1, now, 3, 0, 0, 0, [], dip, 0, true⟩, none, 0⟩ : Cmd) yb
        obtain ⟨lW, lX, rfl, IS⟩ := own_form jB
        have IT : ∀ x_ ∈ blk (.slice lW (0 + L.length + 1) lX), aa.heap.size ≤ x_ := fun x_ hx_ => (pd x_ hx_).elim (go x_) (fun h_ => Nat.le_trans g0.size h_)
        have ix := g0.trans pc (fun x_ hx_ => .inr (go x_ hx_))
        refine WO.sem 5 (Builtin.append_ #[22, 22] 22 #[.slice hx (0 + L.length) hy, .slice (some ⟨hw, 0, none⟩) 1 1]) 55 (.slice lW (0 + L.length + 1) lX) (by kernel_rfl) (by kernel_rfl) ya ix ?_
        have pe := FoldR.fr pb pc (iv.disj 1 2 rfl rfl (by decide))
        refine WD.all2 6 10 (by kernel_rfl) ?_ ?_
        ·
         refine WO.call 6 (by kernel_rfl) rfl rfl rfl rfl rfl (by kernel_rfl) (Fold_n lW (0 + L.length + 1) lX (sickL1 L dip now) Hw (own_rd jB cellsC_len (by decide)) (by simp [sickL1]) (sick_at (fun m_ h_ => cmdAt.fr0 (hL m_ h_) iw.fr) (at1 (cmd_nil hwy_ rfl))) (by omega) (Rd.fr hg iw.fr)) ?_
         rintro _ Mg ⟨a6, a7, a8, a9, ba, bb, bc, bd, be, gp, gq, yc, rfl, jC, pf, yd⟩
         have ye := iw.callN jC yd pf.lt
         have fN := ix.trans jC (by simp)
         refine ⟨_, rfl, fN, ?_⟩
         have yf := FoldR.fr pe jC (by simp)
         refine WDq (NPt hN) 7 49 (.tuple #[.agg #[.int .i64 ((foldC (vals (sickL1 L dip now))).epoch), .int .i64 ((foldC (vals (sickL1 L dip now))).now), .slice a6 a8.length a7, .slice a9 ((foldC (vals (sickL1 L dip now))).snats.length) ba, .slice bb ((foldC (vals (sickL1 L dip now))).sick.length) bc, .slice bd ((foldC (vals (sickL1 L dip now))).leases.length) be], .slice gp ((resC (vals (sickL1 L dip now))).length) gq]) fN ?_
         refine WDq (NPt hN) 8 57 (.agg #[.int .i64 ((foldC (vals (sickL1 L dip now))).epoch), .int .i64 ((foldC (vals (sickL1 L dip now))).now), .slice a6 a8.length a7, .slice a9 ((foldC (vals (sickL1 L dip now))).snats.length) ba, .slice bb ((foldC (vals (sickL1 L dip now))).sick.length) bc, .slice bd ((foldC (vals (sickL1 L dip now))).leases.length) be]) fN ?_
         refine WDq (NPt hN) 9 58 (.slice gp ((resC (vals (sickL1 L dip now))).length) gq) fN ?_
         refine WD.new 10 (fun b => .pointer (some ⟨b, 0, none⟩)) (.cells #[.int .i64 0, .int .i64 0, .slice none 0 0, .slice none 0 0, .slice none 0 0, .slice none 0 0] 31) (by kernel_rfl) rfl rfl rfl rfl rfl (fun _ => by kernel_rfl) (fun pg Mh ph KX iy yg => ?_)
         have jD := ye.callB iy ph yg
         have CA := Nat.le_trans fN.size ph
         have jE := fN.trans iy (by simp)
         refine ⟨jE, ?_⟩
         have yh := FoldR.fr yf iy (by simp)
         have yi := FoldR.fr pf iy (by simp)
         obtain ⟨Mi, yj, jF, yk⟩ := sto_run (c' := #[.int .i64 ((foldC (vals (sickL1 L dip now))).epoch), .int .i64 ((foldC (vals (sickL1 L dip now))).now), .slice a6 a8.length a7, .slice a9 ((foldC (vals (sickL1 L dip now))).snats.length) ba, .slice bb ((foldC (vals (sickL1 L dip now))).sick.length) bc, .slice bd ((foldC (vals (sickL1 L dip now))).leases.length) be]) Tryz.prog jD 5 31 pg 0 (.agg #[.int .i64 ((foldC (vals (sickL1 L dip now))).epoch), .int .i64 ((foldC (vals (sickL1 L dip now))).now), .slice a6 a8.length a7, .slice a9 ((foldC (vals (sickL1 L dip now))).snats.length) ba, .slice bb ((foldC (vals (sickL1 L dip now))).sick.length) bc, .slice bd ((foldC (vals (sickL1 L dip now))).leases.length) be]) rfl (by kernel_rfl)
         have pi := jE.trans jF (by first | (simp; done) | (simp [*]; done) | (have q_ := jE.size; simp; omega))
         refine WD.semU 11 (Instr.storeAt 31 (.pointer (some ⟨pg, 0, none⟩)) (.agg #[.int .i64 ((foldC (vals (sickL1 L dip now))).epoch), .int .i64 ((foldC (vals (sickL1 L dip now))).now), .slice a6 a8.length a7, .slice a9 ((foldC (vals (sickL1 L dip now))).snats.length) ba, .slice bb ((foldC (vals (sickL1 L dip now))).sick.length) bc, .slice bd ((foldC (vals (sickL1 L dip now))).leases.length) be])) (by kernel_rfl) (by kernel_rfl) yj pi ?_
         have yl := FoldR.fr yh jF (jD.apartM 1 5 rfl rfl)
         have ym := FoldR.fr yi jF (jD.apartM 3 5 rfl rfl)
         refine WDq (NPt hN) 12 14 (.slice gp ((resC (vals (sickL1 L dip now))).length) gq) pi ?_
         refine WD.done (by kernel_rfl) ?_
         refine QXn ?_
         have yn := yk.pickM [0, 1, 2, 3, 5] [0, 1, 3] (by decide) rfl rfl
         exact fun a_ ha_ => ab _ _ ⟨pg, a6, a7, a8, a9, ba, bb, bc, bd, be, gp, gq, yc, rfl, yn, yl, ym, trivial⟩ a_ (ha_.weaken (sub_of ⟨rfl, rfl, rfl, rfl, rfl, rfl, rfl, rfl, rfl, rfl, rfl, rfl, trivial⟩))
        ·
         refine WO.new 10 (fun b => .pointer (some ⟨b, 0, none⟩)) (.cells #[.int .i64 0, .int .i64 0, .slice none 0 0, .slice none 0 0, .slice none 0 0, .slice none 0 0] 31) (by kernel_rfl) rfl rfl rfl rfl rfl (fun _ => by kernel_rfl) (fun pj Hy pk KY iz yo => ?_)
         have jG := iw.callB iz pk yo
         have CB := Nat.le_trans ix.size pk
         have pl := ix.trans iz (by simp)
         refine ⟨pl, ?_⟩
         have yp := FoldR.fr pe iz (by simp)
         have yq := own_fr jB iz (by simp)
         refine WD.call 6 (by kernel_rfl) rfl rfl rfl rfl rfl (by kernel_rfl) (Fold_n lW (0 + L.length + 1) lX (sickL1 L dip now) Hy (own_rd yq cellsC_len (by decide)) (by simp [sickL1]) (sick_at (fun m_ h_ => cmdAt.fr0 (hL m_ h_) jG.fr) (at1 (cmd_nil hwy_ rfl))) (by omega) (Rd.fr hg jG.fr)) ?_
         rintro _ Mj ⟨bf, bg, bh, bi, bj, bk, bl, bm, bn, gr, gs, yr, rfl, jH, pm, yt⟩
         have jI := jG.callN jH yt pm.lt
         have fO := pl.trans jH (by simp)
         refine ⟨_, rfl, fO, ?_⟩
         have yu := FoldR.fr yp jH (by simp)
         refine WDq (NPt hN) 7 49 (.tuple #[.agg #[.int .i64 ((foldC (vals (sickL1 L dip now))).epoch), .int .i64 ((foldC (vals (sickL1 L dip now))).now), .slice bf bh.length bg, .slice bi ((foldC (vals (sickL1 L dip now))).snats.length) bj, .slice bk ((foldC (vals (sickL1 L dip now))).sick.length) bl, .slice bm ((foldC (vals (sickL1 L dip now))).leases.length) bn], .slice gr ((resC (vals (sickL1 L dip now))).length) gs]) fO ?_
         refine WDq (NPt hN) 8 57 (.agg #[.int .i64 ((foldC (vals (sickL1 L dip now))).epoch), .int .i64 ((foldC (vals (sickL1 L dip now))).now), .slice bf bh.length bg, .slice bi ((foldC (vals (sickL1 L dip now))).snats.length) bj, .slice bk ((foldC (vals (sickL1 L dip now))).sick.length) bl, .slice bm ((foldC (vals (sickL1 L dip now))).leases.length) bn]) fO ?_
         refine WDq (NPt hN) 9 58 (.slice gr ((resC (vals (sickL1 L dip now))).length) gs) fO ?_
         obtain ⟨Mk, yv, jJ, yw⟩ := sto_run (c' := #[.int .i64 ((foldC (vals (sickL1 L dip now))).epoch), .int .i64 ((foldC (vals (sickL1 L dip now))).now), .slice bf bh.length bg, .slice bi ((foldC (vals (sickL1 L dip now))).snats.length) bj, .slice bk ((foldC (vals (sickL1 L dip now))).sick.length) bl, .slice bm ((foldC (vals (sickL1 L dip now))).leases.length) bn]) Tryz.prog jI 5 31 pj 0 (.agg #[.int .i64 ((foldC (vals (sickL1 L dip now))).epoch), .int .i64 ((foldC (vals (sickL1 L dip now))).now), .slice bf bh.length bg, .slice bi ((foldC (vals (sickL1 L dip now))).snats.length) bj, .slice bk ((foldC (vals (sickL1 L dip now))).sick.length) bl, .slice bm ((foldC (vals (sickL1 L dip now))).leases.length) bn]) rfl (by kernel_rfl)
         have pn := fO.trans jJ (by first | (simp; done) | (simp [*]; done) | (have q_ := fO.size; simp; omega))
         refine WD.semU 11 (Instr.storeAt 31 (.pointer (some ⟨pj, 0, none⟩)) (.agg #[.int .i64 ((foldC (vals (sickL1 L dip now))).epoch), .int .i64 ((foldC (vals (sickL1 L dip now))).now), .slice bf bh.length bg, .slice bi ((foldC (vals (sickL1 L dip now))).snats.length) bj, .slice bk ((foldC (vals (sickL1 L dip now))).sick.length) bl, .slice bm ((foldC (vals (sickL1 L dip now))).leases.length) bn])) (by kernel_rfl) (by kernel_rfl) yv pn ?_
         have yx := FoldR.fr yu jJ (jI.apartM 1 5 rfl rfl)
         have yy := FoldR.fr pm jJ (jI.apartM 3 5 rfl rfl)
         refine WDq (NPt hN) 12 14 (.slice gr ((resC (vals (sickL1 L dip now))).length) gs) pn ?_
         refine WD.done (by kernel_rfl) ?_
         refine QXn ?_
         have yz := yw.pickM [0, 1, 2, 3, 5] [0, 1, 3] (by decide) rfl rfl
         exact fun a_ ha_ => ab _ _ ⟨pj, bf, bg, bh, bi, bj, bk, bl, bm, bn, gr, gs, yr, rfl, yz, yx, yy, trivial⟩ a_ (ha_.weaken (sub_of ⟨rfl, rfl, rfl, rfl, rfl, rfl, rfl, rfl, rfl, rfl, rfl, rfl, trivial⟩))
       ·
        refine WO.new 10 (fun b => .pointer (some ⟨b, 0, none⟩)) (.cells #[.int .i64 0, .int .i64 0, .slice none 0 0, .slice none 0 0, .slice none 0 0, .slice none 0 0] 31) (by kernel_rfl) rfl rfl rfl rfl rfl (fun _ => by kernel_rfl) (fun po Ml pp KZ iA yA => ?_)
        have jK := iv.callB iA pp yA
        have CC := Nat.le_trans g0.size pp
        have jL := g0.trans iA (by simp)
        refine ⟨jL, ?_⟩
        have yB := FoldR.fr pb iA (by simp)
        have yC := own_fr jA iA (by simp)
        obtain ⟨Mm, Hz, yD, yE, pq, jM, HA, pr⟩ := app_run Tryz.prog jK 2 (v := .slice hx (0 + L.length) hy) rfl 22 22 45 12 104 (0 + L.length) 1 1 (some ⟨hw, 0, none⟩) rfl yC [.int .i64 16, .int .i64 1, .int .i64 1, .int .i64 now, .int .i64 3, .int .u32 0, .int .i64 0, .int .i64 0, .slice none 0 0, .int .u32 dip, .int .u32 0, .bool true] rfl (srcOk.blk 1 (jK.get 4 rfl)) rfl (by simp only [maxLen]; omega) (by omega)
        have ps := own_snoc (enc := cellsC) (ys := [] ++ L) (⟨⟨16, 1, 1, now, 3, 0, 0, 0, [], dip, 0, true⟩, none, 0⟩ : Cmd) yE
        obtain ⟨pt, pu, rfl, IU⟩ := own_form ps
        have IV : ∀ x_ ∈ blk (.slice pt (0 + L.length + 1) pu), aa.heap.size ≤ x_ := fun x_ hx_ => (pr x_ hx_).elim (go x_) (fun h_ => Nat.le_trans jL.size h_)
        have pv := jL.trans pq (fun x_ hx_ => .inr (go x_ hx_))
        refine WD.sem 5 (Builtin.append_ #[22, 22] 22 #[.slice hx (0 + L.length) hy, .slice (some ⟨hw, 0, none⟩) 1 1]) 55 (.slice pt (0 + L.length + 1) pu) (by kernel_rfl) (by kernel_rfl) yD pv ?_
        have yF := FoldR.fr yB pq (jK.disj 1 2 rfl rfl (by decide))
        refine WD.call 6 (by kernel_rfl) rfl rfl rfl rfl rfl (by kernel_rfl) (Fold_n pt (0 + L.length + 1) pu (sickL1 L dip now) Hz (own_rd ps cellsC_len (by decide)) (by simp [sickL1]) (sick_at (fun m_ h_ => cmdAt.fr0 (hL m_ h_) jM.fr) (at1 (cmd_nil hwy_ rfl))) (by omega) (Rd.fr hg jM.fr)) ?_
        rintro _ Mn ⟨bo, bp, bq, br, bs, bt, bu, bv, bw, gu, gv, yG, rfl, jN, pw, yH⟩
        have jO := jM.callN jN yH pw.lt
        have fP := pv.trans jN (by simp)
        refine ⟨_, rfl, fP, ?_⟩
        have yI := FoldR.fr yF jN (by simp)
        refine WDq (NPt hN) 7 49 (.tuple #[.agg #[.int .i64 ((foldC (vals (sickL1 L dip now))).epoch), .int .i64 ((foldC (vals (sickL1 L dip now))).now), .slice bo bq.length bp, .slice br ((foldC (vals (sickL1 L dip now))).snats.length) bs, .slice bt ((foldC (vals (sickL1 L dip now))).sick.length) bu, .slice bv ((foldC (vals (sickL1 L dip now))).leases.length) bw], .slice gu ((resC (vals (sickL1 L dip now))).length) gv]) fP ?_
        refine WDq (NPt hN) 8 57 (.agg #[.int .i64 ((foldC (vals (sickL1 L dip now))).epoch), .int .i64 ((foldC (vals (sickL1 L dip now))).now), .slice bo bq.length bp, .slice br ((foldC (vals (sickL1 L dip now))).snats.length) bs, .slice bt ((foldC (vals (sickL1 L dip now))).sick.length) bu, .slice bv ((foldC (vals (sickL1 L dip now))).leases.length) bw]) fP ?_
        refine WDq (NPt hN) 9 58 (.slice gu ((resC (vals (sickL1 L dip now))).length) gv) fP ?_
        obtain ⟨Mo, yJ, jP, yK⟩ := sto_run (c' := #[.int .i64 ((foldC (vals (sickL1 L dip now))).epoch), .int .i64 ((foldC (vals (sickL1 L dip now))).now), .slice bo bq.length bp, .slice br ((foldC (vals (sickL1 L dip now))).snats.length) bs, .slice bt ((foldC (vals (sickL1 L dip now))).sick.length) bu, .slice bv ((foldC (vals (sickL1 L dip now))).leases.length) bw]) Tryz.prog jO 5 31 po 0 (.agg #[.int .i64 ((foldC (vals (sickL1 L dip now))).epoch), .int .i64 ((foldC (vals (sickL1 L dip now))).now), .slice bo bq.length bp, .slice br ((foldC (vals (sickL1 L dip now))).snats.length) bs, .slice bt ((foldC (vals (sickL1 L dip now))).sick.length) bu, .slice bv ((foldC (vals (sickL1 L dip now))).leases.length) bw]) rfl (by kernel_rfl)
        have px := fP.trans jP (by first | (simp; done) | (simp [*]; done) | (have q_ := fP.size; simp; omega))
        refine WD.semU 11 (Instr.storeAt 31 (.pointer (some ⟨po, 0, none⟩)) (.agg #[.int .i64 ((foldC (vals (sickL1 L dip now))).epoch), .int .i64 ((foldC (vals (sickL1 L dip now))).now), .slice bo bq.length bp, .slice br ((foldC (vals (sickL1 L dip now))).snats.length) bs, .slice bt ((foldC (vals (sickL1 L dip now))).sick.length) bu, .slice bv ((foldC (vals (sickL1 L dip now))).leases.length) bw])) (by kernel_rfl) (by kernel_rfl) yJ px ?_
        have yL := FoldR.fr yI jP (jO.apartM 1 5 rfl rfl)
        have yM := FoldR.fr pw jP (jO.apartM 3 5 rfl rfl)
        refine WDq (NPt hN) 12 14 (.slice gu ((resC (vals (sickL1 L dip now))).length) gv) px ?_
        refine WD.done (by kernel_rfl) ?_
        refine QXn ?_
        have yN := yK.pickM [0, 1, 2, 3, 5] [0, 1, 3] (by decide) rfl rfl
        exact fun a_ ha_ => ab _ _ ⟨po, bo, bp, bq, br, bs, bt, bu, bv, bw, gu, gv, yG, rfl, yN, yL, yM, trivial⟩ a_ (ha_.weaken (sub_of ⟨rfl, rfl, rfl, rfl, rfl, rfl, rfl, rfl, rfl, rfl, rfl, rfl, trivial⟩))
      ·
       refine WO.new 10 (fun b => .pointer (some ⟨b, 0, none⟩)) (.cells #[.int .i64 0, .int .i64 0, .slice none 0 0, .slice none 0 0, .slice none 0 0, .slice none 0 0] 31) (by kernel_rfl) rfl rfl rfl rfl rfl (fun _ => by kernel_rfl) (fun py HB pz K0 jQ yO => ?_)
       have pA := jy.callB jQ pz yO
       have CD := Nat.le_trans gZ.size pz
       have jR := gZ.trans jQ (by simp)
       refine ⟨jR, ?_⟩
       have yP := FoldR.fr o8 jQ (by simp)
       have yQ : World.ownsRow HB 0 45 12 (.slice (some ⟨ac, 0, none⟩) 0 0) 0 [] := own_of_blk (Nat.zero_le _) (pA.get 4 rfl) (Nat.le_refl _) (Nat.zero_le _) (by simp) rfl
       have jS := pA.toF 4 rfl
       obtain ⟨Mp, Mq, yR, yS, pB, jT, HC, pC⟩ := app_run Tryz.prog jS 2 (v := .slice (some ⟨ac, 0, none⟩) 0 0) rfl 22 22 45 12 104 0 L.length c A rfl yQ (L.flatMap cellsC) (flat_len_n cellsC_len (by first | rfl | assumption | (simp; done) | (simp; omega))) (Rd.src_n (Rd.fr hr jS.fr) cellsC_len (by decide) (by first | rfl | assumption | (simp; done) | (simp; omega))) (flat_one cellsC_one _) (by simp only [maxLen]; omega) (by omega)
       have pD := own_app (enc := cellsC) (ys := []) (zs := L) yS
       obtain ⟨lY, lZ, rfl, IW⟩ := own_form pD
       have l0 : ∀ x_ ∈ blk (.slice (some ⟨ac, 0, none⟩) 0 0), aa.heap.size ≤ x_ := by first | (simp [blk, Value.ownBlock, *]; done) | (intro x_ hx_; simp [blk, Value.ownBlock] at hx_; omega)
       have l1 : ∀ x_ ∈ blk (.slice lY (0 + L.length) lZ), aa.heap.size ≤ x_ := fun x_ hx_ => (pC x_ hx_).elim (l0 x_) (fun h_ => Nat.le_trans jR.size h_)
       have jU := jR.trans pB (fun x_ hx_ => .inr (l0 x_ hx_))
       refine WD.sem 2 (Builtin.append_ #[22, 22] 22 #[.slice (some ⟨ac, 0, none⟩) 0 0, .slice A L.length c]) 52 (.slice lY (0 + L.length) lZ) (by kernel_rfl) (by kernel_rfl) yR jU ?_
       have yT := FoldR.fr yP pB (jS.disj 1 2 rfl rfl (by decide))
       obtain ⟨Mr, HD, yU, yV, pE, jV, HE, pF⟩ := app_run Tryz.prog jT 2 (v := .slice lY (0 + L.length) lZ) rfl 22 22 45 12 104 (0 + L.length) 1 1 (some ⟨hw, 0, none⟩) rfl pD [.int .i64 16, .int .i64 1, .int .i64 1, .int .i64 now, .int .i64 3, .int .u32 0, .int .i64 0, .int .i64 0, .slice none 0 0, .int .u32 dip, .int .u32 0, .bool true] rfl (srcOk.blk 1 (jT.get 4 rfl)) rfl (by simp only [maxLen]; omega) (by omega)
       have pG := own_snoc (enc := cellsC) (ys := [] ++ L) (⟨⟨16, 1, 1, now, 3, 0, 0, 0, [], dip, 0, true⟩, none, 0⟩ : Cmd) yV
       obtain ⟨pH, pI, rfl, IX⟩ := own_form pG
       have IY : ∀ x_ ∈ blk (.slice pH (0 + L.length + 1) pI), aa.heap.size ≤ x_ := fun x_ hx_ => (pF x_ hx_).elim (l1 x_) (fun h_ => Nat.le_trans jU.size h_)
       have pJ := jU.trans pE (fun x_ hx_ => .inr (l1 x_ hx_))
       refine WD.sem 5 (Builtin.append_ #[22, 22] 22 #[.slice lY (0 + L.length) lZ, .slice (some ⟨hw, 0, none⟩) 1 1]) 55 (.slice pH (0 + L.length + 1) pI) (by kernel_rfl) (by kernel_rfl) yU pJ ?_
       have yW := FoldR.fr yT pE (jT.disj 1 2 rfl rfl (by decide))
       refine WD.call 6 (by kernel_rfl) rfl rfl rfl rfl rfl (by kernel_rfl) (Fold_n pH (0 + L.length + 1) pI (sickL1 L dip now) HD (own_rd pG cellsC_len (by decide)) (by simp [sickL1]) (sick_at (fun m_ h_ => cmdAt.fr0 (hL m_ h_) jV.fr) (at1 (cmd_nil hwy_ rfl))) (by omega) (Rd.fr hg jV.fr)) ?_
       rintro _ Ms ⟨bx, bz, bA, bB, bC, bD, bE, bF, bG, gw, gx, yX, rfl, jW, pK, yY⟩
       have jX := jV.callN jW yY pK.lt
       have fQ := pJ.trans jW (by simp)
       refine ⟨_, rfl, fQ, ?_⟩
       have yZ := FoldR.fr yW jW (by simp)
       refine WDq (NPt hN) 7 49 (.tuple #[.agg #[.int .i64 ((foldC (vals (sickL1 L dip now))).epoch), .int .i64 ((foldC (vals (sickL1 L dip now))).now), .slice bx bA.length bz, .slice bB ((foldC (vals (sickL1 L dip now))).snats.length) bC, .slice bD ((foldC (vals (sickL1 L dip now))).sick.length) bE, .slice bF ((foldC (vals (sickL1 L dip now))).leases.length) bG], .slice gw ((resC (vals (sickL1 L dip now))).length) gx]) fQ ?_
       refine WDq (NPt hN) 8 57 (.agg #[.int .i64 ((foldC (vals (sickL1 L dip now))).epoch), .int .i64 ((foldC (vals (sickL1 L dip now))).now), .slice bx bA.length bz, .slice bB ((foldC (vals (sickL1 L dip now))).snats.length) bC, .slice bD ((foldC (vals (sickL1 L dip now))).sick.length) bE, .slice bF ((foldC (vals (sickL1 L dip now))).leases.length) bG]) fQ ?_
       refine WDq (NPt hN) 9 58 (.slice gw ((resC (vals (sickL1 L dip now))).length) gx) fQ ?_
       obtain ⟨Mt, y0, jY, y1⟩ := sto_run (c' := #[.int .i64 ((foldC (vals (sickL1 L dip now))).epoch), .int .i64 ((foldC (vals (sickL1 L dip now))).now), .slice bx bA.length bz, .slice bB ((foldC (vals (sickL1 L dip now))).snats.length) bC, .slice bD ((foldC (vals (sickL1 L dip now))).sick.length) bE, .slice bF ((foldC (vals (sickL1 L dip now))).leases.length) bG]) Tryz.prog jX 5 31 py 0 (.agg #[.int .i64 ((foldC (vals (sickL1 L dip now))).epoch), .int .i64 ((foldC (vals (sickL1 L dip now))).now), .slice bx bA.length bz, .slice bB ((foldC (vals (sickL1 L dip now))).snats.length) bC, .slice bD ((foldC (vals (sickL1 L dip now))).sick.length) bE, .slice bF ((foldC (vals (sickL1 L dip now))).leases.length) bG]) rfl (by kernel_rfl)
       have pL := fQ.trans jY (by first | (simp; done) | (simp [*]; done) | (have q_ := fQ.size; simp; omega))
       refine WD.semU 11 (Instr.storeAt 31 (.pointer (some ⟨py, 0, none⟩)) (.agg #[.int .i64 ((foldC (vals (sickL1 L dip now))).epoch), .int .i64 ((foldC (vals (sickL1 L dip now))).now), .slice bx bA.length bz, .slice bB ((foldC (vals (sickL1 L dip now))).snats.length) bC, .slice bD ((foldC (vals (sickL1 L dip now))).sick.length) bE, .slice bF ((foldC (vals (sickL1 L dip now))).leases.length) bG])) (by kernel_rfl) (by kernel_rfl) y0 pL ?_
       have y2 := FoldR.fr yZ jY (jX.apartM 1 5 rfl rfl)
       have y3 := FoldR.fr pK jY (jX.apartM 3 5 rfl rfl)
       refine WDq (NPt hN) 12 14 (.slice gw ((resC (vals (sickL1 L dip now))).length) gx) pL ?_
       refine WD.done (by kernel_rfl) ?_
       refine QXn ?_
       have y4 := y1.pickM [0, 1, 2, 3, 5] [0, 1, 3] (by decide) rfl rfl
       exact fun a_ ha_ => ab _ _ ⟨py, bx, bz, bA, bB, bC, bD, bE, bF, bG, gw, gx, yX, rfl, y4, y2, y3, trivial⟩ a_ (ha_.weaken (sub_of ⟨rfl, rfl, rfl, rfl, rfl, rfl, rfl, rfl, rfl, rfl, rfl, rfl, trivial⟩))
     ·
      refine WO.new 10 (fun b => .pointer (some ⟨b, 0, none⟩)) (.cells #[.int .i64 0, .int .i64 0, .slice none 0 0, .slice none 0 0, .slice none 0 0, .slice none 0 0] 31) (by kernel_rfl) rfl rfl rfl rfl rfl (fun _ => by kernel_rfl) (fun hz HF pM K2 jZ y5 => ?_)
      have j0 := ij.callB jZ pM y5
      have CE := Nat.le_trans c9.size pM
      have g1 := c9.trans jZ (by simp)
      refine ⟨g1, ?_⟩
      have pN := FoldR.fr i8 jZ (by simp)
      refine WD.all2 2 4 (by kernel_rfl) ?_ ?_
      ·
       have y6 : World.ownsRow HF 0 45 12 (.slice (some ⟨ac, 0, none⟩) 0 0) 0 [] := own_of_blk (Nat.zero_le _) (j0.get 4 rfl) (Nat.le_refl _) (Nat.zero_le _) (by simp) rfl
       have j1 := j0.toF 4 rfl
       obtain ⟨Mu, Mv, y7, y8, pO, y9, HG, pP⟩ := app_run Tryz.prog j1 2 (v := .slice (some ⟨ac, 0, none⟩) 0 0) rfl 22 22 45 12 104 0 L.length c A rfl y6 (L.flatMap cellsC) (flat_len_n cellsC_len (by first | rfl | assumption | (simp; done) | (simp; omega))) (Rd.src_n (Rd.fr hr j1.fr) cellsC_len (by decide) (by first | rfl | assumption | (simp; done) | (simp; omega))) (flat_one cellsC_one _) (by simp only [maxLen]; omega) (by omega)
       have pQ := own_app (enc := cellsC) (ys := []) (zs := L) y8
       obtain ⟨l2, l3, rfl, IZ⟩ := own_form pQ
       have l4 : ∀ x_ ∈ blk (.slice (some ⟨ac, 0, none⟩) 0 0), aa.heap.size ≤ x_ := by first | (simp [blk, Value.ownBlock, *]; done) | (intro x_ hx_; simp [blk, Value.ownBlock] at hx_; omega)
       have l5 : ∀ x_ ∈ blk (.slice l2 (0 + L.length) l3), aa.heap.size ≤ x_ := fun x_ hx_ => (pP x_ hx_).elim (l4 x_) (fun h_ => Nat.le_trans g1.size h_)
       have j2 := g1.trans pO (fun x_ hx_ => .inr (l4 x_ hx_))
       refine WO.sem 2 (Builtin.append_ #[22, 22] 22 #[.slice (some ⟨ac, 0, none⟩) 0 0, .slice A L.length c]) 52 (.slice l2 (0 + L.length) l3) (by kernel_rfl) (by kernel_rfl) y7 j2 ?_
       have za := FoldR.fr pN pO (j1.disj 1 2 rfl rfl (by decide))
       refine WD.new 4 (fun b => .slice (some ⟨b, 0, none⟩) 1 1) (.cells #[.int .i64 16, .int .i64 1, .int .i64 1, .int .i64 now, .int .i64 3, .int .u32 0, .int .i64 0, .int .i64 0, .slice none 0 0, .int .u32 dip, .int .u32 0, .bool true] 45) (by kernel_rfl) rfl rfl rfl rfl rfl (fun _ => by kernel_rfl) (fun v4 Mw pR K4 iB zb => ?_)
       have j3 := y9.callB iB pR zb
       have CF := Nat.le_trans j2.size pR
       have j4 := j2.trans iB (by simp)
       refine ⟨j4, ?_⟩
       have zc := FoldR.fr za iB (by simp)
       have zd := own_fr pQ iB (by simp)
       obtain ⟨Mx, HH, ze, zf, pS, j5, HI, pT⟩ := app_run Tryz.prog j3 2 (v := .slice l2 (0 + L.length) l3) rfl 22 22 45 12 104 (0 + L.length) 1 1 (some ⟨v4, 0, none⟩) rfl zd [.int .i64 16, .int .i64 1, .int .i64 1, .int .i64 now, .int .i64 3, .int .u32 0, .int .i64 0, .int .i64 0, .slice none 0 0, .int .u32 dip, .int .u32 0, .bool true] rfl (srcOk.blk 1 (j3.get 5 rfl)) rfl (by simp only [maxLen]; omega) (by omega)
       have pU := own_snoc (enc := cellsC) (ys := [] ++ L) (⟨⟨16, 1, 1, now, 3, 0, 0, 0, [], dip, 0, true⟩, none, 0⟩ : Cmd) zf
       obtain ⟨pV, pW, rfl, I0⟩ := own_form pU
       have I1 : ∀ x_ ∈ blk (.slice pV (0 + L.length + 1) pW), aa.heap.size ≤ x_ := fun x_ hx_ => (pT x_ hx_).elim (l5 x_) (fun h_ => Nat.le_trans j4.size h_)
       have pX := j4.trans pS (fun x_ hx_ => .inr (l5 x_ hx_))
       refine WD.sem 5 (Builtin.append_ #[22, 22] 22 #[.slice l2 (0 + L.length) l3, .slice (some ⟨v4, 0, none⟩) 1 1]) 55 (.slice pV (0 + L.length + 1) pW) (by kernel_rfl) (by kernel_rfl) ze pX ?_
       have zg := FoldR.fr zc pS (j3.disj 1 2 rfl rfl (by decide))
       refine WD.call 6 (by kernel_rfl) rfl rfl rfl rfl rfl (by kernel_rfl) (Fold_n pV (0 + L.length + 1) pW (sickL1 L dip now) HH (own_rd pU cellsC_len (by decide)) (by simp [sickL1]) (sick_at (fun m_ h_ => cmdAt.fr0 (hL m_ h_) j5.fr) (at1 (cmd_nil hwy_ rfl))) (by omega) (Rd.fr hg j5.fr)) ?_
       rintro _ My ⟨bH, bI, bJ, bK, bL, bM, bN, bO, bP, gy, gz, zh, rfl, j6, pY, zi⟩
       have j7 := j5.callN j6 zi pY.lt
       have fR := pX.trans j6 (by simp)
       refine ⟨_, rfl, fR, ?_⟩
       have zj := FoldR.fr zg j6 (by simp)
       refine WDq (NPt hN) 7 49 (.tuple #[.agg #[.int .i64 ((foldC (vals (sickL1 L dip now))).epoch), .int .i64 ((foldC (vals (sickL1 L dip now))).now), .slice bH bJ.length bI, .slice bK ((foldC (vals (sickL1 L dip now))).snats.length) bL, .slice bM ((foldC (vals (sickL1 L dip now))).sick.length) bN, .slice bO ((foldC (vals (sickL1 L dip now))).leases.length) bP], .slice gy ((resC (vals (sickL1 L dip now))).length) gz]) fR ?_
       refine WDq (NPt hN) 8 57 (.agg #[.int .i64 ((foldC (vals (sickL1 L dip now))).epoch), .int .i64 ((foldC (vals (sickL1 L dip now))).now), .slice bH bJ.length bI, .slice bK ((foldC (vals (sickL1 L dip now))).snats.length) bL, .slice bM ((foldC (vals (sickL1 L dip now))).sick.length) bN, .slice bO ((foldC (vals (sickL1 L dip now))).leases.length) bP]) fR ?_
       refine WDq (NPt hN) 9 58 (.slice gy ((resC (vals (sickL1 L dip now))).length) gz) fR ?_
       obtain ⟨Mz, zk, j8, zl⟩ := sto_run (c' := #[.int .i64 ((foldC (vals (sickL1 L dip now))).epoch), .int .i64 ((foldC (vals (sickL1 L dip now))).now), .slice bH bJ.length bI, .slice bK ((foldC (vals (sickL1 L dip now))).snats.length) bL, .slice bM ((foldC (vals (sickL1 L dip now))).sick.length) bN, .slice bO ((foldC (vals (sickL1 L dip now))).leases.length) bP]) Tryz.prog j7 4 31 hz 0 (.agg #[.int .i64 ((foldC (vals (sickL1 L dip now))).epoch), .int .i64 ((foldC (vals (sickL1 L dip now))).now), .slice bH bJ.length bI, .slice bK ((foldC (vals (sickL1 L dip now))).snats.length) bL, .slice bM ((foldC (vals (sickL1 L dip now))).sick.length) bN, .slice bO ((foldC (vals (sickL1 L dip now))).leases.length) bP]) rfl (by kernel_rfl)
       have pZ := fR.trans j8 (by first | (simp; done) | (simp [*]; done) | (have q_ := fR.size; simp; omega))
       refine WD.semU 11 (Instr.storeAt 31 (.pointer (some ⟨hz, 0, none⟩)) (.agg #[.int .i64 ((foldC (vals (sickL1 L dip now))).epoch), .int .i64 ((foldC (vals (sickL1 L dip now))).now), .slice bH bJ.length bI, .slice bK ((foldC (vals (sickL1 L dip now))).snats.length) bL, .slice bM ((foldC (vals (sickL1 L dip now))).sick.length) bN, .slice bO ((foldC (vals (sickL1 L dip now))).leases.length) bP])) (by kernel_rfl) (by kernel_rfl) zk pZ ?_
       have zm := FoldR.fr zj j8 (j7.apartM 1 4 rfl rfl)
       have zn := FoldR.fr pY j8 (j7.apartM 3 4 rfl rfl)
       refine WDq (NPt hN) 12 14 (.slice gy ((resC (vals (sickL1 L dip now))).length) gz) pZ ?_
       refine WD.done (by kernel_rfl) ?_
       refine QXn ?_
       have zo := zl.pickM [0, 1, 2, 3, 4] [0, 1, 3] (by decide) rfl rfl
       exact fun a_ ha_ => ab _ _ ⟨hz, bH, bI, bJ, bK, bL, bM, bN, bO, bP, gy, gz, zh, rfl, zo, zm, zn, trivial⟩ a_ (ha_.weaken (sub_of ⟨rfl, rfl, rfl, rfl, rfl, rfl, rfl, rfl, rfl, rfl, rfl, rfl, trivial⟩))
      ·
       refine WO.new 4 (fun b => .slice (some ⟨b, 0, none⟩) 1 1) (.cells #[.int .i64 16, .int .i64 1, .int .i64 1, .int .i64 now, .int .i64 3, .int .u32 0, .int .i64 0, .int .i64 0, .slice none 0 0, .int .u32 dip, .int .u32 0, .bool true] 45) (by kernel_rfl) rfl rfl rfl rfl rfl (fun _ => by kernel_rfl) (fun v5 HJ p0 K6 j9 zp => ?_)
       have p1 := j0.callB j9 p0 zp
       have CG := Nat.le_trans g1.size p0
       have ka := g1.trans j9 (by simp)
       refine ⟨ka, ?_⟩
       have zq := FoldR.fr pN j9 (by simp)
       have zr : World.ownsRow HJ 0 45 12 (.slice (some ⟨ac, 0, none⟩) 0 0) 0 [] := own_of_blk (Nat.zero_le _) (p1.get 4 rfl) (Nat.le_refl _) (Nat.zero_le _) (by simp) rfl
       have kb := p1.toF 4 rfl
       obtain ⟨MA, MB, zt, zu, p2, kc, HK, p3⟩ := app_run Tryz.prog kb 2 (v := .slice (some ⟨ac, 0, none⟩) 0 0) rfl 22 22 45 12 104 0 L.length c A rfl zr (L.flatMap cellsC) (flat_len_n cellsC_len (by first | rfl | assumption | (simp; done) | (simp; omega))) (Rd.src_n (Rd.fr hr kb.fr) cellsC_len (by decide) (by first | rfl | assumption | (simp; done) | (simp; omega))) (flat_one cellsC_one _) (by simp only [maxLen]; omega) (by omega)
       have p4 := own_app (enc := cellsC) (ys := []) (zs := L) zu
       obtain ⟨l6, l7, rfl, I2⟩ := own_form p4
       have l8 : ∀ x_ ∈ blk (.slice (some ⟨ac, 0, none⟩) 0 0), aa.heap.size ≤ x_ := by first | (simp [blk, Value.ownBlock, *]; done) | (intro x_ hx_; simp [blk, Value.ownBlock] at hx_; omega)
       have l9 : ∀ x_ ∈ blk (.slice l6 (0 + L.length) l7), aa.heap.size ≤ x_ := fun x_ hx_ => (p3 x_ hx_).elim (l8 x_) (fun h_ => Nat.le_trans ka.size h_)
       have kd := ka.trans p2 (fun x_ hx_ => .inr (l8 x_ hx_))
       refine WD.sem 2 (Builtin.append_ #[22, 22] 22 #[.slice (some ⟨ac, 0, none⟩) 0 0, .slice A L.length c]) 52 (.slice l6 (0 + L.length) l7) (by kernel_rfl) (by kernel_rfl) zt kd ?_
       have zv := FoldR.fr zq p2 (kb.disj 1 2 rfl rfl (by decide))
       obtain ⟨MC, HL, zw, zx, p5, ke, HM, p6⟩ := app_run Tryz.prog kc 2 (v := .slice l6 (0 + L.length) l7) rfl 22 22 45 12 104 (0 + L.length) 1 1 (some ⟨v5, 0, none⟩) rfl p4 [.int .i64 16, .int .i64 1, .int .i64 1, .int .i64 now, .int .i64 3, .int .u32 0, .int .i64 0, .int .i64 0, .slice none 0 0, .int .u32 dip, .int .u32 0, .bool true] rfl (srcOk.blk 1 (kc.get 5 rfl)) rfl (by simp only [maxLen]; omega) (by omega)
       have p7 := own_snoc (enc := cellsC) (ys := [] ++ L) (⟨⟨16, 1, 1, now, 3, 0, 0, 0, [], dip, 0, true⟩, none, 0⟩ : Cmd) zx
       obtain ⟨p8, p9, rfl, I3⟩ := own_form p7
       have I4 : ∀ x_ ∈ blk (.slice p8 (0 + L.length + 1) p9), aa.heap.size ≤ x_ := fun x_ hx_ => (p6 x_ hx_).elim (l9 x_) (fun h_ => Nat.le_trans kd.size h_)
       have qa := kd.trans p5 (fun x_ hx_ => .inr (l9 x_ hx_))
       refine WD.sem 5 (Builtin.append_ #[22, 22] 22 #[.slice l6 (0 + L.length) l7, .slice (some ⟨v5, 0, none⟩) 1 1]) 55 (.slice p8 (0 + L.length + 1) p9) (by kernel_rfl) (by kernel_rfl) zw qa ?_
       have zy := FoldR.fr zv p5 (kc.disj 1 2 rfl rfl (by decide))
       refine WD.call 6 (by kernel_rfl) rfl rfl rfl rfl rfl (by kernel_rfl) (Fold_n p8 (0 + L.length + 1) p9 (sickL1 L dip now) HL (own_rd p7 cellsC_len (by decide)) (by simp [sickL1]) (sick_at (fun m_ h_ => cmdAt.fr0 (hL m_ h_) ke.fr) (at1 (cmd_nil hwy_ rfl))) (by omega) (Rd.fr hg ke.fr)) ?_
       rintro _ MD ⟨bQ, bR, bS, bT, bU, bV, bW, bX, bY, gA, gB, zz, rfl, kf, qb, zA⟩
       have kg := ke.callN kf zA qb.lt
       have fS := qa.trans kf (by simp)
       refine ⟨_, rfl, fS, ?_⟩
       have zB := FoldR.fr zy kf (by simp)
       refine WDq (NPt hN) 7 49 (.tuple #[.agg #[.int .i64 ((foldC (vals (sickL1 L dip now))).epoch), .int .i64 ((foldC (vals (sickL1 L dip now))).now), .slice bQ bS.length bR, .slice bT ((foldC (vals (sickL1 L dip now))).snats.length) bU, .slice bV ((foldC (vals (sickL1 L dip now))).sick.length) bW, .slice bX ((foldC (vals (sickL1 L dip now))).leases.length) bY], .slice gA ((resC (vals (sickL1 L dip now))).length) gB]) fS ?_
       refine WDq (NPt hN) 8 57 (.agg #[.int .i64 ((foldC (vals (sickL1 L dip now))).epoch), .int .i64 ((foldC (vals (sickL1 L dip now))).now), .slice bQ bS.length bR, .slice bT ((foldC (vals (sickL1 L dip now))).snats.length) bU, .slice bV ((foldC (vals (sickL1 L dip now))).sick.length) bW, .slice bX ((foldC (vals (sickL1 L dip now))).leases.length) bY]) fS ?_
       refine WDq (NPt hN) 9 58 (.slice gA ((resC (vals (sickL1 L dip now))).length) gB) fS ?_
       obtain ⟨ME, zC, kh, zD⟩ := sto_run (c' := #[.int .i64 ((foldC (vals (sickL1 L dip now))).epoch), .int .i64 ((foldC (vals (sickL1 L dip now))).now), .slice bQ bS.length bR, .slice bT ((foldC (vals (sickL1 L dip now))).snats.length) bU, .slice bV ((foldC (vals (sickL1 L dip now))).sick.length) bW, .slice bX ((foldC (vals (sickL1 L dip now))).leases.length) bY]) Tryz.prog kg 4 31 hz 0 (.agg #[.int .i64 ((foldC (vals (sickL1 L dip now))).epoch), .int .i64 ((foldC (vals (sickL1 L dip now))).now), .slice bQ bS.length bR, .slice bT ((foldC (vals (sickL1 L dip now))).snats.length) bU, .slice bV ((foldC (vals (sickL1 L dip now))).sick.length) bW, .slice bX ((foldC (vals (sickL1 L dip now))).leases.length) bY]) rfl (by kernel_rfl)
       have qc := fS.trans kh (by first | (simp; done) | (simp [*]; done) | (have q_ := fS.size; simp; omega))
       refine WD.semU 11 (Instr.storeAt 31 (.pointer (some ⟨hz, 0, none⟩)) (.agg #[.int .i64 ((foldC (vals (sickL1 L dip now))).epoch), .int .i64 ((foldC (vals (sickL1 L dip now))).now), .slice bQ bS.length bR, .slice bT ((foldC (vals (sickL1 L dip now))).snats.length) bU, .slice bV ((foldC (vals (sickL1 L dip now))).sick.length) bW, .slice bX ((foldC (vals (sickL1 L dip now))).leases.length) bY])) (by kernel_rfl) (by kernel_rfl) zC qc ?_
       have zE := FoldR.fr zB kh (kg.apartM 1 4 rfl rfl)
       have zF := FoldR.fr qb kh (kg.apartM 3 4 rfl rfl)
       refine WDq (NPt hN) 12 14 (.slice gA ((resC (vals (sickL1 L dip now))).length) gB) qc ?_
       refine WD.done (by kernel_rfl) ?_
       refine QXn ?_
       have zG := zD.pickM [0, 1, 2, 3, 4] [0, 1, 3] (by decide) rfl rfl
       exact fun a_ ha_ => ab _ _ ⟨hz, bQ, bR, bS, bT, bU, bV, bW, bX, bY, gA, gB, zz, rfl, zG, zE, zF, trivial⟩ a_ (ha_.weaken (sub_of ⟨rfl, rfl, rfl, rfl, rfl, rfl, rfl, rfl, rfl, rfl, rfl, rfl, trivial⟩))
    ·
     refine WO.new 4 (fun b => .slice (some ⟨b, 0, none⟩) 1 1) (.cells #[.int .i64 16, .int .i64 1, .int .i64 1, .int .i64 now, .int .i64 3, .int .u32 0, .int .i64 0, .int .i64 0, .slice none 0 0, .int .u32 dip, .int .u32 0, .bool true] 45) (by kernel_rfl) rfl rfl rfl rfl rfl (fun _ => by kernel_rfl) (fun f8 MF qd K7 ki zH => ?_)
     have qe := ii.callB ki qd zH
     have CH := Nat.le_trans aj.size qd
     have g2 := aj.trans ki (by simp)
     refine ⟨g2, ?_⟩
     have qf := FoldR.fr i6 ki (by simp)
     refine WD.all2 0 10 (by kernel_rfl) ?_ ?_
     ·
      refine WO.new 0 (fun b => .slice (some ⟨b, 0, none⟩) 0 0) (.cells #[] 45) (by kernel_rfl) rfl rfl rfl rfl rfl (fun _ => by kernel_rfl) (fun f9 HN qg K8 kj zI => ?_)
      have kk := qe.callB kj qg zI
      have CI := Nat.le_trans g2.size qg
      have g3 := g2.trans kj (by simp)
      refine ⟨g3, ?_⟩
      have qh := FoldR.fr qf kj (by simp)
      refine WD.all2 2 10 (by kernel_rfl) ?_ ?_
      ·
       have zJ : World.ownsRow HN 0 45 12 (.slice (some ⟨f9, 0, none⟩) 0 0) 0 [] := own_of_blk (Nat.zero_le _) (kk.get 5 rfl) (Nat.le_refl _) (Nat.zero_le _) (by simp) rfl
       have kl := kk.toF 5 rfl
       obtain ⟨MG, MH, zK, zL, qi, iC, HO, qj⟩ := app_run Tryz.prog kl 2 (v := .slice (some ⟨f9, 0, none⟩) 0 0) rfl 22 22 45 12 104 0 L.length c A rfl zJ (L.flatMap cellsC) (flat_len_n cellsC_len (by first | rfl | assumption | (simp; done) | (simp; omega))) (Rd.src_n (Rd.fr hr kl.fr) cellsC_len (by decide) (by first | rfl | assumption | (simp; done) | (simp; omega))) (flat_one cellsC_one _) (by simp only [maxLen]; omega) (by omega)
       have km := own_app (enc := cellsC) (ys := []) (zs := L) zL
       obtain ⟨hA, hB, rfl, I5⟩ := own_form km
       have ma : ∀ x_ ∈ blk (.slice (some ⟨f9, 0, none⟩) 0 0), aa.heap.size ≤ x_ := by first | (simp [blk, Value.ownBlock, *]; done) | (intro x_ hx_; simp [blk, Value.ownBlock] at hx_; omega)
       have gC : ∀ x_ ∈ blk (.slice hA (0 + L.length) hB), aa.heap.size ≤ x_ := fun x_ hx_ => (qj x_ hx_).elim (ma x_) (fun h_ => Nat.le_trans g3.size h_)
       have g4 := g3.trans qi (fun x_ hx_ => .inr (ma x_ hx_))
       refine WO.sem 2 (Builtin.append_ #[22, 22] 22 #[.slice (some ⟨f9, 0, none⟩) 0 0, .slice A L.length c]) 52 (.slice hA (0 + L.length) hB) (by kernel_rfl) (by kernel_rfl) zK g4 ?_
       have qk := FoldR.fr qh qi (kl.disj 1 2 rfl rfl (by decide))
       refine WD.all2 5 10 (by kernel_rfl) ?_ ?_
       ·
        obtain ⟨MI, HP, zM, zN, ql, iD, HQ, qm⟩ := app_run Tryz.prog iC 2 (v := .slice hA (0 + L.length) hB) rfl 22 22 45 12 104 (0 + L.length) 1 1 (some ⟨f8, 0, none⟩) rfl km [.int .i64 16, .int .i64 1, .int .i64 1, .int .i64 now, .int .i64 3, .int .u32 0, .int .i64 0, .int .i64 0, .slice none 0 0, .int .u32 dip, .int .u32 0, .bool true] rfl (srcOk.blk 1 (iC.get 4 rfl)) rfl (by simp only [maxLen]; omega) (by omega)
        have ko := own_snoc (enc := cellsC) (ys := [] ++ L) (⟨⟨16, 1, 1, now, 3, 0, 0, 0, [], dip, 0, true⟩, none, 0⟩ : Cmd) zN
        obtain ⟨mb, mc, rfl, I6⟩ := own_form ko
        have I7 : ∀ x_ ∈ blk (.slice mb (0 + L.length + 1) mc), aa.heap.size ≤ x_ := fun x_ hx_ => (qm x_ hx_).elim (gC x_) (fun h_ => Nat.le_trans g4.size h_)
        have iE := g4.trans ql (fun x_ hx_ => .inr (gC x_ hx_))
        refine WO.sem 5 (Builtin.append_ #[22, 22] 22 #[.slice hA (0 + L.length) hB, .slice (some ⟨f8, 0, none⟩) 1 1]) 55 (.slice mb (0 + L.length + 1) mc) (by kernel_rfl) (by kernel_rfl) zM iE ?_
        have qn := FoldR.fr qk ql (iC.disj 1 2 rfl rfl (by decide))
        refine WD.all2 6 10 (by kernel_rfl) ?_ ?_
        ·
         refine WO.call 6 (by kernel_rfl) rfl rfl rfl rfl rfl (by kernel_rfl) (Fold_n mb (0 + L.length + 1) mc (sickL1 L dip now) HP (own_rd ko cellsC_len (by decide)) (by simp [sickL1]) (sick_at (fun m_ h_ => cmdAt.fr0 (hL m_ h_) iD.fr) (at1 (cmd_nil hwy_ rfl))) (by omega) (Rd.fr hg iD.fr)) ?_
         rintro _ MJ ⟨bZ, b0, b1, b2, b3, b4, b5, b6, b7, gD, gE, zO, rfl, kp, qo, zP⟩
         have zQ := iD.callN kp zP qo.lt
         have fT := iE.trans kp (by simp)
         refine ⟨_, rfl, fT, ?_⟩
         have zR := FoldR.fr qn kp (by simp)
         refine WDq (NPt hN) 7 49 (.tuple #[.agg #[.int .i64 ((foldC (vals (sickL1 L dip now))).epoch), .int .i64 ((foldC (vals (sickL1 L dip now))).now), .slice bZ b1.length b0, .slice b2 ((foldC (vals (sickL1 L dip now))).snats.length) b3, .slice b4 ((foldC (vals (sickL1 L dip now))).sick.length) b5, .slice b6 ((foldC (vals (sickL1 L dip now))).leases.length) b7], .slice gD ((resC (vals (sickL1 L dip now))).length) gE]) fT ?_
         refine WDq (NPt hN) 8 57 (.agg #[.int .i64 ((foldC (vals (sickL1 L dip now))).epoch), .int .i64 ((foldC (vals (sickL1 L dip now))).now), .slice bZ b1.length b0, .slice b2 ((foldC (vals (sickL1 L dip now))).snats.length) b3, .slice b4 ((foldC (vals (sickL1 L dip now))).sick.length) b5, .slice b6 ((foldC (vals (sickL1 L dip now))).leases.length) b7]) fT ?_
         refine WDq (NPt hN) 9 58 (.slice gD ((resC (vals (sickL1 L dip now))).length) gE) fT ?_
         refine WD.new 10 (fun b => .pointer (some ⟨b, 0, none⟩)) (.cells #[.int .i64 0, .int .i64 0, .slice none 0 0, .slice none 0 0, .slice none 0 0, .slice none 0 0] 31) (by kernel_rfl) rfl rfl rfl rfl rfl (fun _ => by kernel_rfl) (fun qp MK qq K9 iF zS => ?_)
         have kq := zQ.callB iF qq zS
         have CJ := Nat.le_trans fT.size qq
         have kr := fT.trans iF (by simp)
         refine ⟨kr, ?_⟩
         have zT := FoldR.fr zR iF (by simp)
         have zU := FoldR.fr qo iF (by simp)
         obtain ⟨ML, zV, kt, zW⟩ := sto_run (c' := #[.int .i64 ((foldC (vals (sickL1 L dip now))).epoch), .int .i64 ((foldC (vals (sickL1 L dip now))).now), .slice bZ b1.length b0, .slice b2 ((foldC (vals (sickL1 L dip now))).snats.length) b3, .slice b4 ((foldC (vals (sickL1 L dip now))).sick.length) b5, .slice b6 ((foldC (vals (sickL1 L dip now))).leases.length) b7]) Tryz.prog kq 5 31 qp 0 (.agg #[.int .i64 ((foldC (vals (sickL1 L dip now))).epoch), .int .i64 ((foldC (vals (sickL1 L dip now))).now), .slice bZ b1.length b0, .slice b2 ((foldC (vals (sickL1 L dip now))).snats.length) b3, .slice b4 ((foldC (vals (sickL1 L dip now))).sick.length) b5, .slice b6 ((foldC (vals (sickL1 L dip now))).leases.length) b7]) rfl (by kernel_rfl)
         have qr := kr.trans kt (by first | (simp; done) | (simp [*]; done) | (have q_ := kr.size; simp; omega))
         refine WD.semU 11 (Instr.storeAt 31 (.pointer (some ⟨qp, 0, none⟩)) (.agg #[.int .i64 ((foldC (vals (sickL1 L dip now))).epoch), .int .i64 ((foldC (vals (sickL1 L dip now))).now), .slice bZ b1.length b0, .slice b2 ((foldC (vals (sickL1 L dip now))).snats.length) b3, .slice b4 ((foldC (vals (sickL1 L dip now))).sick.length) b5, .slice b6 ((foldC (vals (sickL1 L dip now))).leases.length) b7])) (by kernel_rfl) (by kernel_rfl) zV qr ?_
         have zX := FoldR.fr zT kt (kq.apartM 1 5 rfl rfl)
         have zY := FoldR.fr zU kt (kq.apartM 3 5 rfl rfl)
         refine WDq (NPt hN) 12 14 (.slice gD ((resC (vals (sickL1 L dip now))).length) gE) qr ?_
         refine WD.done (by kernel_rfl) ?_
         refine QXn ?_
         have zZ := zW.pickM [0, 1, 2, 3, 5] [0, 1, 3] (by decide) rfl rfl
         exact fun a_ ha_ => ab _ _ ⟨qp, bZ, b0, b1, b2, b3, b4, b5, b6, b7, gD, gE, zO, rfl, zZ, zX, zY, trivial⟩ a_ (ha_.weaken (sub_of ⟨rfl, rfl, rfl, rfl, rfl, rfl, rfl, rfl, rfl, rfl, rfl, rfl, trivial⟩))
        ·
         refine WO.new 10 (fun b => .pointer (some ⟨b, 0, none⟩)) (.cells #[.int .i64 0, .int .i64 0, .slice none 0 0, .slice none 0 0, .slice none 0 0, .slice none 0 0] 31) (by kernel_rfl) rfl rfl rfl rfl rfl (fun _ => by kernel_rfl) (fun qs HR qt La iG z0 => ?_)
         have ku := iD.callB iG qt z0
         have CK := Nat.le_trans iE.size qt
         have qu := iE.trans iG (by simp)
         refine ⟨qu, ?_⟩
         have z1 := FoldR.fr qn iG (by simp)
         have z2 := own_fr ko iG (by simp)
         refine WD.call 6 (by kernel_rfl) rfl rfl rfl rfl rfl (by kernel_rfl) (Fold_n mb (0 + L.length + 1) mc (sickL1 L dip now) HR (own_rd z2 cellsC_len (by decide)) (by simp [sickL1]) (sick_at (fun m_ h_ => cmdAt.fr0 (hL m_ h_) ku.fr) (at1 (cmd_nil hwy_ rfl))) (by omega) (Rd.fr hg ku.fr)) ?_
         rintro _ MM ⟨b8, b9, ca, cb, cc, cd, ce, cf, cg, gF, gG, z3, rfl, kv, qv, z4⟩
         have kw := ku.callN kv z4 qv.lt
         have fU := qu.trans kv (by simp)
         refine ⟨_, rfl, fU, ?_⟩
         have z5 := FoldR.fr z1 kv (by simp)
         refine WDq (NPt hN) 7 49 (.tuple #[.agg #[.int .i64 ((foldC (vals (sickL1 L dip now))).epoch), .int .i64 ((foldC (vals (sickL1 L dip now))).now), .slice b8 ca.length b9, .slice cb ((foldC (vals (sickL1 L dip now))).snats.length) cc, .slice cd ((foldC (vals (sickL1 L dip now))).sick.length) ce, .slice cf ((foldC (vals (sickL1 L dip now))).leases.length) cg], .slice gF ((resC (vals (sickL1 L dip now))).length) gG]) fU ?_
         refine WDq (NPt hN) 8 57 (.agg #[.int .i64 ((foldC (vals (sickL1 L dip now))).epoch), .int .i64 ((foldC (vals (sickL1 L dip now))).now), .slice b8 ca.length b9, .slice cb ((foldC (vals (sickL1 L dip now))).snats.length) cc, .slice cd ((foldC (vals (sickL1 L dip now))).sick.length) ce, .slice cf ((foldC (vals (sickL1 L dip now))).leases.length) cg]) fU ?_
         refine WDq (NPt hN) 9 58 (.slice gF ((resC (vals (sickL1 L dip now))).length) gG) fU ?_
         obtain ⟨MN, z6, kx, z7⟩ := sto_run (c' := #[.int .i64 ((foldC (vals (sickL1 L dip now))).epoch), .int .i64 ((foldC (vals (sickL1 L dip now))).now), .slice b8 ca.length b9, .slice cb ((foldC (vals (sickL1 L dip now))).snats.length) cc, .slice cd ((foldC (vals (sickL1 L dip now))).sick.length) ce, .slice cf ((foldC (vals (sickL1 L dip now))).leases.length) cg]) Tryz.prog kw 5 31 qs 0 (.agg #[.int .i64 ((foldC (vals (sickL1 L dip now))).epoch), .int .i64 ((foldC (vals (sickL1 L dip now))).now), .slice b8 ca.length b9, .slice cb ((foldC (vals (sickL1 L dip now))).snats.length) cc, .slice cd ((foldC (vals (sickL1 L dip now))).sick.length) ce, .slice cf ((foldC (vals (sickL1 L dip now))).leases.length) cg]) rfl (by kernel_rfl)
         have qw := fU.trans kx (by first | (simp; done) | (simp [*]; done) | (have q_ := fU.size; simp; omega))
         refine WD.semU 11 (Instr.storeAt 31 (.pointer (some ⟨qs, 0, none⟩)) (.agg #[.int .i64 ((foldC (vals (sickL1 L dip now))).epoch), .int .i64 ((foldC (vals (sickL1 L dip now))).now), .slice b8 ca.length b9, .slice cb ((foldC (vals (sickL1 L dip now))).snats.length) cc, .slice cd ((foldC (vals (sickL1 L dip now))).sick.length) ce, .slice cf ((foldC (vals (sickL1 L dip now))).leases.length) cg])) (by kernel_rfl) (by kernel_rfl) z6 qw ?_
         have z8 := FoldR.fr z5 kx (kw.apartM 1 5 rfl rfl)
         have z9 := FoldR.fr qv kx (kw.apartM 3 5 rfl rfl)
         refine WDq (NPt hN) 12 14 (.slice gF ((resC (vals (sickL1 L dip now))).length) gG) qw ?_
         refine WD.done (by kernel_rfl) ?_
         refine QXn ?_
         have Aa := z7.pickM [0, 1, 2, 3, 5] [0, 1, 3] (by decide) rfl rfl
         exact fun a_ ha_ => ab _ _ ⟨qs, b8, b9, ca, cb, cc, cd, ce, cf, cg, gF, gG, z3, rfl, Aa, z8, z9, trivial⟩ a_ (ha_.weaken (sub_of ⟨rfl, rfl, rfl, rfl, rfl, rfl, rfl, rfl, rfl, rfl, rfl, rfl, trivial⟩))
       ·
        refine WO.new 10 (fun b => .pointer (some ⟨b, 0, none⟩)) (.cells #[.int .i64 0, .int .i64 0, .slice none 0 0, .slice none 0 0, .slice none 0 0, .slice none 0 0] 31) (by kernel_rfl) rfl rfl rfl rfl rfl (fun _ => by kernel_rfl) (fun qx MO qy Lb iH Ab => ?_)
        have ky := iC.callB iH qy Ab
        have CL := Nat.le_trans g4.size qy
        have kz := g4.trans iH (by simp)
        refine ⟨kz, ?_⟩
        have Ac := FoldR.fr qk iH (by simp)
        have Ad := own_fr km iH (by simp)
        obtain ⟨MP, HS, Ae, Af, qz, kB, HT, qA⟩ := app_run Tryz.prog ky 2 (v := .slice hA (0 + L.length) hB) rfl 22 22 45 12 104 (0 + L.length) 1 1 (some ⟨f8, 0, none⟩) rfl Ad [.int .i64 16, .int .i64 1, .int .i64 1, .int .i64 now, .int .i64 3, .int .u32 0, .int .i64 0, .int .i64 0, .slice none 0 0, .int .u32 dip, .int .u32 0, .bool true] rfl (srcOk.blk 1 (ky.get 4 rfl)) rfl (by simp only [maxLen]; omega) (by omega)
        have qB := own_snoc (enc := cellsC) (ys := [] ++ L) (⟨⟨16, 1, 1, now, 3, 0, 0, 0, [], dip, 0, true⟩, none, 0⟩ : Cmd) Af
        obtain ⟨qC, qD, rfl, I8⟩ := own_form qB
        have I9 : ∀ x_ ∈ blk (.slice qC (0 + L.length + 1) qD), aa.heap.size ≤ x_ := fun x_ hx_ => (qA x_ hx_).elim (gC x_) (fun h_ => Nat.le_trans kz.size h_)
        have qE := kz.trans qz (fun x_ hx_ => .inr (gC x_ hx_))
        refine WD.sem 5 (Builtin.append_ #[22, 22] 22 #[.slice hA (0 + L.length) hB, .slice (some ⟨f8, 0, none⟩) 1 1]) 55 (.slice qC (0 + L.length + 1) qD) (by kernel_rfl) (by kernel_rfl) Ae qE ?_
        have Ah := FoldR.fr Ac qz (ky.disj 1 2 rfl rfl (by decide))
        refine WD.call 6 (by kernel_rfl) rfl rfl rfl rfl rfl (by kernel_rfl) (Fold_n qC (0 + L.length + 1) qD (sickL1 L dip now) HS (own_rd qB cellsC_len (by decide)) (by simp [sickL1]) (sick_at (fun m_ h_ => cmdAt.fr0 (hL m_ h_) kB.fr) (at1 (cmd_nil hwy_ rfl))) (by omega) (Rd.fr hg kB.fr)) ?_
        rintro _ MQ ⟨ch, ci, cj, ck, cl, cm, cn, co, cp, gH, gI, Ai, rfl, kC, qF, Aj⟩
        have kD := kB.callN kC Aj qF.lt
        have fV := qE.trans kC (by simp)
        refine ⟨_, rfl, fV, ?_⟩
        have Ak := FoldR.fr Ah kC (by simp)
        refine WDq (NPt hN) 7 49 (.tuple #[.agg #[.int .i64 ((foldC (vals (sickL1 L dip now))).epoch), .int .i64 ((foldC (vals (sickL1 L dip now))).now), .slice ch cj.length ci, .slice ck ((foldC (vals (sickL1 L dip now))).snats.length) cl, .slice cm ((foldC (vals (sickL1 L dip now))).sick.length) cn, .slice co ((foldC (vals (sickL1 L dip now))).leases.length) cp], .slice gH ((resC (vals (sickL1 L dip now))).length) gI]) fV ?_
        refine WDq (NPt hN) 8 57 (.agg #[.int .i64 ((foldC (vals (sickL1 L dip now))).epoch), .int .i64 ((foldC (vals (sickL1 L dip now))).now), .slice ch cj.length ci, .slice ck ((foldC (vals (sickL1 L dip now))).snats.length) cl, .slice cm ((foldC (vals (sickL1 L dip now))).sick.length) cn, .slice co ((foldC (vals (sickL1 L dip now))).leases.length) cp]) fV ?_
        refine WDq (NPt hN) 9 58 (.slice gH ((resC (vals (sickL1 L dip now))).length) gI) fV ?_
        obtain ⟨MR, Al, kE, Am⟩ := sto_run (c' := #[.int .i64 ((foldC (vals (sickL1 L dip now))).epoch), .int .i64 ((foldC (vals (sickL1 L dip now))).now), .slice ch cj.length ci, .slice ck ((foldC (vals (sickL1 L dip now))).snats.length) cl, .slice cm ((foldC (vals (sickL1 L dip now))).sick.length) cn, .slice co ((foldC (vals (sickL1 L dip now))).leases.length) cp]) Tryz.prog kD 5 31 qx 0 (.agg #[.int .i64 ((foldC (vals (sickL1 L dip now))).epoch), .int .i64 ((foldC (vals (sickL1 L dip now))).now), .slice ch cj.length ci, .slice ck ((foldC (vals (sickL1 L dip now))).snats.length) cl, .slice cm ((foldC (vals (sickL1 L dip now))).sick.length) cn, .slice co ((foldC (vals (sickL1 L dip now))).leases.length) cp]) rfl (by kernel_rfl)
        have qG := fV.trans kE (by first | (simp; done) | (simp [*]; done) | (have q_ := fV.size; simp; omega))
        refine WD.semU 11 (Instr.storeAt 31 (.pointer (some ⟨qx, 0, none⟩)) (.agg #[.int .i64 ((foldC (vals (sickL1 L dip now))).epoch), .int .i64 ((foldC (vals (sickL1 L dip now))).now), .slice ch cj.length ci, .slice ck ((foldC (vals (sickL1 L dip now))).snats.length) cl, .slice cm ((foldC (vals (sickL1 L dip now))).sick.length) cn, .slice co ((foldC (vals (sickL1 L dip now))).leases.length) cp])) (by kernel_rfl) (by kernel_rfl) Al qG ?_
        have An := FoldR.fr Ak kE (kD.apartM 1 5 rfl rfl)
        have Ao := FoldR.fr qF kE (kD.apartM 3 5 rfl rfl)
        refine WDq (NPt hN) 12 14 (.slice gH ((resC (vals (sickL1 L dip now))).length) gI) qG ?_
        refine WD.done (by kernel_rfl) ?_
        refine QXn ?_
        have Ap := Am.pickM [0, 1, 2, 3, 5] [0, 1, 3] (by decide) rfl rfl
        exact fun a_ ha_ => ab _ _ ⟨qx, ch, ci, cj, ck, cl, cm, cn, co, cp, gH, gI, Ai, rfl, Ap, An, Ao, trivial⟩ a_ (ha_.weaken (sub_of ⟨rfl, rfl, rfl, rfl, rfl, rfl, rfl, rfl, rfl, rfl, rfl, rfl, trivial⟩))
      ·
       refine WO.new 10 (fun b => .pointer (some ⟨b, 0, none⟩)) (.cells #[.int .i64 0, .int .i64 0, .slice none 0 0, .slice none 0 0, .slice none 0 0, .slice none 0 0] 31) (by kernel_rfl) rfl rfl rfl rfl rfl (fun _ => by kernel_rfl) (fun qH HU qI Lc kF Aq => ?_)
       have qJ := kk.callB kF qI Aq
       have CM := Nat.le_trans g3.size qI
       have kG := g3.trans kF (by simp)
       refine ⟨kG, ?_⟩
       have Ar := FoldR.fr qh kF (by simp)
       have As : World.ownsRow HU 0 45 12 (.slice (some ⟨f9, 0, none⟩) 0 0) 0 [] := own_of_blk (Nat.zero_le _) (qJ.get 5 rfl) (Nat.le_refl _) (Nat.zero_le _) (by simp) rfl
       have kH := qJ.toF 5 rfl
       obtain ⟨MS, MT, At, Au, qK, kI, HV, qL⟩ := app_run Tryz.prog kH 2 (v := .slice (some ⟨f9, 0, none⟩) 0 0) rfl 22 22 45 12 104 0 L.length c A rfl As (L.flatMap cellsC) (flat_len_n cellsC_len (by first | rfl | assumption | (simp; done) | (simp; omega))) (Rd.src_n (Rd.fr hr kH.fr) cellsC_len (by decide) (by first | rfl | assumption | (simp; done) | (simp; omega))) (flat_one cellsC_one _) (by simp only [maxLen]; omega) (by omega)
       have qM := own_app (enc := cellsC) (ys := []) (zs := L) Au
       obtain ⟨md, me, rfl, Ja⟩ := own_form qM
       have mf : ∀ x_ ∈ blk (.slice (some ⟨f9, 0, none⟩) 0 0), aa.heap.size ≤ x_ := by first | (simp [blk, Value.ownBlock, *]; done) | (intro x_ hx_; simp [blk, Value.ownBlock] at hx_; omega)
       have mg : ∀ x_ ∈ blk (.slice md (0 + L.length) me), aa.heap.size ≤ x_ := fun x_ hx_ => (qL x_ hx_).elim (mf x_) (fun h_ => Nat.le_trans kG.size h_)
       have kJ := kG.trans qK (fun x_ hx_ => .inr (mf x_ hx_))
       refine WD.sem 2 (Builtin.append_ #[22, 22] 22 #[.slice (some ⟨f9, 0, none⟩) 0 0, .slice A L.length c]) 52 (.slice md (0 + L.length) me) (by kernel_rfl) (by kernel_rfl) At kJ ?_
       have Av := FoldR.fr Ar qK (kH.disj 1 2 rfl rfl (by decide))
       obtain ⟨MU, HW, Aw, Ax, qN, kK, HX, qO⟩ := app_run Tryz.prog kI 2 (v := .slice md (0 + L.length) me) rfl 22 22 45 12 104 (0 + L.length) 1 1 (some ⟨f8, 0, none⟩) rfl qM [.int .i64 16, .int .i64 1, .int .i64 1, .int .i64 now, .int .i64 3, .int .u32 0, .int .i64 0, .int .i64 0, .slice none 0 0, .int .u32 dip, .int .u32 0, .bool true] rfl (srcOk.blk 1 (kI.get 4 rfl)) rfl (by simp only [maxLen]; omega) (by omega)
       have qP := own_snoc (enc := cellsC) (ys := [] ++ L) (⟨⟨16, 1, 1, now, 3, 0, 0, 0, [], dip, 0, true⟩, none, 0⟩ : Cmd) Ax
       obtain ⟨qQ, qR, rfl, Jb⟩ := own_form qP
       have Jc : ∀ x_ ∈ blk (.slice qQ (0 + L.length + 1) qR), aa.heap.size ≤ x_ := fun x_ hx_ => (qO x_ hx_).elim (mg x_) (fun h_ => Nat.le_trans kJ.size h_)
       have qS := kJ.trans qN (fun x_ hx_ => .inr (mg x_ hx_))
       refine WD.sem 5 (Builtin.append_ #[22, 22] 22 #[.slice md (0 + L.length) me, .slice (some ⟨f8, 0, none⟩) 1 1]) 55 (.slice qQ (0 + L.length + 1) qR) (by kernel_rfl) (by kernel_rfl) Aw qS ?_
       have Ay := FoldR.fr Av qN (kI.disj 1 2 rfl rfl (by decide))
       refine WD.call 6 (by kernel_rfl) rfl rfl rfl rfl rfl (by kernel_rfl) (Fold_n qQ (0 + L.length + 1) qR (sickL1 L dip now) HW (own_rd qP cellsC_len (by decide)) (by simp [sickL1]) (sick_at (fun m_ h_ => cmdAt.fr0 (hL m_ h_) kK.fr) (at1 (cmd_nil hwy_ rfl))) (by omega) (Rd.fr hg kK.fr)) ?_
       rintro _ MV ⟨cq, cr, cs, ct, cu, cv, cw, cx, cy, gJ, gK, Az, rfl, kL, qT, AA⟩
       have kM := kK.callN kL AA qT.lt
       have fW := qS.trans kL (by simp)
       refine ⟨_, rfl, fW, ?_⟩
       have AB := FoldR.fr Ay kL (by simp)
       refine WDq (NPt hN) 7 49 (.tuple #[.agg #[.int .i64 ((foldC (vals (sickL1 L dip now))).epoch), .int .i64 ((foldC (vals (sickL1 L dip now))).now), .slice cq cs.length cr, .slice ct ((foldC (vals (sickL1 L dip now))).snats.length) cu, .slice cv ((foldC (vals (sickL1 L dip now))).sick.length) cw, .slice cx ((foldC (vals (sickL1 L dip now))).leases.length) cy], .slice gJ ((resC (vals (sickL1 L dip now))).length) gK]) fW ?_
       refine WDq (NPt hN) 8 57 (.agg #[.int .i64 ((foldC (vals (sickL1 L dip now))).epoch), .int .i64 ((foldC (vals (sickL1 L dip now))).now), .slice cq cs.length cr, .slice ct ((foldC (vals (sickL1 L dip now))).snats.length) cu, .slice cv ((foldC (vals (sickL1 L dip now))).sick.length) cw, .slice cx ((foldC (vals (sickL1 L dip now))).leases.length) cy]) fW ?_
       refine WDq (NPt hN) 9 58 (.slice gJ ((resC (vals (sickL1 L dip now))).length) gK) fW ?_
       obtain ⟨MW, AC, kO, AD⟩ := sto_run (c' := #[.int .i64 ((foldC (vals (sickL1 L dip now))).epoch), .int .i64 ((foldC (vals (sickL1 L dip now))).now), .slice cq cs.length cr, .slice ct ((foldC (vals (sickL1 L dip now))).snats.length) cu, .slice cv ((foldC (vals (sickL1 L dip now))).sick.length) cw, .slice cx ((foldC (vals (sickL1 L dip now))).leases.length) cy]) Tryz.prog kM 5 31 qH 0 (.agg #[.int .i64 ((foldC (vals (sickL1 L dip now))).epoch), .int .i64 ((foldC (vals (sickL1 L dip now))).now), .slice cq cs.length cr, .slice ct ((foldC (vals (sickL1 L dip now))).snats.length) cu, .slice cv ((foldC (vals (sickL1 L dip now))).sick.length) cw, .slice cx ((foldC (vals (sickL1 L dip now))).leases.length) cy]) rfl (by kernel_rfl)
       have qU := fW.trans kO (by first | (simp; done) | (simp [*]; done) | (have q_ := fW.size; simp; omega))
       refine WD.semU 11 (Instr.storeAt 31 (.pointer (some ⟨qH, 0, none⟩)) (.agg #[.int .i64 ((foldC (vals (sickL1 L dip now))).epoch), .int .i64 ((foldC (vals (sickL1 L dip now))).now), .slice cq cs.length cr, .slice ct ((foldC (vals (sickL1 L dip now))).snats.length) cu, .slice cv ((foldC (vals (sickL1 L dip now))).sick.length) cw, .slice cx ((foldC (vals (sickL1 L dip now))).leases.length) cy])) (by kernel_rfl) (by kernel_rfl) AC qU ?_
       have AE := FoldR.fr AB kO (kM.apartM 1 5 rfl rfl)
       have AF := FoldR.fr qT kO (kM.apartM 3 5 rfl rfl)
       refine WDq (NPt hN) 12 14 (.slice gJ ((resC (vals (sickL1 L dip now))).length) gK) qU ?_
       refine WD.done (by kernel_rfl) ?_
       refine QXn ?_
       have AG := AD.pickM [0, 1, 2, 3, 5] [0, 1, 3] (by decide) rfl rfl
       exact fun a_ ha_ => ab _ _ ⟨qH, cq, cr, cs, ct, cu, cv, cw, cx, cy, gJ, gK, Az, rfl, AG, AE, AF, trivial⟩ a_ (ha_.weaken (sub_of ⟨rfl, rfl, rfl, rfl, rfl, rfl, rfl, rfl, rfl, rfl, rfl, rfl, trivial⟩))
     ·
      refine WO.new 10 (fun b => .pointer (some ⟨b, 0, none⟩)) (.cells #[.int .i64 0, .int .i64 0, .slice none 0 0, .slice none 0 0, .slice none 0 0, .slice none 0 0] 31) (by kernel_rfl) rfl rfl rfl rfl rfl (fun _ => by kernel_rfl) (fun qV MX qW Ld kP AH => ?_)
      have AI := qe.callB kP qW AH
      have CN := Nat.le_trans g2.size qW
      have kQ := g2.trans kP (by simp)
      refine ⟨kQ, ?_⟩
      have AJ := FoldR.fr qf kP (by simp)
      refine WD.new 0 (fun b => .slice (some ⟨b, 0, none⟩) 0 0) (.cells #[] 45) (by kernel_rfl) rfl rfl rfl rfl rfl (fun _ => by kernel_rfl) (fun mh HY qX Le kR AK => ?_)
      have qY := AI.callB kR qX AK
      have CO := Nat.le_trans kQ.size qX
      have kT := kQ.trans kR (by simp)
      refine ⟨kT, ?_⟩
      have AL := FoldR.fr AJ kR (by simp)
      have AM : World.ownsRow HY 0 45 12 (.slice (some ⟨mh, 0, none⟩) 0 0) 0 [] := own_of_blk (Nat.zero_le _) (qY.get 6 rfl) (Nat.le_refl _) (Nat.zero_le _) (by simp) rfl
      have kU := qY.toF 6 rfl
      obtain ⟨MY, MZ, AN, AO, qZ, kW, HZ, q0⟩ := app_run Tryz.prog kU 2 (v := .slice (some ⟨mh, 0, none⟩) 0 0) rfl 22 22 45 12 104 0 L.length c A rfl AM (L.flatMap cellsC) (flat_len_n cellsC_len (by first | rfl | assumption | (simp; done) | (simp; omega))) (Rd.src_n (Rd.fr hr kU.fr) cellsC_len (by decide) (by first | rfl | assumption | (simp; done) | (simp; omega))) (flat_one cellsC_one _) (by simp only [maxLen]; omega) (by omega)
      have q1 := own_app (enc := cellsC) (ys := []) (zs := L) AO
      obtain ⟨mi, mj, rfl, Jd⟩ := own_form q1
      have mk : ∀ x_ ∈ blk (.slice (some ⟨mh, 0, none⟩) 0 0), aa.heap.size ≤ x_ := by first | (simp [blk, Value.ownBlock, *]; done) | (intro x_ hx_; simp [blk, Value.ownBlock] at hx_; omega)
      have ml : ∀ x_ ∈ blk (.slice mi (0 + L.length) mj), aa.heap.size ≤ x_ := fun x_ hx_ => (q0 x_ hx_).elim (mk x_) (fun h_ => Nat.le_trans kT.size h_)
      have kX := kT.trans qZ (fun x_ hx_ => .inr (mk x_ hx_))
      refine WD.sem 2 (Builtin.append_ #[22, 22] 22 #[.slice (some ⟨mh, 0, none⟩) 0 0, .slice A L.length c]) 52 (.slice mi (0 + L.length) mj) (by kernel_rfl) (by kernel_rfl) AN kX ?_
      have AP := FoldR.fr AL qZ (kU.disj 1 2 rfl rfl (by decide))
      obtain ⟨M0, H0, AQ, AR, q2, kY, H1, q3⟩ := app_run Tryz.prog kW 2 (v := .slice mi (0 + L.length) mj) rfl 22 22 45 12 104 (0 + L.length) 1 1 (some ⟨f8, 0, none⟩) rfl q1 [.int .i64 16, .int .i64 1, .int .i64 1, .int .i64 now, .int .i64 3, .int .u32 0, .int .i64 0, .int .i64 0, .slice none 0 0, .int .u32 dip, .int .u32 0, .bool true] rfl (srcOk.blk 1 (kW.get 4 rfl)) rfl (by simp only [maxLen]; omega) (by omega)
      have q4 := own_snoc (enc := cellsC) (ys := [] ++ L) (⟨⟨16, 1, 1, now, 3, 0, 0, 0, [], dip, 0, true⟩, none, 0⟩ : Cmd) AR
      obtain ⟨q5, q6, rfl, Je⟩ := own_form q4
      have Jf : ∀ x_ ∈ blk (.slice q5 (0 + L.length + 1) q6), aa.heap.size ≤ x_ := fun x_ hx_ => (q3 x_ hx_).elim (ml x_) (fun h_ => Nat.le_trans kX.size h_)
      have q7 := kX.trans q2 (fun x_ hx_ => .inr (ml x_ hx_))
      refine WD.sem 5 (Builtin.append_ #[22, 22] 22 #[.slice mi (0 + L.length) mj, .slice (some ⟨f8, 0, none⟩) 1 1]) 55 (.slice q5 (0 + L.length + 1) q6) (by kernel_rfl) (by kernel_rfl) AQ q7 ?_
      have AS := FoldR.fr AP q2 (kW.disj 1 2 rfl rfl (by decide))
      refine WD.call 6 (by kernel_rfl) rfl rfl rfl rfl rfl (by kernel_rfl) (Fold_n q5 (0 + L.length + 1) q6 (sickL1 L dip now) H0 (own_rd q4 cellsC_len (by decide)) (by simp [sickL1]) (sick_at (fun m_ h_ => cmdAt.fr0 (hL m_ h_) kY.fr) (at1 (cmd_nil hwy_ rfl))) (by omega) (Rd.fr hg kY.fr)) ?_
      rintro _ M1 ⟨cz, cA, cB, cC, cD, cE, cF, cG, cH, gL, gM, AT, rfl, kZ, q8, AU⟩
      have k0 := kY.callN kZ AU q8.lt
      have fX := q7.trans kZ (by simp)
      refine ⟨_, rfl, fX, ?_⟩
      have AV := FoldR.fr AS kZ (by simp)
      refine WDq (NPt hN) 7 49 (.tuple #[.agg #[.int .i64 ((foldC (vals (sickL1 L dip now))).epoch), .int .i64 ((foldC (vals (sickL1 L dip now))).now), .slice cz cB.length cA, .slice cC ((foldC (vals (sickL1 L dip now))).snats.length) cD, .slice cE ((foldC (vals (sickL1 L dip now))).sick.length) cF, .slice cG ((foldC (vals (sickL1 L dip now))).leases.length) cH], .slice gL ((resC (vals (sickL1 L dip now))).length) gM]) fX ?_
      refine WDq (NPt hN) 8 57 (.agg #[.int .i64 ((foldC (vals (sickL1 L dip now))).epoch), .int .i64 ((foldC (vals (sickL1 L dip now))).now), .slice cz cB.length cA, .slice cC ((foldC (vals (sickL1 L dip now))).snats.length) cD, .slice cE ((foldC (vals (sickL1 L dip now))).sick.length) cF, .slice cG ((foldC (vals (sickL1 L dip now))).leases.length) cH]) fX ?_
      refine WDq (NPt hN) 9 58 (.slice gL ((resC (vals (sickL1 L dip now))).length) gM) fX ?_
      obtain ⟨M2, AW, k1, AX⟩ := sto_run (c' := #[.int .i64 ((foldC (vals (sickL1 L dip now))).epoch), .int .i64 ((foldC (vals (sickL1 L dip now))).now), .slice cz cB.length cA, .slice cC ((foldC (vals (sickL1 L dip now))).snats.length) cD, .slice cE ((foldC (vals (sickL1 L dip now))).sick.length) cF, .slice cG ((foldC (vals (sickL1 L dip now))).leases.length) cH]) Tryz.prog k0 5 31 qV 0 (.agg #[.int .i64 ((foldC (vals (sickL1 L dip now))).epoch), .int .i64 ((foldC (vals (sickL1 L dip now))).now), .slice cz cB.length cA, .slice cC ((foldC (vals (sickL1 L dip now))).snats.length) cD, .slice cE ((foldC (vals (sickL1 L dip now))).sick.length) cF, .slice cG ((foldC (vals (sickL1 L dip now))).leases.length) cH]) rfl (by kernel_rfl)
      have q9 := fX.trans k1 (by first | (simp; done) | (simp [*]; done) | (have q_ := fX.size; simp; omega))
      refine WD.semU 11 (Instr.storeAt 31 (.pointer (some ⟨qV, 0, none⟩)) (.agg #[.int .i64 ((foldC (vals (sickL1 L dip now))).epoch), .int .i64 ((foldC (vals (sickL1 L dip now))).now), .slice cz cB.length cA, .slice cC ((foldC (vals (sickL1 L dip now))).snats.length) cD, .slice cE ((foldC (vals (sickL1 L dip now))).sick.length) cF, .slice cG ((foldC (vals (sickL1 L dip now))).leases.length) cH])) (by kernel_rfl) (by kernel_rfl) AW q9 ?_
      have AY := FoldR.fr AV k1 (k0.apartM 1 5 rfl rfl)
      have AZ := FoldR.fr q8 k1 (k0.apartM 3 5 rfl rfl)
      refine WDq (NPt hN) 12 14 (.slice gL ((resC (vals (sickL1 L dip now))).length) gM) q9 ?_
      refine WD.done (by kernel_rfl) ?_
      refine QXn ?_
      have A0 := AX.pickM [0, 1, 2, 3, 5] [0, 1, 3] (by decide) rfl rfl
      exact fun a_ ha_ => ab _ _ ⟨qV, cz, cA, cB, cC, cD, cE, cF, cG, cH, gL, gM, AT, rfl, A0, AY, AZ, trivial⟩ a_ (ha_.weaken (sub_of ⟨rfl, rfl, rfl, rfl, rfl, rfl, rfl, rfl, rfl, rfl, rfl, rfl, trivial⟩))
    ·
     refine WO.new 10 (fun b => .pointer (some ⟨b, 0, none⟩)) (.cells #[.int .i64 0, .int .i64 0, .slice none 0 0, .slice none 0 0, .slice none 0 0, .slice none 0 0] 31) (by kernel_rfl) rfl rfl rfl rfl rfl (fun _ => by kernel_rfl) (fun da M3 ra Lf k2 A1 => ?_)
     have rb := ii.callB k2 ra A1
     have CP := Nat.le_trans aj.size ra
     have g5 := aj.trans k2 (by simp)
     refine ⟨g5, ?_⟩
     have rc := FoldR.fr i6 k2 (by simp)
     refine WD.all2 0 4 (by kernel_rfl) ?_ ?_
     ·
      refine WO.new 0 (fun b => .slice (some ⟨b, 0, none⟩) 0 0) (.cells #[] 45) (by kernel_rfl) rfl rfl rfl rfl rfl (fun _ => by kernel_rfl) (fun ga H2 rd Lg k3 A2 => ?_)
      have k4 := rb.callB k3 rd A2
      have CQ := Nat.le_trans g5.size rd
      have g6 := g5.trans k3 (by simp)
      refine ⟨g6, ?_⟩
      have re := FoldR.fr rc k3 (by simp)
      refine WD.all2 2 4 (by kernel_rfl) ?_ ?_
      ·
       have A3 : World.ownsRow H2 0 45 12 (.slice (some ⟨ga, 0, none⟩) 0 0) 0 [] := own_of_blk (Nat.zero_le _) (k4.get 5 rfl) (Nat.le_refl _) (Nat.zero_le _) (by simp) rfl
       have k5 := k4.toF 5 rfl
       obtain ⟨M4, M5, A4, A5, rf, A6, H3, rg⟩ := app_run Tryz.prog k5 2 (v := .slice (some ⟨ga, 0, none⟩) 0 0) rfl 22 22 45 12 104 0 L.length c A rfl A3 (L.flatMap cellsC) (flat_len_n cellsC_len (by first | rfl | assumption | (simp; done) | (simp; omega))) (Rd.src_n (Rd.fr hr k5.fr) cellsC_len (by decide) (by first | rfl | assumption | (simp; done) | (simp; omega))) (flat_one cellsC_one _) (by simp only [maxLen]; omega) (by omega)
       have rh := own_app (enc := cellsC) (ys := []) (zs := L) A5
       obtain ⟨mm, mn, rfl, Jg⟩ := own_form rh
       have mo : ∀ x_ ∈ blk (.slice (some ⟨ga, 0, none⟩) 0 0), aa.heap.size ≤ x_ := by first | (simp [blk, Value.ownBlock, *]; done) | (intro x_ hx_; simp [blk, Value.ownBlock] at hx_; omega)
       have mp : ∀ x_ ∈ blk (.slice mm (0 + L.length) mn), aa.heap.size ≤ x_ := fun x_ hx_ => (rg x_ hx_).elim (mo x_) (fun h_ => Nat.le_trans g6.size h_)
       have k6 := g6.trans rf (fun x_ hx_ => .inr (mo x_ hx_))
       refine WO.sem 2 (Builtin.append_ #[22, 22] 22 #[.slice (some ⟨ga, 0, none⟩) 0 0, .slice A L.length c]) 52 (.slice mm (0 + L.length) mn) (by kernel_rfl) (by kernel_rfl) A4 k6 ?_
       have A7 := FoldR.fr re rf (k5.disj 1 2 rfl rfl (by decide))
       refine WD.new 4 (fun b => .slice (some ⟨b, 0, none⟩) 1 1) (.cells #[.int .i64 16, .int .i64 1, .int .i64 1, .int .i64 now, .int .i64 3, .int .u32 0, .int .i64 0, .int .i64 0, .slice none 0 0, .int .u32 dip, .int .u32 0, .bool true] 45) (by kernel_rfl) rfl rfl rfl rfl rfl (fun _ => by kernel_rfl) (fun v6 M6 ri Lh iI A8 => ?_)
       have k7 := A6.callB iI ri A8
       have CR := Nat.le_trans k6.size ri
       have k8 := k6.trans iI (by simp)
       refine ⟨k8, ?_⟩
       have A9 := FoldR.fr A7 iI (by simp)
       have Ba := own_fr rh iI (by simp)
       obtain ⟨M7, H4, Bb, Bc, rj, k9, H5, rk⟩ := app_run Tryz.prog k7 2 (v := .slice mm (0 + L.length) mn) rfl 22 22 45 12 104 (0 + L.length) 1 1 (some ⟨v6, 0, none⟩) rfl Ba [.int .i64 16, .int .i64 1, .int .i64 1, .int .i64 now, .int .i64 3, .int .u32 0, .int .i64 0, .int .i64 0, .slice none 0 0, .int .u32 dip, .int .u32 0, .bool true] rfl (srcOk.blk 1 (k7.get 5 rfl)) rfl (by simp only [maxLen]; omega) (by omega)
       have rl := own_snoc (enc := cellsC) (ys := [] ++ L) (⟨⟨16, 1, 1, now, 3, 0, 0, 0, [], dip, 0, true⟩, none, 0⟩ : Cmd) Bc
       obtain ⟨rm, rn, rfl, Jh⟩ := own_form rl
       have Ji : ∀ x_ ∈ blk (.slice rm (0 + L.length + 1) rn), aa.heap.size ≤ x_ := fun x_ hx_ => (rk x_ hx_).elim (mp x_) (fun h_ => Nat.le_trans k8.size h_)
       have ro := k8.trans rj (fun x_ hx_ => .inr (mp x_ hx_))
       refine WD.sem 5 (Builtin.append_ #[22, 22] 22 #[.slice mm (0 + L.length) mn, .slice (some ⟨v6, 0, none⟩) 1 1]) 55 (.slice rm (0 + L.length + 1) rn) (by kernel_rfl) (by kernel_rfl) Bb ro ?_
       have Bd := FoldR.fr A9 rj (k7.disj 1 2 rfl rfl (by decide))
       refine WD.call 6 (by kernel_rfl) rfl rfl rfl rfl rfl (by kernel_rfl) (Fold_n rm (0 + L.length + 1) rn (sickL1 L dip now) H4 (own_rd rl cellsC_len (by decide)) (by simp [sickL1]) (sick_at (fun m_ h_ => cmdAt.fr0 (hL m_ h_) k9.fr) (at1 (cmd_nil hwy_ rfl))) (by omega) (Rd.fr hg k9.fr)) ?_
       rintro _ M8 ⟨cI, cJ, cK, cL, cM, cN, cO, cP, cQ, gN, gO, Be, rfl, la, rp, Bf⟩
       have lb := k9.callN la Bf rp.lt
       have fY := ro.trans la (by simp)
       refine ⟨_, rfl, fY, ?_⟩
       have Bg := FoldR.fr Bd la (by simp)
       refine WDq (NPt hN) 7 49 (.tuple #[.agg #[.int .i64 ((foldC (vals (sickL1 L dip now))).epoch), .int .i64 ((foldC (vals (sickL1 L dip now))).now), .slice cI cK.length cJ, .slice cL ((foldC (vals (sickL1 L dip now))).snats.length) cM, .slice cN ((foldC (vals (sickL1 L dip now))).sick.length) cO, .slice cP ((foldC (vals (sickL1 L dip now))).leases.length) cQ], .slice gN ((resC (vals (sickL1 L dip now))).length) gO]) fY ?_
       refine WDq (NPt hN) 8 57 (.agg #[.int .i64 ((foldC (vals (sickL1 L dip now))).epoch), .int .i64 ((foldC (vals (sickL1 L dip now))).now), .slice cI cK.length cJ, .slice cL ((foldC (vals (sickL1 L dip now))).snats.length) cM, .slice cN ((foldC (vals (sickL1 L dip now))).sick.length) cO, .slice cP ((foldC (vals (sickL1 L dip now))).leases.length) cQ]) fY ?_
       refine WDq (NPt hN) 9 58 (.slice gN ((resC (vals (sickL1 L dip now))).length) gO) fY ?_
       obtain ⟨M9, Bh, lc, Bi⟩ := sto_run (c' := #[.int .i64 ((foldC (vals (sickL1 L dip now))).epoch), .int .i64 ((foldC (vals (sickL1 L dip now))).now), .slice cI cK.length cJ, .slice cL ((foldC (vals (sickL1 L dip now))).snats.length) cM, .slice cN ((foldC (vals (sickL1 L dip now))).sick.length) cO, .slice cP ((foldC (vals (sickL1 L dip now))).leases.length) cQ]) Tryz.prog lb 4 31 da 0 (.agg #[.int .i64 ((foldC (vals (sickL1 L dip now))).epoch), .int .i64 ((foldC (vals (sickL1 L dip now))).now), .slice cI cK.length cJ, .slice cL ((foldC (vals (sickL1 L dip now))).snats.length) cM, .slice cN ((foldC (vals (sickL1 L dip now))).sick.length) cO, .slice cP ((foldC (vals (sickL1 L dip now))).leases.length) cQ]) rfl (by kernel_rfl)
       have rq := fY.trans lc (by first | (simp; done) | (simp [*]; done) | (have q_ := fY.size; simp; omega))
       refine WD.semU 11 (Instr.storeAt 31 (.pointer (some ⟨da, 0, none⟩)) (.agg #[.int .i64 ((foldC (vals (sickL1 L dip now))).epoch), .int .i64 ((foldC (vals (sickL1 L dip now))).now), .slice cI cK.length cJ, .slice cL ((foldC (vals (sickL1 L dip now))).snats.length) cM, .slice cN ((foldC (vals (sickL1 L dip now))).sick.length) cO, .slice cP ((foldC (vals (sickL1 L dip now))).leases.length) cQ])) (by kernel_rfl) (by kernel_rfl) Bh rq ?_
       have Bj := FoldR.fr Bg lc (lb.apartM 1 4 rfl rfl)
       have Bk := FoldR.fr rp lc (lb.apartM 3 4 rfl rfl)
       refine WDq (NPt hN) 12 14 (.slice gN ((resC (vals (sickL1 L dip now))).length) gO) rq ?_
       refine WD.done (by kernel_rfl) ?_
       refine QXn ?_
       have Bl := Bi.pickM [0, 1, 2, 3, 4] [0, 1, 3] (by decide) rfl rfl
       exact fun a_ ha_ => ab _ _ ⟨da, cI, cJ, cK, cL, cM, cN, cO, cP, cQ, gN, gO, Be, rfl, Bl, Bj, Bk, trivial⟩ a_ (ha_.weaken (sub_of ⟨rfl, rfl, rfl, rfl, rfl, rfl, rfl, rfl, rfl, rfl, rfl, rfl, trivial⟩))
      ·
       refine WO.new 4 (fun b => .slice (some ⟨b, 0, none⟩) 1 1) (.cells #[.int .i64 16, .int .i64 1, .int .i64 1, .int .i64 now, .int .i64 3, .int .u32 0, .int .i64 0, .int .i64 0, .slice none 0 0, .int .u32 dip, .int .u32 0, .bool true] 45) (by kernel_rfl) rfl rfl rfl rfl rfl (fun _ => by kernel_rfl) (fun v7 H6 rr Li lf Bm => ?_)
       have rs := k4.callB lf rr Bm
       have CS := Nat.le_trans g6.size rr
       have lg := g6.trans lf (by simp)
       refine ⟨lg, ?_⟩
       have Bn := FoldR.fr re lf (by simp)
       have Bo : World.ownsRow H6 0 45 12 (.slice (some ⟨ga, 0, none⟩) 0 0) 0 [] := own_of_blk (Nat.zero_le _) (rs.get 5 rfl) (Nat.le_refl _) (Nat.zero_le _) (by simp) rfl
       have lh := rs.toF 5 rfl
       obtain ⟨Na, Nb, Bp, Bq, rt, li, H7, ru⟩ := app_run Tryz.prog lh 2 (v := .slice (some ⟨ga, 0, none⟩) 0 0) rfl 22 22 45 12 104 0 L.length c A rfl Bo (L.flatMap cellsC) (flat_len_n cellsC_len (by first | rfl | assumption | (simp; done) | (simp; omega))) (Rd.src_n (Rd.fr hr lh.fr) cellsC_len (by decide) (by first | rfl | assumption | (simp; done) | (simp; omega))) (flat_one cellsC_one _) (by simp only [maxLen]; omega) (by omega)
       have rv := own_app (enc := cellsC) (ys := []) (zs := L) Bq
       obtain ⟨mq, mr, rfl, Jj⟩ := own_form rv
       have ms : ∀ x_ ∈ blk (.slice (some ⟨ga, 0, none⟩) 0 0), aa.heap.size ≤ x_ := by first | (simp [blk, Value.ownBlock, *]; done) | (intro x_ hx_; simp [blk, Value.ownBlock] at hx_; omega)
       have mt : ∀ x_ ∈ blk (.slice mq (0 + L.length) mr), aa.heap.size ≤ x_ := fun x_ hx_ => (ru x_ hx_).elim (ms x_) (fun h_ => Nat.le_trans lg.size h_)
       have lj := lg.trans rt (fun x_ hx_ => .inr (ms x_ hx_))
       refine WD.sem 2 (Builtin.append_ #[22, 22] 22 #[.slice (some ⟨ga, 0, none⟩) 0 0, .slice A L.length c]) 52 (.slice mq (0 + L.length) mr) (by kernel_rfl) (by kernel_rfl) Bp lj ?_
       have Br := FoldR.fr Bn rt (lh.disj 1 2 rfl rfl (by decide))
       obtain ⟨Nc, H8, Bs, Bt, rx, lk, H9, ry⟩ := app_run Tryz.prog li 2 (v := .slice mq (0 + L.length) mr) rfl 22 22 45 12 104 (0 + L.length) 1 1 (some ⟨v7, 0, none⟩) rfl rv [.int .i64 16, .int .i64 1, .int .i64 1, .int .i64 now, .int .i64 3, .int .u32 0, .int .i64 0, .int .i64 0, .slice none 0 0, .int .u32 dip, .int .u32 0, .bool true] rfl (srcOk.blk 1 (li.get 5 rfl)) rfl (by simp only [maxLen]; omega) (by omega)
       have rz := own_snoc (enc := cellsC) (ys := [] ++ L) (⟨⟨16, 1, 1, now, 3, 0, 0, 0, [], dip, 0, true⟩, none, 0⟩ : Cmd) Bt
       obtain ⟨rA, rB, rfl, Jk⟩ := own_form rz
       have Jl : ∀ x_ ∈ blk (.slice rA (0 + L.length + 1) rB), aa.heap.size ≤ x_ := fun x_ hx_ => (ry x_ hx_).elim (mt x_) (fun h_ => Nat.le_trans lj.size h_)
       have rC := lj.trans rx (fun x_ hx_ => .inr (mt x_ hx_))
       refine WD.sem 5 (Builtin.append_ #[22, 22] 22 #[.slice mq (0 + L.length) mr, .slice (some ⟨v7, 0, none⟩) 1 1]) 55 (.slice rA (0 + L.length + 1) rB) (by kernel_rfl) (by kernel_rfl) Bs rC ?_
       have Bu := FoldR.fr Br rx (li.disj 1 2 rfl rfl (by decide))
       refine WD.call 6 (by kernel_rfl) rfl rfl rfl rfl rfl (by kernel_rfl) (Fold_n rA (0 + L.length + 1) rB (sickL1 L dip now) H8 (own_rd rz cellsC_len (by decide)) (by simp [sickL1]) (sick_at (fun m_ h_ => cmdAt.fr0 (hL m_ h_) lk.fr) (at1 (cmd_nil hwy_ rfl))) (by omega) (Rd.fr hg lk.fr)) ?_
       rintro _ Nd ⟨cR, cS, cT, cU, cV, cW, cX, cY, cZ, gP, gQ, Bv, rfl, ll, rD, Bw⟩
       have lm := lk.callN ll Bw rD.lt
       have fZ := rC.trans ll (by simp)
       refine ⟨_, rfl, fZ, ?_⟩
       have Bx := FoldR.fr Bu ll (by simp)
       refine WDq (NPt hN) 7 49 (.tuple #[.agg #[.int .i64 ((foldC (vals (sickL1 L dip now))).epoch), .int .i64 ((foldC (vals (sickL1 L dip now))).now), .slice cR cT.length cS, .slice cU ((foldC (vals (sickL1 L dip now))).snats.length) cV, .slice cW ((foldC (vals (sickL1 L dip now))).sick.length) cX, .slice cY ((foldC (vals (sickL1 L dip now))).leases.length) cZ], .slice gP ((resC (vals (sickL1 L dip now))).length) gQ]) fZ ?_
       refine WDq (NPt hN) 8 57 (.agg #[.int .i64 ((foldC (vals (sickL1 L dip now))).epoch), .int .i64 ((foldC (vals (sickL1 L dip now))).now), .slice cR cT.length cS, .slice cU ((foldC (vals (sickL1 L dip now))).snats.length) cV, .slice cW ((foldC (vals (sickL1 L dip now))).sick.length) cX, .slice cY ((foldC (vals (sickL1 L dip now))).leases.length) cZ]) fZ ?_
       refine WDq (NPt hN) 9 58 (.slice gP ((resC (vals (sickL1 L dip now))).length) gQ) fZ ?_
       obtain ⟨Ne, By, lo, Bz⟩ := sto_run (c' := #[.int .i64 ((foldC (vals (sickL1 L dip now))).epoch), .int .i64 ((foldC (vals (sickL1 L dip now))).now), .slice cR cT.length cS, .slice cU ((foldC (vals (sickL1 L dip now))).snats.length) cV, .slice cW ((foldC (vals (sickL1 L dip now))).sick.length) cX, .slice cY ((foldC (vals (sickL1 L dip now))).leases.length) cZ]) Tryz.prog lm 4 31 da 0 (.agg #[.int .i64 ((foldC (vals (sickL1 L dip now))).epoch), .int .i64 ((foldC (vals (sickL1 L dip now))).now), .slice cR cT.length cS, .slice cU ((foldC (vals (sickL1 L dip now))).snats.length) cV, .slice cW ((foldC (vals (sickL1 L dip now))).sick.length) cX, .slice cY ((foldC (vals (sickL1 L dip now))).leases.length) cZ]) rfl (by kernel_rfl)
       have rE := fZ.trans lo (by first | (simp; done) | (simp [*]; done) | (have q_ := fZ.size; simp; omega))
       refine WD.semU 11 (Instr.storeAt 31 (.pointer (some ⟨da, 0, none⟩)) (.agg #[.int .i64 ((foldC (vals (sickL1 L dip now))).epoch), .int .i64 ((foldC (vals (sickL1 L dip now))).now), .slice cR cT.length cS, .slice cU ((foldC (vals (sickL1 L dip now))).snats.length) cV, .slice cW ((foldC (vals (sickL1 L dip now))).sick.length) cX, .slice cY ((foldC (vals (sickL1 L dip now))).leases.length) cZ])) (by kernel_rfl) (by kernel_rfl) By rE ?_
       have BA := FoldR.fr Bx lo (lm.apartM 1 4 rfl rfl)
       have BB := FoldR.fr rD lo (lm.apartM 3 4 rfl rfl)
       refine WDq (NPt hN) 12 14 (.slice gP ((resC (vals (sickL1 L dip now))).length) gQ) rE ?_
       refine WD.done (by kernel_rfl) ?_
       refine QXn ?_
       have BC := Bz.pickM [0, 1, 2, 3, 4] [0, 1, 3] (by decide) rfl rfl
       exact fun a_ ha_ => ab _ _ ⟨da, cR, cS, cT, cU, cV, cW, cX, cY, cZ, gP, gQ, Bv, rfl, BC, BA, BB, trivial⟩ a_ (ha_.weaken (sub_of ⟨rfl, rfl, rfl, rfl, rfl, rfl, rfl, rfl, rfl, rfl, rfl, rfl, trivial⟩))
     ·
      refine WO.new 4 (fun b => .slice (some ⟨b, 0, none⟩) 1 1) (.cells #[.int .i64 16, .int .i64 1, .int .i64 1, .int .i64 now, .int .i64 3, .int .u32 0, .int .i64 0, .int .i64 0, .slice none 0 0, .int .u32 dip, .int .u32 0, .bool true] 45) (by kernel_rfl) rfl rfl rfl rfl rfl (fun _ => by kernel_rfl) (fun v8 Nf rF Lj lp BD => ?_)
      have BE := rb.callB lp rF BD
      have CT := Nat.le_trans g5.size rF
      have lq := g5.trans lp (by simp)
      refine ⟨lq, ?_⟩
      have BF := FoldR.fr rc lp (by simp)
      refine WD.new 0 (fun b => .slice (some ⟨b, 0, none⟩) 0 0) (.cells #[] 45) (by kernel_rfl) rfl rfl rfl rfl rfl (fun _ => by kernel_rfl) (fun mu Ia rG Lk lr BG => ?_)
      have rH := BE.callB lr rG BG
      have CU := Nat.le_trans lq.size rG
      have ls := lq.trans lr (by simp)
      refine ⟨ls, ?_⟩
      have BH := FoldR.fr BF lr (by simp)
      have BI : World.ownsRow Ia 0 45 12 (.slice (some ⟨mu, 0, none⟩) 0 0) 0 [] := own_of_blk (Nat.zero_le _) (rH.get 6 rfl) (Nat.le_refl _) (Nat.zero_le _) (by simp) rfl
      have lu := rH.toF 6 rfl
      obtain ⟨Ng, Nh, BJ, BK, rI, lv, Ib, rJ⟩ := app_run Tryz.prog lu 2 (v := .slice (some ⟨mu, 0, none⟩) 0 0) rfl 22 22 45 12 104 0 L.length c A rfl BI (L.flatMap cellsC) (flat_len_n cellsC_len (by first | rfl | assumption | (simp; done) | (simp; omega))) (Rd.src_n (Rd.fr hr lu.fr) cellsC_len (by decide) (by first | rfl | assumption | (simp; done) | (simp; omega))) (flat_one cellsC_one _) (by simp only [maxLen]; omega) (by omega)
      have rK := own_app (enc := cellsC) (ys := []) (zs := L) BK
      obtain ⟨mv, mw, rfl, Jm⟩ := own_form rK
      have mx : ∀ x_ ∈ blk (.slice (some ⟨mu, 0, none⟩) 0 0), aa.heap.size ≤ x_ := by first | (simp [blk, Value.ownBlock, *]; done) | (intro x_ hx_; simp [blk, Value.ownBlock] at hx_; omega)
      have my : ∀ x_ ∈ blk (.slice mv (0 + L.length) mw), aa.heap.size ≤ x_ := fun x_ hx_ => (rJ x_ hx_).elim (mx x_) (fun h_ => Nat.le_trans ls.size h_)
      have lw := ls.trans rI (fun x_ hx_ => .inr (mx x_ hx_))
      refine WD.sem 2 (Builtin.append_ #[22, 22] 22 #[.slice (some ⟨mu, 0, none⟩) 0 0, .slice A L.length c]) 52 (.slice mv (0 + L.length) mw) (by kernel_rfl) (by kernel_rfl) BJ lw ?_
      have BL := FoldR.fr BH rI (lu.disj 1 2 rfl rfl (by decide))
      obtain ⟨Ni, Ic, BM, BN, rL, lx, Id, rM⟩ := app_run Tryz.prog lv 2 (v := .slice mv (0 + L.length) mw) rfl 22 22 45 12 104 (0 + L.length) 1 1 (some ⟨v8, 0, none⟩) rfl rK [.int .i64 16, .int .i64 1, .int .i64 1, .int .i64 now, .int .i64 3, .int .u32 0, .int .i64 0, .int .i64 0, .slice none 0 0, .int .u32 dip, .int .u32 0, .bool true] rfl (srcOk.blk 1 (lv.get 5 rfl)) rfl (by simp only [maxLen]; omega) (by omega)
      have rN := own_snoc (enc := cellsC) (ys := [] ++ L) (⟨⟨16, 1, 1, now, 3, 0, 0, 0, [], dip, 0, true⟩, none, 0⟩ : Cmd) BN
      obtain ⟨rO, rP, rfl, Jn⟩ := own_form rN
      have Jo : ∀ x_ ∈ blk (.slice rO (0 + L.length + 1) rP), aa.heap.size ≤ x_ := fun x_ hx_ => (rM x_ hx_).elim (my x_) (fun h_ => Nat.le_trans lw.size h_)
      have rQ := lw.trans rL (fun x_ hx_ => .inr (my x_ hx_))
      refine WD.sem 5 (Builtin.append_ #[22, 22] 22 #[.slice mv (0 + L.length) mw, .slice (some ⟨v8, 0, none⟩) 1 1]) 55 (.slice rO (0 + L.length + 1) rP) (by kernel_rfl) (by kernel_rfl) BM rQ ?_
      have BO := FoldR.fr BL rL (lv.disj 1 2 rfl rfl (by decide))
      refine WD.call 6 (by kernel_rfl) rfl rfl rfl rfl rfl (by kernel_rfl) (Fold_n rO (0 + L.length + 1) rP (sickL1 L dip now) Ic (own_rd rN cellsC_len (by decide)) (by simp [sickL1]) (sick_at (fun m_ h_ => cmdAt.fr0 (hL m_ h_) lx.fr) (at1 (cmd_nil hwy_ rfl))) (by omega) (Rd.fr hg lx.fr)) ?_
      rintro _ Nj ⟨c0, c1, c2, c3, c4, c5, c6, c7, c8, gR, gS, BP, rfl, ly, rR, BQ⟩
      have lz := lx.callN ly BQ rR.lt
      have f0 := rQ.trans ly (by simp)
      refine ⟨_, rfl, f0, ?_⟩
      have BR := FoldR.fr BO ly (by simp)
      refine WDq (NPt hN) 7 49 (.tuple #[.agg #[.int .i64 ((foldC (vals (sickL1 L dip now))).epoch), .int .i64 ((foldC (vals (sickL1 L dip now))).now), .slice c0 c2.length c1, .slice c3 ((foldC (vals (sickL1 L dip now))).snats.length) c4, .slice c5 ((foldC (vals (sickL1 L dip now))).sick.length) c6, .slice c7 ((foldC (vals (sickL1 L dip now))).leases.length) c8], .slice gR ((resC (vals (sickL1 L dip now))).length) gS]) f0 ?_
      refine WDq (NPt hN) 8 57 (.agg #[.int .i64 ((foldC (vals (sickL1 L dip now))).epoch), .int .i64 ((foldC (vals (sickL1 L dip now))).now), .slice c0 c2.length c1, .slice c3 ((foldC (vals (sickL1 L dip now))).snats.length) c4, .slice c5 ((foldC (vals (sickL1 L dip now))).sick.length) c6, .slice c7 ((foldC (vals (sickL1 L dip now))).leases.length) c8]) f0 ?_
      refine WDq (NPt hN) 9 58 (.slice gR ((resC (vals (sickL1 L dip now))).length) gS) f0 ?_
      obtain ⟨Nk, BS, lA, BT⟩ := sto_run (c' := #[.int .i64 ((foldC (vals (sickL1 L dip now))).epoch), .int .i64 ((foldC (vals (sickL1 L dip now))).now), .slice c0 c2.length c1, .slice c3 ((foldC (vals (sickL1 L dip now))).snats.length) c4, .slice c5 ((foldC (vals (sickL1 L dip now))).sick.length) c6, .slice c7 ((foldC (vals (sickL1 L dip now))).leases.length) c8]) Tryz.prog lz 4 31 da 0 (.agg #[.int .i64 ((foldC (vals (sickL1 L dip now))).epoch), .int .i64 ((foldC (vals (sickL1 L dip now))).now), .slice c0 c2.length c1, .slice c3 ((foldC (vals (sickL1 L dip now))).snats.length) c4, .slice c5 ((foldC (vals (sickL1 L dip now))).sick.length) c6, .slice c7 ((foldC (vals (sickL1 L dip now))).leases.length) c8]) rfl (by kernel_rfl)
      have rS := f0.trans lA (by first | (simp; done) | (simp [*]; done) | (have q_ := f0.size; simp; omega))
      refine WD.semU 11 (Instr.storeAt 31 (.pointer (some ⟨da, 0, none⟩)) (.agg #[.int .i64 ((foldC (vals (sickL1 L dip now))).epoch), .int .i64 ((foldC (vals (sickL1 L dip now))).now), .slice c0 c2.length c1, .slice c3 ((foldC (vals (sickL1 L dip now))).snats.length) c4, .slice c5 ((foldC (vals (sickL1 L dip now))).sick.length) c6, .slice c7 ((foldC (vals (sickL1 L dip now))).leases.length) c8])) (by kernel_rfl) (by kernel_rfl) BS rS ?_
      have BU := FoldR.fr BR lA (lz.apartM 1 4 rfl rfl)
      have BV := FoldR.fr rR lA (lz.apartM 3 4 rfl rfl)
      refine WDq (NPt hN) 12 14 (.slice gR ((resC (vals (sickL1 L dip now))).length) gS) rS ?_
      refine WD.done (by kernel_rfl) ?_
      refine QXn ?_
      have BW := BT.pickM [0, 1, 2, 3, 4] [0, 1, 3] (by decide) rfl rfl
      exact fun a_ ha_ => ab _ _ ⟨da, c0, c1, c2, c3, c4, c5, c6, c7, c8, gR, gS, BP, rfl, BW, BU, BV, trivial⟩ a_ (ha_.weaken (sub_of ⟨rfl, rfl, rfl, rfl, rfl, rfl, rfl, rfl, rfl, rfl, rfl, rfl, trivial⟩))
   rintro E_ Nl ⟨gc, ASc, cSc, xsc, ANc, cNc, AKc, cKc, ALc, cLc, ARc, cRc, Gc, rfl, ad, frb_m1069, hFRc, CV⟩
   have hvb_ : xsb.length = (foldC (vals (sickL3 L dip now))).svcs.length := by rw [← frb_m1069.vals, List.length_map]
   have hvc_ : xsc.length = (foldC (vals (sickL1 L dip now))).svcs.length := by rw [← hFRc.vals, List.length_map]
   have hwb_ := wf_sick3 hL hwx_ hwy_
   have hwc_ := wf_sick1 hL hwy_
   have hb0_ := hwb_.sn
   have hb1_ := hwb_.nn
   have hb2_ := hwb_.kn
   have hb3_ := hwb_.ln
   have hc0_ := hwc_.sn
   have hc1_ := hwc_.nn
   have hc2_ := hwc_.kn
   have hc3_ := hwc_.ln
   refine WCs (fun Nm BX => ?_)
   refine WCg (WLq 1 [(59, .pointer (some ⟨gc, 0, none⟩))] ?_)
   refine WLo 3 (.pointer (some ⟨gc, 0, none⟩)) (.int .i64 ((foldC (vals (sickL1 L dip now))).epoch)) 60 (run_ld (ad.get 4 rfl) rfl) ?_
   refine WLq 1 [(61, .pointer (some ⟨gb, 0, none⟩))] ?_
   refine WLs (c' := #[.int .i64 ((foldC (vals (sickL1 L dip now))).epoch), .int .i64 ((foldC (vals (sickL3 L dip now))).now), .slice ASb xsb.length cSb, .slice ANb ((foldC (vals (sickL3 L dip now))).snats.length) cNb, .slice AKb ((foldC (vals (sickL3 L dip now))).sick.length) cKb, .slice ALb ((foldC (vals (sickL3 L dip now))).leases.length) cLb]) ad 3 3 gb 0 (.int .i64 ((foldC (vals (sickL1 L dip now))).epoch)) (by kernel_rfl) rfl (by kernel_rfl) (fun Ie af lB => ?_)
   have rT := own_fr frb_m1069.S af (fun x_ hx_ => (ad.apartM 1 3 rfl rfl) x_ (frb_m1069.sS x_ hx_))
   have rU := own_fr frb_m1069.N af (fun x_ hx_ => (ad.apartM 1 3 rfl rfl) x_ (frb_m1069.sN x_ hx_))
   have rV := own_fr frb_m1069.K af (fun x_ hx_ => (ad.apartM 1 3 rfl rfl) x_ (frb_m1069.sK x_ hx_))
   have rW := own_fr frb_m1069.L af (fun x_ hx_ => (ad.apartM 1 3 rfl rfl) x_ (frb_m1069.sL x_ hx_))
   have BY := own_fr frb_m1069.R af (fun x_ hx_ => (ad.apartM 1 3 rfl rfl) x_ (frb_m1069.sR x_ hx_))
   have rX := svcsIn.fr frb_m1069.ins af (ad.apartM 1 3 rfl rfl)
   have rY := own_fr hFRc.S af (fun x_ hx_ => (ad.apartM 2 3 rfl rfl) x_ (hFRc.sS x_ hx_))
   have rZ := own_fr hFRc.N af (fun x_ hx_ => (ad.apartM 2 3 rfl rfl) x_ (hFRc.sN x_ hx_))
   have r0 := own_fr hFRc.K af (fun x_ hx_ => (ad.apartM 2 3 rfl rfl) x_ (hFRc.sK x_ hx_))
   have r1 := own_fr hFRc.L af (fun x_ hx_ => (ad.apartM 2 3 rfl rfl) x_ (hFRc.sL x_ hx_))
   have BZ := own_fr hFRc.R af (fun x_ hx_ => (ad.apartM 2 3 rfl rfl) x_ (hFRc.sR x_ hx_))
   have r2 := svcsIn.fr hFRc.ins af (ad.apartM 2 3 rfl rfl)
   refine WLd rfl (QXn (BX _ _ ?_))
   refine WCs (fun Nn B0 => ?_)
   refine WCs (fun No B1 => ?_)
   refine WCg ?_
   refine WLo 31 (.pointer (some ⟨gb, 0, none⟩)) (.agg #[.int .i64 ((foldC (vals (sickL1 L dip now))).epoch), .int .i64 ((foldC (vals (sickL3 L dip now))).now), .slice ASb xsb.length cSb, .slice ANb ((foldC (vals (sickL3 L dip now))).snats.length) cNb, .slice AKb ((foldC (vals (sickL3 L dip now))).sick.length) cKb, .slice ALb ((foldC (vals (sickL3 L dip now))).leases.length) cLb]) 62 (run_ld (lB.get 3 rfl) rfl) ?_
   refine WLo 31 (.pointer (some ⟨gc, 0, none⟩)) (.agg #[.int .i64 ((foldC (vals (sickL1 L dip now))).epoch), .int .i64 ((foldC (vals (sickL1 L dip now))).now), .slice ASc xsc.length cSc, .slice ANc ((foldC (vals (sickL1 L dip now))).snats.length) cNc, .slice AKc ((foldC (vals (sickL1 L dip now))).sick.length) cKc, .slice ALc ((foldC (vals (sickL1 L dip now))).leases.length) cLc]) 63 (run_ld (lB.get 4 rfl) rfl) ?_
   refine WLc rfl rfl rfl rfl rfl (by kernel_rfl) (Same_ct ((foldC (vals (sickL1 L dip now))).epoch) ((foldC (vals (sickL3 L dip now))).now) ASb cSb xsb ANb cNb ((foldC (vals (sickL3 L dip now))).snats) AKb cKb ((foldC (vals (sickL3 L dip now))).sick) ALb cLb ((foldC (vals (sickL3 L dip now))).leases) ((foldC (vals (sickL1 L dip now))).epoch) ((foldC (vals (sickL1 L dip now))).now) ASc cSc xsc ANc cNc ((foldC (vals (sickL1 L dip now))).snats) AKc cKc ((foldC (vals (sickL1 L dip now))).sick) ALc cLc ((foldC (vals (sickL1 L dip now))).leases) Ie (own_rd rT cellsS_len (by decide)) rX.at_ (own_rd rU cellsN_len (by decide)) (own_rd rV (Go.Tw.encI_len _) (by decide)) (own_rd rW encL_len (by decide)) (by omega) (by omega) (by omega) (by omega) (own_rd rY cellsS_len (by decide)) r2.at_ (own_rd rZ cellsN_len (by decide)) (own_rd r0 (Go.Tw.encI_len _) (by decide)) (own_rd r1 encL_len (by decide)) (by omega) (by omega) (by omega) (by omega)) ?_
   rintro _ Np ⟨rfl, ae⟩
   refine ⟨_, rfl, ?_⟩
   have iJ := lB.call ae
   have B2 := own_fr rT ae (by simp)
   have B3 := own_fr rU ae (by simp)
   have B4 := own_fr rV ae (by simp)
   have B5 := own_fr rW ae (by simp)
   have iK := own_fr BY ae (by simp)
   have B6 := svcsIn.fr rX ae (by simp)
   have B7 := own_fr rY ae (by simp)
   have B8 := own_fr rZ ae (by simp)
   have B9 := own_fr r0 ae (by simp)
   have Ca := own_fr r1 ae (by simp)
   have Cb := own_fr BZ ae (by simp)
   have Cc := svcsIn.fr r2 ae (by simp)
   refine WLq 2 [(66, .bool (!(decide ((⟨(foldC (vals (sickL1 L dip now))).epoch, (foldC (vals (sickL3 L dip now))).now, xsb.map (·.v), (foldC (vals (sickL3 L dip now))).snats, (foldC (vals (sickL3 L dip now))).sick, (foldC (vals (sickL3 L dip now))).leases⟩ : CfgV) = (⟨(foldC (vals (sickL1 L dip now))).epoch, (foldC (vals (sickL1 L dip now))).now, xsc.map (·.v), (foldC (vals (sickL1 L dip now))).snats, (foldC (vals (sickL1 L dip now))).sick, (foldC (vals (sickL1 L dip now))).leases⟩ : CfgV))))), (65, .bool (!(decide ((⟨(foldC (vals (sickL1 L dip now))).epoch, (foldC (vals (sickL3 L dip now))).now, xsb.map (·.v), (foldC (vals (sickL3 L dip now))).snats, (foldC (vals (sickL3 L dip now))).sick, (foldC (vals (sickL3 L dip now))).leases⟩ : CfgV) = (⟨(foldC (vals (sickL1 L dip now))).epoch, (foldC (vals (sickL1 L dip now))).now, xsc.map (·.v), (foldC (vals (sickL1 L dip now))).snats, (foldC (vals (sickL1 L dip now))).sick, (foldC (vals (sickL1 L dip now))).leases⟩ : CfgV)))))] ?_
   refine WL.know 66 (.bool (!(decide ((⟨(foldC (vals (sickL1 L dip now))).epoch, (foldC (vals (sickL3 L dip now))).now, xsb.map (·.v), (foldC (vals (sickL3 L dip now))).snats, (foldC (vals (sickL3 L dip now))).sick, (foldC (vals (sickL3 L dip now))).leases⟩ : CfgV) = (⟨(foldC (vals (sickL1 L dip now))).epoch, (foldC (vals (sickL1 L dip now))).now, xsc.map (·.v), (foldC (vals (sickL1 L dip now))).snats, (foldC (vals (sickL1 L dip now))).sick, (foldC (vals (sickL1 L dip now))).leases⟩ : CfgV))))) (.bool false) rfl (congrArg Value.bool (by rw [frb_m1069.vals, hFRc.vals, hD_, hC0_]; simp)) ?_
   refine WLq 1 [(67, .pointer (some ⟨gb, 1, none⟩))] ?_
   refine WLo 3 (.pointer (some ⟨gb, 1, none⟩)) (.int .i64 ((foldC (vals (sickL3 L dip now))).now)) 68 (run_ld (iJ.get 3 rfl) rfl) ?_
   refine WLq 1 [(69, .pointer (some ⟨mA, 1, none⟩))] ?_
   refine WLo 3 (.pointer (some ⟨mA, 1, none⟩)) (.int .i64 ((foldC (vals L)).now)) 70 (run_ld (iJ.get 2 rfl) rfl) ?_
   refine WLq 1 [(71, .int .i64 now)] ?_
   have Cd : ∀ w_, Sem.run Tryz.prog (Builtin.max_ #[3, 3] 3 #[.int .i64 ((foldC (vals L)).now), .int .i64 now]) w_ = .ok (.int .i64 (max ((foldC (vals L)).now) now)) w_ := fun w_ => run_maxI
   refine WL.sem (Builtin.max_ #[3, 3] 3 #[.int .i64 ((foldC (vals L)).now), .int .i64 now]) 72 (.int .i64 (max ((foldC (vals L)).now) now)) (by kernel_rfl) (Cd _) ?_
   refine WLq 3 [(75, .bool (((foldC (vals (sickL3 L dip now))).now) != (max ((foldC (vals L)).now) now))), (74, .bool (((foldC (vals (sickL3 L dip now))).now) != (max ((foldC (vals L)).now) now))), (73, .bool (((foldC (vals (sickL3 L dip now))).now) != (max ((foldC (vals L)).now) now)))] ?_
   refine WL.know 75 (.bool (((foldC (vals (sickL3 L dip now))).now) != (max ((foldC (vals L)).now) now))) (.bool false) rfl (congrArg Value.bool (by rw [hD_]; simp)) ?_
   have hrl_ : (resC (vals (sickL3 L dip now))).length = L.length + 3 := sick_len3
   refine WLq 4 [(79, .int .i64 (IntKind.i64.wrap (((resC (vals (sickL3 L dip now))).length : Int) - 1))), (78, .int .i64 ((resC (vals (sickL3 L dip now))).length : Int)), (77, .slice ARb ((resC (vals (sickL3 L dip now))).length) cRb), (76, .slice ARb ((resC (vals (sickL3 L dip now))).length) cRb)] ?_
   refine WLt (show (.int .i64 (IntKind.i64.wrap (((resC (vals (sickL3 L dip now))).length : Int) - 1)) : Value) = .int .i64 (((resC (vals (sickL3 L dip now))).length - 1 : Nat) : Int) from by rw [wrap_in_i64 _ (by omega) (by omega)]; congr 1; omega) ?_
   have Ll := own_count cellsR_len (by decide) iK
   obtain ⟨mz, lC⟩ := get_some (xs := (resC (vals (sickL3 L dip now)))) (i := (((resC (vals (sickL3 L dip now))).length - 1 : Nat) : Int).toNat) (by omega)
   obtain ⟨b2189, r3⟩ := own_addr (by decide) cellsR_len iK lC
   refine WLi ARb ((resC (vals (sickL3 L dip now))).length) cRb 80 .i64 (((resC (vals (sickL3 L dip now))).length - 1 : Nat) : Int) b2189 0 ((((resC (vals (sickL3 L dip now))).length - 1 : Nat) : Int).toNat) 5 (by kernel_rfl) r3 (by omega) (by omega) (((((resC (vals (sickL3 L dip now))).length - 1 : Nat) : Int).toNat) * 5) (by first | (simp; done) | omega) ?_
   refine WLq 1 [(81, .pointer (some ⟨b2189, ((((resC (vals (sickL3 L dip now))).length - 1 : Nat) : Int).toNat) * 5, none⟩))] ?_
   refine WLo 3 (.pointer (some ⟨b2189, ((((resC (vals (sickL3 L dip now))).length - 1 : Nat) : Int).toNat) * 5, none⟩)) (.int .i64 mz.err) 82 (run_load1 rfl (by simpa [Nat.add_assoc] using Rd.cell (own_rd iK cellsR_len (by decide)) r3 lC 0 _ rfl)) ?_
   refine WLq 2 [(84, .bool (mz.err != 0)), (83, .bool (mz.err != 0))] (WLd rfl (QXn (B1 _ _ ?_)))
   refine WC.know 84 (.bool (mz.err != 0)) (.bool false) rfl (congrArg Value.bool (by have q_ := sick_end hgx_ lC (by rw [hrl_]; omega); simp [q_])) ?_
   refine WCf rfl (WC.skip (QXn (B0 _ _ ?_)))
   refine WCs (fun Nq Ce => ?_)
   refine WCs (fun Nr Cf => ?_)
   refine WCg (WLq 1 [(85, .pointer (some ⟨gc, 4, none⟩))] ?_)
   refine WLo 28 (.pointer (some ⟨gc, 4, none⟩)) (.slice AKc ((foldC (vals (sickL1 L dip now))).sick.length) cKc) 86 (run_ld (iJ.get 4 rfl) rfl) ?_
   refine WLq 2 [(88, .int .i64 0), (87, .int .i64 ((foldC (vals (sickL1 L dip now))).sick.length : Int))] (WLd rfl (QXn (Cf _ _ ?_)))
   refine WC.block ?_
   refine WC.loop (fun m_ E_ w_ => ∃ (i : Nat), m_ = (foldC (vals (sickL1 L dip now))).sick.length - i ∧ E_ = [(0, .slice A L.length c), (1, .int .u32 dip), (2, .int .i64 now), (7, .pointer (some ⟨r5, 0, none⟩)), (8, .pointer (some ⟨lF, 0, none⟩)), (9, .pointer (some ⟨mA, 0, none⟩)), (10, .slice g8 ((resC (vals L)).length) g9), (11, .pointer (some ⟨gb, 0, none⟩)), (12, .slice ARb ((resC (vals (sickL3 L dip now))).length) cRb), (13, .pointer (some ⟨gc, 0, none⟩)), (14, .slice ARc ((resC (vals (sickL1 L dip now))).length) cRc), (85, .pointer (some ⟨gc, 4, none⟩)), (86, .slice AKc ((foldC (vals (sickL1 L dip now))).sick.length) cKc), (87, .int .i64 ((foldC (vals (sickL1 L dip now))).sick.length : Int)), (88, .int .i64 (i : Int))] ∧ Cx w [] w_ [(r5, .cells #[.int .i64 16, .int .i64 1, .int .i64 0, .int .i64 now, .int .i64 3, .int .u32 0, .int .i64 0, .int .i64 0, .slice none 0 0, .int .u32 dip, .int .u32 0, .bool false] 45), (lF, .cells #[.int .i64 16, .int .i64 1, .int .i64 1, .int .i64 now, .int .i64 3, .int .u32 0, .int .i64 0, .int .i64 0, .slice none 0 0, .int .u32 dip, .int .u32 0, .bool true] 45), (mA, .cells #[.int .i64 ((foldC (vals L)).epoch), .int .i64 ((foldC (vals L)).now), .slice f2 ag.length f3, .slice gT ((foldC (vals L)).snats.length) gU, .slice gV ((foldC (vals L)).sick.length) gW, .slice f4 ((foldC (vals L)).leases.length) f5] 31), (gb, .cells #[.int .i64 ((foldC (vals (sickL1 L dip now))).epoch), .int .i64 ((foldC (vals (sickL3 L dip now))).now), .slice ASb xsb.length cSb, .slice ANb ((foldC (vals (sickL3 L dip now))).snats.length) cNb, .slice AKb ((foldC (vals (sickL3 L dip now))).sick.length) cKb, .slice ALb ((foldC (vals (sickL3 L dip now))).leases.length) cLb] 31), (gc, .cells #[.int .i64 ((foldC (vals (sickL1 L dip now))).epoch), .int .i64 ((foldC (vals (sickL1 L dip now))).now), .slice ASc xsc.length cSc, .slice ANc ((foldC (vals (sickL1 L dip now))).snats.length) cNc, .slice AKc ((foldC (vals (sickL1 L dip now))).sick.length) cKc, .slice ALc ((foldC (vals (sickL1 L dip now))).leases.length) cLc] 31)] [wc, Gb, Gc] ∧ World.ownsRow w_ 0 43 4 (.slice ASb xsb.length cSb) xsb.length (xsb.flatMap cellsS) ∧ World.ownsRow w_ 0 79 2 (.slice ANb ((foldC (vals (sickL3 L dip now))).snats.length) cNb) ((foldC (vals (sickL3 L dip now))).snats.length) (((foldC (vals (sickL3 L dip now))).snats).flatMap cellsN) ∧ World.ownsRow w_ 0 40 1 (.slice AKb ((foldC (vals (sickL3 L dip now))).sick.length) cKb) ((foldC (vals (sickL3 L dip now))).sick.length) (((foldC (vals (sickL3 L dip now))).sick).flatMap (Go.Tw.encI .u32)) ∧ World.ownsRow w_ 0 50 4 (.slice ALb ((foldC (vals (sickL3 L dip now))).leases.length) cLb) ((foldC (vals (sickL3 L dip now))).leases.length) (((foldC (vals (sickL3 L dip now))).leases).flatMap encL) ∧ World.ownsRow w_ 0 52 5 (.slice ARb ((resC (vals (sickL3 L dip now))).length) cRb) ((resC (vals (sickL3 L dip now))).length) ((resC (vals (sickL3 L dip now))).flatMap cellsR) ∧ svcsIn w_ Gb xsb ∧ World.ownsRow w_ 0 43 4 (.slice ASc xsc.length cSc) xsc.length (xsc.flatMap cellsS) ∧ World.ownsRow w_ 0 79 2 (.slice ANc ((foldC (vals (sickL1 L dip now))).snats.length) cNc) ((foldC (vals (sickL1 L dip now))).snats.length) (((foldC (vals (sickL1 L dip now))).snats).flatMap cellsN) ∧ World.ownsRow w_ 0 40 1 (.slice AKc ((foldC (vals (sickL1 L dip now))).sick.length) cKc) ((foldC (vals (sickL1 L dip now))).sick.length) (((foldC (vals (sickL1 L dip now))).sick).flatMap (Go.Tw.encI .u32)) ∧ World.ownsRow w_ 0 50 4 (.slice ALc ((foldC (vals (sickL1 L dip now))).leases.length) cLc) ((foldC (vals (sickL1 L dip now))).leases.length) (((foldC (vals (sickL1 L dip now))).leases).flatMap encL) ∧ World.ownsRow w_ 0 52 5 (.slice ARc ((resC (vals (sickL1 L dip now))).length) cRc) ((resC (vals (sickL1 L dip now))).length) ((resC (vals (sickL1 L dip now))).flatMap cellsR) ∧ svcsIn w_ Gc xsc ∧ (i ≤ (foldC (vals (sickL1 L dip now))).sick.length)) ⟨_, _, ⟨0, rfl, rfl, iJ, B2, B3, B4, B5, iK, B6, B7, B8, B9, Ca, Cb, Cc, Nat.zero_le _⟩, sub_of ⟨rfl, rfl, rfl, rfl, rfl, rfl, rfl, rfl, rfl, rfl, rfl, rfl, rfl, rfl, rfl, trivial⟩⟩ (fun m2199 E_ Ns Nt Cg Ch => ?_)
   obtain ⟨i, rfl, rfl, f1, Sb_m2199, Nb_m2199, Kb_m2199, Lb_m2199, Rb_m2199, inb_m2199, Sc_m2199, Nc_m2199, Kc_m2199, Lc_m2199, Rc_m2199, inc_m2199, hi⟩ := Ch
   refine WCs (fun Nu Ci => ?_)
   refine WCg (WLq 1 [(89, .bool (decide ((i : Int) < ((foldC (vals (sickL1 L dip now))).sick.length : Int))))] (WLd rfl (QXn (Ci _ _ ?_))))
   refine WCs (fun Nv Cj => ?_)
   refine WCa 89 (decide ((i : Int) < ((foldC (vals (sickL1 L dip now))).sick.length : Int))) rfl (fun lD => ?_) (fun lD => ?_)
   ·
    have If : (i : Int) < ((foldC (vals (sickL1 L dip now))).sick.length : Int) := by have q_ := of_decide_eq_true lD; omega
    refine WCt rfl ?_
    refine WC.skip ?_
    refine QXn (Cj _ _ ?_)
    refine WCs (fun Nw Ck => ?_)
    refine WC.block ?_
    refine WCs (fun Nx Cl => ?_)
    refine WCg ?_
    have Lm := own_count (Go.Tw.encI_len _) (by decide) Kc_m2199
    obtain ⟨i0, lE⟩ := get_some (xs := (foldC (vals (sickL1 L dip now))).sick) (i := i) (by omega)
    obtain ⟨b2213, r4⟩ := own_addr (by decide) (Go.Tw.encI_len _) Kc_m2199 lE
    refine WLi AKc ((foldC (vals (sickL1 L dip now))).sick.length) cKc 90 .i64 (i : Int) b2213 0 i 1 (by kernel_rfl) r4 (by omega) (by omega) i (by first | (simp; done) | omega) ?_
    refine WLo 40 (.pointer (some ⟨b2213, i, none⟩)) (.int .u32 i0) 91 (run_load1 rfl (by simpa [Nat.add_assoc] using Rd.cell (own_rd Kc_m2199 (Go.Tw.encI_len _) (by decide)) r4 lE 0 _ rfl)) ?_
    refine WLq 1 [(16, .int .u32 i0)] (WLd rfl (QXn (Cl _ _ ?_)))
    refine WCs (fun Ny Cm => ?_)
    refine WCg (WLq 3 [(94, .bool (i0 == dip)), (93, .int .u32 dip), (92, .int .u32 i0)] (WLd rfl (QXn (Cm _ _ ?_))))
    refine WC.know 94 (.bool (i0 == dip)) (.bool false) rfl (congrArg Value.bool (by simpa using sick_out3 hC0_ hwf_.ksort lE)) ?_
    refine WCf rfl (WC.skip ?_)
    refine QXb ?_
    refine QXn (Ck _ _ ?_)
    refine WCg (WLq 1 [(95, .int .i64 (IntKind.i64.wrap ((i : Int) + 1)))] ?_)
    refine WLt (show (.int .i64 (IntKind.i64.wrap ((i : Int) + 1)) : Value) = .int .i64 ((i : Int) + 1) from by rw [wrap_in_i64 ((i : Int) + 1) (by omega) (by omega)]) ?_
    refine WLq 1 [(88, .int .i64 ((i : Int) + 1))] ?_
    refine WLd rfl ?_
    refine QXn ?_
    have Cn := f1.pick [0, 1, 2, 3, 4] [0, 1, 2] rfl rfl
    refine fun a_ ha_ => Cg _ _ _ ?_ ⟨i + 1, rfl, rfl, Cn, Sb_m2199, Nb_m2199, Kb_m2199, Lb_m2199, Rb_m2199, inb_m2199, Sc_m2199, Nc_m2199, Kc_m2199, Lc_m2199, Rc_m2199, inc_m2199, by omega⟩ a_ (ha_.weaken (sub_of ⟨rfl, rfl, rfl, rfl, rfl, rfl, rfl, rfl, rfl, rfl, rfl, rfl, rfl, rfl, rfl, trivial⟩))
    omega
   ·
    have If : ((foldC (vals (sickL1 L dip now))).sick.length : Int) ≤ (i : Int) := by have q_ := of_decide_eq_false lD; omega
    refine WCf rfl ?_
    refine WC.exit ?_
    refine QXe ?_
    refine QXe ?_
    refine QX.block_hit ?_
    refine QXn (Ce _ _ ?_)
    refine WCs (fun Nz Co => ?_)
    refine WCg (WLq 1 [(96, .pointer (some ⟨gc, 2, none⟩))] ?_)
    refine WLo 26 (.pointer (some ⟨gc, 2, none⟩)) (.slice ASc xsc.length cSc) 97 (run_ld (f1.get 4 rfl) rfl) ?_
    refine WLq 2 [(99, .pointer (some ⟨mA, 2, none⟩)), (98, .int .i64 (xsc.length : Int))] ?_
    refine WLo 26 (.pointer (some ⟨mA, 2, none⟩)) (.slice f2 ag.length f3) 100 (run_ld (f1.get 2 rfl) rfl) ?_
    refine WLq 3 [(103, .bool ((xsc.length : Int) == (ag.length : Int))), (102, .bool ((xsc.length : Int) == (ag.length : Int))), (101, .int .i64 (ag.length : Int))] ?_
    refine WL.know 103 (.bool ((xsc.length : Int) == (ag.length : Int))) (.bool true) rfl (congrArg Value.bool (by have q_ := congrArg List.length hFRc.vals; rw [hC0_, ← CX.vals, List.length_map, List.length_map] at q_; rw [q_]; simp)) ?_
    refine WLq 1 [(104, .pointer (some ⟨gc, 5, none⟩))] ?_
    refine WLo 29 (.pointer (some ⟨gc, 5, none⟩)) (.slice ALc ((foldC (vals (sickL1 L dip now))).leases.length) cLc) 105 (run_ld (f1.get 4 rfl) rfl) ?_
    refine WLq 2 [(107, .pointer (some ⟨mA, 5, none⟩)), (106, .int .i64 ((foldC (vals (sickL1 L dip now))).leases.length : Int))] ?_
    refine WLo 29 (.pointer (some ⟨mA, 5, none⟩)) (.slice f4 ((foldC (vals L)).leases.length) f5) 108 (run_ld (f1.get 2 rfl) rfl) ?_
    refine WLq 4 [(6, .bool (((foldC (vals (sickL1 L dip now))).leases.length : Int) == ((foldC (vals L)).leases.length : Int))), (111, .bool (((foldC (vals (sickL1 L dip now))).leases.length : Int) == ((foldC (vals L)).leases.length : Int))), (110, .bool (((foldC (vals (sickL1 L dip now))).leases.length : Int) == ((foldC (vals L)).leases.length : Int))), (109, .int .i64 ((foldC (vals L)).leases.length : Int))] (WLd rfl (QXn (Co _ _ ?_)))
    refine WC.ret ?_
    refine (hret _ _ _ rfl ?_).1
    exact ⟨congrArg (fun b_ => Ending.returned (Value.bool b_)) (show ((((foldC (vals (sickL1 L dip now))).leases.length : Int) == ((foldC (vals L)).leases.length : Int))) = true from by rw [hC0_]; simp), f1.fr⟩

end Go.Proofs.YtfligklljkcbfaaGreatDoor
