/- slices.Delete's memory: an append in place of a row's own tail, a slice with a bound on its room. -/
import Derived.Test.YtfligklljkcbfaaGreatDoorTwUnr
import Derived.Test.YtfligklljkcbfaaGreatDoorTwClr
namespace Go.Tw
set_option linter.unusedSimpArgs false
set_option linter.unusedVariables false
set_option linter.unusedSectionVars false
open Go.RowKit
section
variable {P : Program} {n : Nat} {ops : Array Oper} {Q : Exit → Act → World → Prop} {i : Nat} {E : Env} {w w' w0 : World} {F0 : List Nat} {M : List (Nat × Obj)} {Fs : List (List Nat)}
theorem run_slc3 {t e sz : Nat} (hty : sliceTy P t e sz = true) {A : Option Addr} {nn c l h m : Nat} {kl kh km : IntKind} {il ih im : Int} (hl : il = (l : Int)) (hh : ih = (h : Int)) (hm : im = (m : Int)) (hlh : l ≤ h) (hhm : h ≤ m) (hmc : m ≤ c) :
    (Instr.sliceAt t (.slice A nn c) (some (.int kl il)) (some (.int kh ih)) (some (.int km im))).run P w = .ok (.slice (slcAt A l m sz) (h - l) (m - l)) w := by
  subst hl hh hm
  obtain ⟨hu, inf, hi', hs⟩ := sliceTy_spec hty
  have hsz : (sizeOf e).run P w = .ok sz w := by unfold sizeOf; rw [Sem.run_bind]; simp [typeInfo, program, Sem.run, hi', hs]
  have hb : (Instr.sliceBounds true nn c (some (.int kl (l : Int))) (some (.int kh (h : Int))) (some (.int km (m : Int)))).run P w = .ok (l, h, m) w := by
    unfold Instr.sliceBounds
    simp [run_bnd hlh, run_bnd hhm, run_bnd hmc]
  simp [Instr.sliceAt, Instr.slice, run_underlying hu, hb, hsz, slcAt]
theorem own_more {base e sz m nn c : Nat} {A : Option Addr} {X : List Value} (h : w.ownsRow base e sz (.slice A m c) m X) (hm : m ≤ nn) (hc : nn ≤ c) : ∃ Y, w.ownsRow base e sz (.slice A nn c) nn Y ∧ Y.take (m * sz) = X := by
  obtain ⟨h1, h2⟩ := h
  rcases h2 with ⟨hv, hn⟩ | ⟨g, cap, cur, hv, hg, hh, hcc, hcm, hs, ht⟩
  · simp at hv; obtain ⟨rfl, rfl, rfl⟩ := hv
    obtain rfl : nn = 0 := by omega
    exact ⟨[], ⟨by simp, .inl ⟨rfl, rfl⟩⟩, by simp at h1 ⊢; exact h1⟩
  · simp at hv; obtain ⟨rfl, rfl⟩ := hv
    exact ⟨cur.toList.take (nn * sz), own_of_blk hg hh hc hcm hs rfl, by rw [List.take_take, Nat.min_eq_left (Nat.mul_le_mul_right _ hm)]; exact ht⟩
theorem app_room (t ty e sz bytes nn m c c1 : Nat) (ad : Addr) {A : Option Addr} {xs : List Value} (hty : rowTy P t e sz bytes = true)
    (hown : w.ownsRow 0 e sz (.slice A nn c) nn xs) (news : List Value) (hl : news.length = m * sz) (hnews : ∀ j u, news[j]? = some u → w.cell? (ad.add j) = some u) (h1 : news.all Value.oneCell' = true) (h63 : nn + m ≤ maxLen) (hbytes : (nn + m) * bytes ≤ 140737488355328) (hroom : nn + m ≤ c) :
    ∃ w', (Builtin.append_ #[t, t] ty #[.slice A nn c, .slice (some ad) m c1]).run P w = .ok (.slice A (nn + m) c) w' ∧ w'.ownsRow 0 e sz (.slice A (nn + m) c) (nn + m) (xs ++ news) ∧ Fr w w' (blk (.slice A nn c)) := by
  obtain ⟨hu, inf, z, hi, hz, hs, hb, hzs, hpos⟩ := rowTy_spec hty
  have h1' : ∀ u ∈ news, u.oneCell' = true := fun u hu => by simpa using (List.all_eq_true.1 h1) u hu
  obtain ⟨v', w', hr, hown', hgrow, hnil, hat⟩ := run_append_own_at (P := P) w 0 t ty e inf z sz bytes hu hi hz hs hb hzs hpos _ nn xs hown ad m c1 news hl hnews h1' h63 hbytes (Nat.zero_le _)
  have hfr : Fr w w' (blk (.slice A nn c)) := fr_grown hgrow rfl (fun _ => run_drawn _ _ _ _ hr)
  have hv : v' = .slice A (nn + m) c := by
    subst hs; subst hb
    rcases hown.2 with ⟨hv, hn0⟩ | ⟨g, cap, cur, hv, hbg, hg, hnc, hcm, hcs, htake⟩
    · simp at hv
      obtain ⟨rfl, rfl, rfl⟩ := hv
      obtain rfl : m = 0 := by omega
      rw [hnil.2 ⟨rfl, rfl⟩]
    · simp at hv
      obtain ⟨rfl, rfl⟩ := hv
      have hfit : nn * inf.size + news.length ≤ cur.size := by rw [hl, hcs, ← Nat.add_mul]; exact Nat.mul_le_mul_right _ hroom
      have hr2 := run_append_room (P := P) w t ty e inf hu hi g nn c cur hg ad m c1 news hl hnews h1' hroom hfit
      rw [hr] at hr2
      injection hr2
  subst hv
  exact ⟨w', hr, hown', hfr⟩
theorem del_app (hC : Cx w0 F0 w M Fs) (j : Nat) {A A2 : Option Addr} {t ty e sz bytes nn c i : Nat} {X : List Value} (hty : rowTy P t e sz bytes = true) (hj : Fs[j]? = some (blk (.slice A nn c)))
    (hown : w.ownsRow 0 e sz (.slice A nn c) nn X) (h1 : X.all Value.oneCell' = true) (hi : i < nn) (hA2 : slcAt A (i + 1) c sz = A2) (h63 : nn ≤ maxLen) (hbytes : nn * bytes ≤ 140737488355328) :
    ∃ Y w', (Builtin.append_ #[t, t] ty #[.slice A i c, .slice A2 (nn - (i + 1)) (c - (i + 1))]).run P w = .ok (.slice A (nn - 1) c) w' ∧ w'.ownsRow 0 e sz (.slice A nn c) nn Y ∧ Y.take ((nn - 1) * sz) = X.take (i * sz) ++ X.drop ((i + 1) * sz) ∧ Fr w w' (blk (.slice A nn c)) ∧ Cx w0 F0 w' M Fs := by
  obtain ⟨g, cur, rfl, hg0, hb, hle, hmax, hsize, htake⟩ := own_blkd hown (by omega)
  have hX := own_len hown
  have hl : (X.drop ((i + 1) * sz)).length = (nn - (i + 1)) * sz := by rw [List.length_drop, hX, Nat.sub_mul]
  obtain ⟨ad, hA, hnews⟩ : ∃ ad, A2 = some ad ∧ ∀ j u, (X.drop ((i + 1) * sz))[j]? = some u → w.cell? (ad.add j) = some u := by
    by_cases hc : c = i + 1
    · refine ⟨⟨g, 0, none⟩, by rw [← hA2]; unfold slcAt; rw [if_pos hc], fun j u hu => ?_⟩
      have := (List.getElem?_eq_some_iff.1 hu).1
      rw [hl, show nn - (i + 1) = 0 from by omega] at this
      omega
    · refine ⟨⟨g, (i + 1) * sz, none⟩, by rw [← hA2]; exact slcAt_blk (by omega) (by omega), fun j u hu => ?_⟩
      rw [List.getElem?_drop] at hu
      rw [add_at, cell_blk hb]
      rw [← htake, List.getElem?_take] at hu
      split at hu
      · simpa using hu
      · cases hu
  subst hA
  have hone2 : (X.drop ((i + 1) * sz)).all Value.oneCell' = true := by
    rw [List.all_eq_true] at h1 ⊢
    exact fun x hx => h1 x (List.mem_of_mem_drop hx)
  obtain ⟨w', hr, ho, hf⟩ := app_room (P := P) t ty e sz bytes i (nn - (i + 1)) c (c - (i + 1)) ad hty (own_take hown (Nat.le_of_lt hi)) _ hl hnews hone2 (by omega) (by rw [show i + (nn - (i + 1)) = nn - 1 from by omega]; exact Nat.le_trans (Nat.mul_le_mul_right _ (Nat.sub_le _ _)) hbytes) (by omega)
  rw [show i + (nn - (i + 1)) = nn - 1 from by omega] at hr ho
  rw [blk_n _ i c nn c] at hf
  obtain ⟨Y, hY, hYt⟩ := own_more ho (Nat.sub_le nn 1) hle
  exact ⟨Y, w', hr, hY, hYt, hf, by
    have h := hC.callF j hj hf (fun x hx => .inl hx) (own_lt hY)
    rwa [show Fs.set j (blk (.slice (some ⟨g, 0, none⟩) nn c)) = Fs from by
      obtain ⟨hlt, e1⟩ := List.getElem?_eq_some_iff.1 hj
      rw [← e1]; exact List.set_getElem_self hlt] at h⟩
end
end Go.Tw
