/- Loops walked round by round; append's two ways told apart (in place, or in a new block). -/
import Derived.Test.YtkhdliobbbmkoaaTwEqN
namespace Go.Tw
set_option linter.unusedSimpArgs false
set_option linter.unusedVariables false
set_option linter.unusedSectionVars false
open Go.RowKit
section
variable {P : Program} {n : Nat} {c : Code} {Q : Exit → Act → World → Prop} {E E' : Env} {w w' : World}
/-- a loop ahead of its next round -/
def Rounds (P : Program) (n : Nat) (c : Code) (Q : Exit → Act → World → Prop) (E : Env) (w : World) : Prop :=
  ∀ a, Ag n E a → ∀ b k cs, ∃ e a' w', Q e a' w' ∧ Arrives P (lone (b.at a (.code c :: .inLoop c :: k)) cs w) b k cs e a' w'
theorem WC.unroll (h : Rounds P n c Q E w) : WC P n (.loop c) Q E w := fun a ha b k cs => by
  obtain ⟨e, a', w', hq, harr⟩ := h a ha b k cs
  exact ⟨e, a', w', hq, .of_steps (.one step_loop) harr⟩
theorem Rounds.round (h : ∀ K : Act → World → Prop, (∀ E' w', Rounds P n c Q E' w' → ∀ a, Ag n E' a → K a w') → WC P n c (Exit.then K Q) E w) : Rounds P n c Q E w := fun a ha b k cs => by
  obtain ⟨e, a1, w1, hq, harr⟩ := h (fun a w => ∀ b k cs, ∃ e a' w', Q e a' w' ∧ Arrives P (lone (b.at a (.code c :: .inLoop c :: k)) cs w) b k cs e a' w') (fun E' w' hR a ha => hR a ha) a ha b (.inLoop c :: k) cs
  cases e with
  | normal =>
    obtain ⟨e2, a2, w2, hq2, harr2⟩ := hq b k cs
    exact ⟨e2, a2, w2, hq2, .of_steps (Steps.trans harr (.one step_inLoop)) harr2⟩
  | exit id => exact ⟨_, a1, w1, hq, .pass (x := .inLoop c) rfl (fun _ _ => .inl (by simp)) harr⟩
  | goto l => exact ⟨_, a1, w1, hq, .pass (x := .inLoop c) rfl (fun _ _ => .inl (by simp)) harr⟩
  | ret => exact ⟨_, a1, w1, hq, .pass (x := .inLoop c) rfl (fun _ _ => .inl (by simp)) harr⟩
  | panic ch => exact ⟨_, a1, w1, hq, .pass (x := .inLoop c) rfl (fun _ _ => .inl (by simp)) harr⟩
  | outgrown => exact ⟨_, a1, w1, hq, .pass (x := .inLoop c) rfl (fun _ _ => .inl (by simp)) harr⟩
end
section
variable {P : Program} {w0 w w' : World} {F0 : List Nat} {M : List (Nat × Obj)} {Fs : List (List Nat)}
/-- append: where the row has room the same header but longer, else a new block, and nothing old is turned -/
theorem app_ways (t ty e sz bytes nn m c : Nat) (ad : Addr) {v : Value} {xs : List Value} (hty : rowTy P t e sz bytes = true)
    (hown : w.ownsRow 0 e sz v nn xs) (news : List Value) (hl : news.length = m * sz) (hnews : ∀ j u, news[j]? = some u → w.cell? (ad.add j) = some u) (h1 : news.all Value.oneCell' = true) (h63 : nn + m ≤ maxLen) (hbytes : (nn + m) * bytes ≤ 140737488355328) :
    ∃ v' w', (Builtin.append_ #[t, t] ty #[v, .slice (some ad) m c]).run P w = .ok v' w' ∧ w'.ownsRow 0 e sz v' (nn + m) (xs ++ news) ∧ Fr w w' (blk v) ∧ (∀ x ∈ blk v', x ∈ blk v ∨ w.heap.size ≤ x) ∧
      ((∃ A c, v = .slice A nn c ∧ v' = .slice A (nn + m) c) ∨ (Fr w w' [] ∧ ∀ x ∈ blk v', w.heap.size ≤ x)) := by
  obtain ⟨hu, inf, z, hi, hz, hs, hb, hzs, hpos⟩ := rowTy_spec hty
  have h1' : ∀ u ∈ news, u.oneCell' = true := fun u hu => by simpa using (List.all_eq_true.1 h1) u hu
  obtain ⟨v', w', hr, hown', hgrow, hnil, hat⟩ := run_append_own_at (P := P) w 0 t ty e inf z sz bytes hu hi hz hs hb hzs hpos v nn xs hown ad m c news hl hnews h1' h63 hbytes (Nat.zero_le _)
  have hfr : Fr w w' (blk v) := fr_grown hgrow rfl (fun _ => run_drawn _ _ _ _ hr)
  have hsub : ∀ x ∈ blk v', x ∈ blk v ∨ w.heap.size ≤ x := fun x hx => by
    rw [mem_blk] at hx
    rcases hat with hat | hat
    · exact .inl (mem_blk.2 (hat ▸ hx))
    · rw [hat] at hx; simp at hx; exact .inr (by omega)
  refine ⟨v', w', hr, hown', hfr, hsub, ?_⟩
  have hsmall : nn + m ≤ 9223372036854775807 := by simp only [maxLen] at h63; omega
  subst hs; subst hb
  rcases hown.2 with ⟨rfl, rfl⟩ | ⟨g, cap, cur, rfl, hbg, hg, hnc, hcm, hcs, htake⟩
  · exact .inr ⟨hfr, fun x hx => (hsub x hx).elim (fun h => by simp [blk, Value.ownBlock] at h) id⟩
  · by_cases hroom : nn + m ≤ cap
    · have hfit : nn * inf.size + news.length ≤ cur.size := by rw [hl, hcs, ← Nat.add_mul]; exact Nat.mul_le_mul_right _ hroom
      have hr2 := run_append_room (P := P) w t ty e inf hu hi g nn cap cur hg ad m c news hl hnews h1' hroom hfit
      rw [hr] at hr2
      injection hr2 with ha hb
      exact .inl ⟨_, _, rfl, ha⟩
    · have holds : ∀ j u, xs[j]? = some u → w.cell? ((⟨g, 0, none⟩ : Addr).add j) = some u := hown.cells (g := g) rfl
      have hr2 := run_append_grow (P := P) w t ty e inf z hu hi hz ⟨g, 0, none⟩ nn cap xs hown.1 holds ad m c news hl hnews (by omega) (by omega) (growslice_fits (by omega) hbytes)
      rw [hr] at hr2
      injection hr2 with ha hb
      subst ha; subst hb
      exact .inr ⟨(Fr.drew w).trans (Fr.alloc _ _) (by simp), fun x hx => by simp [blk, Value.ownBlock] at hx; omega⟩
/-- a list's old header and the row as it has grown: it lies where it lay, or apart from it -/
structure Grp (w : World) (e : Nat) (f : Nat → List Value) (A0 : Option Addr) (n c0 : Nat) (A : Option Addr) (m c : Nat) : Prop where
  own : w.ownsRow 0 e 1 (.slice A m c) m ((List.range m).flatMap f)
  old : w.ownsRow 0 e 1 (.slice A0 n c0) n ((List.range n).flatMap f)
  le : n ≤ m
  one : ∀ j, (f j).length = 1
  way : (A = A0 ∧ c = c0) ∨ ∀ x ∈ blk (.slice A m c), x ∉ blk (.slice A0 n c0)
theorem Grp.start {e : Nat} {f : Nat → List Value} {A : Option Addr} {n c : Nat} (h1 : ∀ j, (f j).length = 1) (h : w.ownsRow 0 e 1 (.slice A n c) n ((List.range n).flatMap f)) : Grp w e f A n c A n c := ⟨h, h, Nat.le_refl _, h1, .inl ⟨rfl, rfl⟩⟩
theorem Grp.carry {e : Nat} {f : Nat → List Value} {A0 A : Option Addr} {n c0 m c : Nat} {F : List Nat} (h : Grp w e f A0 n c0 A m c) (hf : Fr w w' F) (hd : ∀ x ∈ blk (.slice A0 n c0) ++ blk (.slice A m c), x ∉ F) : Grp w' e f A0 n c0 A m c :=
  ⟨own_fr h.own hf (fun x hx => hd x (List.mem_append.2 (.inr hx))), own_fr h.old hf (fun x hx => hd x (List.mem_append.2 (.inl hx))), h.le, h.one, h.way⟩
theorem grp_app (hC : Cx w0 F0 w M Fs) (j : Nat) {e : Nat} {f : Nat → List Value} {A0 A : Option Addr} {n c0 m c : Nat} (hj : Fs[j]? = some (blk (.slice A0 n c0) ++ blk (.slice A m c))) (hg : Grp w e f A0 n c0 A m c) (t ty bytes c1 : Nat) (A1 : Option Addr) (hty : rowTy P t e 1 bytes = true)
    (news : List Value) (hl : news.length = 1) (hf : f m = news) (hsrc : srcOk w A1 1 news) (h1 : news.all Value.oneCell' = true) (h63 : m + 1 ≤ maxLen) (hbytes : (m + 1) * bytes ≤ 140737488355328) :
    ∃ A' c' w', (Builtin.append_ #[t, t] ty #[.slice A m c, .slice A1 1 c1]).run P w = .ok (.slice A' (m + 1) c') w' ∧ Grp w' e f A0 n c0 A' (m + 1) c' ∧ Fr w w' (blk (.slice A0 n c0) ++ blk (.slice A m c)) ∧ Cx w0 F0 w' M (Fs.set j (blk (.slice A0 n c0) ++ blk (.slice A' (m + 1) c'))) := by
  obtain ⟨ad, rfl, hnews⟩ : ∃ ad, A1 = some ad ∧ ∀ j u, news[j]? = some u → w.cell? (ad.add j) = some u := by
    rcases hsrc with ⟨ad, h1, h2⟩ | ⟨_, h2, _⟩
    · exact ⟨ad, h1, h2⟩
    · exact absurd h2 (by decide)
  obtain ⟨v', w', hr, hown, hfr, hsub, hways⟩ := app_ways (P := P) t ty e 1 bytes m 1 c1 ad hty hg.own news (by simpa using hl) hnews h1 h63 hbytes
  obtain ⟨A', c', rfl, hle⟩ := own_form hown
  have hcells : (List.range m).flatMap f ++ news = (List.range (m + 1)).flatMap f := by rw [List.range_succ, List.flatMap_append]; simp [hf]
  rw [hcells] at hown
  have hF : Fr w w' (blk (.slice A0 n c0) ++ blk (.slice A m c)) := hfr.mono fun x hx => List.mem_append.2 (.inr hx)
  have hG : Grp w' e f A0 n c0 A' (m + 1) c' := by
    rcases hways with ⟨A2, c2, h2, h3⟩ | ⟨h2, h3⟩
    · simp at h2 h3
      obtain ⟨rfl, rfl⟩ := h2
      obtain ⟨rfl, rfl⟩ := h3
      rcases hg.way with ⟨rfl, rfl⟩ | hd
      · refine ⟨hown, ?_, Nat.le_succ_of_le hg.le, hg.one, .inl ⟨rfl, rfl⟩⟩
        have h4 := own_take hown (Nat.le_succ_of_le hg.le)
        rw [flat_take hg.one, List.take_range, Nat.min_eq_left (Nat.le_succ_of_le hg.le)] at h4
        exact h4
      · exact ⟨hown, own_fr hg.old hfr (fun x hx hx2 => hd x hx2 hx), Nat.le_succ_of_le hg.le, hg.one, .inr (fun x hx => hd x (by rw [blk_n _ _ _ (m + 1) c']; exact hx))⟩
    · exact ⟨hown, own_fr hg.old h2 (by simp), Nat.le_succ_of_le hg.le, hg.one, .inr (fun x hx hx2 => by have h5 := h3 x hx; have h6 := own_lt hg.old x hx2; omega)⟩
  exact ⟨A', c', w', hr, hG, hF, hC.callF j hj hF (fun x hx => (List.mem_append.1 hx).elim (fun h => .inl (List.mem_append.2 (.inl h))) (fun h => (hsub x h).imp (fun h => List.mem_append.2 (.inr h)) id)) (fun x hx => (List.mem_append.1 hx).elim (own_lt hG.old x) (own_lt hG.own x))⟩
end
end Go.Tw
