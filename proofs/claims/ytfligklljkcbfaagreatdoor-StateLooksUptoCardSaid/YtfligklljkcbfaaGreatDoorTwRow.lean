/- The walk's own words: rows of the call's own: append, elements. Over any program. -/
import Derived.Test.YtfligklljkcbfaaGreatDoorTwMore
import Derived.Maps.AppendAt
import Derived.Laws.OwnMore
namespace Go.Tw
set_option linter.unusedSimpArgs false
set_option linter.unusedVariables false
set_option linter.unusedSectionVars false
open Go.RowKit

def blk (v : Value) : List Nat := match v.ownBlock with | some b => [b] | none => []
theorem mem_blk {v : Value} {x : Nat} : x ∈ blk v ↔ v.ownBlock = some x := by
  unfold blk
  cases v.ownBlock <;> simp [eq_comm]
section
variable {P : Program} {w w' w0 : World} {F0 : List Nat} {M : List (Nat × Obj)} {Fs : List (List Nat)} {base e sz n : Nat} {v : Value} {xs : List Value} {F : List Nat}
theorem own_block (h : w.ownsRow base e sz v n xs) {k : Nat} (hk : v.ownBlock = some k) : k < w.heap.size ∧ base ≤ k := by
  obtain ⟨_, h2⟩ := h
  rcases h2 with ⟨rfl, _⟩ | ⟨g, cap, cur, rfl, hg, hh, _⟩
  · cases hk
  · simp [Value.ownBlock] at hk; subst hk; exact ⟨lt_of_heap hh, hg⟩
theorem own_lt (h : w.ownsRow base e sz v n xs) : ∀ x ∈ blk v, x < w.heap.size := fun _ hx => (own_block h (mem_blk.1 hx)).1
theorem own_ge (h : w.ownsRow base e sz v n xs) : ∀ x ∈ blk v, base ≤ x := fun _ hx => (own_block h (mem_blk.1 hx)).2
theorem own_fr (h : w.ownsRow base e sz v n xs) (hf : Fr w w' F) (hd : ∀ x ∈ blk v, x ∉ F) : w'.ownsRow base e sz v n xs := by
  obtain ⟨h1, h2⟩ := h
  refine ⟨h1, ?_⟩
  rcases h2 with h2 | ⟨g, cap, cur, rfl, hg, hh, r⟩
  · exact .inl h2
  · exact .inr ⟨g, cap, cur, rfl, hg, hf.has hh (hd g (mem_blk.2 rfl)), r⟩
theorem own_nil (w : World) (base e sz : Nat) : w.ownsRow base e sz (.slice none 0 0) 0 [] := ⟨by simp, .inl ⟨rfl, rfl⟩⟩
theorem own_base {b' : Nat} (h : w.ownsRow base e sz v n xs) (hb : ∀ x ∈ blk v, b' ≤ x) : w.ownsRow b' e sz v n xs := by
  obtain ⟨h1, h2⟩ := h
  refine ⟨h1, ?_⟩
  rcases h2 with h2 | ⟨g, cap, cur, rfl, hg, r⟩
  · exact .inl h2
  · exact .inr ⟨g, cap, cur, rfl, hb g (mem_blk.2 rfl), r⟩
theorem own_form (h : w.ownsRow base e sz v n xs) : ∃ A c, v = .slice A n c ∧ n ≤ c := by
  obtain ⟨_, h2⟩ := h
  rcases h2 with ⟨rfl, rfl⟩ | ⟨g, cap, cur, rfl, _, _, hc, _⟩
  · exact ⟨_, _, rfl, Nat.le_refl _⟩
  · exact ⟨_, _, rfl, hc⟩
theorem own_cells {A : Option Addr} {c : Nat} (h : w.ownsRow base e sz (.slice A n c) n xs) : ∀ j u, xs[j]? = some u → ∃ g, A = some ⟨g, 0, none⟩ ∧ w.cell? ⟨g, j, none⟩ = some u := by
  intro j u hu
  obtain ⟨h1, h2⟩ := h
  rcases h2 with ⟨_, rfl⟩ | ⟨g, cap, cur, hv, _, hh, hc, _, hs, ht⟩
  · simp at h1; subst h1; simp at hu
  · simp at hv
    obtain ⟨rfl, rfl⟩ := hv
    refine ⟨g, rfl, ?_⟩
    rw [cell_blk hh]
    rw [← ht] at hu
    have := List.getElem?_eq_some_iff.1 hu
    obtain ⟨hj, _⟩ := this
    rw [List.length_take] at hj
    rw [List.getElem?_take_of_lt (by omega)] at hu
    simpa using hu
/-- a row of the call's own, read -/
theorem own_rd {α : Type} {enc : α → List Value} {ys : List α} {A : Option Addr} {c : Nat} (h : w.ownsRow base e sz (.slice A n c) n (ys.flatMap enc)) (hl : ∀ x, (enc x).length = sz) (hz : 0 < sz) : Rd w sz enc A ys := by
  refine ⟨fun i x hx => ?_⟩
  have hpos : 0 < (enc x).length := by rw [hl]; omega
  have h0 := flat_get hl ys i x hx 0 (enc x)[0] (by simp [hpos])
  obtain ⟨g, rfl, _⟩ := own_cells h _ _ h0
  refine ⟨g, 0, rfl, fun j u hu => ?_⟩
  obtain ⟨g', hg', hc⟩ := own_cells h _ _ (flat_get hl ys i x hx j u hu)
  simp at hg'
  subst hg'
  simpa using hc
def rowTy (P : Program) (t e sz bytes : Nat) : Bool := match P.underlying t, P.info? e with
  | some (.slice e'), some i => Nat.beq e' e && Nat.beq i.size sz && Nat.beq i.bytes bytes && (match i.zero with | some z => Nat.beq z.cells.size sz | none => false) && Nat.blt 0 sz
  | _, _ => false
theorem rowTy_spec {t e sz bytes : Nat} (h : rowTy P t e sz bytes = true) : P.underlying t = some (.slice e) ∧ ∃ i z, P.info? e = some i ∧ i.zero = some z ∧ i.size = sz ∧ i.bytes = bytes ∧ z.cells.size = sz ∧ 0 < sz := by
  unfold rowTy at h
  split at h
  · rename_i e' i hu hi
    simp only [Bool.and_eq_true] at h
    obtain ⟨⟨⟨⟨h1, h2⟩, h3⟩, h4⟩, h5⟩ := h
    have := Nat.eq_of_beq_eq_true h1
    subst this
    refine ⟨hu, i, ?_⟩
    split at h4
    · rename_i z hz
      exact ⟨z, hi, hz, Nat.eq_of_beq_eq_true h2, Nat.eq_of_beq_eq_true h3, Nat.eq_of_beq_eq_true h4, lt_of_blt h5⟩
    · cases h4
  · cases h
/-- a builtin's call -/
def bltE (n : Nat) (ops : Array Oper) (i : Nat) (E : Env) : Option (Builtin × List Value × List TypeId × Nat) :=
  match ops[i]? with
  | none => none
  | some o => match wantE ops E o with
    | some true => bif known E o.op then match o.op, o.dst with
        | .call cl, some d => match cl.callee with
          | .builtin b => bif Nat.blt d n then some (b, cl.args.toList.map (rho E), cl.argTypes.toList, d) else none
          | _ => none
        | _, _ => none
      else none
    | _ => none
variable {nn : Nat} {ops : Array Oper} {Q : Exit → Act → World → Prop} {S : World → Prop} {i : Nat} {E E' : Env}
theorem bltE_spec {b : Builtin} {xs : List Value} {ts : List TypeId} {d : Nat} (h : bltE nn ops i E = some (b, xs, ts, d)) : ∃ o cl, ops[i]? = some o ∧ wantE ops E o = some true ∧ known E o.op = true ∧ o.dst = some d ∧ d < nn ∧
    o.op = .call cl ∧ cl.callee = .builtin b ∧ cl.args.map (rho E) = xs.toArray ∧ cl.argTypes = ts.toArray := by
  unfold bltE at h
  split at h
  · cases h
  · rename_i o ho
    split at h
    · rename_i hw
      cases hk : known E o.op
      · rw [hk] at h; simp at h
      · rw [hk] at h
        simp only [cond_true] at h
        split at h
        · rename_i cl d' hop hdst
          split at h
          · rename_i b' hc
            cases hb : Nat.blt d' nn
            · rw [hb] at h; simp at h
            · rw [hb] at h
              simp only [cond_true, Option.some.injEq, Prod.mk.injEq] at h
              obtain ⟨rfl, rfl, rfl, rfl⟩ := h
              exact ⟨o, cl, ho, hw, hk, hdst, lt_of_blt hb, hop, hc, by apply Array.ext'; simp, by simp⟩
          · cases h
        · cases h
    · cases h
theorem blt_run {o : Oper} {cl : Call} {b : Builtin} {xs : List Value} {ts : List TypeId} (hop : o.op = .call cl) (hc : cl.callee = .builtin b) (hx : cl.args.map (rho E) = xs.toArray) (ht : cl.argTypes = ts.toArray) :
    ∃ cs, ∀ w, (execOp (rho E) o).run P w = (builtin b ts.toArray o.type cs xs.toArray).run P w := by
  refine ⟨cl.args.map fun | .const _ => true | _ => false, fun w => ?_⟩
  unfold execOp
  simp only [hop]
  unfold resolve
  simp only [hc, hx, ht]
  rfl
theorem appE_spec {t d : Nat} {x y : Value} (h : bltE nn ops i E = some (.append, [x, y], [t, t], d)) : ∃ o, ops[i]? = some o ∧ wantE ops E o = some true ∧ known E o.op = true ∧ o.dst = some d ∧ d < nn ∧
    ∀ w v' w', (Builtin.append_ #[t, t] o.type #[x, y]).run P w = .ok v' w' → (execOp (rho E) o).run P w = .ok (.value v') w' := by
  obtain ⟨o, cl, ho, hw, hk, hdst, hd, hop, hc, hx, ht⟩ := bltE_spec h
  obtain ⟨cs, hrun⟩ := blt_run (P := P) hop hc hx ht
  refine ⟨o, ho, hw, hk, hdst, hd, fun w v' w' hr => ?_⟩
  rw [hrun]
  simp [builtin, hr, Result.andThen]
theorem fr_grown {row : Option Nat} (h : w.grownBy w' row) (hv : v.ownBlock = row) (hd : DR → w.drawn ≤ w'.drawn) : Fr w w' (blk v) :=
  ⟨h.os, h.tape, h.output, h.size, fun k hk hn => h.block k hk (fun e => hn (mem_blk.2 (hv.trans e.symm))), hd⟩
/-- append(v, ..): v a row of the call's own (or nil), the new cells wherever they lie -/
theorem WL.append (hC : Cx w0 F0 w M Fs) (j : Nat) (hj : Fs[j]? = some (blk v)) (t e sz bytes n m c : Nat) (ad : Addr) (d : Nat) (hty : rowTy P t e sz bytes = true) (hq : bltE nn ops i E = some (.append, [v, .slice (some ad) m c], [t, t], d))
    (hown : w.ownsRow 0 e sz v n xs) (news : List Value) (hl : news.length = m * sz) (hnews : ∀ j u, news[j]? = some u → w.cell? (ad.add j) = some u) (h1 : news.all Value.oneCell' = true) (h63 : n + m ≤ maxLen) (hbytes : (n + m) * bytes ≤ 140737488355328)
    (h : ∀ v' w', w'.ownsRow 0 e sz v' (n + m) (xs ++ news) → Fr w w' (blk v) → Cx w0 F0 w' M (Fs.set j (blk v')) → (v' = .slice none 0 0 ↔ v = .slice none 0 0 ∧ m = 0) → (∀ x ∈ blk v', x ∈ blk v ∨ w.heap.size ≤ x) → WL P nn ops Q (i + 1) ((d, v') :: E) w') : WL P nn ops Q i E w := by
  obtain ⟨hu, inf, z, hi, hz, hs, hb, hzs, hpos⟩ := rowTy_spec hty
  obtain ⟨o, ho, hw, hk, hdst, hd, hrun⟩ := appE_spec (P := P) hq
  obtain ⟨v', w', hr, hown', hgrow, hnil, hat⟩ := run_append_own_at (P := P) w 0 t o.type e inf z sz bytes hu hi hz hs hb hzs hpos v n xs hown ad m c news hl hnews (fun u hu => by simpa using (List.all_eq_true.1 h1) u hu) h63 hbytes (Nat.zero_le _)
  have hfr : Fr w w' (blk v) := fr_grown hgrow rfl (fun _ => run_drawn _ _ _ _ hr)
  have hsub : ∀ x ∈ blk v', x ∈ blk v ∨ w.heap.size ≤ x := fun x hx => by
    rw [mem_blk] at hx
    rcases hat with hat | hat
    · exact .inl (mem_blk.2 (hat ▸ hx))
    · rw [hat] at hx; simp at hx; exact .inr (by omega)
  refine WL.value ho hw hk (fun x hx => by rw [hdst] at hx; cases hx; exact hd) (hrun _ _ _ hr) ?_
  rw [hdst]
  exact h v' w' hown' hfr (hC.callF j hj hfr hsub (own_lt hown')) hnil hsub
/-- a new footprint without a block -/
theorem Cx.addNil (h : Cx w0 F0 w M Fs) : Cx w0 F0 w M (Fs ++ [[]]) := h.callN (.refl _ _) (by simp) (by simp)
theorem Cx.apartM (h : Cx w0 F0 w M Fs) (j k : Nat) {b : Nat} {o : Obj} (hj : Fs[j]? = some F) (hk : M[k]? = some (b, o)) : ∀ x ∈ F, x ∉ [b] := by
  intro x hx hb
  simp at hb
  subst hb
  exact h.apart F (List.mem_of_getElem? hj) _ (List.mem_of_getElem? hk) hx
theorem Cx.notin (h : Cx w0 F0 w M Fs) (j k : Nat) {b : Nat} {o : Obj} (hj : Fs[j]? = some F) (hk : M[k]? = some (b, o)) : b ∉ F := h.apart F (List.mem_of_getElem? hj) _ (List.mem_of_getElem? hk)
theorem Cx.geF (h : Cx w0 [] w M Fs) (j : Nat) (hj : Fs[j]? = some F) : ∀ x ∈ F, w0.heap.size ≤ x := fun x hx => by
  rcases h.ownF F (List.mem_of_getElem? hj) x hx with h1 | h1
  · simp at h1
  · exact h1
/-- the cells of a block that is known whole, as append wants them -/
theorem news_blk {b : Nat} {c : Array Value} {T : TypeId} {fz : Nat × Nat} (h : w.heap[b]? = some (.cells c T fz)) : ∀ j u, c.toList[j]? = some u → w.cell? ((⟨b, 0, none⟩ : Addr).add j) = some u := by
  intro j u hu
  rw [add_at, cell_blk h]
  simpa using hu
end
end Go.Tw
