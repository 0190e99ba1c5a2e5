/- The walk's own words: indexes, results in variables, sums that do not wrap, slices that are read. Over any program. -/
import Derived.Test.YtfligklljkcbfaaGreatDoorTwDraw
namespace Go.Tw
set_option linter.unusedSimpArgs false
set_option linter.unusedVariables false
set_option linter.unusedSectionVars false
open Go.RowKit

theorem wrap_in_i64 (x : Int) (h1 : -9223372036854775808 ≤ x) (h2 : x ≤ 9223372036854775807) : IntKind.i64.wrap x = x := by simp only [IntKind.wrap_i64]; omega
theorem wrap_in_u64 (x : Int) (h1 : 0 ≤ x) (h2 : x ≤ 18446744073709551615) : IntKind.u64.wrap x = x := by simp only [IntKind.wrap_u64]; omega
/-- what is known in the shorter environment is known in the longer one -/
def SubE : Env → Env → Prop
  | [], _ => True
  | (k, v) :: r, E => get E k = some v ∧ SubE r E
theorem sub_of : ∀ {E' E : Env}, SubE E' E → ∀ t v, get E' t = some v → get E t = some v
  | [], _, _, _, _, h => by cases h
  | (k, u) :: r, E, hs, t, v, h => by
    simp only [get, beq_iff] at h
    by_cases e : k = t
    · subst e; simp at h; subst h; exact hs.1
    · simp [e] at h; exact sub_of hs.2 t v h

/-! ### results, some of which lie in variables -/
inductive ResR (P : Program) (w : World) (E : Env) : List ResultVar → List Value → Prop
  | nil : ResR P w E [] []
  | tmp {t : Nat} {v : Value} {r : List ResultVar} {vs : List Value} (h : get E t = some v) (hr : ResR P w E r vs) : ResR P w E (.tmp t :: r) (v :: vs)
  | cell {t : Nat} {T : TypeId} {b : Addr} {v : Value} {r : List ResultVar} {vs : List Value} (h : get E t = some (.pointer (some b))) (hl : (Instr.loadAt T (.pointer (some b))).run P w = .ok v w) (hr : ResR P w E r vs) : ResR P w E (.cell t T :: r) (v :: vs)
theorem res_map {P : Program} {w : World} {n : Nat} {E : Env} {a : Act} (ha : Ag n E a) (g : ResultVar → Sem Value) (hg : ∀ t, g (.tmp t) = pure (a.tmps.getD t undef)) (hg' : ∀ t T, g (.cell t T) = (do loadVar T (← asAddr (a.tmps.getD t undef)))) :
    ∀ (l : List ResultVar) (vs : List Value), ResR P w E l vs → (l.mapM g).run P w = .ok vs w := by
  intro l vs h
  induction h with
  | nil => rfl
  | tmp ht hr ih =>
    rename_i t v r vs
    rw [List.mapM_cons, hg]
    simp only [Array.getD_eq_getD_getElem?, ha.vals t v ht, Option.getD_some, pure_bind, Sem.run_bind, ih, Result.andThen_ok, Sem.run_pure]
  | cell ht hl hr ih =>
    rename_i t T b v r vs
    rw [List.mapM_cons, hg']
    have h1 : (loadVar T b).run P w = .ok v w := by
      have := hl
      unfold Instr.loadAt Instr.sureAddr at this
      simpa using this
    simp only [Array.getD_eq_getD_getElem?, ha.vals t _ ht, Option.getD_some, asAddr, pure_bind, Sem.run_bind, h1, ih, Result.andThen_ok, Sem.run_pure]
theorem res_run {P : Program} {w : World} {n : Nat} {E : Env} {a : Act} {fn : Func} {vs : List Value} {v : Value} (ha : Ag n E a) (h : ResR P w E fn.results.toList vs) (hv : shut vs = v) : (results fn a.tmps).run P w = .ok v w := by
  subst hv
  unfold results
  rw [Array.mapM_eq_mapM_toList]
  simp only [Sem.run_bind, Sem.run_map]
  rw [res_map ha _ (fun _ => rfl) (fun _ _ => rfl) _ _ h]
  match vs with
  | [] => rfl
  | [v] => rfl
  | _ :: _ :: _ => rfl

/-! ### indexes -/
def idxE (P : Program) (n : Nat) (ops : Array Oper) (i : Nat) (E : Env) : Option (Value × Value × Nat × Nat) :=
  match ops[i]? with
  | none => none
  | some o => match wantE ops E o with
    | some true => bif known E o.op then match o.op, o.dst with
        | .indexAddr t x j, some d => bif Nat.blt d n then match P.underlying t with
            | some (.slice e) => bif (P.info? e).isSome then some (rho E x, rho E j, P.cellsOf e, d) else none
            | _ => none
          else none
        | _, _ => none
      else none
    | _ => none
section
variable {P : Program} {n : Nat} {ops : Array Oper} {Q : Exit → Act → World → Prop} {S : World → Prop} {i : Nat} {E E' : Env} {w w' w0 : World} {F0 : List Nat} {M : List (Nat × Obj)} {Fs : List (List Nat)}
theorem run_sizeOf' {t : TypeId} (h : (P.info? t).isSome = true) : (sizeOf t).run P w = .ok (P.cellsOf t) w := by
  obtain ⟨i, hi⟩ := Option.isSome_iff_exists.1 h
  unfold sizeOf
  rw [Sem.run_bind]
  simp [typeInfo, program, Sem.run, hi, Program.cellsOf]
theorem idx_run {A : Option Addr} {ln cp sz d : Nat} {k : IntKind} {jv : Int} (hq : idxE P n ops i E = some (.slice A ln cp, .int k jv, sz, d)) {b off : Nat} (hA : A = some ⟨b, off, none⟩) {j : Nat} (hj : jv = (j : Int)) (hlt : j < ln) {o2 : Nat} (ho2 : off + j * sz = o2) :
    ∃ o, ops[i]? = some o ∧ wantE ops E o = some true ∧ known E o.op = true ∧ o.dst = some d ∧ d < n ∧ ∀ w, (execOp (rho E) o).run P w = .ok (.value (.pointer (some ⟨b, o2, none⟩))) w := by
  subst hA hj ho2
  unfold idxE at hq
  split at hq
  · cases hq
  · rename_i o ho
    split at hq
    · rename_i hw
      cases hk : known E o.op
      · rw [hk] at hq; simp at hq
      · rw [hk] at hq
        simp only [cond_true] at hq
        split at hq
        · rename_i t x j' d' hop hdst
          cases hb : Nat.blt d' n
          · rw [hb] at hq; simp at hq
          · rw [hb] at hq
            simp only [cond_true] at hq
            split at hq
            · rename_i e hu
              cases hs : (P.info? e).isSome
              · rw [hs] at hq; simp at hq
              · rw [hs] at hq
                simp only [cond_true, Option.some.injEq, Prod.mk.injEq] at hq
                obtain ⟨hx, hjj, rfl, rfl⟩ := hq
                refine ⟨o, ho, hw, hk, hdst, lt_of_blt hb, fun w => ?_⟩
                unfold execOp
                simp only [hop, hx, hjj]
                unfold Instr.indexAt
                simp only [Sem.run_bind, asIntOf, Sem.run_pure, Result.andThen_ok, run_underlying hu]
                have hlt' : (j : Int) < (ln : Int) := by omega
                have h0 : (0 : Int) ≤ (j : Int) := by omega
                simp only [Result.andThen_ok, Sem.run_bind, Sem.run_pure, h0, hlt', and_self, if_true, run_sizeOf' hs, Int.toNat_natCast, add_at]
            · cases hq
        · cases hq
    · cases hq
theorem WLi (A : Option Addr) (ln cp d : Nat) (k : IntKind) (jv : Int) (b off j : Nat) (sz : Nat) (hq : idxE P n ops i E = some (.slice A ln cp, .int k jv, sz, d)) (hA : A = some ⟨b, off, none⟩) (hj : jv = (j : Int)) (hlt : j < ln) (o2 : Nat) (ho2 : off + j * sz = o2)
    (h : WL P n ops Q (i + 1) ((d, .pointer (some ⟨b, o2, none⟩)) :: E) w) : WL P n ops Q i E w := by
  obtain ⟨o, ho, hw, hk, hdst, hd, hr⟩ := idx_run hq hA hj hlt ho2
  refine WL.value ho hw hk (fun x hx => by rw [hdst] at hx; cases hx; exact hd) (hr w) ?_
  rw [hdst]; exact h
theorem WDi {fuel : Nat} {listed : Array Bool} (hN : NoPanic Q) (i : Nat) (A : Option Addr) (ln cp d : Nat) (k : IntKind) (jv : Int) (b off j : Nat) (sz : Nat) (ht : takeB ops listed i = true) (hq : idxE P n ops i E = some (.slice A ln cp, .int k jv, sz, d)) (hA : A = some ⟨b, off, none⟩) (hj : jv = (j : Int)) (hlt : j < ln) (o2 : Nat) (ho2 : off + j * sz = o2) (hS : S w)
    (h : WD P n ops Q S fuel (listed.setIfInBounds i true) ((d, .pointer (some ⟨b, o2, none⟩)) :: E) w) : WD P n ops Q S (fuel + 1) listed E w := by
  obtain ⟨o, ho, hw, hk, hdst, hd, hr⟩ := idx_run hq hA hj hlt ho2
  refine WD.take_of hN i ht ho (fun x hx => by rw [hdst] at hx; cases hx; exact hd) (v := .pointer (some ⟨b, o2, none⟩)) (fun a ha => .inl ⟨ha.want hw, fun w _ => by rw [ha.exec o hk]; exact hr w⟩) hS ?_
  rw [hdst]; exact h
end

/-! ### slices that are read -/
/-- from address A on lie the elements xs, each as 'enc' says, sz cells each -/
structure Rd {α : Type} (w : World) (sz : Nat) (enc : α → List Value) (A : Option Addr) (xs : List α) : Prop where
  at_ : ∀ i x, xs[i]? = some x → ∃ b off, A = some ⟨b, off, none⟩ ∧ ∀ j u, (enc x)[j]? = some u → w.cell? ⟨b, off + i * sz + j, none⟩ = some u
theorem Rd.fr {α : Type} {w w' : World} {sz : Nat} {enc : α → List Value} {A : Option Addr} {xs : List α} (h : Rd w sz enc A xs) (hf : Fr w w' []) : Rd w' sz enc A xs :=
  ⟨fun i x hx => let ⟨b, off, hA, hc⟩ := h.at_ i x hx; ⟨b, off, hA, fun j u hu => hf.cell (hc j u hu) (by simp)⟩⟩
theorem Rd.nil {α : Type} (w : World) (sz : Nat) (enc : α → List Value) (A : Option Addr) : Rd w sz enc A ([] : List α) := ⟨fun i x hx => by simp at hx⟩
theorem Rd.add {α : Type} {w : World} {sz : Nat} {enc : α → List Value} {A : Option Addr} {xs : List α} (h : Rd w sz enc A xs) (i : Nat) {x : α} (hx : xs[i]? = some x) :
    ∃ b off, A = some ⟨b, off, none⟩ ∧ ∀ j u, (enc x)[j]? = some u → w.cell? ⟨b, off + i * sz + j, none⟩ = some u := h.at_ i x hx
theorem get_some {α : Type} {xs : List α} {i : Nat} (h : i < xs.length) : ∃ x, xs[i]? = some x := ⟨xs[i], List.getElem?_eq_getElem h⟩
/-- a struct of which each cell is known -/
theorem run_rdN {P : Program} {w : World} {t : TypeId} {b off : Nat} {l : List Value} (ht : aggB P t = some true) (hn : P.cellsOf t = l.length) (hc : ∀ j u, l[j]? = some u → w.cell? ⟨b, off + j, none⟩ = some u) :
    (Instr.loadAt t (.pointer (some ⟨b, off, none⟩))).run P w = .ok (.agg l.toArray) w :=
  run_loadN ht (by simpa using hn) fun j hj => by
    have hj' : j < l.length := by simpa using hj
    rw [hc j l[j] (by simp [hj'])]
    simp [hj']
theorem flat_get {α : Type} {enc : α → List Value} {sz : Nat} (hl : ∀ x, (enc x).length = sz) : ∀ (xs : List α) (i : Nat) (x : α), xs[i]? = some x → ∀ j u, (enc x)[j]? = some u → (xs.flatMap enc)[i * sz + j]? = some u
  | [], i, x, h, _, _, _ => by simp at h
  | y :: ys, 0, x, h, j, u, hu => by
    simp at h; subst h
    have hj : j < (enc y).length := (List.getElem?_eq_some_iff.1 hu).1
    simp only [List.flatMap_cons, Nat.zero_mul, Nat.zero_add]
    rw [List.getElem?_append_left hj]; exact hu
  | y :: ys, i + 1, x, h, j, u, hu => by
    simp at h
    simp only [List.flatMap_cons]
    rw [List.getElem?_append_right (by rw [hl, Nat.add_mul]; omega), hl]
    have := flat_get hl ys i x h j u hu
    rw [show (i + 1) * sz + j - sz = i * sz + j from by rw [Nat.add_mul]; omega]
    exact this
theorem Rd.blk {α : Type} {w : World} {sz b : Nat} {enc : α → List Value} {xs : List α} {c : Array Value} {T : TypeId} {fz : Nat × Nat} (h : w.heap[b]? = some (.cells c T fz)) (hl : ∀ x, (enc x).length = sz) (hc : c.toList = xs.flatMap enc) : Rd w sz enc (some ⟨b, 0, none⟩) xs :=
  ⟨fun i x hx => ⟨b, 0, rfl, fun j u hu => by
    rw [cell_blk h]
    have := flat_get hl xs i x hx j u hu
    rw [← hc] at this
    simpa using this⟩⟩
def encI (k : IntKind) (x : Int) : List Value := [.int k x]
theorem encI_len (k : IntKind) (x : Int) : (encI k x).length = 1 := rfl
theorem encI_one (k : IntKind) (x : Int) : (encI k x).all Value.oneCell' = true := rfl
theorem lt_of_get {α : Type} {xs : List α} {i : Nat} {x : α} (h : xs[i]? = some x) : i < xs.length := (List.getElem?_eq_some_iff.1 h).1
/-- error values -/
def errV (t : TypeId) (c : Int) : Value := if c = 0 then .nilIface else .iface t (.int .i64 c)
end Go.Tw
