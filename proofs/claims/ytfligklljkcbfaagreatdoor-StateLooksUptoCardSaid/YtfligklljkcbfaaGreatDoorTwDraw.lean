/- The walk's own words: a region that draws its order: what only reckons or loads is taken first; the rest as it comes. Over any program. -/
import Derived.Test.YtfligklljkcbfaaGreatDoorTwMem
namespace Go.Tw
set_option linter.unusedSimpArgs false
set_option linter.unusedVariables false
set_option linter.unusedSectionVars false
open Go.RowKit

def NoPanic (Q : Exit → Act → World → Prop) : Prop := ∀ c a w, ¬ Q (.panic c) a w
theorem NPt {K : Act → World → Prop} {Q : Exit → Act → World → Prop} (h : NoPanic Q) : NoPanic (Exit.then K Q) := h
theorem NPb {id : Nat} {Q : Exit → Act → World → Prop} (h : NoPanic Q) : NoPanic (Exit.inBlock id Q) := h
/-- the post, where nothing panics -/
def calm (Q : Exit → Act → World → Prop) : Exit → Act → World → Prop
  | .ret, a, w => Q .ret a w
  | .normal, a, w => Q .normal a w
  | _, _, _ => False
theorem enterD {P : Program} {f : FuncId} {fn : Func} {c : Code} {args : Array Value} {w : World} {R : Ending → World → Prop} (n : Nat)
    (hf : P.funcs[f]? = some fn) (hb : fn.body = some c) (hn : fn.ntmps = n) (hsz : args.size ≤ n)
    (h : ∀ Q : Exit → Act → World → Prop, NoPanic Q → (∀ E w' vs, resE E fn.results.toList = some vs → R (.returned (shut vs)) w' → QX n Q .ret E w' ∧ QX n Q .normal E w') →
      (∀ E w' v, (∀ a, Ag n E a → (results fn a.tmps).run P w' = .ok v w') → R (.returned v) w' → QX n Q .ret E w' ∧ QX n Q .normal E w') →
      WC P n c Q (args0 0 args.toList) w) : Calls P f args w R := by
  refine calls_of_wp hf hb ?_
  refine wp_mono (h (calm (bodyPost P fn R)) (fun c a w h => h) ?_ ?_ _ ?_) (fun e a w hq => ?_)
  · intro E w' vs hvs hR
    exact ⟨fun a ha => ⟨ha.defers, _, resE_run ha hvs, hR⟩, fun a ha => ⟨ha.defers, _, resE_run ha hvs, hR⟩⟩
  · intro E w' v hv hR
    exact ⟨fun a ha => ⟨ha.defers, _, hv a ha, hR⟩, fun a ha => ⟨ha.defers, _, hv a ha, hR⟩⟩
  · refine ⟨rfl, by simp [hn]; omega, fun t v ht => ?_⟩
    obtain ⟨_, h2⟩ := get_args0 _ _ _ _ ht
    simp only [Nat.sub_zero] at h2
    have h3 : args[t]? = some v := by simpa using h2
    rw [Array.getElem?_append_left (Array.getElem?_eq_some_iff.1 h3).1]
    exact h3
  · cases e <;> first | exact hq | exact hq.elim

def WD (P : Program) (n : Nat) (ops : Array Oper) (Q : Exit → Act → World → Prop) (S : World → Prop) (fuel : Nat) (listed : Array Bool) (E : Env) (w : World) : Prop :=
  ∀ a, Ag n E a → wpAnyH P .any ops Q S fuel listed a w
section
variable {P : Program} {n : Nat} {ops : Array Oper} {Q : Exit → Act → World → Prop} {S : World → Prop} {E E' : Env} {w w' : World} {fuel : Nat} {listed : Array Bool} {i : Nat}
theorem WC.draw {id : Nat} (S : World → Prop) (hm : P.follows .mixedOrders = true) (h : WD P n ops Q S ops.size (Array.replicate ops.size false) E w.drew) : WC P n (.region id ops true) Q E w :=
  fun a ha => wp_region_held (S := S) hm (h a ha)
theorem WD.weaken (hs : ∀ t v, get E' t = some v → get E t = some v) (h : WD P n ops Q S fuel listed E' w) : WD P n ops Q S fuel listed E w := fun a ha => h a (ha.weaken hs)
theorem WD.recast {d : Nat} {u v : Value} (he : u = v) (h : WD P n ops Q S fuel listed ((d, v) :: E) w) : WD P n ops Q S fuel listed ((d, u) :: E) w := by rw [he]; exact h
theorem WDa (d : Nat) (b : Bool) (hd : get E d = some (.bool b)) (ht : b = true → WD P n ops Q S fuel listed ((d, .bool true) :: E) w) (hf : b = false → WD P n ops Q S fuel listed ((d, .bool false) :: E) w) : WD P n ops Q S fuel listed E w := by
  cases b
  · exact fun a ha => hf rfl a (ha.know hd)
  · exact fun a ha => ht rfl a (ha.know hd)
theorem WD.know (d : Nat) (u v : Value) (hd : get E d = some u) (he : u = v) (h : WD P n ops Q S fuel listed ((d, v) :: E) w) : WD P n ops Q S fuel listed E w := by
  subst he; exact fun a ha => h a (ha.know hd)
theorem WC.drawC {id : Nat} {w0 : World} {F0 : List Nat} {M : List (Nat × Obj)} {Fs : List (List Nat)} (hC : Cx w0 F0 w M Fs) (G : List Nat) (hm : P.follows .mixedOrders = true)
    (h : ∀ w1, Fr w w1 [] → Cx w0 F0 w1 M Fs → Fr w1 w1 G → WD P n ops Q (fun w' => Fr w1 w' G) ops.size (Array.replicate ops.size false) E w1) : WC P n (.region id ops true) Q E w :=
  WC.draw _ hm (h w.drew (.drew w) hC.drew (.refl _ _))
theorem WD.done (hr : Region.ready .any ops listed = []) (h : QX n Q .normal E w) : WD P n ops Q S fuel listed E w := fun a ha => wpAnyH_done hr (h a ha) fuel
theorem WDd (h : QX n Q .normal E w) (hr : Region.ready .any ops listed = [] := by kernel_rfl) : WD P n ops Q S fuel listed E w := WD.done hr h
/-- may number i be taken first -/
def takeB (ops : Array Oper) (listed : Array Bool) (i : Nat) : Bool := Region.noSelect ops && Region.free .any ops listed i && (Region.ready .any ops listed).contains i
theorem WD.take_of (hN : NoPanic Q) (i : Nat) {o : Oper} {v : Value} (ht : takeB ops listed i = true) (ho : ops[i]? = some o) (hd : ∀ x, o.dst = some x → x < n)
    (hy : ∀ a, Ag n E a → YieldsIf P ops S o v a) (hS : S w) (h : WD P n ops Q S fuel (listed.setIfInBounds i true) (putE E o.dst v) w) : WD P n ops Q S (fuel + 1) listed E w := by
  intro a ha
  simp only [takeB, Bool.and_eq_true] at ht
  exact wpAnyH_take ho ht.1.1 ht.1.2 ht.2 (fun c a w hp => absurd hp (hN c _ w)) (hy a ha) hS (h _ (ha.putE hd v))
/-- the value of an operation that only reckons -/
def valE (P : Program) (n : Nat) (ops : Array Oper) (i : Nat) (E : Env) (w : World) : Option (Nat × Value × World) :=
  match ops[i]? with
  | none => none
  | some o => match o.dst with
    | none => none
    | some d => bif Nat.blt d n then match wantE ops E o with
        | none => none
        | some false => some (d, undef, w)
        | some true => bif known E o.op then match (execOp (rho E) o).run P w with
            | .ok (.value v) w' => some (d, v, w')
            | _ => none
          else none
      else none
theorem valE_spec {d : Nat} {v : Value} (h : ∀ w, valE P n ops i E w = some (d, v, w)) : ∃ o, ops[i]? = some o ∧ o.dst = some d ∧ d < n ∧ ∀ S a, Ag n E a → YieldsIf P ops S o v a := by
  have h0 := h default
  cases ho : ops[i]? with
  | none => unfold valE at h0; rw [ho] at h0; cases h0
  | some o =>
    cases hdst : o.dst with
    | none => unfold valE at h0; rw [ho] at h0; simp only [hdst] at h0; cases h0
    | some d' =>
      cases hb : Nat.blt d' n with
      | false => unfold valE at h0; rw [ho] at h0; simp only [hdst, hb, cond_false] at h0; cases h0
      | true =>
        cases hw : wantE ops E o with
        | none => unfold valE at h0; rw [ho] at h0; simp only [hdst, hb, hw, cond_true] at h0; cases h0
        | some b =>
          cases b with
          | false =>
            unfold valE at h0; rw [ho] at h0; simp only [hdst, hb, hw, cond_true, Option.some.injEq, Prod.mk.injEq, and_true] at h0
            obtain ⟨rfl, rfl⟩ := h0
            exact ⟨o, rfl, hdst, lt_of_blt hb, fun S a ha => .inr ⟨ha.want hw, rfl⟩⟩
          | true =>
            cases hk : known E o.op with
            | false => unfold valE at h0; rw [ho] at h0; simp only [hdst, hb, hw, hk, cond_true, cond_false] at h0; cases h0
            | true =>
              have key : ∀ w, d' = d ∧ (execOp (rho E) o).run P w = .ok (.value v) w := by
                intro w
                have h1 := h w
                unfold valE at h1; rw [ho] at h1; simp only [hdst, hb, hw, hk, cond_true] at h1
                split at h1
                · rename_i u w1 hr
                  simp only [Option.some.injEq, Prod.mk.injEq] at h1
                  obtain ⟨rfl, rfl, rfl⟩ := h1
                  exact ⟨rfl, hr⟩
                · cases h1
              obtain rfl := (key default).1
              exact ⟨o, rfl, hdst, lt_of_blt hb, fun S a ha => .inl ⟨ha.want hw, fun w _ => by rw [ha.exec o hk]; exact (key w).2⟩⟩
/-- what only reckons -/
theorem WDp (hN : NoPanic Q) (i : Nat) (d : Nat) (v : Value) (ht : takeB ops listed i = true) (hs : ∀ w, valE P n ops i E w = some (d, v, w)) (hS : S w)
    (h : WD P n ops Q S fuel (listed.setIfInBounds i true) ((d, v) :: E) w) : WD P n ops Q S (fuel + 1) listed E w := by
  obtain ⟨o, ho, hdst, hd, hy⟩ := valE_spec hs
  refine WD.take_of hN i ht ho (fun x hx => by rw [hdst] at hx; cases hx; exact hd) (fun a ha => hy S a ha) hS ?_
  rw [hdst]; exact h
theorem WDq (i : Nat) (d : Nat) (v : Value) (hS : S w) (h : WD P n ops Q S fuel (listed.setIfInBounds i true) ((d, v) :: E) w) (hN : NoPanic Q := by assumption) (ht : takeB ops listed i = true := by kernel_rfl) (hs : ∀ w, valE P n ops i E w = some (d, v, w) := by intro _; kernel_rfl) : WD P n ops Q S (fuel + 1) listed E w := WDp hN i d v ht hs hS h
@[reducible] def pureOk (P : Program) (n : Nat) (ops : Array Oper) : List (Nat × Nat × Value) → Array Bool → Env → Prop
 | [], _, _ => True
 | (i, d, v) :: r, L, E => (takeB ops L i = true ∧ ∀ w, valE P n ops i E w = some (d, v, w)) ∧ pureOk P n ops r (L.setIfInBounds i true) ((d, v) :: E)
@[reducible] def putQ : List (Nat × Nat × Value) → Env → Env
 | [], E => E
 | (_, d, v) :: r, E => putQ r ((d, v) :: E)
def setQ : List (Nat × Nat × Value) → Array Bool → Array Bool
 | [], L => L
 | (i, _, _) :: r, L => setQ r (L.setIfInBounds i true)
theorem WDy (hN : NoPanic Q) : ∀ (l : List (Nat × Nat × Value)) (fuel : Nat) (listed : Array Bool) (E : Env), S w → WD P n ops Q S fuel (setQ l listed) (putQ l E) w → pureOk P n ops l listed E → WD P n ops Q S (fuel + l.length) listed E w
 | [], _, _, _, _, h, _ => h
 | (i, d, v) :: r, fuel, listed, E, hS, h, hp => WDp hN i d v hp.1.1 hp.1.2 hS (WDy hN r fuel _ _ hS h hp.2)
theorem WDx (k : Nat) (l : List (Nat × Nat × Value)) (hS : S w) (h : WD P n ops Q S fuel (setQ l listed) (putQ l E) w) (hN : NoPanic Q := by assumption) (hk : l.length = k := by rfl) (hp : pureOk P n ops l listed E := by repeat (first | exact trivial | refine And.intro (And.intro (by kernel_rfl) (fun _ => by kernel_rfl)) ?_)) : WD P n ops Q S (fuel + k) listed E w := hk ▸ WDy hN l fuel listed E hS h hp
/-- a load whose cell holds its value in every world that meets S -/
theorem WDl (hN : NoPanic Q) (i : Nat) (t : TypeId) (a v : Value) (d : Nat) (ht : takeB ops listed i = true) (hq : askE n ops i E = some (.load t a d)) (hl : ∀ w, S w → (Instr.loadAt t a).run P w = .ok v w) (hS : S w)
    (h : WD P n ops Q S fuel (listed.setIfInBounds i true) ((d, v) :: E) w) : WD P n ops Q S (fuel + 1) listed E w := by
  obtain ⟨o, x, ho, hw, hk, hop, hdst, hd, rfl⟩ := askE_load hq
  refine WD.take_of hN i ht ho (fun x hx => by rw [hdst] at hx; cases hx; exact hd) (v := v) (fun a ha => .inl ⟨ha.want hw, fun w hSw => by rw [ha.exec o hk]; exact load_run hop (hl w hSw)⟩) hS ?_
  rw [hdst]; exact h
theorem WDm (i : Nat) (t : TypeId) (a v : Value) (d : Nat) (hl : ∀ w, S w → (Instr.loadAt t a).run P w = .ok v w) (hS : S w) (h : WD P n ops Q S fuel (listed.setIfInBounds i true) ((d, v) :: E) w) (hN : NoPanic Q := by assumption) (ht : takeB ops listed i = true := by kernel_rfl) (hq : askE n ops i E = some (.load t a d) := by kernel_rfl) : WD P n ops Q S (fuel + 1) listed E w := WDl hN i t a v d ht hq hl hS h
/-- any other operation that yields a value in every world that meets S (a lookup, ..) -/
theorem WD.held (hN : NoPanic Q) (i : Nat) {o : Oper} (v : Value) (d : Nat) (ht : takeB ops listed i = true) (ho : ops[i]? = some o) (hw : wantE ops E o = some true) (hk : known E o.op = true) (hdst : o.dst = some d) (hd : Nat.blt d n = true)
    (hl : ∀ w, S w → (execOp (rho E) o).run P w = .ok (.value v) w) (hS : S w)
    (h : WD P n ops Q S fuel (listed.setIfInBounds i true) ((d, v) :: E) w) : WD P n ops Q S (fuel + 1) listed E w := by
  refine WD.take_of hN i ht ho (fun x hx => by rw [hdst] at hx; cases hx; exact lt_of_blt hd) (v := v) (fun a ha => .inl ⟨ha.want hw, fun w hSw => by rw [ha.exec o hk]; exact hl w hSw⟩) hS ?_
  rw [hdst]; exact h
/-- one alone may come up -/
theorem WD.only (i : Nat) {o : Oper} (hr : Region.ready .any ops listed = [i]) (ho : ops[i]? = some o) (hw : wantE ops E o = some true) (hk : known E o.op = true)
    (h : ∀ a, Ag n E a → o.upon P a (fun a' w' => S w' ∧ wpAnyH P .any ops Q S fuel (listed.setIfInBounds i true) a' w') Q ((execOp (rho E) o).run P w)) : WD P n ops Q S (fuel + 1) listed E w := by
  intro a ha
  refine wpAnyH_all hr (by simp) fun j hj => ?_
  simp at hj
  subst hj
  unfold wpOp
  simp only [ho, ha.want hw, if_true]
  refine .inl ?_
  unfold Oper.wp
  rw [ha.exec o hk]
  exact h a ha
theorem WD.call (i : Nat) {o : Oper} {f : FuncId} {args : Array Value} {R : Ending → World → Prop} {d : Nat} (hr : Region.ready .any ops listed = [i]) (ho : ops[i]? = some o) (hw : wantE ops E o = some true) (hk : known E o.op = true)
    (hdst : o.dst = some d) (hd : Nat.blt d n = true) (hrun : (execOp (rho E) o).run P w = .ok (.enter f args) w') (hc : Calls P f args w' R)
    (h : ∀ e w2, R e w2 → ∃ v, e = .returned v ∧ S w2 ∧ WD P n ops Q S fuel (listed.setIfInBounds i true) ((d, v) :: E) w2) : WD P n ops Q S (fuel + 1) listed E w :=
  WD.only i hr ho hw hk fun a ha => by
    rw [hrun]
    refine hc.mono fun e w2 hR => ?_
    obtain ⟨v, rfl, hS, hv⟩ := h e w2 hR
    rw [hdst]
    exact ⟨hS, hv _ (ha.put (lt_of_blt hd) v)⟩
theorem WDc (i : Nat) {o : Oper} {f : FuncId} {args : Array Value} {R : Ending → World → Prop} {d : Nat} (hc : Calls P f args w' R) (h : ∀ e w2, R e w2 → ∃ v, e = .returned v ∧ S w2 ∧ WD P n ops Q S fuel (listed.setIfInBounds i true) ((d, v) :: E) w2) (hr : Region.ready .any ops listed = [i] := by kernel_rfl) (ho : ops[i]? = some o := by exact rfl) (hw : wantE ops E o = some true := by exact rfl) (hk : known E o.op = true := by exact rfl) (hdst : o.dst = some d := by exact rfl) (hd : Nat.blt d n = true := by exact rfl) (hrun : (execOp (rho E) o).run P w = .ok (.enter f args) w' := by kernel_rfl) : WD P n ops Q S (fuel + 1) listed E w := WD.call i hr ho hw hk hdst hd hrun hc h
theorem WD.value (i : Nat) {o : Oper} {v : Value} (hr : Region.ready .any ops listed = [i]) (ho : ops[i]? = some o) (hw : wantE ops E o = some true) (hk : known E o.op = true) (hd : ∀ x, o.dst = some x → x < n)
    (hrun : (execOp (rho E) o).run P w = .ok (.value v) w') (hS : S w') (h : WD P n ops Q S fuel (listed.setIfInBounds i true) (putE E o.dst v) w') : WD P n ops Q S (fuel + 1) listed E w :=
  WD.only i hr ho hw hk fun a ha => by rw [hrun]; exact ⟨hS, h _ (ha.putE hd v)⟩
theorem WD.unit (i : Nat) {o : Oper} (hr : Region.ready .any ops listed = [i]) (ho : ops[i]? = some o) (hw : wantE ops E o = some true) (hk : known E o.op = true) (hd : ∀ x, o.dst = some x → x < n)
    (hrun : (execOp (rho E) o).run P w = .ok .skip w') (hS : S w') (h : WD P n ops Q S fuel (listed.setIfInBounds i true) (putE E o.dst undef) w') : WD P n ops Q S (fuel + 1) listed E w :=
  WD.only i hr ho hw hk fun a ha => by rw [hrun]; exact ⟨hS, h _ (ha.putE hd undef)⟩
theorem WD.skip (i : Nat) {o : Oper} (hr : Region.ready .any ops listed = [i]) (ho : ops[i]? = some o) (hw : wantE ops E o = some false) (hd : ∀ x, o.dst = some x → x < n) (hS : S w)
    (h : WD P n ops Q S fuel (listed.setIfInBounds i true) (putE E o.dst undef) w) : WD P n ops Q S (fuel + 1) listed E w := by
  intro a ha
  refine wpAnyH_all hr (by simp) fun j hj => ?_
  simp at hj
  subst hj
  unfold wpOp
  simp only [ho, ha.want hw, Bool.false_eq_true, if_false]
  exact ⟨hS, h _ (ha.putE hd undef)⟩
/-- a new block, whatever makes it: the step, reckoned -/
theorem WD.new (i : Nat) (mk : Nat → Value) (o' : Obj) {o : Oper} {d : Nat} (hr : Region.ready .any ops listed = [i]) (ho : ops[i]? = some o) (hw : wantE ops E o = some true) (hk : known E o.op = true) (hdst : o.dst = some d) (hd : Nat.blt d n = true)
    (hs : ∀ w, (execOp (rho E) o).run P w = .ok (.value (mk w.heap.size)) { w with heap := w.heap.push o' })
    (h : ∀ b w', w.heap.size ≤ b → b < w'.heap.size → Fr w w' [] → w'.heap[b]? = some o' → S w' ∧ WD P n ops Q S fuel (listed.setIfInBounds i true) ((d, mk b) :: E) w') : WD P n ops Q S (fuel + 1) listed E w :=
  WD.only i hr ho hw hk fun a ha => by
    rw [hs w]
    have h1 : (w.alloc o').heap[w.heap.size]? = some o' := by show (w.heap.push o')[w.heap.size]? = some o'; simp
    obtain ⟨h2, h3⟩ := h w.heap.size (w.alloc o') (Nat.le_refl _) (by simp) (.alloc w o') h1
    have h4 := h3 _ (ha.put (lt_of_blt hd) _)
    rw [← hdst] at h4
    exact ⟨h2, h4⟩
end
end Go.Tw
