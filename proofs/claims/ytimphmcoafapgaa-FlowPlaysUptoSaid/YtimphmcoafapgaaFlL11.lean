/- Contracts of functions of the program, each proved by a walk through its code; conditions stand in the statements. -/
import Derived.Test.YtimphmcoafapgaaFlJ11
namespace Go.Proofs.Ytimphmcoafapgaa
set_option linter.unusedSimpArgs false
set_option linter.unusedVariables false
set_option linter.unusedSectionVars false
open Go Go.RowKit Go.Tw
set_option linter.unusedVariables false
set_option maxRecDepth 20000
/-! ### scripts -/
structure FOp where
  kind : Int
  flow : Flow
  A : Option Addr
  n : Nat
  c : Nat
  fs : List Flow
  dip : Int
  ep : Int
  flags : Int
  now : Int
def cellO (o : FOp) : List Value := [.int .i64 o.kind, .int .i64 o.flow.proto, .int .u32 o.flow.src, .int .i64 o.flow.sport, .int .u32 o.flow.dst, .int .i64 o.flow.dport, .slice o.A o.n o.c, .int .u32 o.dip, .int .i64 o.ep, .int .i64 o.flags, .int .i64 o.now]
theorem cellO_len (o : FOp) : (cellO o).length = 11 := rfl
theorem cellO_one (o : FOp) : (cellO o).all Value.oneCell' = true := rfl
def bdF (f : Flow) : Prop := (0 ≤ f.src ∧ f.src ≤ 4294967295) ∧ 0 ≤ f.dst ∧ f.dst ≤ 4294967295
structure fopAt (w : World) (o : FOp) : Prop where
  row : Rd w 5 cellsF o.A o.fs
  len : o.fs.length = o.n
  cap : o.n ≤ o.c
  bd : bdF o.flow
theorem fopAt.fr {w w' : World} {o : FOp} (h : fopAt w o) (hf : Fr w w' []) : fopAt w' o := ⟨Rd.fr h.row hf, h.len, h.cap, h.bd⟩
theorem put_out {T T' : Tb} {f : Flow} {dip ep now : Int} {o : Ent} {fd : Bool} {er : Int} (h : TOk T) (hm : 0 ≤ T.um) (hr : PutRel T f dip ep now T' o fd er) (hf : fd = true) : o.trusted = false ∧ (lookL T.m f).isSome = false ∧ er = 0 := by
  cases hr with
  | full o g hg ht hl h0 hu hb =>
    obtain ⟨_, _, hun⟩ := Best.found h hu h0 hm hb
    exact ⟨hun, by rw [hl]; rfl, rfl⟩
  | _ => cases hf
theorem put_got {T T' : Tb} {f : Flow} {dip ep now : Int} {o : Ent} {fd : Bool} {er : Int} (hr : PutRel T f dip ep now T' o fd er) (h0 : er = 0) : (lookL T'.m f).isSome = true ∧ ((lookL T'.m f).getD zeroE).dip = dip ∧ ((lookL T'.m f).getD zeroE).epoch = ep ∧ ((lookL T'.m f).getD zeroE).trusted = ((lookL T.m f).getD zeroE).trusted := by
  cases hr with
  | form _ => cases h0
  | range _ _ => cases h0
  | empty _ _ _ _ => cases h0
  | old e hg ht hl => dsimp only; rw [al_look_put, if_pos rfl, hl]; exact ⟨rfl, rfl, rfl, rfl⟩
  | new hg ht hl _ hu => dsimp only; rw [al_look_put, if_pos rfl, hl]; exact ⟨rfl, rfl, rfl, rfl⟩
  | full o g hg ht hl h1 hu hb => dsimp only; rw [al_look_put, if_pos rfl, hl]; exact ⟨rfl, rfl, rfl, rfl⟩
theorem touch_got (T : Tb) (f : Flow) (flags now : Int) : (lookL (touchT T f flags now).1.m f).isSome = (lookL T.m f).isSome ∧ (((lookL T.m f).getD zeroE).trusted = true → ((lookL (touchT T f flags now).1.m f).getD zeroE).trusted = true) ∧ ((lookL (touchT T f flags now).1.m f).getD zeroE).dip = ((lookL T.m f).getD zeroE).dip ∧ ((lookL (touchT T f flags now).1.m f).getD zeroE).epoch = ((lookL T.m f).getD zeroE).epoch := by
  unfold touchT
  cases hl : lookL T.m f with
  | none => dsimp only; rw [hl]; exact ⟨rfl, id, rfl, rfl⟩
  | some e =>
    dsimp only
    refine ite_ind (fun x : Tb × Bool => (lookL x.1.m f).isSome = true ∧ (e.trusted = true → ((lookL x.1.m f).getD zeroE).trusted = true) ∧ ((lookL x.1.m f).getD zeroE).dip = e.dip ∧ ((lookL x.1.m f).getD zeroE).epoch = e.epoch) (fun _ => ?_) (fun _ => ite_ind (fun x : Tb × Bool => (lookL x.1.m f).isSome = true ∧ (e.trusted = true → ((lookL x.1.m f).getD zeroE).trusted = true) ∧ ((lookL x.1.m f).getD zeroE).dip = e.dip ∧ ((lookL x.1.m f).getD zeroE).epoch = e.epoch) (fun _ => ?_) (fun _ => ?_))
    · dsimp only; rw [hl]; exact ⟨rfl, id, rfl, rfl⟩
    · dsimp only; rw [al_look_put, if_pos rfl]; exact ⟨rfl, fun _ => rfl, rfl, rfl⟩
    · dsimp only; rw [al_look_put, if_pos rfl]; exact ⟨rfl, id, rfl, rfl⟩
def totF (ops : List FOp) : Nat := (ops.map fun o => 1 + o.fs.length).sum
theorem totF_mem {ops : List FOp} {o : FOp} (h : o ∈ ops) : 1 + o.fs.length ≤ totF ops := by
  unfold totF
  induction ops with
  | nil => cases h
  | cons a r ih =>
    rw [List.map_cons, List.sum_cons]
    rcases List.mem_cons.1 h with rfl | h
    · omega
    · have := ih h; omega
theorem totF_len (ops : List FOp) : ops.length ≤ totF ops := by
  unfold totF
  induction ops with
  | nil => exact Nat.le_refl _
  | cons a r ih => rw [List.map_cons, List.sum_cons, List.length_cons]; omega
theorem long_ct (C : Option Addr) (c : Nat) (ops : List FOp) (w : World) (hops : Rd w 11 cellO C ops) (hok : ∀ o ∈ ops, fopAt w o) (hcl : ops.length ≤ 9223372036854775807) : Calls Try.prog 18 #[.slice C ops.length c] w fun e w' => ∃ b, e = .returned (.bool b) ∧ Fr w w' [] := by
  refine enterD (n := 21) Try.func18 rfl rfl (Nat.le_of_ble_eq_true rfl) ?_
  intro Q0 hN hret hret'
  have hC := Cx.start w
  refine WC.seq (fun K1 hK2 => ?_)
  refine WC.region ?_
  refine WL.runs 1 [(2, .bool false)] (fun _ => by kernel_rfl) ?_
  refine WL.done rfl ?_
  refine QX.then_normal (hK2 _ _ ?_)
  refine WC.seq (fun K3 hK4 => ?_)
  refine WC.region ?_
  refine WL.runs 1 [(3, .int .i64 0)] (fun _ => by kernel_rfl) ?_
  refine WL.done rfl ?_
  refine QX.then_normal (hK4 _ _ ?_)
  refine WC.seq (fun K5 hK6 => ?_)
  refine WC.seq (fun K7 hK8 => ?_)
  refine WC.region ?_
  refine WL.runs 3 [(8, .int .i64 0), (7, .int .i64 (ops.length : Int)), (6, .slice C ops.length c)] (fun _ => by kernel_rfl) ?_
  refine WL.done rfl ?_
  refine QX.then_normal (hK8 _ _ ?_)
  refine WC.block ?_
  refine WC.loop (fun m_ E_ w_ => ∃ (i : Nat) (n : Int), m_ = ops.length - i ∧ E_ = [(0, .slice C ops.length c), (3, .int .i64 n), (6, .slice C ops.length c), (7, .int .i64 (ops.length : Int)), (8, .int .i64 (i : Int))] ∧ Cx w [] w_ [] [] ∧ (i ≤ ops.length)) ⟨_, _, ⟨0, 0, rfl, rfl, hC, Nat.zero_le _⟩, sub_of ⟨rfl, rfl, rfl, rfl, rfl, trivial⟩⟩ (fun m12 E_ w13 K9 hK10 hI11 => ?_)
  obtain ⟨i, n, rfl, rfl, hC14, hi⟩ := hI11
  refine WC.seq (fun K15 hK16 => ?_)
  refine WC.region ?_
  refine WL.runs 1 [(9, .bool (decide ((i : Int) < (ops.length : Int))))] (fun _ => by kernel_rfl) ?_
  refine WL.done rfl ?_
  refine QX.then_normal (hK16 _ _ ?_)
  refine WC.seq (fun K17 hK18 => ?_)
  refine WC.test_at 9 (decide ((i : Int) < (ops.length : Int))) rfl (fun t19b => ?_) (fun t19b => ?_)
  · -- (i : Int) < (ops.length : Int): true
    have t19 : (i : Int) < (ops.length : Int) := by have q_ := of_decide_eq_true t19b; omega
    refine WC.cond_true rfl ?_
    refine WC.skip ?_
    refine QX.then_normal (hK18 _ _ ?_)
    refine WC.seq (fun K20 hK21 => ?_)
    refine WC.block ?_
    refine WC.seq (fun K22 hK23 => ?_)
    refine WC.region ?_
    obtain ⟨e24, he25⟩ := get_some (xs := ops) (i := i) (by omega)
    obtain ⟨b26, o28, hA27, hc29⟩ := hops.at_ _ _ he25
    have hop_e24 := hok _ (List.mem_of_getElem? he25)
    have hle_e24 := hop_e24.len
    refine WL.index C ops.length c 10 .i64 (i : Int) b26 o28 i 11 (by kernel_rfl) hA27 (by omega) (by omega) (o28 + i * 11) (by first | (simp; done) | omega) ?_
    refine WL.load 53 (.pointer (some ⟨b26, o28 + i * 11, none⟩)) (.agg #[.int .i64 e24.kind, .int .i64 e24.flow.proto, .int .u32 e24.flow.src, .int .i64 e24.flow.sport, .int .u32 e24.flow.dst, .int .i64 e24.flow.dport, .slice e24.A e24.n e24.c, .int .u32 e24.dip, .int .i64 e24.ep, .int .i64 e24.flags, .int .i64 e24.now]) 11 (by kernel_rfl) (run_rdN (l := [.int .i64 e24.kind, .int .i64 e24.flow.proto, .int .u32 e24.flow.src, .int .i64 e24.flow.sport, .int .u32 e24.flow.dst, .int .i64 e24.flow.dport, .slice e24.A e24.n e24.c, .int .u32 e24.dip, .int .i64 e24.ep, .int .i64 e24.flags, .int .i64 e24.now]) rfl rfl (fun j u hu => by have hq_ := hC14.fr.cell (hc29 j u hu) (by simp); simpa [Nat.add_assoc] using hq_)) ?_
    refine WL.newM hC14 (fun b => .pointer (some ⟨b, 0, none⟩)) (.cells #[.int .i64 0, .int .i64 0, .int .u32 0, .int .i64 0, .int .u32 0, .int .i64 0, .slice none 0 0, .int .u32 0, .int .i64 0, .int .i64 0, .int .i64 0] 53) 5 (fun _ => by kernel_rfl) (fun g30 w31 hb34 hF32 hC33 => ?_)
    refine WL.storeM (c' := #[.int .i64 e24.kind, .int .i64 e24.flow.proto, .int .u32 e24.flow.src, .int .i64 e24.flow.sport, .int .u32 e24.flow.dst, .int .i64 e24.flow.dport, .slice e24.A e24.n e24.c, .int .u32 e24.dip, .int .i64 e24.ep, .int .i64 e24.flags, .int .i64 e24.now]) hC33 0 53 g30 0 (.agg #[.int .i64 e24.kind, .int .i64 e24.flow.proto, .int .u32 e24.flow.src, .int .i64 e24.flow.sport, .int .u32 e24.flow.dst, .int .i64 e24.flow.dport, .slice e24.A e24.n e24.c, .int .u32 e24.dip, .int .i64 e24.ep, .int .i64 e24.flags, .int .i64 e24.now]) (by kernel_rfl) rfl (by kernel_rfl) (fun w35 hF37 hC38 => ?_)
    refine WL.done rfl ?_
    refine QX.then_normal (hK23 _ _ ?_)
    refine WC.seq (fun K39 hK40 => ?_)
    refine WC.region ?_
    refine WL.runs 2 [(13, .pointer (some ⟨g30, 6, none⟩)), (12, .int .i64 n)] (fun _ => by kernel_rfl) ?_
    refine WL.load 41 (.pointer (some ⟨g30, 6, none⟩)) (.slice e24.A e24.n e24.c) 14 (by kernel_rfl) (run_ld (hC38.get 0 rfl) rfl) ?_
    refine WL.runs 4 [(3, .int .i64 (IntKind.i64.wrap (n + (IntKind.i64.wrap (1 + (e24.n : Int)))))), (17, .int .i64 (IntKind.i64.wrap (n + (IntKind.i64.wrap (1 + (e24.n : Int)))))), (16, .int .i64 (IntKind.i64.wrap (1 + (e24.n : Int)))), (15, .int .i64 (e24.n : Int))] (fun _ => by kernel_rfl) ?_
    refine WL.done rfl ?_
    refine QX.then_normal (hK40 _ _ ?_)
    refine WC.seq (fun K41 hK42 => ?_)
    refine WC.region ?_
    refine WL.runs 2 [(19, .bool (decide ((IntKind.i64.wrap (n + (IntKind.i64.wrap (1 + (e24.n : Int))))) > 400))), (18, .int .i64 (IntKind.i64.wrap (n + (IntKind.i64.wrap (1 + (e24.n : Int))))))] (fun _ => by kernel_rfl) ?_
    refine WL.done rfl ?_
    refine QX.then_normal (hK42 _ _ ?_)
    refine WC.test_at 19 (decide ((IntKind.i64.wrap (n + (IntKind.i64.wrap (1 + (e24.n : Int))))) > 400)) rfl (fun t43b => ?_) (fun t43b => ?_)
    · -- (IntKind.i64.wrap (n + (IntKind.i64.wrap (1 + (e24.n : Int))))) > 400: true
      have t43 : (400 : Int) < (IntKind.i64.wrap (n + (IntKind.i64.wrap (1 + (e24.n : Int))))) := by have q_ := of_decide_eq_true t43b; omega
      refine WC.cond_true rfl ?_
      refine WC.seq (fun K44 hK45 => ?_)
      refine WC.region ?_
      refine WL.runs 1 [(2, .bool true)] (fun _ => by kernel_rfl) ?_
      refine WL.done rfl ?_
      refine QX.then_normal (hK45 _ _ ?_)
      refine WC.ret ?_
      refine QX.block_ret ?_
      refine QX.then_ret ?_
      refine QX.then_ret ?_
      refine QX.block_ret ?_
      refine QX.then_ret ?_
      refine (hret _ _ _ rfl ?_).1
      clear hN hret hret' hK45 hK42 hK40 hK23 hK21 hK18 hK16 hK8 hK6 hK4 hK2
      exact ⟨_, rfl, hC38.fr⟩
    · -- (IntKind.i64.wrap (n + (IntKind.i64.wrap (1 + (e24.n : Int))))) > 400: false
      have t43 : (IntKind.i64.wrap (n + (IntKind.i64.wrap (1 + (e24.n : Int))))) ≤ 400 := by have q_ := of_decide_eq_false t43b; omega
      refine WC.cond_false rfl ?_
      refine WC.skip ?_
      refine QX.block_normal ?_
      refine QX.then_normal (hK21 _ _ ?_)
      refine WC.region ?_
      refine WL.runs 1 [(20, .int .i64 (IntKind.i64.wrap ((i : Int) + 1)))] (fun _ => by kernel_rfl) ?_
      refine WL.recast (show (.int .i64 (IntKind.i64.wrap ((i : Int) + 1)) : Value) = .int .i64 ((i : Int) + 1) from by rw [wrap_in_i64 ((i : Int) + 1) (by omega) (by omega)]) ?_
      refine WL.runs 1 [(8, .int .i64 ((i : Int) + 1))] (fun _ => by kernel_rfl) ?_
      refine WL.done rfl ?_
      refine QX.then_normal ?_
      have hC46 := hC38.pick [] [] rfl rfl
      refine fun a_ ha_ => hK10 _ _ _ ?_ ⟨i + 1, IntKind.i64.wrap (n + (IntKind.i64.wrap (1 + (e24.n : Int)))), rfl, rfl, hC46, by omega⟩ a_ (ha_.weaken (sub_of ⟨rfl, rfl, rfl, rfl, rfl, trivial⟩))
      omega
  · -- (i : Int) < (ops.length : Int): false
    have t19 : (ops.length : Int) ≤ (i : Int) := by have q_ := of_decide_eq_false t19b; omega
    refine WC.cond_false rfl ?_
    refine WC.exit ?_
    refine QX.then_exit ?_
    refine QX.then_exit ?_
    refine QX.block_hit ?_
    refine QX.then_normal (hK6 _ _ ?_)
    refine WC.seq (fun K47 hK48 => ?_)
    refine WC.region ?_
    refine WL.runs 1 [(2, .bool false)] (fun _ => by kernel_rfl) ?_
    refine WL.done rfl ?_
    refine QX.then_normal (hK48 _ _ ?_)
    refine WC.ret ?_
    refine (hret _ _ _ rfl ?_).1
    clear hN hret hret' hK48 hK18 hK16 hK8 hK6 hK4 hK2
    exact ⟨_, rfl, hC14.fr⟩

theorem Len_ct (p b : Nat) (T : Tb) (w : World) (ht : tbAt w p b T) : Calls Try.prog 27 #[.pointer (some ⟨p, 0, none⟩)] w fun e w' => e = .returned (.tuple #[.int .i64 T.th, .int .i64 T.uh]) ∧ Fr w w' [] := by
  refine enterD (n := 16) Try.func27 rfl rfl (Nat.le_of_ble_eq_true rfl) ?_
  intro Q0 hN hret hret'
  obtain ⟨hpb, hp_, es, cl, hb_, hm_⟩ := ht
  have hC := Cx.startMs w [(p, .cells #[.map (some b), .int .i64 T.th, .int .i64 T.tm, .int .i64 T.uh, .int .i64 T.um] 75), (b, .map es cl)] (by simpa using hpb) (by simp [hp_, hb_])
  refine WC.seq (fun K1 hK2 => ?_)
  refine WC.region ?_
  refine WL.runs 2 [(3, .int .i64 0), (2, .int .i64 0)] (fun _ => by kernel_rfl) ?_
  refine WL.done rfl ?_
  refine QX.then_normal (hK2 _ _ ?_)
  refine WC.seq (fun K3 hK4 => ?_)
  refine WC.seq (fun K5 hK6 => ?_)
  refine WC.region ?_
  refine WL.runs 2 [(5, .bool false), (4, .pointer (some ⟨p, 0, none⟩))] (fun _ => by kernel_rfl) ?_
  refine WL.done rfl ?_
  refine QX.then_normal (hK6 _ _ ?_)
  refine WC.cond_false rfl ?_
  refine WC.skip ?_
  refine QX.then_normal (hK4 _ _ ?_)
  refine WC.seq (fun K7 hK8 => ?_)
  refine WC.drawC hC [] (by kernel_rfl) (fun w9 hF10 hC11 hS12 => ?_)
  refine WD.pure (NoPanic.then hN) 0 6 (.pointer (some ⟨p, 0, none⟩)) (by kernel_rfl) (fun _ => by kernel_rfl) hS12 ?_
  refine WD.pure (NoPanic.then hN) 1 7 (.pointer (some ⟨p, 0, none⟩)) (by kernel_rfl) (fun _ => by kernel_rfl) hS12 ?_
  refine WD.pure (NoPanic.then hN) 2 8 (.pointer (some ⟨p, 1, none⟩)) (by kernel_rfl) (fun _ => by kernel_rfl) hS12 ?_
  refine WD.pure (NoPanic.then hN) 3 9 (.pointer (some ⟨p, 1, none⟩)) (by kernel_rfl) (fun _ => by kernel_rfl) hS12 ?_
  refine WD.pure (NoPanic.then hN) 5 11 (.pointer (some ⟨p, 0, none⟩)) (by kernel_rfl) (fun _ => by kernel_rfl) hS12 ?_
  refine WD.pure (NoPanic.then hN) 6 12 (.pointer (some ⟨p, 0, none⟩)) (by kernel_rfl) (fun _ => by kernel_rfl) hS12 ?_
  refine WD.pure (NoPanic.then hN) 7 13 (.pointer (some ⟨p, 3, none⟩)) (by kernel_rfl) (fun _ => by kernel_rfl) hS12 ?_
  refine WD.pure (NoPanic.then hN) 8 14 (.pointer (some ⟨p, 3, none⟩)) (by kernel_rfl) (fun _ => by kernel_rfl) hS12 ?_
  refine WD.load (NoPanic.then hN) 4 3 (.pointer (some ⟨p, 1, none⟩)) (.int .i64 T.th) 10 (by kernel_rfl) (by kernel_rfl) (fun _ hS_ => run_ld (Fr.has hS_ (hC11.get 0 rfl) (by simp)) rfl) hS12 ?_
  refine WD.pure (NoPanic.then hN) 10 2 (.int .i64 T.th) (by kernel_rfl) (fun _ => by kernel_rfl) hS12 ?_
  refine WD.load (NoPanic.then hN) 9 3 (.pointer (some ⟨p, 3, none⟩)) (.int .i64 T.uh) 15 (by kernel_rfl) (by kernel_rfl) (fun _ hS_ => run_ld (Fr.has hS_ (hC11.get 0 rfl) (by simp)) rfl) hS12 ?_
  refine WD.pure (NoPanic.then hN) 11 3 (.int .i64 T.uh) (by kernel_rfl) (fun _ => by kernel_rfl) hS12 ?_
  refine WD.done (by kernel_rfl) ?_
  refine QX.then_normal (hK8 _ _ ?_)
  refine WC.ret ?_
  refine (hret _ _ _ rfl ?_).1
  clear hN hret hret' hK8 hK6 hK4 hK2
  exact ⟨rfl, hC11.fr.shrink (by intro x hx; simp at hx; rcases hx with rfl | rfl; exact (hC11.get 0 rfl).trans hp_.symm; exact (hC11.get 1 rfl).trans hb_.symm)⟩

end Go.Proofs.Ytimphmcoafapgaa
