/- Contracts of functions of the program, each proved by a walk through its code; conditions stand in the statements. -/
import Derived.Test.YtjacpjdikhlcoaaVtT14
namespace Go.Proofs.Ytjacpjdikhlcoaa
set_option linter.unusedSimpArgs false
set_option linter.unusedVariables false
set_option linter.unusedSectionVars false
open Go Go.RowKit Go.Tw
set_option linter.unusedVariables false
set_option maxRecDepth 20000
def numAt (bs : List Int) (k : Nat) : Int := IntKind.i64.wrap (valF 0 ((bs.drop (8 * k)).take 8))
def intsL (bs : List Int) : List Int := (List.range (bs.length / 8)).map (numAt bs)
theorem intsL_len (bs : List Int) : (intsL bs).length = bs.length / 8 := by simp [intsL]
theorem range_snocM (f : Nat → Int) (k : Nat) : (List.range (k + 1)).map f = (List.range k).map f ++ [f k] := by rw [List.range_succ, List.map_append]; rfl
theorem valF_grp {bs : List Int} {k j N : Nat} {b : Int} (h : bs[N]? = some b) (hN : N = 8 * k + j) : valF 0 ((bs.drop (8 * k)).take (j + 1)) = valF 0 ((bs.drop (8 * k)).take j) * 256 + b := by
  subst hN
  exact valF_take (by rw [List.getElem?_drop]; exact h)
theorem grp_lt {bs : List Int} (hb : byteL bs) (k : Nat) {j : Nat} (hj : j ≤ 7) : 0 ≤ valF 0 ((bs.drop (8 * k)).take j) ∧ valF 0 ((bs.drop (8 * k)).take j) < 72057594037927936 :=
  val_lt56 (fun x hx => hb x (List.mem_of_mem_drop (List.mem_of_mem_take hx))) (by rw [List.length_take]; omega)
theorem numAt_i64 (bs : List Int) (k : Nat) : isI64 (numAt bs k) := by
  unfold numAt isI64
  rw [IntKind.wrap_i64]; omega
theorem intsL_i64 (bs : List Int) : ∀ x ∈ intsL bs, isI64 x := by
  intro x hx
  obtain ⟨k, _, rfl⟩ := List.mem_map.1 hx
  exact numAt_i64 bs k
theorem numAt_0 {n : Int} (h : isI64 n) (r : List Int) : numAt (numB n ++ r) 0 = n := by
  have h1 := numR_num h r
  unfold numR at h1
  rw [if_neg (by rw [List.length_append, numB_len]; omega)] at h1
  unfold numAt
  exact h1
theorem numAt_s (n : Int) (r : List Int) (k : Nat) : numAt (numB n ++ r) (k + 1) = numAt r k := by
  unfold numAt
  have e : (numB n ++ r).drop 8 = r := List.drop_left' (numB_len n)
  rw [show 8 * (k + 1) = 8 + 8 * k from by omega, ← List.drop_drop, e]
theorem intsL_cons {n : Int} (h : isI64 n) (r : List Int) : intsL (numB n ++ r) = n :: intsL r := by
  unfold intsL
  have e : (numAt (numB n ++ r)) ∘ Nat.succ = numAt r := funext fun k => numAt_s n r k
  rw [List.length_append, numB_len, show (8 + r.length) / 8 = r.length / 8 + 1 from by omega, List.range_succ_eq_map, List.map_cons, numAt_0 h, List.map_map, e]
theorem intsL_bytes : ∀ {ns : List Int}, (∀ x ∈ ns, isI64 x) → intsL (bytesN ns) = ns
  | [], _ => rfl
  | n :: r, h => by
    have e : bytesN (n :: r) = numB n ++ bytesN r := by simp [bytesN]
    rw [e, intsL_cons (h n (by simp)), intsL_bytes (fun x hx => h x (by simp [hx]))]
def gN (ns : List Int) (i : Nat) : Int := (ns[i]?).getD 0
theorem gN_of {ns : List Int} {i : Nat} {e : Int} (h : ns[i]? = some e) : gN ns i = e := by unfold gN; rw [h]; rfl
theorem gN_drop (ns : List Int) (a i : Nat) : gN (ns.drop a) i = gN ns (a + i) := by unfold gN; rw [List.getElem?_drop]
theorem gN_i64 {ns : List Int} (h : ∀ x ∈ ns, isI64 x) (i : Nat) : isI64 (gN ns i) := by
  unfold gN
  cases hg : ns[i]? with
  | none => exact ⟨by decide, by decide⟩
  | some e => exact h e (List.mem_of_getElem? hg)
def endN (ns : List Int) (p : Nat) : EndV := ⟨wrapA (gN ns p), gN ns (p + 1), gN ns (p + 2)⟩
def endsN (ns : List Int) (p k : Nat) : List EndV := (List.range k).map fun i => endN ns (p + 3 * i)
theorem endsN_len (ns : List Int) (p k : Nat) : (endsN ns p k).length = k := by simp [endsN]
theorem endsN_snoc (ns : List Int) (p k : Nat) : endsN ns p (k + 1) = endsN ns p k ++ [endN ns (p + 3 * k)] := by unfold endsN; rw [List.range_succ, List.map_append]; rfl
def cmdN (ns : List Int) (a : Nat) : CmdV :=
  ⟨gN ns a, gN ns (a + 1), gN ns (a + 2), gN ns (a + 3), gN ns (a + 4), wrapA (gN ns (a + 5)), gN ns (a + 6), gN ns (a + 7), endsN ns (a + 9) (gN ns (a + 8)).toNat, wrapA (gN ns (a + 9 + 3 * (gN ns (a + 8)).toNat)), wrapA (gN ns (a + 10 + 3 * (gN ns (a + 8)).toNat)), decide (gN ns (a + 11 + 3 * (gN ns (a + 8)).toNat) = 1)⟩
theorem cmdN_wf {ns : List Int} (h : ∀ x ∈ ns, isI64 x) (a : Nat) : wfC (cmdN ns a) := by
  refine ⟨gN_i64 h _, gN_i64 h _, gN_i64 h _, gN_i64 h _, gN_i64 h _, wrapA_u32 _, gN_i64 h _, gN_i64 h _, wrapA_u32 _, wrapA_u32 _, fun e he => ?_⟩
  obtain ⟨i, _, rfl⟩ := List.mem_map.1 he
  exact ⟨wrapA_u32 _, gN_i64 h _, gN_i64 h _⟩
theorem ends_of : ∀ (es : List EndV) (ns : List Int) (p : Nat) (rest : List Int), (∀ e ∈ es, wfE e) → ns.drop p = es.flatMap numsE ++ rest → endsN ns p es.length = es ∧ ns.drop (p + 3 * es.length) = rest
  | [], ns, p, rest, _, h => ⟨rfl, by simpa using h⟩
  | e :: r, ns, p, rest, hw, h => by
    have h' : ns.drop p = [e.dip, e.port, e.weight] ++ (r.flatMap numsE ++ rest) := by rw [h]; simp [numsE]
    have h3 : ns.drop (p + 3) = r.flatMap numsE ++ rest := by rw [← List.drop_drop, h']; rfl
    obtain ⟨i1, i2⟩ := ends_of r ns (p + 3) rest (fun x hx => hw x (by simp [hx])) h3
    have g0 : gN ns p = e.dip := by rw [← Nat.add_zero p, ← gN_drop, h']; rfl
    have g1 : gN ns (p + 1) = e.port := by rw [← gN_drop, h']; rfl
    have g2 : gN ns (p + 2) = e.weight := by rw [← gN_drop, h']; rfl
    refine ⟨?_, ?_⟩
    · have e1 : endsN ns p (r.length + 1) = endN ns p :: endsN ns (p + 3) r.length := by
        unfold endsN
        rw [List.range_succ_eq_map, List.map_cons, List.map_map]
        congr 1
        apply List.map_congr_left
        intro k _
        show endN ns (p + 3 * (k + 1)) = endN ns (p + 3 + 3 * k)
        rw [show p + 3 * (k + 1) = p + 3 + 3 * k from by omega]
      show endsN ns p (r.length + 1) = e :: r
      rw [e1, i1]
      unfold endN
      rw [g0, g1, g2, wrapA_id (hw e (by simp)).dip]
    · rw [show p + 3 * (e :: r).length = p + 3 + 3 * r.length from by simp only [List.length_cons]; omega]
      exact i2
theorem cmdN_of {ns : List Int} {a : Nat} {c : CmdV} {rest : List Int} (hw : wfC c) (h : ns.drop a = numsC c ++ rest) : cmdN ns a = c ∧ gN ns (a + 8) = (c.ends.length : Int) ∧ a + 12 + 3 * c.ends.length ≤ ns.length := by
  have hd : ∀ i, gN ns (a + i) = gN (numsC c ++ rest) i := fun i => by rw [← h, gN_drop]
  have h8 : gN ns (a + 8) = (c.ends.length : Int) := by rw [hd]; rfl
  have h9 : ns.drop (a + 9) = c.ends.flatMap numsE ++ ([c.dip, c.vip, upN c.up] ++ rest) := by rw [← List.drop_drop, h]; simp [numsC]
  obtain ⟨e1, e2⟩ := ends_of c.ends ns (a + 9) _ hw.ends h9
  have hl : a + 12 + 3 * c.ends.length ≤ ns.length := by
    have hl2 := congrArg List.length e2
    rw [List.length_drop, List.length_append] at hl2
    simp only [List.length_cons, List.length_nil] at hl2
    omega
  refine ⟨?_, h8, hl⟩
  have t9 : gN ns (a + 9 + 3 * c.ends.length) = c.dip := by rw [← Nat.add_zero (a + 9 + 3 * c.ends.length), ← gN_drop, e2]; rfl
  have t10 : gN ns (a + 10 + 3 * c.ends.length) = c.vip := by rw [show a + 10 + 3 * c.ends.length = a + 9 + 3 * c.ends.length + 1 from by omega, ← gN_drop, e2]; rfl
  have t11 : gN ns (a + 11 + 3 * c.ends.length) = upN c.up := by rw [show a + 11 + 3 * c.ends.length = a + 9 + 3 * c.ends.length + 2 from by omega, ← gN_drop, e2]; rfl
  have h0 : gN ns a = c.node := by have := hd 0; rw [Nat.add_zero] at this; rw [this]; rfl
  have h1 : gN ns (a + 1) = c.boot := by rw [hd]; rfl
  have h2 : gN ns (a + 2) = c.seq := by rw [hd]; rfl
  have h3 : gN ns (a + 3) = c.time := by rw [hd]; rfl
  have h4 : gN ns (a + 4) = c.kind := by rw [hd]; rfl
  have h5 : gN ns (a + 5) = c.svip := by rw [hd]; rfl
  have h6 : gN ns (a + 6) = c.sproto := by rw [hd]; rfl
  have h7 : gN ns (a + 7) = c.sport := by rw [hd]; rfl
  unfold cmdN
  rw [h8, show ((c.ends.length : Int)).toNat = c.ends.length from rfl, e1, t9, t10, t11, h0, h1, h2, h3, h4, h5, h6, h7, wrapA_id hw.svip, wrapA_id hw.dip, wrapA_id hw.vip]
  have hu : decide (upN c.up = 1) = c.up := by cases c.up <;> rfl
  rw [hu]
theorem readL_wf (bs : List Int) : ∀ v ∈ readL bs, wfC v := fun v hv => (logR_wf _ _ _ v hv).1
structure Hyp (bs : List Int) (L0 : List CmdV) : Prop where
  good : goodL L0 = true
  wf : ∀ v ∈ L0, wfC v
  byt : bytesL L0 = bs
theorem hyp_read {bs : List Int} (h : readOk bs = true) : Hyp bs (readL bs) := by
  obtain ⟨h1, h2⟩ := readOk_yes h
  exact ⟨h1, readL_wf bs, h2⟩
theorem hyp_nums {bs : List Int} {L0 : List CmdV} (h : Hyp bs L0) : intsL bs = numsL L0 := by
  rw [← h.byt]
  unfold bytesL
  refine intsL_bytes fun x hx => ?_
  have hl := goodL_len h.good
  unfold numsL at hx
  rcases List.mem_cons.1 hx with rfl | hx
  · exact ⟨by omega, by omega⟩
  · obtain ⟨v, hv, hx⟩ := List.mem_flatMap.1 hx
    have h64 := goodC_ends (goodL_all h.good v hv)
    exact wfC_nums (h.wf v hv) (by omega) x hx
theorem hyp_at {bs : List Int} {L0 : List CmdV} (h : Hyp bs L0) {k a : Nat} (hk : k < L0.length) (ha : a = 1 + ((L0.take k).flatMap numsC).length) : (intsL bs).drop a = numsC L0[k] ++ (L0.drop (k + 1)).flatMap numsC := by
  rw [hyp_nums h, ha]
  unfold numsL
  rw [Nat.add_comm, List.drop_succ_cons]
  have e : L0.flatMap numsC = (L0.take k).flatMap numsC ++ (numsC L0[k] ++ (L0.drop (k + 1)).flatMap numsC) := by
    conv => lhs; rw [← List.take_append_drop k L0, List.flatMap_append, ← List.getElem_cons_drop hk, List.flatMap_cons]
  rw [e, List.drop_left]
def RdI (bs : List Int) (Ls : List CmdV) (a : Nat) : Prop := ∀ L0, Hyp bs L0 → Ls.length ≤ L0.length ∧ Ls = L0.take Ls.length ∧ a = 1 + ((L0.take Ls.length).flatMap numsC).length
theorem RdI_0 (bs : List Int) : RdI bs [] 1 := fun _ _ => ⟨Nat.zero_le _, rfl, rfl⟩
theorem hyp_0 {bs : List Int} {L0 : List CmdV} (h : Hyp bs L0) : gN (intsL bs) 0 = (L0.length : Int) ∧ 0 < (intsL bs).length := by
  rw [hyp_nums h]; exact ⟨rfl, by unfold numsL; simp⟩
theorem RdI_step {bs : List Int} {Ls : List CmdV} {a n : Nat} (h : RdI bs Ls a) (hlt : (Ls.length : Int) < gN (intsL bs) 0) (hn : gN (intsL bs) (a + 8) = (n : Int)) : RdI bs (Ls ++ [cmdN (intsL bs) a]) (a + 12 + 3 * n) := by
  intro L0 h0
  obtain ⟨h1, h2, h3⟩ := h L0 h0
  have hk : Ls.length < L0.length := by have := (hyp_0 h0).1; omega
  obtain ⟨e1, e2, e3⟩ := cmdN_of (h0.wf _ (List.getElem_mem hk)) (hyp_at h0 hk h3)
  have hn2 : n = (L0[Ls.length]).ends.length := by rw [e2] at hn; omega
  rw [List.length_append, List.length_cons, List.length_nil, Nat.zero_add, List.take_succ_eq_append_getElem hk, e1]
  refine ⟨hk, by rw [← h2], ?_⟩
  rw [List.flatMap_append, List.length_append, h3, List.flatMap_cons, List.flatMap_nil, List.append_nil, numsC_len, hn2]; omega
theorem RdI_bad {bs : List Int} {Ls : List CmdV} {a : Nat} (h : RdI bs Ls a) (hlt : (Ls.length : Int) < gN (intsL bs) 0) (hb : ((intsL bs).length : Int) < a + 9 ∨ gN (intsL bs) (a + 8) < 0 ∨ 64 < gN (intsL bs) (a + 8) ∨ ((intsL bs).length : Int) < a + 12 + 3 * gN (intsL bs) (a + 8)) : readOk bs = false := by
  cases hr : readOk bs
  · rfl
  · exfalso
    have h0 := hyp_read hr
    obtain ⟨h1, h2, h3⟩ := h _ h0
    have hk : Ls.length < (readL bs).length := by have := (hyp_0 h0).1; omega
    obtain ⟨e1, e2, e3⟩ := cmdN_of (h0.wf _ (List.getElem_mem hk)) (hyp_at h0 hk h3)
    have h64 := goodC_ends (goodL_all h0.good _ (List.getElem_mem hk))
    rw [e2] at hb
    omega
theorem RdI_end {bs : List Int} {Ls : List CmdV} {a : Nat} (h : RdI bs Ls a) (hs : (intsL bs).length = 0 ∨ gN (intsL bs) 0 ≤ (Ls.length : Int) ∨ 256 < Ls.length) (hr : readOk bs = true) : Ls = readL bs := by
  have h0 := hyp_read hr
  obtain ⟨h1, h2, h3⟩ := h _ h0
  have h4 := hyp_0 h0
  have h5 := goodL_len h0.good
  rw [h2, List.take_of_length_le (by omega)]
theorem cmdN_mk {ns : List Int} {a n : Nat} {e0 e1 e2 e3 e4 e5 e6 e7 e8 x y z : Int} (h0 : ns[a]? = some e0) (h1 : ns[a + 1]? = some e1) (h2 : ns[a + 2]? = some e2) (h3 : ns[a + 3]? = some e3) (h4 : ns[a + 4]? = some e4) (h5 : ns[a + 5]? = some e5) (h6 : ns[a + 6]? = some e6) (h7 : ns[a + 7]? = some e7) (h8 : ns[a + 8]? = some e8) (hn : e8 = (n : Int)) (hx : ns[a + 9 + 3 * n]? = some x) (hy : ns[a + 9 + 3 * n + 1]? = some y) (hz : ns[a + 9 + 3 * n + 2]? = some z) : (⟨e0, e1, e2, e3, e4, wrapA e5, e6, e7, (cmdN ns a).ends, wrapA x, wrapA y, decide (z = 1)⟩ : CmdV) = cmdN ns a := by
  subst hn
  unfold cmdN
  dsimp only
  rw [gN_of h0, gN_of h1, gN_of h2, gN_of h3, gN_of h4, gN_of h5, gN_of h6, gN_of h7, gN_of h8, show ((n : Int)).toNat = n from rfl, gN_of hx, show a + 10 + 3 * n = a + 9 + 3 * n + 1 from by omega, gN_of hy, show a + 11 + 3 * n = a + 9 + 3 * n + 2 from by omega, gN_of hz]
theorem cmdN_ends {ns : List Int} {a n : Nat} {e8 : Int} (h8 : ns[a + 8]? = some e8) (hn : e8 = (n : Int)) : (cmdN ns a).ends = endsN ns (a + 9) n := by
  subst hn
  show endsN ns (a + 9) (gN ns (a + 8)).toNat = _
  rw [gN_of h8]; rfl
theorem endN_mk {ns : List Int} {p : Nat} {x y z : Int} (hx : ns[p]? = some x) (hy : ns[p + 1]? = some y) (hz : ns[p + 2]? = some z) : endN ns p = (⟨wrapA x, y, z⟩ : EndV) := by
  unfold endN; rw [gN_of hx, gN_of hy, gN_of hz]
theorem ints_ct (A : Option Addr) (c : Nat) (bs : List Int) (w : World) (hr : Rd w 1 (Go.Tw.encI .u8) A bs) (hb : byteL bs) (hl : bs.length ≤ 4398046511104) : Calls Try.prog 44 #[.slice A bs.length c] w fun e w' => ∃ v, e = .returned v ∧ Fr w w' [] ∧ w'.ownsRow w.heap.size 3 1 v (intsL bs).length ((intsL bs).flatMap (Go.Tw.encI .i64)) := by
 refine enterD (n := 34) Try.func44 rfl rfl (Nat.le_of_ble_eq_true rfl) ?_
 intro Q0 hN hret hret'
 have hC := Cx.start w
 refine WC.seq (fun K1 hK2 => ?_)
 refine WC.region ?_
 refine WL.runs 1 [(2, .slice none 0 0)] (fun _ => by kernel_rfl) ?_
 refine WL.done rfl ?_
 refine QX.then_normal (hK2 _ _ ?_)
 refine WC.seq (fun K3 hK4 => ?_)
 refine WC.region ?_
 refine WL.runs 1 [(3, .slice none 0 0)] (fun _ => by kernel_rfl) ?_
 refine WL.done rfl ?_
 refine QX.then_normal (hK4 _ _ ?_)
 refine WC.seq (fun K5 hK6 => ?_)
 refine WC.seq (fun K7 hK8 => ?_)
 refine WC.region ?_
 refine WL.runs 1 [(4, .int .i64 0)] (fun _ => by kernel_rfl) ?_
 refine WL.done rfl ?_
 refine QX.then_normal (hK8 _ _ ?_)
 refine WC.block ?_
 have hC9 := hC.addNil
 refine WC.loop (fun m_ E_ w_ => ∃ (k : Nat) (A5 : Option Addr) (n5 c5 : Nat), m_ = bs.length - 8 * k ∧ E_ = [(0, .slice A bs.length c), (3, .slice A5 n5 c5), (4, .int .i64 ((8 * k : Nat) : Int))] ∧ Cx w [] w_ [] [blk (.slice A5 n5 c5)] ∧ World.ownsRow w_ 0 3 1 (.slice A5 n5 c5) n5 (((List.range k).map (numAt bs)).flatMap (Go.Tw.encI .i64)) ∧ (8 * k ≤ bs.length)) ⟨_, _, ⟨0, none, 0, 0, rfl, rfl, hC9, own_nil _ _ _ _, Nat.zero_le _⟩, sub_of ⟨rfl, rfl, rfl, trivial⟩⟩ (fun m13 E_ w14 K10 hK11 hI12 => ?_)
 obtain ⟨k, A5, n5, c5, rfl, rfl, hC15, hrow5, hk⟩ := hI12
 have hcn5_ := own_count (Go.Tw.encI_len _) (by decide) hrow5
 have hle5_ := own_le hrow5
 rw [List.length_map, List.length_range] at hcn5_
 refine WC.seq (fun K16 hK17 => ?_)
 refine WC.seq (fun K18 hK19 => ?_)
 refine WC.region ?_
 refine WL.runs 2 [(8, .int .i64 (IntKind.i64.wrap (((8 * k : Nat) : Int) + 8))), (7, .int .i64 ((8 * k : Nat) : Int))] (fun _ => by kernel_rfl) ?_
 refine WL.recast (show (.int .i64 (IntKind.i64.wrap (((8 * k : Nat) : Int) + 8)) : Value) = .int .i64 (((8 * k : Nat) : Int) + 8) from by rw [wrap_in_i64 (((8 * k : Nat) : Int) + 8) (by omega) (by omega)]) ?_
 refine WL.runs 3 [(11, .bool (decide ((((8 * k : Nat) : Int) + 8) ≤ (bs.length : Int)))), (10, .int .i64 (bs.length : Int)), (9, .slice A bs.length c)] (fun _ => by kernel_rfl) ?_
 refine WL.done rfl ?_
 refine QX.then_normal (hK19 _ _ ?_)
 refine WC.test_at 11 (decide ((((8 * k : Nat) : Int) + 8) ≤ (bs.length : Int))) rfl (fun t20b => ?_) (fun t20b => ?_)
 ·
  have t20 : (((8 * k : Nat) : Int) + 8) ≤ (bs.length : Int) := by have q_ := of_decide_eq_true t20b; omega
  refine WC.cond_true rfl ?_
  refine WC.skip ?_
  refine QX.then_normal (hK17 _ _ ?_)
  refine WC.seq (fun K21 hK22 => ?_)
  refine WC.block ?_
  refine WC.seq (fun K23 hK24 => ?_)
  refine WC.region ?_
  refine WL.runs 1 [(5, .int .u64 0)] (fun _ => by kernel_rfl) ?_
  refine WL.done rfl ?_
  refine QX.then_normal (hK24 _ _ ?_)
  refine WC.seq (fun K25 hK26 => ?_)
  refine WC.seq (fun K27 hK28 => ?_)
  refine WC.region ?_
  refine WL.runs 1 [(6, .int .i64 0)] (fun _ => by kernel_rfl) ?_
  refine WL.done rfl ?_
  refine QX.then_normal (hK28 _ _ ?_)
  refine WC.block ?_
  refine WC.loop (fun m_ E_ w_ => ∃ (j : Nat), m_ = 8 - j ∧ E_ = [(0, .slice A bs.length c), (3, .slice A5 n5 c5), (4, .int .i64 ((8 * k : Nat) : Int)), (5, .int .u64 (valF 0 ((bs.drop (8 * k)).take j))), (6, .int .i64 (j : Int))] ∧ Cx w [] w_ [] [blk (.slice A5 n5 c5)] ∧ World.ownsRow w_ 0 3 1 (.slice A5 n5 c5) n5 (((List.range k).map (numAt bs)).flatMap (Go.Tw.encI .i64)) ∧ (j ≤ 8)) ⟨_, _, ⟨0, rfl, rfl, hC15, hrow5, Nat.zero_le _⟩, sub_of ⟨rfl, rfl, rfl, rfl, rfl, trivial⟩⟩ (fun m32 E_ w33 K29 hK30 hI31 => ?_)
  obtain ⟨j, rfl, rfl, hC34, row_m32, hj⟩ := hI31
  refine WC.seq (fun K35 hK36 => ?_)
  refine WC.seq (fun K37 hK38 => ?_)
  refine WC.region ?_
  refine WL.runs 2 [(15, .bool (decide ((j : Int) < 8))), (14, .int .i64 (j : Int))] (fun _ => by kernel_rfl) ?_
  refine WL.done rfl ?_
  refine QX.then_normal (hK38 _ _ ?_)
  refine WC.test_at 15 (decide ((j : Int) < 8)) rfl (fun t39b => ?_) (fun t39b => ?_)
  ·
   have t39 : (j : Int) < 8 := by have q_ := of_decide_eq_true t39b; omega
   obtain ⟨hg0_, hg1_⟩ := grp_lt hb k (j := j) (by omega)
   refine WC.cond_true rfl ?_
   refine WC.skip ?_
   refine QX.then_normal (hK36 _ _ ?_)
   refine WC.seq (fun K40 hK41 => ?_)
   refine WC.block ?_
   refine WC.region ?_
   refine WL.runs 2 [(19, .int .u64 (IntKind.u64.wrap ((valF 0 ((bs.drop (8 * k)).take j)) * 256))), (18, .int .u64 (valF 0 ((bs.drop (8 * k)).take j)))] (fun _ => by kernel_rfl) ?_
   refine WL.recast (show (.int .u64 (IntKind.u64.wrap ((valF 0 ((bs.drop (8 * k)).take j)) * 256)) : Value) = .int .u64 ((valF 0 ((bs.drop (8 * k)).take j)) * 256) from by rw [wrap_in_u64 ((valF 0 ((bs.drop (8 * k)).take j)) * 256) (by omega) (by omega)]) ?_
   refine WL.runs 4 [(23, .int .i64 (IntKind.i64.wrap (((8 * k : Nat) : Int) + (j : Int)))), (22, .int .i64 (j : Int)), (21, .int .i64 ((8 * k : Nat) : Int)), (20, .slice A bs.length c)] (fun _ => by kernel_rfl) ?_
   refine WL.recast (show (.int .i64 (IntKind.i64.wrap (((8 * k : Nat) : Int) + (j : Int))) : Value) = .int .i64 (((8 * k : Nat) : Int) + (j : Int)) from by rw [wrap_in_i64 (((8 * k : Nat) : Int) + (j : Int)) (by omega) (by omega)]) ?_
   obtain ⟨e42, he43⟩ := get_some (xs := bs) (i := (8 * k) + j) (by omega)
   obtain ⟨b44, o46, hA45, hc47⟩ := hr.at_ _ _ he43
   obtain ⟨hby0_, hby1_⟩ := hb _ (List.mem_of_getElem? he43)
   refine WL.index A bs.length c 24 .i64 (((8 * k : Nat) : Int) + (j : Int)) b44 o46 ((8 * k) + j) 1 (by kernel_rfl) hA45 (by omega) (by omega) (o46 + ((8 * k) + j)) (by first | (simp; done) | omega) ?_
   refine WL.load 5 (.pointer (some ⟨b44, o46 + ((8 * k) + j), none⟩)) (.int .u8 e42) 25 (by kernel_rfl) (run_load1 rfl (by simpa [Nat.add_assoc] using hC34.fr.cell (hc47 0 _ rfl) (by simp))) ?_
   refine WL.runs 1 [(26, .int .u64 (IntKind.u64.wrap (e42)))] (fun _ => by kernel_rfl) ?_
   refine WL.recast (show (.int .u64 (IntKind.u64.wrap (e42)) : Value) = .int .u64 e42 from by rw [wrap_in_u64 (e42) (by omega) (by omega)]) ?_
   refine WL.runs 1 [(27, .int .u64 (IntKind.u64.wrap (((valF 0 ((bs.drop (8 * k)).take j)) * 256) + e42)))] (fun _ => by kernel_rfl) ?_
   refine WL.recast (show (.int .u64 (IntKind.u64.wrap (((valF 0 ((bs.drop (8 * k)).take j)) * 256) + e42)) : Value) = .int .u64 (valF 0 ((bs.drop (8 * k)).take (j + 1))) from congrArg (Value.int .u64) (by rw [wrap_in_u64 _ (by omega) (by omega)]; exact (valF_grp he43 (by omega)).symm)) ?_
   refine WL.runs 1 [(5, .int .u64 (valF 0 ((bs.drop (8 * k)).take (j + 1))))] (fun _ => by kernel_rfl) ?_
   refine WL.done rfl ?_
   refine QX.block_normal ?_
   refine QX.then_normal (hK41 _ _ ?_)
   refine WC.region ?_
   refine WL.runs 2 [(17, .int .i64 (IntKind.i64.wrap ((j : Int) + 1))), (16, .int .i64 (j : Int))] (fun _ => by kernel_rfl) ?_
   refine WL.recast (show (.int .i64 (IntKind.i64.wrap ((j : Int) + 1)) : Value) = .int .i64 ((j : Int) + 1) from by rw [wrap_in_i64 ((j : Int) + 1) (by omega) (by omega)]) ?_
   refine WL.runs 1 [(6, .int .i64 ((j : Int) + 1))] (fun _ => by kernel_rfl) ?_
   refine WL.done rfl ?_
   refine QX.then_normal ?_
   have hC48 := hC34.pick [] [0] rfl rfl
   refine fun a_ ha_ => hK30 _ _ _ ?_ ⟨j + 1, rfl, rfl, hC48, row_m32, by omega⟩ a_ (ha_.weaken (sub_of ⟨rfl, rfl, rfl, rfl, rfl, trivial⟩))
   omega
  ·
   have t39 : (8 : Int) ≤ (j : Int) := by have q_ := of_decide_eq_false t39b; omega
   refine WC.cond_false rfl ?_
   refine WC.exit ?_
   refine QX.then_exit ?_
   refine QX.then_exit ?_
   refine QX.block_hit ?_
   refine QX.then_normal (hK26 _ _ ?_)
   refine WC.region ?_
   refine WL.runs 3 [(30, .int .i64 (IntKind.i64.wrap (valF 0 ((bs.drop (8 * k)).take j)))), (29, .int .u64 (valF 0 ((bs.drop (8 * k)).take j))), (28, .slice A5 n5 c5)] (fun _ => by kernel_rfl) ?_
   refine WL.recast (show (.int .i64 (IntKind.i64.wrap (valF 0 ((bs.drop (8 * k)).take j))) : Value) = .int .i64 (numAt bs k) from congrArg (Value.int .i64) (by have hj_ : j = 8 := (by omega); subst hj_; rfl)) ?_
   refine WL.newM hC34 (fun b => .slice (some ⟨b, 0, none⟩) 1 1) (.cells #[.int .i64 (numAt bs k)] 3) 31 (fun _ => by kernel_rfl) (fun g49 w50 hb53 hF51 hC52 => ?_)
   have ho54 := own_fr row_m32 hF51 (by simp)
   obtain ⟨v55, w56, hr57, ho58, hF59, hC60, hnil61, hsub62⟩ := app_run Try.prog hC52 0 (v := .slice A5 n5 c5) rfl 101 101 3 1 8 n5 1 1 (some ⟨g49, 0, none⟩) rfl ho54 [.int .i64 (numAt bs k)] rfl (srcOk.blk 1 (hC52.get 0 rfl)) rfl (by simp only [maxLen]; omega) (by omega)
   have ho66 := own_snoc (enc := (Go.Tw.encI .i64)) (ys := ((List.range k).map (numAt bs))) (numAt bs k) ho58
   obtain ⟨A63, c64, rfl, hle65⟩ := own_form ho66
   refine WL.sem (Builtin.append_ #[101, 101] 101 #[.slice A5 n5 c5, .slice (some ⟨g49, 0, none⟩) 1 1]) 32 (.slice A63 (n5 + 1) c64) (by kernel_rfl) hr57 ?_
   refine WL.runs 1 [(3, .slice A63 (n5 + 1) c64)] (fun _ => by kernel_rfl) ?_
   refine WL.done rfl ?_
   refine QX.block_normal ?_
   refine QX.then_normal (hK22 _ _ ?_)
   refine WC.region ?_
   refine WL.runs 2 [(13, .int .i64 (IntKind.i64.wrap (((8 * k : Nat) : Int) + 8))), (12, .int .i64 ((8 * k : Nat) : Int))] (fun _ => by kernel_rfl) ?_
   refine WL.recast (show (.int .i64 (IntKind.i64.wrap (((8 * k : Nat) : Int) + 8)) : Value) = .int .i64 ((8 * (k + 1) : Nat) : Int) from congrArg (Value.int .i64) (by rw [wrap_in_i64 _ (by omega) (by omega)]; omega)) ?_
   refine WL.runs 1 [(4, .int .i64 ((8 * (k + 1) : Nat) : Int))] (fun _ => by kernel_rfl) ?_
   refine WL.done rfl ?_
   refine QX.then_normal ?_
   have hC67 := hC60.pick [] [0] rfl rfl
   refine fun a_ ha_ => hK11 _ _ _ ?_ ⟨k + 1, A63, n5 + 1, c64, rfl, rfl, hC67, by rw [range_snocM]; exact ho66, by omega⟩ a_ (ha_.weaken (sub_of ⟨rfl, rfl, rfl, trivial⟩))
   omega
 ·
  have t20 : (bs.length : Int) < (((8 * k : Nat) : Int) + 8) := by have q_ := of_decide_eq_false t20b; omega
  refine WC.cond_false rfl ?_
  refine WC.exit ?_
  refine QX.then_exit ?_
  refine QX.then_exit ?_
  refine QX.block_hit ?_
  refine QX.then_normal (hK6 _ _ ?_)
  refine WC.seq (fun K68 hK69 => ?_)
  refine WC.region ?_
  refine WL.runs 2 [(2, .slice A5 n5 c5), (33, .slice A5 n5 c5)] (fun _ => by kernel_rfl) ?_
  refine WL.done rfl ?_
  refine QX.then_normal (hK69 _ _ ?_)
  refine WC.ret ?_
  refine (hret _ _ _ rfl ?_).1
  clear hN hret hret' hK69 hK19 hK17 hK8 hK6 hK4 hK2
  have hk_ : k = bs.length / 8 := by omega
  subst hk_
  have hn_ : n5 = (intsL bs).length := by rw [intsL_len]; omega
  subst hn_
  have ho_ := hrow5
  exact ⟨_, rfl, hC15.fr, own_base ho_ (newF_of hC15 0 rfl (fun _ h_ => nomatch h_) (fun _ h_ => nomatch h_))⟩

theorem ints_n (A : Option Addr) (n c : Nat) (bs : List Int) (w : World) (hr : Rd w 1 (Go.Tw.encI .u8) A bs) (hn : bs.length = n) (hb : byteL bs) (hl : n ≤ 4398046511104) : Calls Try.prog 44 #[.slice A n c] w fun e w' => ∃ v, e = .returned v ∧ Fr w w' [] ∧ w'.ownsRow w.heap.size 3 1 v (intsL bs).length ((intsL bs).flatMap (Go.Tw.encI .i64)) := by subst hn; exact ints_ct A c bs w hr hb hl
set_option maxHeartbeats 4000000 in
theorem RRead_ct (A : Option Addr) (c : Nat) (bs : List Int) (w : World) (hr : Rd w 1 (Go.Tw.encI .u8) A bs) (hb : byteL bs) (hl : bs.length ≤ 4398046511104) : Calls Try.prog 13 #[.slice A bs.length c] w fun e w' => ∃ (A2 : Option Addr) (c2 : Nat) (L2 : List Cmd) (R2 : List Nat), e = .returned (.tuple #[.slice A2 L2.length c2, .int .i64 (if readOk bs then 0 else 3)]) ∧ Fr w w' [] ∧ w'.ownsRow w.heap.size 61 12 (.slice A2 L2.length c2) L2.length (L2.flatMap cellsC) ∧ logIn w' R2 L2 ∧ vals L2 = (if readOk bs then readL bs else []) ∧ (∀ x ∈ R2, w.heap.size ≤ x ∧ x < w'.heap.size) ∧ (∀ x ∈ blk (.slice A2 L2.length c2), x ∉ R2) := by
 refine enterD (n := 189) Try.func13 rfl rfl (Nat.le_of_ble_eq_true rfl) ?_
 intro Q0 hN hret hret'
 have hC := Cx.start w
 refine WC.seq (fun K1 hK2 => ?_)
 refine WC.region ?_
 refine WL.runs 2 [(3, .int .i64 0), (2, .slice none 0 0)] (fun _ => by kernel_rfl) ?_
 refine WL.done rfl ?_
 refine QX.then_normal (hK2 _ _ ?_)
 refine WC.seq (fun K3 hK4 => ?_)
 refine WC.region ?_
 refine WL.runs 1 [(4, .int .i64 3)] (fun _ => by kernel_rfl) ?_
 refine WL.done rfl ?_
 refine QX.then_normal (hK4 _ _ ?_)
 refine WC.seq (fun K5 hK6 => ?_)
 refine WC.region ?_
 refine WL.runs 1 [(13, .slice A bs.length c)] (fun _ => by kernel_rfl) ?_
 refine WL.call rfl rfl rfl rfl rfl (by kernel_rfl) (ints_n A bs.length c bs w (Rd.fr hr hC.fr) rfl hb hl) ?_
 rintro _ w9 ⟨v_, rfl, hF8, ho7⟩
 have hC10 := hC.callN hF8 (own_ge ho7) (own_lt ho7)
 obtain ⟨A11, c12, rfl, hle13⟩ := own_form ho7
 have ho15 := own_base (b' := 0) ho7 (fun _ _ => Nat.zero_le _)
 refine ⟨_, rfl, ?_⟩
 refine WL.runs 1 [(5, .slice A11 ((intsL bs).length) c12)] (fun _ => by kernel_rfl) ?_
 refine WL.done rfl ?_
 refine QX.then_normal (hK6 _ _ ?_)
 refine WC.seq (fun K17 hK18 => ?_)
 refine WC.region ?_
 refine WL.runs 1 [(6, .slice none 0 0)] (fun _ => by kernel_rfl) ?_
 refine WL.done rfl ?_
 refine QX.then_normal (hK18 _ _ ?_)
 refine WC.seq (fun K19 hK20 => ?_)
 refine WC.region ?_
 refine WL.runs 1 [(7, .int .i64 1)] (fun _ => by kernel_rfl) ?_
 refine WL.done rfl ?_
 refine QX.then_normal (hK20 _ _ ?_)
 refine WC.seq (fun K21 hK22 => ?_)
 refine WC.block ?_
 have hC23 := hC10.addNil
 have hC24 := hC23.addNil
 have hl25 : logIn w9 (blk (.slice none 0 0)) [] := logIn.nil _ _
 refine WC.loop (fun m_ E_ w_ => ∃ (a : Nat) (A5 : Option Addr) (n5 c5 : Nat) (R5 : List Nat) (L5 : List Cmd), m_ = 258 - L5.length ∧ E_ = [(0, .slice A bs.length c), (4, .int .i64 3), (5, .slice A11 ((intsL bs).length) c12), (6, .slice A5 n5 c5), (7, .int .i64 (a : Int))] ∧ Cx w [] w_ [] [blk (.slice A11 ((intsL bs).length) c12), blk (.slice A5 n5 c5), R5] ∧ World.ownsRow w_ 0 3 1 (.slice A11 ((intsL bs).length) c12) ((intsL bs).length) ((intsL bs).flatMap (Go.Tw.encI .i64)) ∧ World.ownsRow w_ 0 61 12 (.slice A5 n5 c5) n5 (L5.flatMap cellsC) ∧ logIn w_ R5 L5 ∧ (1 ≤ a ∧ a ≤ (intsL bs).length + 1 ∧ L5.length ≤ 257 ∧ RdI bs (vals L5) a ∧ (∀ m ∈ L5, m.v.ends.length ≤ 65))) ⟨_, _, ⟨1, none, 0, 0, (blk (.slice none 0 0)), [], rfl, rfl, hC24, ho15, own_nil _ _ _ _, hl25, Nat.le_refl _, by omega, Nat.zero_le _, RdI_0 bs, (fun _ h_ => nomatch h_)⟩, sub_of ⟨rfl, rfl, rfl, rfl, rfl, trivial⟩⟩ (fun m29 E_ w30 K26 hK27 hI28 => ?_)
 obtain ⟨a, A5, n5, c5, R5, L5, rfl, rfl, hC31, row16_m29, hrow5, hlog5, ha1, ha, hll, hri, h65⟩ := hI28
 have hcn5_ := own_count cellsC_len (by decide) hrow5
 have hvl5_ := vals_len L5
 have hil_ := intsL_len bs
 refine WC.seq (fun K32 hK33 => ?_)
 refine WC.seq (fun K34 hK35 => ?_)
 refine WC.region ?_
 refine WL.runs 4 [(18, .bool (decide (((intsL bs).length : Int) > 0))), (17, .bool (decide (((intsL bs).length : Int) > 0))), (16, .int .i64 ((intsL bs).length : Int)), (15, .slice A11 ((intsL bs).length) c12)] (fun _ => by kernel_rfl) ?_
 refine WL.test_at 18 (decide (((intsL bs).length : Int) > 0)) rfl (fun t36b => ?_) (fun t36b => ?_)
 ·
  have t36 : (0 : Int) < ((intsL bs).length : Int) := by have q_ := of_decide_eq_true t36b; omega
  refine WL.runs 3 [(21, .slice A11 ((intsL bs).length) c12), (20, .int .i64 (n5 : Int)), (19, .slice A5 n5 c5)] (fun _ => by kernel_rfl) ?_
  have hn41 := own_count (Go.Tw.encI_len _) (by decide) row16_m29
  obtain ⟨e37, he38⟩ := get_some (xs := (intsL bs)) (i := 0) (by omega)
  obtain ⟨b39, hA40⟩ := own_addr (by decide) (Go.Tw.encI_len _) row16_m29 he38
  refine WL.index A11 ((intsL bs).length) c12 22 .i64 0 b39 0 0 1 (by kernel_rfl) hA40 (by omega) (by omega) 0 (by first | (simp; done) | omega) ?_
  refine WL.load 3 (.pointer (some ⟨b39, 0, none⟩)) (.int .i64 e37) 23 (by kernel_rfl) (run_load1 rfl (by simpa [Nat.add_assoc] using Rd.cell (own_rd row16_m29 (Go.Tw.encI_len _) (by decide)) hA40 he38 0 _ rfl)) ?_
  refine WL.runs 3 [(26, .bool (decide ((n5 : Int) < e37))), (25, .bool (decide ((n5 : Int) < e37))), (24, .bool (decide ((n5 : Int) < e37)))] (fun _ => by kernel_rfl) ?_
  refine WL.test_at 26 (decide ((n5 : Int) < e37)) rfl (fun t42b => ?_) (fun t42b => ?_)
  ·
   have t42 : (n5 : Int) < e37 := by have q_ := of_decide_eq_true t42b; omega
   refine WL.runs 4 [(30, .bool (decide ((n5 : Int) ≤ 256))), (29, .bool (decide ((n5 : Int) ≤ 256))), (28, .int .i64 (n5 : Int)), (27, .slice A5 n5 c5)] (fun _ => by kernel_rfl) ?_
   refine WL.done rfl ?_
   refine QX.then_normal (hK35 _ _ ?_)
   refine WC.test_at 30 (decide ((n5 : Int) ≤ 256)) rfl (fun t43b => ?_) (fun t43b => ?_)
   ·
    have t43 : (n5 : Int) ≤ 256 := by have q_ := of_decide_eq_true t43b; omega
    refine WC.cond_true rfl ?_
    refine WC.skip ?_
    refine QX.then_normal (hK33 _ _ ?_)
    refine WC.block ?_
    refine WC.seq (fun K44 hK45 => ?_)
    refine WC.seq (fun K46 hK47 => ?_)
    refine WC.region ?_
    refine WL.runs 4 [(34, .int .i64 (IntKind.i64.wrap ((a : Int) + 9))), (33, .int .i64 (a : Int)), (32, .int .i64 ((intsL bs).length : Int)), (31, .slice A11 ((intsL bs).length) c12)] (fun _ => by kernel_rfl) ?_
    refine WL.recast (show (.int .i64 (IntKind.i64.wrap ((a : Int) + 9)) : Value) = .int .i64 ((a : Int) + 9) from by rw [wrap_in_i64 ((a : Int) + 9) (by omega) (by omega)]) ?_
    refine WL.runs 2 [(36, .bool (decide (((intsL bs).length : Int) < ((a : Int) + 9)))), (35, .bool (decide (((intsL bs).length : Int) < ((a : Int) + 9))))] (fun _ => by kernel_rfl) ?_
    refine WL.test_at 36 (decide (((intsL bs).length : Int) < ((a : Int) + 9))) rfl (fun t48b => ?_) (fun t48b => ?_)
    ·
     have t48 : ((intsL bs).length : Int) < ((a : Int) + 9) := by have q_ := of_decide_eq_true t48b; omega
     refine WL.runs 29 [(65, .bool true), (64, undef), (63, undef), (62, undef), (61, undef), (60, undef), (59, undef), (58, undef), (57, undef), (56, undef), (55, undef), (54, undef), (53, undef), (52, .bool true), (51, .bool true), (50, undef), (49, undef), (48, undef), (47, undef), (46, undef), (45, undef), (44, .bool true), (43, .bool true), (42, undef), (41, undef), (40, undef), (39, undef), (38, undef), (37, undef)] (fun _ => by kernel_rfl) ?_
     refine WL.done rfl ?_
     refine QX.then_normal (hK47 _ _ ?_)
     refine WC.cond_true rfl ?_
     refine WC.seq (fun K49 hK50 => ?_)
     refine WC.region ?_
     refine WL.runs 3 [(3, .int .i64 3), (2, .slice none 0 0), (66, .int .i64 3)] (fun _ => by kernel_rfl) ?_
     refine WL.done rfl ?_
     refine QX.then_normal (hK50 _ _ ?_)
     refine WC.ret ?_
     refine QX.then_ret ?_
     refine QX.block_ret ?_
     refine QX.then_ret ?_
     refine QX.block_ret ?_
     refine QX.then_ret ?_
     refine (hret _ _ _ rfl ?_).1
     clear hN hret hret' hK50 hK47 hK45 hK35 hK33 hK22 hK20 hK18 hK6 hK4 hK2
     have hno_ : readOk bs = false := RdI_bad hri (by rw [vals_len, gN_of he38]; omega) (.inl (by omega))
     rw [hno_]
     exact ⟨none, 0, [], [], rfl, hC31.fr, own_nil _ _ _ _, logIn.nil _ _, rfl, (fun _ h_ => nomatch h_), (fun _ _ h_ => nomatch h_)⟩
    ·
     have t48 : ((a : Int) + 9) ≤ ((intsL bs).length : Int) := by have q_ := of_decide_eq_false t48b; omega
     refine WL.runs 3 [(39, .int .i64 (IntKind.i64.wrap ((a : Int) + 8))), (38, .int .i64 (a : Int)), (37, .slice A11 ((intsL bs).length) c12)] (fun _ => by kernel_rfl) ?_
     refine WL.recast (show (.int .i64 (IntKind.i64.wrap ((a : Int) + 8)) : Value) = .int .i64 ((a : Int) + 8) from by rw [wrap_in_i64 ((a : Int) + 8) (by omega) (by omega)]) ?_
     have hn55 := own_count (Go.Tw.encI_len _) (by decide) row16_m29
     obtain ⟨e51, he52⟩ := get_some (xs := (intsL bs)) (i := a + 8) (by omega)
     obtain ⟨b53, hA54⟩ := own_addr (by decide) (Go.Tw.encI_len _) row16_m29 he52
     refine WL.index A11 ((intsL bs).length) c12 40 .i64 ((a : Int) + 8) b53 0 (a + 8) 1 (by kernel_rfl) hA54 (by omega) (by omega) (a + 8) (by first | (simp; done) | omega) ?_
     refine WL.load 3 (.pointer (some ⟨b53, a + 8, none⟩)) (.int .i64 e51) 41 (by kernel_rfl) (run_load1 rfl (by simpa [Nat.add_assoc] using Rd.cell (own_rd row16_m29 (Go.Tw.encI_len _) (by decide)) hA54 he52 0 _ rfl)) ?_
     refine WL.runs 3 [(44, .bool (decide (e51 < 0))), (43, .bool (decide (e51 < 0))), (42, .bool (decide (e51 < 0)))] (fun _ => by kernel_rfl) ?_
     refine WL.test_at 44 (decide (e51 < 0)) rfl (fun t56b => ?_) (fun t56b => ?_)
     ·
      have t56 : e51 < 0 := by have q_ := of_decide_eq_true t56b; omega
      refine WL.runs 21 [(65, .bool true), (64, undef), (63, undef), (62, undef), (61, undef), (60, undef), (59, undef), (58, undef), (57, undef), (56, undef), (55, undef), (54, undef), (53, undef), (52, .bool true), (51, .bool true), (50, undef), (49, undef), (48, undef), (47, undef), (46, undef), (45, undef)] (fun _ => by kernel_rfl) ?_
      refine WL.done rfl ?_
      refine QX.then_normal (hK47 _ _ ?_)
      refine WC.cond_true rfl ?_
      refine WC.seq (fun K57 hK58 => ?_)
      refine WC.region ?_
      refine WL.runs 3 [(3, .int .i64 3), (2, .slice none 0 0), (66, .int .i64 3)] (fun _ => by kernel_rfl) ?_
      refine WL.done rfl ?_
      refine QX.then_normal (hK58 _ _ ?_)
      refine WC.ret ?_
      refine QX.then_ret ?_
      refine QX.block_ret ?_
      refine QX.then_ret ?_
      refine QX.block_ret ?_
      refine QX.then_ret ?_
      refine (hret _ _ _ rfl ?_).1
      clear hN hret hret' hK58 hK47 hK45 hK35 hK33 hK22 hK20 hK18 hK6 hK4 hK2
      have hno_ : readOk bs = false := RdI_bad hri (by rw [vals_len, gN_of he38]; omega) (by rw [gN_of he52]; omega)
      rw [hno_]
      exact ⟨none, 0, [], [], rfl, hC31.fr, own_nil _ _ _ _, logIn.nil _ _, rfl, (fun _ h_ => nomatch h_), (fun _ _ h_ => nomatch h_)⟩
     ·
      have t56 : (0 : Int) ≤ e51 := by have q_ := of_decide_eq_false t56b; omega
      refine WL.runs 3 [(47, .int .i64 (IntKind.i64.wrap ((a : Int) + 8))), (46, .int .i64 (a : Int)), (45, .slice A11 ((intsL bs).length) c12)] (fun _ => by kernel_rfl) ?_
      refine WL.recast (show (.int .i64 (IntKind.i64.wrap ((a : Int) + 8)) : Value) = .int .i64 ((a : Int) + 8) from by rw [wrap_in_i64 ((a : Int) + 8) (by omega) (by omega)]) ?_
      refine WL.index A11 ((intsL bs).length) c12 48 .i64 ((a : Int) + 8) b53 0 (a + 8) 1 (by kernel_rfl) hA54 (by omega) (by omega) (a + 8) (by first | (simp; done) | omega) ?_
      refine WL.load 3 (.pointer (some ⟨b53, a + 8, none⟩)) (.int .i64 e51) 49 (by kernel_rfl) (run_load1 rfl (by simpa [Nat.add_assoc] using Rd.cell (own_rd row16_m29 (Go.Tw.encI_len _) (by decide)) hA54 he52 0 _ rfl)) ?_
      refine WL.runs 3 [(52, .bool (decide (e51 > 64))), (51, .bool (decide (e51 > 64))), (50, .bool (decide (e51 > 64)))] (fun _ => by kernel_rfl) ?_
      refine WL.test_at 52 (decide (e51 > 64)) rfl (fun t63b => ?_) (fun t63b => ?_)
      ·
       have t63 : (64 : Int) < e51 := by have q_ := of_decide_eq_true t63b; omega
       refine WL.runs 13 [(65, .bool true), (64, undef), (63, undef), (62, undef), (61, undef), (60, undef), (59, undef), (58, undef), (57, undef), (56, undef), (55, undef), (54, undef), (53, undef)] (fun _ => by kernel_rfl) ?_
       refine WL.done rfl ?_
       refine QX.then_normal (hK47 _ _ ?_)
       refine WC.cond_true rfl ?_
       refine WC.seq (fun K64 hK65 => ?_)
       refine WC.region ?_
       refine WL.runs 3 [(3, .int .i64 3), (2, .slice none 0 0), (66, .int .i64 3)] (fun _ => by kernel_rfl) ?_
       refine WL.done rfl ?_
       refine QX.then_normal (hK65 _ _ ?_)
       refine WC.ret ?_
       refine QX.then_ret ?_
       refine QX.block_ret ?_
       refine QX.then_ret ?_
       refine QX.block_ret ?_
       refine QX.then_ret ?_
       refine (hret _ _ _ rfl ?_).1
       clear hN hret hret' hK65 hK47 hK45 hK35 hK33 hK22 hK20 hK18 hK6 hK4 hK2
       have hno_ : readOk bs = false := RdI_bad hri (by rw [vals_len, gN_of he38]; omega) (by rw [gN_of he52]; omega)
       rw [hno_]
       exact ⟨none, 0, [], [], rfl, hC31.fr, own_nil _ _ _ _, logIn.nil _ _, rfl, (fun _ h_ => nomatch h_), (fun _ _ h_ => nomatch h_)⟩
      ·
       have t63 : e51 ≤ 64 := by have q_ := of_decide_eq_false t63b; omega
       refine WL.runs 4 [(56, .int .i64 (IntKind.i64.wrap ((a : Int) + 12))), (55, .int .i64 (a : Int)), (54, .int .i64 ((intsL bs).length : Int)), (53, .slice A11 ((intsL bs).length) c12)] (fun _ => by kernel_rfl) ?_
       refine WL.recast (show (.int .i64 (IntKind.i64.wrap ((a : Int) + 12)) : Value) = .int .i64 ((a : Int) + 12) from by rw [wrap_in_i64 ((a : Int) + 12) (by omega) (by omega)]) ?_
       refine WL.runs 3 [(59, .int .i64 (IntKind.i64.wrap ((a : Int) + 8))), (58, .int .i64 (a : Int)), (57, .slice A11 ((intsL bs).length) c12)] (fun _ => by kernel_rfl) ?_
       refine WL.recast (show (.int .i64 (IntKind.i64.wrap ((a : Int) + 8)) : Value) = .int .i64 ((a : Int) + 8) from by rw [wrap_in_i64 ((a : Int) + 8) (by omega) (by omega)]) ?_
       refine WL.index A11 ((intsL bs).length) c12 60 .i64 ((a : Int) + 8) b53 0 (a + 8) 1 (by kernel_rfl) hA54 (by omega) (by omega) (a + 8) (by first | (simp; done) | omega) ?_
       refine WL.load 3 (.pointer (some ⟨b53, a + 8, none⟩)) (.int .i64 e51) 61 (by kernel_rfl) (run_load1 rfl (by simpa [Nat.add_assoc] using Rd.cell (own_rd row16_m29 (Go.Tw.encI_len _) (by decide)) hA54 he52 0 _ rfl)) ?_
       refine WL.runs 1 [(62, .int .i64 (IntKind.i64.wrap (3 * e51)))] (fun _ => by kernel_rfl) ?_
       refine WL.recast (show (.int .i64 (IntKind.i64.wrap (3 * e51)) : Value) = .int .i64 (3 * e51) from by rw [wrap_in_i64 (3 * e51) (by omega) (by omega)]) ?_
       refine WL.runs 1 [(63, .int .i64 (IntKind.i64.wrap (((a : Int) + 12) + (3 * e51))))] (fun _ => by kernel_rfl) ?_
       refine WL.recast (show (.int .i64 (IntKind.i64.wrap (((a : Int) + 12) + (3 * e51))) : Value) = .int .i64 (((a : Int) + 12) + (3 * e51)) from by rw [wrap_in_i64 (((a : Int) + 12) + (3 * e51)) (by omega) (by omega)]) ?_
       refine WL.runs 2 [(65, .bool (decide (((intsL bs).length : Int) < (((a : Int) + 12) + (3 * e51))))), (64, .bool (decide (((intsL bs).length : Int) < (((a : Int) + 12) + (3 * e51)))))] (fun _ => by kernel_rfl) ?_
       refine WL.done rfl ?_
       refine QX.then_normal (hK47 _ _ ?_)
       refine WC.test_at 65 (decide (((intsL bs).length : Int) < (((a : Int) + 12) + (3 * e51)))) rfl (fun t70b => ?_) (fun t70b => ?_)
       ·
        have t70 : ((intsL bs).length : Int) < (((a : Int) + 12) + (3 * e51)) := by have q_ := of_decide_eq_true t70b; omega
        refine WC.cond_true rfl ?_
        refine WC.seq (fun K71 hK72 => ?_)
        refine WC.region ?_
        refine WL.runs 3 [(3, .int .i64 3), (2, .slice none 0 0), (66, .int .i64 3)] (fun _ => by kernel_rfl) ?_
        refine WL.done rfl ?_
        refine QX.then_normal (hK72 _ _ ?_)
        refine WC.ret ?_
        refine QX.then_ret ?_
        refine QX.block_ret ?_
        refine QX.then_ret ?_
        refine QX.block_ret ?_
        refine QX.then_ret ?_
        refine (hret _ _ _ rfl ?_).1
        clear hN hret hret' hK72 hK47 hK45 hK35 hK33 hK22 hK20 hK18 hK6 hK4 hK2
        have hno_ : readOk bs = false := RdI_bad hri (by rw [vals_len, gN_of he38]; omega) (by rw [gN_of he52]; omega)
        rw [hno_]
        exact ⟨none, 0, [], [], rfl, hC31.fr, own_nil _ _ _ _, logIn.nil _ _, rfl, (fun _ h_ => nomatch h_), (fun _ _ h_ => nomatch h_)⟩
       ·
        have t70 : (((a : Int) + 12) + (3 * e51)) ≤ ((intsL bs).length : Int) := by have q_ := of_decide_eq_false t70b; omega
        refine WC.cond_false rfl ?_
        refine WC.skip ?_
        refine QX.then_normal (hK45 _ _ ?_)
        refine WC.seq (fun K73 hK74 => ?_)
        refine WC.drawC hC31 [] (by kernel_rfl) (fun w75 hF76 hC77 hS78 => ?_)
        have ho79 := own_fr row16_m29 hF76 (by simp)
        have ho80 := own_fr hrow5 hF76 (by simp)
        have hl81 := logIn.fr hlog5 hF76 (by simp)
        refine WD.pure (NoPanic.then (NoPanic.block (NoPanic.then (NoPanic.block (NoPanic.then hN))))) 0 67 (.slice A11 ((intsL bs).length) c12) (by kernel_rfl) (fun _ => by kernel_rfl) hS78 ?_
        refine WD.pure (NoPanic.then (NoPanic.block (NoPanic.then (NoPanic.block (NoPanic.then hN))))) 1 68 (.int .i64 (a : Int)) (by kernel_rfl) (fun _ => by kernel_rfl) hS78 ?_
        have hn86 := own_count (Go.Tw.encI_len _) (by decide) ho79
        obtain ⟨e82, he83⟩ := get_some (xs := (intsL bs)) (i := a) (by omega)
        obtain ⟨b84, hA85⟩ := own_addr (by decide) (Go.Tw.encI_len _) ho79 he83
        refine WD.index (NoPanic.then (NoPanic.block (NoPanic.then (NoPanic.block (NoPanic.then hN))))) 2 A11 ((intsL bs).length) c12 69 .i64 (a : Int) b84 0 a 1 (by kernel_rfl) (by kernel_rfl) hA85 (by omega) (by omega) a (by first | (simp; done) | omega) hS78 ?_
        refine WD.pure (NoPanic.then (NoPanic.block (NoPanic.then (NoPanic.block (NoPanic.then hN))))) 4 71 (.slice A11 ((intsL bs).length) c12) (by kernel_rfl) (fun _ => by kernel_rfl) hS78 ?_
        refine WD.pure (NoPanic.then (NoPanic.block (NoPanic.then (NoPanic.block (NoPanic.then hN))))) 5 72 (.int .i64 (a : Int)) (by kernel_rfl) (fun _ => by kernel_rfl) hS78 ?_
        refine WD.pure (NoPanic.then (NoPanic.block (NoPanic.then (NoPanic.block (NoPanic.then hN))))) 6 73 (.int .i64 (IntKind.i64.wrap ((a : Int) + 1))) (by kernel_rfl) (fun _ => by kernel_rfl) hS78 ?_
        refine WD.recast (show (.int .i64 (IntKind.i64.wrap ((a : Int) + 1)) : Value) = .int .i64 ((a : Int) + 1) from by rw [wrap_in_i64 ((a : Int) + 1) (by omega) (by omega)]) ?_
        have hn91 := own_count (Go.Tw.encI_len _) (by decide) ho79
        obtain ⟨e87, he88⟩ := get_some (xs := (intsL bs)) (i := a + 1) (by omega)
        obtain ⟨b89, hA90⟩ := own_addr (by decide) (Go.Tw.encI_len _) ho79 he88
        refine WD.index (NoPanic.then (NoPanic.block (NoPanic.then (NoPanic.block (NoPanic.then hN))))) 7 A11 ((intsL bs).length) c12 74 .i64 ((a : Int) + 1) b89 0 (a + 1) 1 (by kernel_rfl) (by kernel_rfl) hA90 (by omega) (by omega) (a + 1) (by first | (simp; done) | omega) hS78 ?_
        refine WD.pure (NoPanic.then (NoPanic.block (NoPanic.then (NoPanic.block (NoPanic.then hN))))) 9 76 (.slice A11 ((intsL bs).length) c12) (by kernel_rfl) (fun _ => by kernel_rfl) hS78 ?_
        refine WD.pure (NoPanic.then (NoPanic.block (NoPanic.then (NoPanic.block (NoPanic.then hN))))) 10 77 (.int .i64 (a : Int)) (by kernel_rfl) (fun _ => by kernel_rfl) hS78 ?_
        refine WD.pure (NoPanic.then (NoPanic.block (NoPanic.then (NoPanic.block (NoPanic.then hN))))) 11 78 (.int .i64 (IntKind.i64.wrap ((a : Int) + 2))) (by kernel_rfl) (fun _ => by kernel_rfl) hS78 ?_
        refine WD.recast (show (.int .i64 (IntKind.i64.wrap ((a : Int) + 2)) : Value) = .int .i64 ((a : Int) + 2) from by rw [wrap_in_i64 ((a : Int) + 2) (by omega) (by omega)]) ?_
        have hn96 := own_count (Go.Tw.encI_len _) (by decide) ho79
        obtain ⟨e92, he93⟩ := get_some (xs := (intsL bs)) (i := a + 2) (by omega)
        obtain ⟨b94, hA95⟩ := own_addr (by decide) (Go.Tw.encI_len _) ho79 he93
        refine WD.index (NoPanic.then (NoPanic.block (NoPanic.then (NoPanic.block (NoPanic.then hN))))) 12 A11 ((intsL bs).length) c12 79 .i64 ((a : Int) + 2) b94 0 (a + 2) 1 (by kernel_rfl) (by kernel_rfl) hA95 (by omega) (by omega) (a + 2) (by first | (simp; done) | omega) hS78 ?_
        refine WD.pure (NoPanic.then (NoPanic.block (NoPanic.then (NoPanic.block (NoPanic.then hN))))) 14 81 (.slice A11 ((intsL bs).length) c12) (by kernel_rfl) (fun _ => by kernel_rfl) hS78 ?_
        refine WD.pure (NoPanic.then (NoPanic.block (NoPanic.then (NoPanic.block (NoPanic.then hN))))) 15 82 (.int .i64 (a : Int)) (by kernel_rfl) (fun _ => by kernel_rfl) hS78 ?_
        refine WD.pure (NoPanic.then (NoPanic.block (NoPanic.then (NoPanic.block (NoPanic.then hN))))) 16 83 (.int .i64 (IntKind.i64.wrap ((a : Int) + 3))) (by kernel_rfl) (fun _ => by kernel_rfl) hS78 ?_
        refine WD.recast (show (.int .i64 (IntKind.i64.wrap ((a : Int) + 3)) : Value) = .int .i64 ((a : Int) + 3) from by rw [wrap_in_i64 ((a : Int) + 3) (by omega) (by omega)]) ?_
        have hn101 := own_count (Go.Tw.encI_len _) (by decide) ho79
        obtain ⟨e97, he98⟩ := get_some (xs := (intsL bs)) (i := a + 3) (by omega)
        obtain ⟨b99, hA100⟩ := own_addr (by decide) (Go.Tw.encI_len _) ho79 he98
        refine WD.index (NoPanic.then (NoPanic.block (NoPanic.then (NoPanic.block (NoPanic.then hN))))) 17 A11 ((intsL bs).length) c12 84 .i64 ((a : Int) + 3) b99 0 (a + 3) 1 (by kernel_rfl) (by kernel_rfl) hA100 (by omega) (by omega) (a + 3) (by first | (simp; done) | omega) hS78 ?_
        refine WD.pure (NoPanic.then (NoPanic.block (NoPanic.then (NoPanic.block (NoPanic.then hN))))) 19 86 (.slice A11 ((intsL bs).length) c12) (by kernel_rfl) (fun _ => by kernel_rfl) hS78 ?_
        refine WD.pure (NoPanic.then (NoPanic.block (NoPanic.then (NoPanic.block (NoPanic.then hN))))) 20 87 (.int .i64 (a : Int)) (by kernel_rfl) (fun _ => by kernel_rfl) hS78 ?_
        refine WD.pure (NoPanic.then (NoPanic.block (NoPanic.then (NoPanic.block (NoPanic.then hN))))) 21 88 (.int .i64 (IntKind.i64.wrap ((a : Int) + 4))) (by kernel_rfl) (fun _ => by kernel_rfl) hS78 ?_
        refine WD.recast (show (.int .i64 (IntKind.i64.wrap ((a : Int) + 4)) : Value) = .int .i64 ((a : Int) + 4) from by rw [wrap_in_i64 ((a : Int) + 4) (by omega) (by omega)]) ?_
        have hn106 := own_count (Go.Tw.encI_len _) (by decide) ho79
        obtain ⟨e102, he103⟩ := get_some (xs := (intsL bs)) (i := a + 4) (by omega)
        obtain ⟨b104, hA105⟩ := own_addr (by decide) (Go.Tw.encI_len _) ho79 he103
        refine WD.index (NoPanic.then (NoPanic.block (NoPanic.then (NoPanic.block (NoPanic.then hN))))) 22 A11 ((intsL bs).length) c12 89 .i64 ((a : Int) + 4) b104 0 (a + 4) 1 (by kernel_rfl) (by kernel_rfl) hA105 (by omega) (by omega) (a + 4) (by first | (simp; done) | omega) hS78 ?_
        refine WD.load (NoPanic.then (NoPanic.block (NoPanic.then (NoPanic.block (NoPanic.then hN))))) 3 3 (.pointer (some ⟨b84, a, none⟩)) (.int .i64 e82) 70 (by kernel_rfl) (by kernel_rfl) (fun _ hS_ => run_load1 rfl (by simpa [Nat.add_assoc] using Rd.cell (own_rd (own_fr ho79 hS_ (by simp)) (Go.Tw.encI_len _) (by decide)) hA85 he83 0 _ rfl)) hS78 ?_
        refine WD.load (NoPanic.then (NoPanic.block (NoPanic.then (NoPanic.block (NoPanic.then hN))))) 8 3 (.pointer (some ⟨b89, a + 1, none⟩)) (.int .i64 e87) 75 (by kernel_rfl) (by kernel_rfl) (fun _ hS_ => run_load1 rfl (by simpa [Nat.add_assoc] using Rd.cell (own_rd (own_fr ho79 hS_ (by simp)) (Go.Tw.encI_len _) (by decide)) hA90 he88 0 _ rfl)) hS78 ?_
        refine WD.load (NoPanic.then (NoPanic.block (NoPanic.then (NoPanic.block (NoPanic.then hN))))) 13 3 (.pointer (some ⟨b94, a + 2, none⟩)) (.int .i64 e92) 80 (by kernel_rfl) (by kernel_rfl) (fun _ hS_ => run_load1 rfl (by simpa [Nat.add_assoc] using Rd.cell (own_rd (own_fr ho79 hS_ (by simp)) (Go.Tw.encI_len _) (by decide)) hA95 he93 0 _ rfl)) hS78 ?_
        refine WD.load (NoPanic.then (NoPanic.block (NoPanic.then (NoPanic.block (NoPanic.then hN))))) 18 3 (.pointer (some ⟨b99, a + 3, none⟩)) (.int .i64 e97) 85 (by kernel_rfl) (by kernel_rfl) (fun _ hS_ => run_load1 rfl (by simpa [Nat.add_assoc] using Rd.cell (own_rd (own_fr ho79 hS_ (by simp)) (Go.Tw.encI_len _) (by decide)) hA100 he98 0 _ rfl)) hS78 ?_
        refine WD.load (NoPanic.then (NoPanic.block (NoPanic.then (NoPanic.block (NoPanic.then hN))))) 23 3 (.pointer (some ⟨b104, a + 4, none⟩)) (.int .i64 e102) 90 (by kernel_rfl) (by kernel_rfl) (fun _ hS_ => run_load1 rfl (by simpa [Nat.add_assoc] using Rd.cell (own_rd (own_fr ho79 hS_ (by simp)) (Go.Tw.encI_len _) (by decide)) hA105 he103 0 _ rfl)) hS78 ?_
        refine WD.pure (NoPanic.then (NoPanic.block (NoPanic.then (NoPanic.block (NoPanic.then hN))))) 24 91 (.agg #[.int .i64 e82, .int .i64 e87, .int .i64 e92, .int .i64 e97, .int .i64 e102, .int .u32 0, .int .i64 0, .int .i64 0, .slice none 0 0, .int .u32 0, .int .u32 0, .bool false]) (by kernel_rfl) (fun _ => by kernel_rfl) hS78 ?_
        refine WD.new 25 (fun b => .pointer (some ⟨b, 0, none⟩)) (.cells #[.int .i64 0, .int .i64 0, .int .i64 0, .int .i64 0, .int .i64 0, .int .u32 0, .int .i64 0, .int .i64 0, .slice none 0 0, .int .u32 0, .int .u32 0, .bool false] 61) (by kernel_rfl) rfl rfl rfl rfl rfl (fun _ => by kernel_rfl) (fun g107 w108 hb111 hl112 hF109 ho113 => ?_)
        have hC110 := hC77.callB hF109 hb111 ho113
        have hS114 := hS78.trans hF109 (by simp)
        refine ⟨hS114, ?_⟩
        have ho115 := own_fr ho79 hF109 (by simp)
        have ho116 := own_fr ho80 hF109 (by simp)
        have hl117 := logIn.fr hl81 hF109 (by simp)
        obtain ⟨w118, hr119, hF120, hC121⟩ := sto_run (c' := #[.int .i64 e82, .int .i64 e87, .int .i64 e92, .int .i64 e97, .int .i64 e102, .int .u32 0, .int .i64 0, .int .i64 0, .slice none 0 0, .int .u32 0, .int .u32 0, .bool false]) Try.prog hC110 0 61 g107 0 (.agg #[.int .i64 e82, .int .i64 e87, .int .i64 e92, .int .i64 e97, .int .i64 e102, .int .u32 0, .int .i64 0, .int .i64 0, .slice none 0 0, .int .u32 0, .int .u32 0, .bool false]) rfl (by kernel_rfl)
        have hS122 := hS114.trans hF120 (by first | (simp; done) | (simp [*]; done) | (have q_ := hS114.size; simp; omega))
        refine WD.semU 26 (Instr.storeAt 61 (.pointer (some ⟨g107, 0, none⟩)) (.agg #[.int .i64 e82, .int .i64 e87, .int .i64 e92, .int .i64 e97, .int .i64 e102, .int .u32 0, .int .i64 0, .int .i64 0, .slice none 0 0, .int .u32 0, .int .u32 0, .bool false])) (by kernel_rfl) (by kernel_rfl) hr119 hS122 ?_
        have ho123 := own_fr ho115 hF120 (hC110.apartM 0 0 rfl rfl)
        have ho124 := own_fr ho116 hF120 (hC110.apartM 1 0 rfl rfl)
        have hl125 := logIn.fr hl117 hF120 (hC110.apartM 2 0 rfl rfl)
        refine WD.done (by kernel_rfl) ?_
        refine QX.then_normal (hK74 _ _ ?_)
        refine WC.seq (fun K126 hK127 => ?_)
        refine WC.drawC hC121 [g107] (by kernel_rfl) (fun w128 hF129 hC130 hS131 => ?_)
        have ho132 := own_fr ho123 hF129 (by simp)
        have ho133 := own_fr ho124 hF129 (by simp)
        have hl134 := logIn.fr hl125 hF129 (by simp)
        refine WD.pure (NoPanic.then (NoPanic.block (NoPanic.then (NoPanic.block (NoPanic.then hN))))) 0 92 (.slice A11 ((intsL bs).length) c12) (by kernel_rfl) (fun _ => by kernel_rfl) hS131 ?_
        refine WD.pure (NoPanic.then (NoPanic.block (NoPanic.then (NoPanic.block (NoPanic.then hN))))) 1 93 (.int .i64 (a : Int)) (by kernel_rfl) (fun _ => by kernel_rfl) hS131 ?_
        refine WD.pure (NoPanic.then (NoPanic.block (NoPanic.then (NoPanic.block (NoPanic.then hN))))) 2 94 (.int .i64 (IntKind.i64.wrap ((a : Int) + 5))) (by kernel_rfl) (fun _ => by kernel_rfl) hS131 ?_
        refine WD.recast (show (.int .i64 (IntKind.i64.wrap ((a : Int) + 5)) : Value) = .int .i64 ((a : Int) + 5) from by rw [wrap_in_i64 ((a : Int) + 5) (by omega) (by omega)]) ?_
        have hn139 := own_count (Go.Tw.encI_len _) (by decide) ho132
        obtain ⟨e135, he136⟩ := get_some (xs := (intsL bs)) (i := a + 5) (by omega)
        obtain ⟨b137, hA138⟩ := own_addr (by decide) (Go.Tw.encI_len _) ho132 he136
        refine WD.index (NoPanic.then (NoPanic.block (NoPanic.then (NoPanic.block (NoPanic.then hN))))) 3 A11 ((intsL bs).length) c12 95 .i64 ((a : Int) + 5) b137 0 (a + 5) 1 (by kernel_rfl) (by kernel_rfl) hA138 (by omega) (by omega) (a + 5) (by first | (simp; done) | omega) hS131 ?_
        refine WD.pure (NoPanic.then (NoPanic.block (NoPanic.then (NoPanic.block (NoPanic.then hN))))) 6 98 (.slice A11 ((intsL bs).length) c12) (by kernel_rfl) (fun _ => by kernel_rfl) hS131 ?_
        refine WD.pure (NoPanic.then (NoPanic.block (NoPanic.then (NoPanic.block (NoPanic.then hN))))) 7 99 (.int .i64 (a : Int)) (by kernel_rfl) (fun _ => by kernel_rfl) hS131 ?_
        refine WD.pure (NoPanic.then (NoPanic.block (NoPanic.then (NoPanic.block (NoPanic.then hN))))) 8 100 (.int .i64 (IntKind.i64.wrap ((a : Int) + 6))) (by kernel_rfl) (fun _ => by kernel_rfl) hS131 ?_
        refine WD.recast (show (.int .i64 (IntKind.i64.wrap ((a : Int) + 6)) : Value) = .int .i64 ((a : Int) + 6) from by rw [wrap_in_i64 ((a : Int) + 6) (by omega) (by omega)]) ?_
        have hn144 := own_count (Go.Tw.encI_len _) (by decide) ho132
        obtain ⟨e140, he141⟩ := get_some (xs := (intsL bs)) (i := a + 6) (by omega)
        obtain ⟨b142, hA143⟩ := own_addr (by decide) (Go.Tw.encI_len _) ho132 he141
        refine WD.index (NoPanic.then (NoPanic.block (NoPanic.then (NoPanic.block (NoPanic.then hN))))) 9 A11 ((intsL bs).length) c12 101 .i64 ((a : Int) + 6) b142 0 (a + 6) 1 (by kernel_rfl) (by kernel_rfl) hA143 (by omega) (by omega) (a + 6) (by first | (simp; done) | omega) hS131 ?_
        refine WD.pure (NoPanic.then (NoPanic.block (NoPanic.then (NoPanic.block (NoPanic.then hN))))) 11 103 (.slice A11 ((intsL bs).length) c12) (by kernel_rfl) (fun _ => by kernel_rfl) hS131 ?_
        refine WD.pure (NoPanic.then (NoPanic.block (NoPanic.then (NoPanic.block (NoPanic.then hN))))) 12 104 (.int .i64 (a : Int)) (by kernel_rfl) (fun _ => by kernel_rfl) hS131 ?_
        refine WD.pure (NoPanic.then (NoPanic.block (NoPanic.then (NoPanic.block (NoPanic.then hN))))) 13 105 (.int .i64 (IntKind.i64.wrap ((a : Int) + 7))) (by kernel_rfl) (fun _ => by kernel_rfl) hS131 ?_
        refine WD.recast (show (.int .i64 (IntKind.i64.wrap ((a : Int) + 7)) : Value) = .int .i64 ((a : Int) + 7) from by rw [wrap_in_i64 ((a : Int) + 7) (by omega) (by omega)]) ?_
        have hn149 := own_count (Go.Tw.encI_len _) (by decide) ho132
        obtain ⟨e145, he146⟩ := get_some (xs := (intsL bs)) (i := a + 7) (by omega)
        obtain ⟨b147, hA148⟩ := own_addr (by decide) (Go.Tw.encI_len _) ho132 he146
        refine WD.index (NoPanic.then (NoPanic.block (NoPanic.then (NoPanic.block (NoPanic.then hN))))) 14 A11 ((intsL bs).length) c12 106 .i64 ((a : Int) + 7) b147 0 (a + 7) 1 (by kernel_rfl) (by kernel_rfl) hA148 (by omega) (by omega) (a + 7) (by first | (simp; done) | omega) hS131 ?_
        refine WD.load (NoPanic.then (NoPanic.block (NoPanic.then (NoPanic.block (NoPanic.then hN))))) 4 3 (.pointer (some ⟨b137, a + 5, none⟩)) (.int .i64 e135) 96 (by kernel_rfl) (by kernel_rfl) (fun _ hS_ => run_load1 rfl (by simpa [Nat.add_assoc] using Rd.cell (own_rd (own_fr ho132 hS_ (fun x_ hx_ h_ => hC130.notin 0 0 rfl rfl (List.mem_singleton.1 h_ ▸ hx_))) (Go.Tw.encI_len _) (by decide)) hA138 he136 0 _ rfl)) hS131 ?_
        refine WD.pure (NoPanic.then (NoPanic.block (NoPanic.then (NoPanic.block (NoPanic.then hN))))) 5 97 (.int .u32 (IntKind.u32.wrap (e135))) (by kernel_rfl) (fun _ => by kernel_rfl) hS131 ?_
        refine WD.recast (show (.int .u32 (IntKind.u32.wrap (e135)) : Value) = .int .u32 (wrapA e135) from rfl) ?_
        refine WD.load (NoPanic.then (NoPanic.block (NoPanic.then (NoPanic.block (NoPanic.then hN))))) 10 3 (.pointer (some ⟨b142, a + 6, none⟩)) (.int .i64 e140) 102 (by kernel_rfl) (by kernel_rfl) (fun _ hS_ => run_load1 rfl (by simpa [Nat.add_assoc] using Rd.cell (own_rd (own_fr ho132 hS_ (fun x_ hx_ h_ => hC130.notin 0 0 rfl rfl (List.mem_singleton.1 h_ ▸ hx_))) (Go.Tw.encI_len _) (by decide)) hA143 he141 0 _ rfl)) hS131 ?_
        refine WD.sem 15 (Instr.loadAt 3 (.pointer (some ⟨b147, a + 7, none⟩))) 107 (.int .i64 e145) (by kernel_rfl) (by kernel_rfl) (run_load1 rfl (by simpa [Nat.add_assoc] using Rd.cell (own_rd ho132 (Go.Tw.encI_len _) (by decide)) hA148 he146 0 _ rfl)) hS131 ?_
        refine WD.pure (NoPanic.then (NoPanic.block (NoPanic.then (NoPanic.block (NoPanic.then hN))))) 16 108 (.agg #[.int .u32 (wrapA e135), .int .i64 e140, .int .i64 e145, .slice none 0 0]) (by kernel_rfl) (fun _ => by kernel_rfl) hS131 ?_
        refine WD.pure (NoPanic.then (NoPanic.block (NoPanic.then (NoPanic.block (NoPanic.then hN))))) 17 109 (.pointer (some ⟨g107, 5, none⟩)) (by kernel_rfl) (fun _ => by kernel_rfl) hS131 ?_
        obtain ⟨w150, hr151, hF152, hC153⟩ := sto_run (c' := #[.int .i64 e82, .int .i64 e87, .int .i64 e92, .int .i64 e97, .int .i64 e102, .int .u32 (wrapA e135), .int .i64 e140, .int .i64 e145, .slice none 0 0, .int .u32 0, .int .u32 0, .bool false]) Try.prog hC130 0 59 g107 5 (.agg #[.int .u32 (wrapA e135), .int .i64 e140, .int .i64 e145, .slice none 0 0]) rfl (by kernel_rfl)
        have hS154 := hS131.trans hF152 (by first | (simp; done) | (simp [*]; done) | (have q_ := hS131.size; simp; omega))
        refine WD.semU 18 (Instr.storeAt 59 (.pointer (some ⟨g107, 5, none⟩)) (.agg #[.int .u32 (wrapA e135), .int .i64 e140, .int .i64 e145, .slice none 0 0])) (by kernel_rfl) (by kernel_rfl) hr151 hS154 ?_
        have ho155 := own_fr ho132 hF152 (hC130.apartM 0 0 rfl rfl)
        have ho156 := own_fr ho133 hF152 (hC130.apartM 1 0 rfl rfl)
        have hl157 := logIn.fr hl134 hF152 (hC130.apartM 2 0 rfl rfl)
        refine WD.done (by kernel_rfl) ?_
        refine QX.then_normal (hK127 _ _ ?_)
        refine WC.seq (fun K158 hK159 => ?_)
        refine WC.region ?_
        refine WL.runs 3 [(112, .int .i64 (IntKind.i64.wrap ((a : Int) + 8))), (111, .int .i64 (a : Int)), (110, .slice A11 ((intsL bs).length) c12)] (fun _ => by kernel_rfl) ?_
        refine WL.recast (show (.int .i64 (IntKind.i64.wrap ((a : Int) + 8)) : Value) = .int .i64 ((a : Int) + 8) from by rw [wrap_in_i64 ((a : Int) + 8) (by omega) (by omega)]) ?_
        refine WL.index A11 ((intsL bs).length) c12 113 .i64 ((a : Int) + 8) b53 0 (a + 8) 1 (by kernel_rfl) hA54 (by omega) (by omega) (a + 8) (by first | (simp; done) | omega) ?_
        obtain ⟨nn, hnn⟩ : ∃ n_ : Nat, e51 = (n_ : Int) := ⟨e51.toNat, by omega⟩
        refine WL.load 3 (.pointer (some ⟨b53, a + 8, none⟩)) (.int .i64 e51) 114 (by kernel_rfl) (run_load1 rfl (by simpa [Nat.add_assoc] using Rd.cell (own_rd ho155 (Go.Tw.encI_len _) (by decide)) hA54 he52 0 _ rfl)) ?_
        refine WL.runs 1 [(9, .int .i64 e51)] (fun _ => by kernel_rfl) ?_
        refine WL.done rfl ?_
        refine QX.then_normal (hK159 _ _ ?_)
        refine WC.seq (fun K164 hK165 => ?_)
        refine WC.region ?_
        refine WL.runs 2 [(116, .int .i64 (IntKind.i64.wrap ((a : Int) + 9))), (115, .int .i64 (a : Int))] (fun _ => by kernel_rfl) ?_
        refine WL.recast (show (.int .i64 (IntKind.i64.wrap ((a : Int) + 9)) : Value) = .int .i64 ((a + 9 : Nat) : Int) from congrArg (Value.int .i64) (by rw [wrap_in_i64 _ (by omega) (by omega)]; omega)) ?_
        refine WL.runs 1 [(7, .int .i64 ((a + 9 : Nat) : Int))] (fun _ => by kernel_rfl) ?_
        refine WL.done rfl ?_
        refine QX.then_normal (hK165 _ _ ?_)
        refine WC.seq (fun K166 hK167 => ?_)
        refine WC.seq (fun K168 hK169 => ?_)
        refine WC.region ?_
        refine WL.runs 1 [(10, .int .i64 0)] (fun _ => by kernel_rfl) ?_
        refine WL.done rfl ?_
        refine QX.then_normal (hK169 _ _ ?_)
        refine WC.block ?_
        have hC170 := hC153.addNil
        refine WC.loop (fun m_ E_ w_ => ∃ (j : Nat) (A6 : Option Addr) (n6 c6 : Nat), m_ = nn - j ∧ E_ = [(0, .slice A bs.length c), (4, .int .i64 3), (5, .slice A11 ((intsL bs).length) c12), (6, .slice A5 n5 c5), (7, .int .i64 ((a + 9 + 3 * j : Nat) : Int)), (8, .pointer (some ⟨g107, 0, none⟩)), (9, .int .i64 e51), (10, .int .i64 (j : Int))] ∧ Cx w [] w_ [(g107, .cells #[.int .i64 e82, .int .i64 e87, .int .i64 e92, .int .i64 e97, .int .i64 e102, .int .u32 (wrapA e135), .int .i64 e140, .int .i64 e145, .slice A6 n6 c6, .int .u32 0, .int .u32 0, .bool false] 61)] [blk (.slice A11 ((intsL bs).length) c12), blk (.slice A5 n5 c5), R5, blk (.slice A6 n6 c6)] ∧ World.ownsRow w_ 0 3 1 (.slice A11 ((intsL bs).length) c12) ((intsL bs).length) ((intsL bs).flatMap (Go.Tw.encI .i64)) ∧ World.ownsRow w_ 0 61 12 (.slice A5 n5 c5) n5 (L5.flatMap cellsC) ∧ logIn w_ R5 L5 ∧ World.ownsRow w_ 0 91 3 (.slice A6 n6 c6) n6 ((endsN (intsL bs) (a + 9) j).flatMap cellsE) ∧ (j ≤ nn)) ⟨_, _, ⟨0, none, 0, 0, rfl, rfl, hC170, ho155, ho156, hl157, own_nil _ _ _ _, Nat.zero_le _⟩, sub_of ⟨rfl, rfl, rfl, rfl, rfl, rfl, rfl, rfl, trivial⟩⟩ (fun m174 E_ w175 K171 hK172 hI173 => ?_)
        obtain ⟨j, A6, n6, c6, rfl, rfl, hC176, row16_m174, row_m174, log_m174, hends6, hj⟩ := hI173
        have hcn6_ := own_count cellsE_len (by decide) hends6
        rw [endsN_len] at hcn6_
        refine WC.seq (fun K177 hK178 => ?_)
        refine WC.seq (fun K179 hK180 => ?_)
        refine WC.region ?_
        refine WL.runs 3 [(119, .bool (decide ((j : Int) < e51))), (118, .int .i64 e51), (117, .int .i64 (j : Int))] (fun _ => by kernel_rfl) ?_
        refine WL.done rfl ?_
        refine QX.then_normal (hK180 _ _ ?_)
        refine WC.test_at 119 (decide ((j : Int) < e51)) rfl (fun t181b => ?_) (fun t181b => ?_)
        ·
         have t181 : (j : Int) < e51 := by have q_ := of_decide_eq_true t181b; omega
         refine WC.cond_true rfl ?_
         refine WC.skip ?_
         refine QX.then_normal (hK178 _ _ ?_)
         refine WC.seq (fun K182 hK183 => ?_)
         refine WC.block ?_
         refine WC.seq (fun K184 hK185 => ?_)
         refine WC.drawC hC176 (g107 :: blk (.slice A6 n6 c6)) (by kernel_rfl) (fun w186 hF187 hC188 hS189 => ?_)
         have ho190 := own_fr row16_m174 hF187 (by simp)
         have ho191 := own_fr row_m174 hF187 (by simp)
         have hl192 := logIn.fr log_m174 hF187 (by simp)
         have ho193 := own_fr hends6 hF187 (by simp)
         refine WD.pure (NoPanic.then (NoPanic.block (NoPanic.then (NoPanic.then (NoPanic.block (NoPanic.then (NoPanic.block (NoPanic.then (NoPanic.block (NoPanic.then hN)))))))))) 0 122 (.pointer (some ⟨g107, 5, none⟩)) (by kernel_rfl) (fun _ => by kernel_rfl) hS189 ?_
         refine WD.pure (NoPanic.then (NoPanic.block (NoPanic.then (NoPanic.then (NoPanic.block (NoPanic.then (NoPanic.block (NoPanic.then (NoPanic.block (NoPanic.then hN)))))))))) 1 123 (.pointer (some ⟨g107, 8, none⟩)) (by kernel_rfl) (fun _ => by kernel_rfl) hS189 ?_
         refine WD.pure (NoPanic.then (NoPanic.block (NoPanic.then (NoPanic.then (NoPanic.block (NoPanic.then (NoPanic.block (NoPanic.then (NoPanic.block (NoPanic.then hN)))))))))) 3 125 (.slice A11 ((intsL bs).length) c12) (by kernel_rfl) (fun _ => by kernel_rfl) hS189 ?_
         refine WD.pure (NoPanic.then (NoPanic.block (NoPanic.then (NoPanic.then (NoPanic.block (NoPanic.then (NoPanic.block (NoPanic.then (NoPanic.block (NoPanic.then hN)))))))))) 4 126 (.int .i64 ((a + 9 + 3 * j : Nat) : Int)) (by kernel_rfl) (fun _ => by kernel_rfl) hS189 ?_
         have hn198 := own_count (Go.Tw.encI_len _) (by decide) ho190
         obtain ⟨e194, he195⟩ := get_some (xs := (intsL bs)) (i := (a + 9 + 3 * j)) (by omega)
         obtain ⟨b196, hA197⟩ := own_addr (by decide) (Go.Tw.encI_len _) ho190 he195
         refine WD.index (NoPanic.then (NoPanic.block (NoPanic.then (NoPanic.then (NoPanic.block (NoPanic.then (NoPanic.block (NoPanic.then (NoPanic.block (NoPanic.then hN)))))))))) 5 A11 ((intsL bs).length) c12 127 .i64 ((a + 9 + 3 * j : Nat) : Int) b196 0 (a + 9 + 3 * j) 1 (by kernel_rfl) (by kernel_rfl) hA197 (by omega) (by omega) (a + 9 + 3 * j) (by first | (simp; done) | omega) hS189 ?_
         refine WD.pure (NoPanic.then (NoPanic.block (NoPanic.then (NoPanic.then (NoPanic.block (NoPanic.then (NoPanic.block (NoPanic.then (NoPanic.block (NoPanic.then hN)))))))))) 8 130 (.slice A11 ((intsL bs).length) c12) (by kernel_rfl) (fun _ => by kernel_rfl) hS189 ?_
         refine WD.pure (NoPanic.then (NoPanic.block (NoPanic.then (NoPanic.then (NoPanic.block (NoPanic.then (NoPanic.block (NoPanic.then (NoPanic.block (NoPanic.then hN)))))))))) 9 131 (.int .i64 ((a + 9 + 3 * j : Nat) : Int)) (by kernel_rfl) (fun _ => by kernel_rfl) hS189 ?_
         refine WD.pure (NoPanic.then (NoPanic.block (NoPanic.then (NoPanic.then (NoPanic.block (NoPanic.then (NoPanic.block (NoPanic.then (NoPanic.block (NoPanic.then hN)))))))))) 10 132 (.int .i64 (IntKind.i64.wrap (((a + 9 + 3 * j : Nat) : Int) + 1))) (by kernel_rfl) (fun _ => by kernel_rfl) hS189 ?_
         refine WD.recast (show (.int .i64 (IntKind.i64.wrap (((a + 9 + 3 * j : Nat) : Int) + 1)) : Value) = .int .i64 (((a + 9 + 3 * j : Nat) : Int) + 1) from by rw [wrap_in_i64 (((a + 9 + 3 * j : Nat) : Int) + 1) (by omega) (by omega)]) ?_
         have hn203 := own_count (Go.Tw.encI_len _) (by decide) ho190
         obtain ⟨e199, he200⟩ := get_some (xs := (intsL bs)) (i := (a + 9 + 3 * j) + 1) (by omega)
         obtain ⟨b201, hA202⟩ := own_addr (by decide) (Go.Tw.encI_len _) ho190 he200
         refine WD.index (NoPanic.then (NoPanic.block (NoPanic.then (NoPanic.then (NoPanic.block (NoPanic.then (NoPanic.block (NoPanic.then (NoPanic.block (NoPanic.then hN)))))))))) 11 A11 ((intsL bs).length) c12 133 .i64 (((a + 9 + 3 * j : Nat) : Int) + 1) b201 0 ((a + 9 + 3 * j) + 1) 1 (by kernel_rfl) (by kernel_rfl) hA202 (by omega) (by omega) ((a + 9 + 3 * j) + 1) (by first | (simp; done) | omega) hS189 ?_
         refine WD.pure (NoPanic.then (NoPanic.block (NoPanic.then (NoPanic.then (NoPanic.block (NoPanic.then (NoPanic.block (NoPanic.then (NoPanic.block (NoPanic.then hN)))))))))) 13 135 (.slice A11 ((intsL bs).length) c12) (by kernel_rfl) (fun _ => by kernel_rfl) hS189 ?_
         refine WD.pure (NoPanic.then (NoPanic.block (NoPanic.then (NoPanic.then (NoPanic.block (NoPanic.then (NoPanic.block (NoPanic.then (NoPanic.block (NoPanic.then hN)))))))))) 14 136 (.int .i64 ((a + 9 + 3 * j : Nat) : Int)) (by kernel_rfl) (fun _ => by kernel_rfl) hS189 ?_
         refine WD.pure (NoPanic.then (NoPanic.block (NoPanic.then (NoPanic.then (NoPanic.block (NoPanic.then (NoPanic.block (NoPanic.then (NoPanic.block (NoPanic.then hN)))))))))) 15 137 (.int .i64 (IntKind.i64.wrap (((a + 9 + 3 * j : Nat) : Int) + 2))) (by kernel_rfl) (fun _ => by kernel_rfl) hS189 ?_
         refine WD.recast (show (.int .i64 (IntKind.i64.wrap (((a + 9 + 3 * j : Nat) : Int) + 2)) : Value) = .int .i64 (((a + 9 + 3 * j : Nat) : Int) + 2) from by rw [wrap_in_i64 (((a + 9 + 3 * j : Nat) : Int) + 2) (by omega) (by omega)]) ?_
         have hn208 := own_count (Go.Tw.encI_len _) (by decide) ho190
         obtain ⟨e204, he205⟩ := get_some (xs := (intsL bs)) (i := (a + 9 + 3 * j) + 2) (by omega)
         obtain ⟨b206, hA207⟩ := own_addr (by decide) (Go.Tw.encI_len _) ho190 he205
         refine WD.index (NoPanic.then (NoPanic.block (NoPanic.then (NoPanic.then (NoPanic.block (NoPanic.then (NoPanic.block (NoPanic.then (NoPanic.block (NoPanic.then hN)))))))))) 16 A11 ((intsL bs).length) c12 138 .i64 (((a + 9 + 3 * j : Nat) : Int) + 2) b206 0 ((a + 9 + 3 * j) + 2) 1 (by kernel_rfl) (by kernel_rfl) hA207 (by omega) (by omega) ((a + 9 + 3 * j) + 2) (by first | (simp; done) | omega) hS189 ?_
         refine WD.load (NoPanic.then (NoPanic.block (NoPanic.then (NoPanic.then (NoPanic.block (NoPanic.then (NoPanic.block (NoPanic.then (NoPanic.block (NoPanic.then hN)))))))))) 6 3 (.pointer (some ⟨b196, (a + 9 + 3 * j), none⟩)) (.int .i64 e194) 128 (by kernel_rfl) (by kernel_rfl) (fun _ hS_ => run_load1 rfl (by simpa [Nat.add_assoc] using Rd.cell (own_rd (own_fr ho190 hS_ (fun x_ hx_ h_ => (List.mem_cons.1 h_).elim (fun e_ => hC188.notin 0 0 rfl rfl (e_ ▸ hx_)) (fun h2_ => hC188.disj 0 3 rfl rfl (by decide) x_ hx_ h2_))) (Go.Tw.encI_len _) (by decide)) hA197 he195 0 _ rfl)) hS189 ?_
         refine WD.pure (NoPanic.then (NoPanic.block (NoPanic.then (NoPanic.then (NoPanic.block (NoPanic.then (NoPanic.block (NoPanic.then (NoPanic.block (NoPanic.then hN)))))))))) 7 129 (.int .u32 (IntKind.u32.wrap (e194))) (by kernel_rfl) (fun _ => by kernel_rfl) hS189 ?_
         refine WD.recast (show (.int .u32 (IntKind.u32.wrap (e194)) : Value) = .int .u32 (wrapA e194) from rfl) ?_
         refine WD.load (NoPanic.then (NoPanic.block (NoPanic.then (NoPanic.then (NoPanic.block (NoPanic.then (NoPanic.block (NoPanic.then (NoPanic.block (NoPanic.then hN)))))))))) 12 3 (.pointer (some ⟨b201, (a + 9 + 3 * j) + 1, none⟩)) (.int .i64 e199) 134 (by kernel_rfl) (by kernel_rfl) (fun _ hS_ => run_load1 rfl (by simpa [Nat.add_assoc] using Rd.cell (own_rd (own_fr ho190 hS_ (fun x_ hx_ h_ => (List.mem_cons.1 h_).elim (fun e_ => hC188.notin 0 0 rfl rfl (e_ ▸ hx_)) (fun h2_ => hC188.disj 0 3 rfl rfl (by decide) x_ hx_ h2_))) (Go.Tw.encI_len _) (by decide)) hA202 he200 0 _ rfl)) hS189 ?_
         refine WD.load (NoPanic.then (NoPanic.block (NoPanic.then (NoPanic.then (NoPanic.block (NoPanic.then (NoPanic.block (NoPanic.then (NoPanic.block (NoPanic.then hN)))))))))) 17 3 (.pointer (some ⟨b206, (a + 9 + 3 * j) + 2, none⟩)) (.int .i64 e204) 139 (by kernel_rfl) (by kernel_rfl) (fun _ hS_ => run_load1 rfl (by simpa [Nat.add_assoc] using Rd.cell (own_rd (own_fr ho190 hS_ (fun x_ hx_ h_ => (List.mem_cons.1 h_).elim (fun e_ => hC188.notin 0 0 rfl rfl (e_ ▸ hx_)) (fun h2_ => hC188.disj 0 3 rfl rfl (by decide) x_ hx_ h2_))) (Go.Tw.encI_len _) (by decide)) hA207 he205 0 _ rfl)) hS189 ?_
         refine WD.pure (NoPanic.then (NoPanic.block (NoPanic.then (NoPanic.then (NoPanic.block (NoPanic.then (NoPanic.block (NoPanic.then (NoPanic.block (NoPanic.then hN)))))))))) 18 140 (.agg #[.int .u32 (wrapA e194), .int .i64 e199, .int .i64 e204]) (by kernel_rfl) (fun _ => by kernel_rfl) hS189 ?_
         refine WD.all2 2 19 (by kernel_rfl) ?_ ?_
         ·
          refine WO.sem 2 (Instr.loadAt 57 (.pointer (some ⟨g107, 8, none⟩))) 124 (.slice A6 n6 c6) (by kernel_rfl) (by kernel_rfl) (run_ld (hC188.get 0 rfl) rfl) hS189 ?_
          refine WD.new 19 (fun b => .slice (some ⟨b, 0, none⟩) 1 1) (.cells #[.int .u32 (wrapA e194), .int .i64 e199, .int .i64 e204] 91) (by kernel_rfl) rfl rfl rfl rfl rfl (fun _ => by kernel_rfl) (fun g209 w210 hb213 hl214 hF211 ho215 => ?_)
          have hC212 := hC188.callB hF211 hb213 ho215
          have hS216 := hS189.trans hF211 (by simp)
          refine ⟨hS216, ?_⟩
          have ho217 := own_fr ho190 hF211 (by simp)
          have ho218 := own_fr ho191 hF211 (by simp)
          have hl219 := logIn.fr hl192 hF211 (by simp)
          have ho220 := own_fr ho193 hF211 (by simp)
          obtain ⟨v221, w222, hr223, ho224, hF225, hC226, hnil227, hsub228⟩ := app_run Try.prog hC212 3 (v := .slice A6 n6 c6) rfl 57 57 91 3 24 n6 1 1 (some ⟨g209, 0, none⟩) rfl ho220 [.int .u32 (wrapA e194), .int .i64 e199, .int .i64 e204] rfl (srcOk.blk 1 (hC212.get 1 rfl)) rfl (by simp only [maxLen]; omega) (by omega)
          have ho232 := own_snoc (enc := cellsE) (ys := (endsN (intsL bs) (a + 9) j)) (⟨wrapA e194, e199, e204⟩ : EndV) ho224
          obtain ⟨A229, c230, rfl, hle231⟩ := own_form ho232
          have hS233 := hS216.trans hF225 (fun x_ hx_ => .inl (List.mem_cons_of_mem _ hx_))
          refine WD.sem 20 (Builtin.append_ #[57, 57] 57 #[.slice A6 n6 c6, .slice (some ⟨g209, 0, none⟩) 1 1]) 142 (.slice A229 (n6 + 1) c230) (by kernel_rfl) (by kernel_rfl) hr223 hS233 ?_
          have ho234 := own_fr ho217 hF225 (hC212.disj 0 3 rfl rfl (by decide))
          have ho235 := own_fr ho218 hF225 (hC212.disj 1 3 rfl rfl (by decide))
          have hl236 := logIn.fr hl219 hF225 (hC212.disj 2 3 rfl rfl (by decide))
          refine WD.pure (NoPanic.then (NoPanic.block (NoPanic.then (NoPanic.then (NoPanic.block (NoPanic.then (NoPanic.block (NoPanic.then (NoPanic.block (NoPanic.then hN)))))))))) 21 143 (.pointer (some ⟨g107, 5, none⟩)) (by kernel_rfl) (fun _ => by kernel_rfl) hS233 ?_
          refine WD.pure (NoPanic.then (NoPanic.block (NoPanic.then (NoPanic.then (NoPanic.block (NoPanic.then (NoPanic.block (NoPanic.then (NoPanic.block (NoPanic.then hN)))))))))) 22 144 (.pointer (some ⟨g107, 8, none⟩)) (by kernel_rfl) (fun _ => by kernel_rfl) hS233 ?_
          obtain ⟨w237, hr238, hF239, hC240⟩ := sto_run (c' := #[.int .i64 e82, .int .i64 e87, .int .i64 e92, .int .i64 e97, .int .i64 e102, .int .u32 (wrapA e135), .int .i64 e140, .int .i64 e145, .slice A229 (n6 + 1) c230, .int .u32 0, .int .u32 0, .bool false]) Try.prog hC226 0 57 g107 8 (.slice A229 (n6 + 1) c230) rfl (by kernel_rfl)
          have hS241 := hS233.trans hF239 (by first | (simp; done) | (simp [*]; done) | (have q_ := hS233.size; simp; omega))
          refine WD.semU 23 (Instr.storeAt 57 (.pointer (some ⟨g107, 8, none⟩)) (.slice A229 (n6 + 1) c230)) (by kernel_rfl) (by kernel_rfl) hr238 hS241 ?_
          have ho242 := own_fr ho234 hF239 (hC226.apartM 0 0 rfl rfl)
          have ho243 := own_fr ho235 hF239 (hC226.apartM 1 0 rfl rfl)
          have hl244 := logIn.fr hl236 hF239 (hC226.apartM 2 0 rfl rfl)
          have ho245 := own_fr ho232 hF239 (hC226.apartM 3 0 rfl rfl)
          refine WD.done (by kernel_rfl) ?_
          refine QX.then_normal (hK185 _ _ ?_)
          refine WC.region ?_
          refine WL.runs 2 [(146, .int .i64 (IntKind.i64.wrap (((a + 9 + 3 * j : Nat) : Int) + 3))), (145, .int .i64 ((a + 9 + 3 * j : Nat) : Int))] (fun _ => by kernel_rfl) ?_
          refine WL.recast (show (.int .i64 (IntKind.i64.wrap (((a + 9 + 3 * j : Nat) : Int) + 3)) : Value) = .int .i64 ((a + 9 + 3 * (j + 1) : Nat) : Int) from congrArg (Value.int .i64) (by rw [wrap_in_i64 _ (by omega) (by omega)]; omega)) ?_
          refine WL.runs 1 [(7, .int .i64 ((a + 9 + 3 * (j + 1) : Nat) : Int))] (fun _ => by kernel_rfl) ?_
          refine WL.done rfl ?_
          refine QX.block_normal ?_
          refine QX.then_normal (hK183 _ _ ?_)
          refine WC.region ?_
          refine WL.runs 2 [(121, .int .i64 (IntKind.i64.wrap ((j : Int) + 1))), (120, .int .i64 (j : Int))] (fun _ => by kernel_rfl) ?_
          refine WL.recast (show (.int .i64 (IntKind.i64.wrap ((j : Int) + 1)) : Value) = .int .i64 ((j : Int) + 1) from by rw [wrap_in_i64 ((j : Int) + 1) (by omega) (by omega)]) ?_
          refine WL.runs 1 [(10, .int .i64 ((j : Int) + 1))] (fun _ => by kernel_rfl) ?_
          refine WL.done rfl ?_
          refine QX.then_normal ?_
          have hC246 := hC240.pick [0] [0, 1, 2, 3] rfl rfl
          refine fun a_ ha_ => hK172 _ _ _ ?_ ⟨j + 1, A229, n6 + 1, c230, rfl, rfl, hC246, ho242, ho243, hl244, by rw [endsN_snoc, endN_mk (p := a + 9 + 3 * j) he195 he200 he205]; exact ho245, by omega⟩ a_ (ha_.weaken (sub_of ⟨rfl, rfl, rfl, rfl, rfl, rfl, rfl, rfl, trivial⟩))
          omega
         ·
          refine WO.new 19 (fun b => .slice (some ⟨b, 0, none⟩) 1 1) (.cells #[.int .u32 (wrapA e194), .int .i64 e199, .int .i64 e204] 91) (by kernel_rfl) rfl rfl rfl rfl rfl (fun _ => by kernel_rfl) (fun g247 w248 hb251 hl252 hF249 ho253 => ?_)
          have hC250 := hC188.callB hF249 hb251 ho253
          have hS254 := hS189.trans hF249 (by simp)
          refine ⟨hS254, ?_⟩
          have ho255 := own_fr ho190 hF249 (by simp)
          have ho256 := own_fr ho191 hF249 (by simp)
          have hl257 := logIn.fr hl192 hF249 (by simp)
          have ho258 := own_fr ho193 hF249 (by simp)
          refine WD.sem 2 (Instr.loadAt 57 (.pointer (some ⟨g107, 8, none⟩))) 124 (.slice A6 n6 c6) (by kernel_rfl) (by kernel_rfl) (run_ld (hC250.get 0 rfl) rfl) hS254 ?_
          obtain ⟨v259, w260, hr261, ho262, hF263, hC264, hnil265, hsub266⟩ := app_run Try.prog hC250 3 (v := .slice A6 n6 c6) rfl 57 57 91 3 24 n6 1 1 (some ⟨g247, 0, none⟩) rfl ho258 [.int .u32 (wrapA e194), .int .i64 e199, .int .i64 e204] rfl (srcOk.blk 1 (hC250.get 1 rfl)) rfl (by simp only [maxLen]; omega) (by omega)
          have ho270 := own_snoc (enc := cellsE) (ys := (endsN (intsL bs) (a + 9) j)) (⟨wrapA e194, e199, e204⟩ : EndV) ho262
          obtain ⟨A267, c268, rfl, hle269⟩ := own_form ho270
          have hS271 := hS254.trans hF263 (fun x_ hx_ => .inl (List.mem_cons_of_mem _ hx_))
          refine WD.sem 20 (Builtin.append_ #[57, 57] 57 #[.slice A6 n6 c6, .slice (some ⟨g247, 0, none⟩) 1 1]) 142 (.slice A267 (n6 + 1) c268) (by kernel_rfl) (by kernel_rfl) hr261 hS271 ?_
          have ho272 := own_fr ho255 hF263 (hC250.disj 0 3 rfl rfl (by decide))
          have ho273 := own_fr ho256 hF263 (hC250.disj 1 3 rfl rfl (by decide))
          have hl274 := logIn.fr hl257 hF263 (hC250.disj 2 3 rfl rfl (by decide))
          refine WD.pure (NoPanic.then (NoPanic.block (NoPanic.then (NoPanic.then (NoPanic.block (NoPanic.then (NoPanic.block (NoPanic.then (NoPanic.block (NoPanic.then hN)))))))))) 21 143 (.pointer (some ⟨g107, 5, none⟩)) (by kernel_rfl) (fun _ => by kernel_rfl) hS271 ?_
          refine WD.pure (NoPanic.then (NoPanic.block (NoPanic.then (NoPanic.then (NoPanic.block (NoPanic.then (NoPanic.block (NoPanic.then (NoPanic.block (NoPanic.then hN)))))))))) 22 144 (.pointer (some ⟨g107, 8, none⟩)) (by kernel_rfl) (fun _ => by kernel_rfl) hS271 ?_
          obtain ⟨w275, hr276, hF277, hC278⟩ := sto_run (c' := #[.int .i64 e82, .int .i64 e87, .int .i64 e92, .int .i64 e97, .int .i64 e102, .int .u32 (wrapA e135), .int .i64 e140, .int .i64 e145, .slice A267 (n6 + 1) c268, .int .u32 0, .int .u32 0, .bool false]) Try.prog hC264 0 57 g107 8 (.slice A267 (n6 + 1) c268) rfl (by kernel_rfl)
          have hS279 := hS271.trans hF277 (by first | (simp; done) | (simp [*]; done) | (have q_ := hS271.size; simp; omega))
          refine WD.semU 23 (Instr.storeAt 57 (.pointer (some ⟨g107, 8, none⟩)) (.slice A267 (n6 + 1) c268)) (by kernel_rfl) (by kernel_rfl) hr276 hS279 ?_
          have ho280 := own_fr ho272 hF277 (hC264.apartM 0 0 rfl rfl)
          have ho281 := own_fr ho273 hF277 (hC264.apartM 1 0 rfl rfl)
          have hl282 := logIn.fr hl274 hF277 (hC264.apartM 2 0 rfl rfl)
          have ho283 := own_fr ho270 hF277 (hC264.apartM 3 0 rfl rfl)
          refine WD.done (by kernel_rfl) ?_
          refine QX.then_normal (hK185 _ _ ?_)
          refine WC.region ?_
          refine WL.runs 2 [(146, .int .i64 (IntKind.i64.wrap (((a + 9 + 3 * j : Nat) : Int) + 3))), (145, .int .i64 ((a + 9 + 3 * j : Nat) : Int))] (fun _ => by kernel_rfl) ?_
          refine WL.recast (show (.int .i64 (IntKind.i64.wrap (((a + 9 + 3 * j : Nat) : Int) + 3)) : Value) = .int .i64 ((a + 9 + 3 * (j + 1) : Nat) : Int) from congrArg (Value.int .i64) (by rw [wrap_in_i64 _ (by omega) (by omega)]; omega)) ?_
          refine WL.runs 1 [(7, .int .i64 ((a + 9 + 3 * (j + 1) : Nat) : Int))] (fun _ => by kernel_rfl) ?_
          refine WL.done rfl ?_
          refine QX.block_normal ?_
          refine QX.then_normal (hK183 _ _ ?_)
          refine WC.region ?_
          refine WL.runs 2 [(121, .int .i64 (IntKind.i64.wrap ((j : Int) + 1))), (120, .int .i64 (j : Int))] (fun _ => by kernel_rfl) ?_
          refine WL.recast (show (.int .i64 (IntKind.i64.wrap ((j : Int) + 1)) : Value) = .int .i64 ((j : Int) + 1) from by rw [wrap_in_i64 ((j : Int) + 1) (by omega) (by omega)]) ?_
          refine WL.runs 1 [(10, .int .i64 ((j : Int) + 1))] (fun _ => by kernel_rfl) ?_
          refine WL.done rfl ?_
          refine QX.then_normal ?_
          have hC284 := hC278.pick [0] [0, 1, 2, 3] rfl rfl
          refine fun a_ ha_ => hK172 _ _ _ ?_ ⟨j + 1, A267, n6 + 1, c268, rfl, rfl, hC284, ho280, ho281, hl282, by rw [endsN_snoc, endN_mk (p := a + 9 + 3 * j) he195 he200 he205]; exact ho283, by omega⟩ a_ (ha_.weaken (sub_of ⟨rfl, rfl, rfl, rfl, rfl, rfl, rfl, rfl, trivial⟩))
          omega
        ·
         have t181 : e51 ≤ (j : Int) := by have q_ := of_decide_eq_false t181b; omega
         refine WC.cond_false rfl ?_
         have hjn_ : nn = j := by omega
         subst hjn_
         have hen_ := cmdN_ends he52 hnn
         have hn6_ : n6 = (cmdN (intsL bs) a).ends.length := by rw [hen_, endsN_len]; omega
         subst hn6_
         have ho286 : World.ownsRow w175 0 91 3 (.slice A6 (cmdN (intsL bs) a).ends.length c6) (cmdN (intsL bs) a).ends.length ((cmdN (intsL bs) a).ends.flatMap cellsE) := by have z_ := hends6; rw [← hen_] at z_; exact z_
         skip
         refine WC.exit ?_
         refine QX.then_exit ?_
         refine QX.then_exit ?_
         refine QX.block_hit ?_
         refine QX.then_normal (hK167 _ _ ?_)
         refine WC.seq (fun K287 hK288 => ?_)
         refine WC.region ?_
         refine WL.runs 2 [(148, .int .i64 ((a + 9 + 3 * nn : Nat) : Int)), (147, .slice A11 ((intsL bs).length) c12)] (fun _ => by kernel_rfl) ?_
         have hn293 := own_count (Go.Tw.encI_len _) (by decide) row16_m174
         obtain ⟨e289, he290⟩ := get_some (xs := (intsL bs)) (i := (a + 9 + 3 * nn)) (by omega)
         obtain ⟨b291, hA292⟩ := own_addr (by decide) (Go.Tw.encI_len _) row16_m174 he290
         refine WL.index A11 ((intsL bs).length) c12 149 .i64 ((a + 9 + 3 * nn : Nat) : Int) b291 0 (a + 9 + 3 * nn) 1 (by kernel_rfl) hA292 (by omega) (by omega) (a + 9 + 3 * nn) (by first | (simp; done) | omega) ?_
         refine WL.load 3 (.pointer (some ⟨b291, (a + 9 + 3 * nn), none⟩)) (.int .i64 e289) 150 (by kernel_rfl) (run_load1 rfl (by simpa [Nat.add_assoc] using Rd.cell (own_rd row16_m174 (Go.Tw.encI_len _) (by decide)) hA292 he290 0 _ rfl)) ?_
         refine WL.runs 1 [(151, .int .u32 (IntKind.u32.wrap (e289)))] (fun _ => by kernel_rfl) ?_
         refine WL.recast (show (.int .u32 (IntKind.u32.wrap (e289)) : Value) = .int .u32 (wrapA e289) from rfl) ?_
         refine WL.runs 1 [(152, .pointer (some ⟨g107, 9, none⟩))] (fun _ => by kernel_rfl) ?_
         refine WL.storeM (c' := #[.int .i64 e82, .int .i64 e87, .int .i64 e92, .int .i64 e97, .int .i64 e102, .int .u32 (wrapA e135), .int .i64 e140, .int .i64 e145, .slice A6 ((cmdN (intsL bs) a).ends.length) c6, .int .u32 (wrapA e289), .int .u32 0, .bool false]) hC176 0 56 g107 9 (.int .u32 (wrapA e289)) (by kernel_rfl) rfl (by kernel_rfl) (fun w294 hF296 hC297 => ?_)
         have ho298 := own_fr row16_m174 hF296 (hC176.apartM 0 0 rfl rfl)
         have ho299 := own_fr row_m174 hF296 (hC176.apartM 1 0 rfl rfl)
         have hl300 := logIn.fr log_m174 hF296 (hC176.apartM 2 0 rfl rfl)
         have ho301 := own_fr ho286 hF296 (hC176.apartM 3 0 rfl rfl)
         refine WL.done rfl ?_
         refine QX.then_normal (hK288 _ _ ?_)
         refine WC.seq (fun K302 hK303 => ?_)
         refine WC.region ?_
         refine WL.runs 3 [(155, .int .i64 (IntKind.i64.wrap (((a + 9 + 3 * nn : Nat) : Int) + 1))), (154, .int .i64 ((a + 9 + 3 * nn : Nat) : Int)), (153, .slice A11 ((intsL bs).length) c12)] (fun _ => by kernel_rfl) ?_
         refine WL.recast (show (.int .i64 (IntKind.i64.wrap (((a + 9 + 3 * nn : Nat) : Int) + 1)) : Value) = .int .i64 (((a + 9 + 3 * nn : Nat) : Int) + 1) from by rw [wrap_in_i64 (((a + 9 + 3 * nn : Nat) : Int) + 1) (by omega) (by omega)]) ?_
         have hn308 := own_count (Go.Tw.encI_len _) (by decide) ho298
         obtain ⟨e304, he305⟩ := get_some (xs := (intsL bs)) (i := (a + 9 + 3 * nn) + 1) (by omega)
         obtain ⟨b306, hA307⟩ := own_addr (by decide) (Go.Tw.encI_len _) ho298 he305
         refine WL.index A11 ((intsL bs).length) c12 156 .i64 (((a + 9 + 3 * nn : Nat) : Int) + 1) b306 0 ((a + 9 + 3 * nn) + 1) 1 (by kernel_rfl) hA307 (by omega) (by omega) ((a + 9 + 3 * nn) + 1) (by first | (simp; done) | omega) ?_
         refine WL.load 3 (.pointer (some ⟨b306, (a + 9 + 3 * nn) + 1, none⟩)) (.int .i64 e304) 157 (by kernel_rfl) (run_load1 rfl (by simpa [Nat.add_assoc] using Rd.cell (own_rd ho298 (Go.Tw.encI_len _) (by decide)) hA307 he305 0 _ rfl)) ?_
         refine WL.runs 1 [(158, .int .u32 (IntKind.u32.wrap (e304)))] (fun _ => by kernel_rfl) ?_
         refine WL.recast (show (.int .u32 (IntKind.u32.wrap (e304)) : Value) = .int .u32 (wrapA e304) from rfl) ?_
         refine WL.runs 1 [(159, .pointer (some ⟨g107, 10, none⟩))] (fun _ => by kernel_rfl) ?_
         refine WL.storeM (c' := #[.int .i64 e82, .int .i64 e87, .int .i64 e92, .int .i64 e97, .int .i64 e102, .int .u32 (wrapA e135), .int .i64 e140, .int .i64 e145, .slice A6 ((cmdN (intsL bs) a).ends.length) c6, .int .u32 (wrapA e289), .int .u32 (wrapA e304), .bool false]) hC297 0 56 g107 10 (.int .u32 (wrapA e304)) (by kernel_rfl) rfl (by kernel_rfl) (fun w309 hF311 hC312 => ?_)
         have ho313 := own_fr ho298 hF311 (hC297.apartM 0 0 rfl rfl)
         have ho314 := own_fr ho299 hF311 (hC297.apartM 1 0 rfl rfl)
         have hl315 := logIn.fr hl300 hF311 (hC297.apartM 2 0 rfl rfl)
         have ho316 := own_fr ho301 hF311 (hC297.apartM 3 0 rfl rfl)
         refine WL.done rfl ?_
         refine QX.then_normal (hK303 _ _ ?_)
         refine WC.seq (fun K317 hK318 => ?_)
         refine WC.region ?_
         refine WL.runs 3 [(162, .int .i64 (IntKind.i64.wrap (((a + 9 + 3 * nn : Nat) : Int) + 2))), (161, .int .i64 ((a + 9 + 3 * nn : Nat) : Int)), (160, .slice A11 ((intsL bs).length) c12)] (fun _ => by kernel_rfl) ?_
         refine WL.recast (show (.int .i64 (IntKind.i64.wrap (((a + 9 + 3 * nn : Nat) : Int) + 2)) : Value) = .int .i64 (((a + 9 + 3 * nn : Nat) : Int) + 2) from by rw [wrap_in_i64 (((a + 9 + 3 * nn : Nat) : Int) + 2) (by omega) (by omega)]) ?_
         have hn323 := own_count (Go.Tw.encI_len _) (by decide) ho313
         obtain ⟨e319, he320⟩ := get_some (xs := (intsL bs)) (i := (a + 9 + 3 * nn) + 2) (by omega)
         obtain ⟨b321, hA322⟩ := own_addr (by decide) (Go.Tw.encI_len _) ho313 he320
         refine WL.index A11 ((intsL bs).length) c12 163 .i64 (((a + 9 + 3 * nn : Nat) : Int) + 2) b321 0 ((a + 9 + 3 * nn) + 2) 1 (by kernel_rfl) hA322 (by omega) (by omega) ((a + 9 + 3 * nn) + 2) (by first | (simp; done) | omega) ?_
         refine WL.load 3 (.pointer (some ⟨b321, (a + 9 + 3 * nn) + 2, none⟩)) (.int .i64 e319) 164 (by kernel_rfl) (run_load1 rfl (by simpa [Nat.add_assoc] using Rd.cell (own_rd ho313 (Go.Tw.encI_len _) (by decide)) hA322 he320 0 _ rfl)) ?_
         refine WL.runs 1 [(165, .bool (e319 == 1))] (fun _ => by kernel_rfl) ?_
         refine WL.recast (show (.bool (e319 == 1) : Value) = .bool (decide (e319 = (1 : Int))) from congrArg Value.bool (Bool.eq_iff_iff.2 (by simp))) ?_
         refine WL.runs 1 [(166, .pointer (some ⟨g107, 11, none⟩))] (fun _ => by kernel_rfl) ?_
         refine WL.storeM (c' := #[.int .i64 e82, .int .i64 e87, .int .i64 e92, .int .i64 e97, .int .i64 e102, .int .u32 (wrapA e135), .int .i64 e140, .int .i64 e145, .slice A6 ((cmdN (intsL bs) a).ends.length) c6, .int .u32 (wrapA e289), .int .u32 (wrapA e304), .bool (decide (e319 = (1 : Int)))]) hC312 0 4 g107 11 (.bool (decide (e319 = (1 : Int)))) (by kernel_rfl) rfl (by kernel_rfl) (fun w324 hF326 hC327 => ?_)
         have ho328 := own_fr ho313 hF326 (hC312.apartM 0 0 rfl rfl)
         have ho329 := own_fr ho314 hF326 (hC312.apartM 1 0 rfl rfl)
         have hl330 := logIn.fr hl315 hF326 (hC312.apartM 2 0 rfl rfl)
         have ho331 := own_fr ho316 hF326 (hC312.apartM 3 0 rfl rfl)
         refine WL.done rfl ?_
         refine QX.then_normal (hK318 _ _ ?_)
         refine WC.seq (fun K332 hK333 => ?_)
         refine WC.region ?_
         refine WL.runs 2 [(168, .int .i64 (IntKind.i64.wrap (((a + 9 + 3 * nn : Nat) : Int) + 3))), (167, .int .i64 ((a + 9 + 3 * nn : Nat) : Int))] (fun _ => by kernel_rfl) ?_
         refine WL.recast (show (.int .i64 (IntKind.i64.wrap (((a + 9 + 3 * nn : Nat) : Int) + 3)) : Value) = .int .i64 ((a + 12 + 3 * nn : Nat) : Int) from congrArg (Value.int .i64) (by rw [wrap_in_i64 _ (by omega) (by omega)]; omega)) ?_
         refine WL.runs 1 [(7, .int .i64 ((a + 12 + 3 * nn : Nat) : Int))] (fun _ => by kernel_rfl) ?_
         refine WL.done rfl ?_
         refine QX.then_normal (hK333 _ _ ?_)
         refine WC.region ?_
         refine WL.runs 1 [(169, .slice A5 n5 c5)] (fun _ => by kernel_rfl) ?_
         refine WL.load 61 (.pointer (some ⟨g107, 0, none⟩)) (.agg #[.int .i64 e82, .int .i64 e87, .int .i64 e92, .int .i64 e97, .int .i64 e102, .int .u32 (wrapA e135), .int .i64 e140, .int .i64 e145, .slice A6 ((cmdN (intsL bs) a).ends.length) c6, .int .u32 (wrapA e289), .int .u32 (wrapA e304), .bool (decide (e319 = (1 : Int)))]) 170 (by kernel_rfl) (run_ld (hC327.get 0 rfl) rfl) ?_
         refine WL.newM hC327 (fun b => .slice (some ⟨b, 0, none⟩) 1 1) (.cells #[.int .i64 e82, .int .i64 e87, .int .i64 e92, .int .i64 e97, .int .i64 e102, .int .u32 (wrapA e135), .int .i64 e140, .int .i64 e145, .slice A6 ((cmdN (intsL bs) a).ends.length) c6, .int .u32 (wrapA e289), .int .u32 (wrapA e304), .bool (decide (e319 = (1 : Int)))] 61) 171 (fun _ => by kernel_rfl) (fun g334 w335 hb338 hF336 hC337 => ?_)
         have ho339 := own_fr ho328 hF336 (by simp)
         have ho340 := own_fr ho329 hF336 (by simp)
         have hl341 := logIn.fr hl330 hF336 (by simp)
         have ho342 := own_fr ho331 hF336 (by simp)
         have hl343 : logIn w335 (R5 ++ blk (.slice A6 ((cmdN (intsL bs) a).ends.length) c6)) (L5 ++ [(⟨(cmdN (intsL bs) a), A6, c6⟩ : Cmd)]) := (hl341.mono (fun _ h_ => List.mem_append_left _ h_)).snoc (cmd_own ho342 (cmdN_wf (intsL_i64 bs) a) (by rw [hen_, endsN_len]; omega)) (fun _ h_ => List.mem_append_right _ h_)
         have hC344 := Cx_join hC337 2 3 rfl rfl (by decide)
         obtain ⟨v346, w347, hr348, ho349, hF350, hC351, hnil352, hsub353⟩ := app_run Try.prog hC344 1 (v := .slice A5 n5 c5) rfl 25 25 61 12 104 n5 1 1 (some ⟨g334, 0, none⟩) rfl ho340 [.int .i64 e82, .int .i64 e87, .int .i64 e92, .int .i64 e97, .int .i64 e102, .int .u32 (wrapA e135), .int .i64 e140, .int .i64 e145, .slice A6 ((cmdN (intsL bs) a).ends.length) c6, .int .u32 (wrapA e289), .int .u32 (wrapA e304), .bool (decide (e319 = (1 : Int)))] rfl (srcOk.blk 1 (hC344.get 1 rfl)) rfl (by simp only [maxLen]; omega) (by omega)
         have ho357 := own_snoc (enc := cellsC) (ys := L5) (⟨⟨e82, e87, e92, e97, e102, wrapA e135, e140, e145, (cmdN (intsL bs) a).ends, wrapA e289, wrapA e304, decide (e319 = (1 : Int))⟩, A6, c6⟩ : Cmd) ho349
         obtain ⟨A354, c355, rfl, hle356⟩ := own_form ho357
         refine WL.sem (Builtin.append_ #[25, 25] 25 #[.slice A5 n5 c5, .slice (some ⟨g334, 0, none⟩) 1 1]) 172 (.slice A354 (n5 + 1) c355) (by kernel_rfl) hr348 ?_
         have ho358 := own_fr ho339 hF350 (hC344.disj 0 1 rfl rfl (by decide))
         have hl359 := logIn.fr hl343 hF350 (hC344.disj 2 1 rfl rfl (by decide))
         have ho360 := ho357
         rw [cmdN_mk he83 he88 he93 he98 he103 he136 he141 he146 he52 hnn he290 he305 he320] at ho360
         refine WL.runs 1 [(6, .slice A354 (n5 + 1) c355)] (fun _ => by kernel_rfl) ?_
         refine WL.done rfl ?_
         refine QX.block_normal ?_
         refine QX.then_normal ?_
         have hC361 := hC351.pick [] [0, 1, 2] rfl rfl
         refine fun a_ ha_ => hK27 _ _ _ ?_ ⟨a + 12 + 3 * nn, A354, n5 + 1, c355, (R5 ++ blk (.slice A6 ((cmdN (intsL bs) a).ends.length) c6)), (L5 ++ [(⟨(cmdN (intsL bs) a), A6, c6⟩ : Cmd)]), rfl, rfl, hC361, ho358, ho360, hl359, by omega, by omega, by simp only [List.length_append, List.length_cons, List.length_nil]; omega, by rw [vals_snoc]; exact RdI_step hri (by rw [vals_len, gN_of he38]; omega) (by rw [gN_of he52]; exact hnn), (fun m_ h_ => (List.mem_append.1 h_).elim (h65 m_) (fun h2_ => by rw [List.mem_singleton] at h2_; subst h2_; show (cmdN (intsL bs) a).ends.length ≤ 65; rw [hen_, endsN_len]; omega))⟩ a_ (ha_.weaken (sub_of ⟨rfl, rfl, rfl, rfl, rfl, trivial⟩))
         simp only [List.length_append, List.length_cons, List.length_nil]; omega
   ·
    have t43 : (256 : Int) < (n5 : Int) := by have q_ := of_decide_eq_false t43b; omega
    refine WC.cond_false rfl ?_
    have hst_ : (intsL bs).length = 0 ∨ gN (intsL bs) 0 ≤ ((vals L5).length : Int) ∨ 256 < (vals L5).length := by rw [vals_len]; first | exact .inl (by omega) | exact .inr (.inr (by omega)) | exact .inr (.inl (by rw [gN_of he38]; omega))
    have hend_ := RdI_end hri hst_
    have htot_ := totE_read h65 hll
    skip
    refine WC.exit ?_
    refine QX.then_exit ?_
    refine QX.then_exit ?_
    refine QX.block_hit ?_
    refine QX.then_normal (hK22 _ _ ?_)
    refine WC.seq (fun K362 hK363 => ?_)
    refine WC.region ?_
    refine WL.runs 1 [(174, .slice A5 n5 c5)] (fun _ => by kernel_rfl) ?_
    refine WL.call rfl rfl rfl rfl rfl (by kernel_rfl) (RWrite_n A5 n5 c5 L5 w30 (own_rd hrow5 cellsC_len (by decide)) (own_count cellsC_len (by decide) hrow5) hlog5.at_ (Nat.le_trans htot_ (by decide))) ?_
    rintro _ w366 ⟨v_, rfl, hF365, ho364⟩
    have hC367 := hC31.callN hF365 (own_ge ho364) (own_lt ho364)
    obtain ⟨A368, c369, rfl, hle370⟩ := own_form ho364
    have ho372 := own_base (b' := 0) ho364 (fun _ _ => Nat.zero_le _)
    refine ⟨_, rfl, ?_⟩
    have ho373 := own_fr row16_m29 hF365 (by simp)
    have ho374 := own_fr hrow5 hF365 (by simp)
    have hl375 := logIn.fr hlog5 hF365 (by simp)
    refine WL.runs 5 [(12, .int .i64 (if goodL (vals L5) then (0 : Int) else 9)), (11, .slice A368 ((if goodL (vals L5) then bytesL (vals L5) else []).length) c369), (177, .int .i64 (if goodL (vals L5) then (0 : Int) else 9)), (176, .slice A368 ((if goodL (vals L5) then bytesL (vals L5) else []).length) c369), (173, .tuple #[.slice A368 ((if goodL (vals L5) then bytesL (vals L5) else []).length) c369, .int .i64 (if goodL (vals L5) then (0 : Int) else 9)])] (fun _ => by kernel_rfl) ?_
    refine WL.done rfl ?_
    refine QX.then_normal (hK363 _ _ ?_)
    refine WC.seq (fun K377 hK378 => ?_)
    refine WC.seq (fun K379 hK380 => ?_)
    refine WC.region ?_
    refine WL.runs 3 [(180, .bool ((if goodL (vals L5) then (0 : Int) else 9) != 0)), (179, .bool ((if goodL (vals L5) then (0 : Int) else 9) != 0)), (178, .int .i64 (if goodL (vals L5) then (0 : Int) else 9))] (fun _ => by kernel_rfl) ?_
    refine WL.test_at 180 ((if goodL (vals L5) then (0 : Int) else 9) != 0) rfl (fun t381b => ?_) (fun t381b => ?_)
    ·
     have t381 : (if goodL (vals L5) then (0 : Int) else 9) ≠ 0 := by simpa using t381b
     refine WL.runs 6 [(186, .bool true), (185, undef), (184, undef), (183, undef), (182, undef), (181, undef)] (fun _ => by kernel_rfl) ?_
     refine WL.done rfl ?_
     refine QX.then_normal (hK380 _ _ ?_)
     refine WC.cond_true rfl ?_
     refine WC.seq (fun K382 hK383 => ?_)
     refine WC.region ?_
     refine WL.runs 3 [(3, .int .i64 3), (2, .slice none 0 0), (187, .int .i64 3)] (fun _ => by kernel_rfl) ?_
     refine WL.done rfl ?_
     refine QX.then_normal (hK383 _ _ ?_)
     refine WC.ret ?_
     refine QX.then_ret ?_
     refine (hret _ _ _ rfl ?_).1
     clear hN hret hret' hK383 hK380 hK378 hK363 hK35 hK33 hK22 hK20 hK18 hK6 hK4 hK2
     have hno_ : readOk bs = false := by
      cases hro_ : readOk bs
      ·
       rfl
      ·
       exfalso
       have h1_ := hend_ hro_
       obtain ⟨h2_, h3_⟩ := readOk_yes hro_
       rw [← h1_] at h2_ h3_
       simp_all
     rw [hno_]
     exact ⟨none, 0, [], [], rfl, hC367.fr, own_nil _ _ _ _, logIn.nil _ _, rfl, (fun _ h_ => nomatch h_), (fun _ _ h_ => nomatch h_)⟩
    ·
     have t381 : (if goodL (vals L5) then (0 : Int) else 9) = 0 := by simpa using t381b
     refine WL.runs 1 [(181, .slice A368 ((if goodL (vals L5) then bytesL (vals L5) else []).length) c369)] (fun _ => by kernel_rfl) ?_
     refine WL.sem (convert 22 9 (.slice A368 ((if goodL (vals L5) then bytesL (vals L5) else []).length) c369)) 182 (.string (strOfNums (if goodL (vals L5) then bytesL (vals L5) else []))) (by kernel_rfl) (run_bytes_str rfl rfl rfl (own_rd ho372 (Go.Tw.encI_len _) (by decide)) (own_count (Go.Tw.encI_len _) (by decide) ho372)) ?_
     refine WL.runs 1 [(183, .slice A bs.length c)] (fun _ => by kernel_rfl) ?_
     refine WL.sem (convert 22 9 (.slice A bs.length c)) 184 (.string (strOfNums bs)) (by kernel_rfl) (run_bytes_str rfl rfl rfl (Rd.fr hr hC367.fr) (by first | rfl | assumption | (simp; done))) ?_
     refine WL.runs 1 [(185, .bool (!((strOfNums (if goodL (vals L5) then bytesL (vals L5) else [])).toList == (strOfNums bs).toList)))] (fun _ => by kernel_rfl) ?_
     refine WL.recast (show (.bool (!((strOfNums (if goodL (vals L5) then bytesL (vals L5) else [])).toList == (strOfNums bs).toList)) : Value) = .bool (!decide ((strOfNums (if goodL (vals L5) then bytesL (vals L5) else [])) = (strOfNums bs))) from by rw [str_eql]) ?_
     refine WL.runs 1 [(186, .bool (!decide ((strOfNums (if goodL (vals L5) then bytesL (vals L5) else [])) = (strOfNums bs))))] (fun _ => by kernel_rfl) ?_
     refine WL.done rfl ?_
     refine QX.then_normal (hK380 _ _ ?_)
     refine WC.test_at 186 (!decide ((strOfNums (if goodL (vals L5) then bytesL (vals L5) else [])) = (strOfNums bs))) rfl (fun t384b => ?_) (fun t384b => ?_)
     ·
      have t384 : (strOfNums (if goodL (vals L5) then bytesL (vals L5) else [])) ≠ (strOfNums bs) := by simpa using t384b
      refine WC.cond_true rfl ?_
      refine WC.seq (fun K385 hK386 => ?_)
      refine WC.region ?_
      refine WL.runs 3 [(3, .int .i64 3), (2, .slice none 0 0), (187, .int .i64 3)] (fun _ => by kernel_rfl) ?_
      refine WL.done rfl ?_
      refine QX.then_normal (hK386 _ _ ?_)
      refine WC.ret ?_
      refine QX.then_ret ?_
      refine (hret _ _ _ rfl ?_).1
      clear hN hret hret' hK386 hK380 hK378 hK363 hK35 hK33 hK22 hK20 hK18 hK6 hK4 hK2
      have hno_ : readOk bs = false := by
       cases hro_ : readOk bs
       ·
        rfl
       ·
        exfalso
        have h1_ := hend_ hro_
        obtain ⟨h2_, h3_⟩ := readOk_yes hro_
        rw [← h1_] at h2_ h3_
        simp_all
      rw [hno_]
      exact ⟨none, 0, [], [], rfl, hC367.fr, own_nil _ _ _ _, logIn.nil _ _, rfl, (fun _ h_ => nomatch h_), (fun _ _ h_ => nomatch h_)⟩
     ·
      have t384 : (strOfNums (if goodL (vals L5) then bytesL (vals L5) else [])) = (strOfNums bs) := by simpa using t384b
      refine WC.cond_false rfl ?_
      refine WC.skip ?_
      refine QX.then_normal (hK378 _ _ ?_)
      refine WC.seq (fun K387 hK388 => ?_)
      refine WC.region ?_
      refine WL.runs 3 [(3, .int .i64 0), (2, .slice A5 n5 c5), (188, .slice A5 n5 c5)] (fun _ => by kernel_rfl) ?_
      refine WL.done rfl ?_
      refine QX.then_normal (hK388 _ _ ?_)
      refine WC.ret ?_
      refine (hret _ _ _ rfl ?_).1
      clear hN hret hret' hK388 hK380 hK378 hK363 hK35 hK33 hK22 hK20 hK18 hK6 hK4 hK2
      have hgd_ : goodL (vals L5) = true := by
       cases hg0_ : goodL (vals L5)
       ·
        have z_ := t381b; rw [hg0_] at z_; simp at z_
       ·
        rfl
      have hbe_ : bytesL (vals L5) = bs := by
       have z_ := t384b
       rw [hgd_, if_pos rfl, strOf_dec (show byteL (bytesL (vals L5)) from bytesN_byte _) hb] at z_
       simpa using z_
      have hok_ := readOk_of (vals_wf hl375.at_) hgd_ hbe_
      rw [hok_.1, if_pos rfl]
      subst hcn5_
      exact ⟨A5, c5, L5, R5, rfl, hC367.fr, own_base ho374 (newF_of hC367 1 rfl (fun _ h_ => nomatch h_) (fun _ h_ => nomatch h_)), hl375, by rw [if_pos rfl]; exact hok_.2.symm, (fun x_ h_ => ⟨newF_of hC367 2 rfl (fun _ h_ => nomatch h_) (fun _ h_ => nomatch h_) x_ h_, hC367.ltF 2 rfl x_ h_⟩), hC367.disj 1 2 rfl rfl (by decide)⟩
  ·
   have t42 : e37 ≤ (n5 : Int) := by have q_ := of_decide_eq_false t42b; omega
   refine WL.runs 4 [(30, .bool false), (29, undef), (28, undef), (27, undef)] (fun _ => by kernel_rfl) ?_
   refine WL.done rfl ?_
   refine QX.then_normal (hK35 _ _ ?_)
   refine WC.cond_false rfl ?_
   have hst_ : (intsL bs).length = 0 ∨ gN (intsL bs) 0 ≤ ((vals L5).length : Int) ∨ 256 < (vals L5).length := by rw [vals_len]; first | exact .inl (by omega) | exact .inr (.inr (by omega)) | exact .inr (.inl (by rw [gN_of he38]; omega))
   have hend_ := RdI_end hri hst_
   have htot_ := totE_read h65 hll
   skip
   refine WC.exit ?_
   refine QX.then_exit ?_
   refine QX.then_exit ?_
   refine QX.block_hit ?_
   refine QX.then_normal (hK22 _ _ ?_)
   refine WC.seq (fun K389 hK390 => ?_)
   refine WC.region ?_
   refine WL.runs 1 [(174, .slice A5 n5 c5)] (fun _ => by kernel_rfl) ?_
   refine WL.call rfl rfl rfl rfl rfl (by kernel_rfl) (RWrite_n A5 n5 c5 L5 w30 (own_rd hrow5 cellsC_len (by decide)) (own_count cellsC_len (by decide) hrow5) hlog5.at_ (Nat.le_trans htot_ (by decide))) ?_
   rintro _ w393 ⟨v_, rfl, hF392, ho391⟩
   have hC394 := hC31.callN hF392 (own_ge ho391) (own_lt ho391)
   obtain ⟨A395, c396, rfl, hle397⟩ := own_form ho391
   have ho399 := own_base (b' := 0) ho391 (fun _ _ => Nat.zero_le _)
   refine ⟨_, rfl, ?_⟩
   have ho400 := own_fr row16_m29 hF392 (by simp)
   have ho401 := own_fr hrow5 hF392 (by simp)
   have hl402 := logIn.fr hlog5 hF392 (by simp)
   refine WL.runs 5 [(12, .int .i64 (if goodL (vals L5) then (0 : Int) else 9)), (11, .slice A395 ((if goodL (vals L5) then bytesL (vals L5) else []).length) c396), (177, .int .i64 (if goodL (vals L5) then (0 : Int) else 9)), (176, .slice A395 ((if goodL (vals L5) then bytesL (vals L5) else []).length) c396), (173, .tuple #[.slice A395 ((if goodL (vals L5) then bytesL (vals L5) else []).length) c396, .int .i64 (if goodL (vals L5) then (0 : Int) else 9)])] (fun _ => by kernel_rfl) ?_
   refine WL.done rfl ?_
   refine QX.then_normal (hK390 _ _ ?_)
   refine WC.seq (fun K404 hK405 => ?_)
   refine WC.seq (fun K406 hK407 => ?_)
   refine WC.region ?_
   refine WL.runs 3 [(180, .bool ((if goodL (vals L5) then (0 : Int) else 9) != 0)), (179, .bool ((if goodL (vals L5) then (0 : Int) else 9) != 0)), (178, .int .i64 (if goodL (vals L5) then (0 : Int) else 9))] (fun _ => by kernel_rfl) ?_
   refine WL.test_at 180 ((if goodL (vals L5) then (0 : Int) else 9) != 0) rfl (fun t408b => ?_) (fun t408b => ?_)
   ·
    have t408 : (if goodL (vals L5) then (0 : Int) else 9) ≠ 0 := by simpa using t408b
    refine WL.runs 6 [(186, .bool true), (185, undef), (184, undef), (183, undef), (182, undef), (181, undef)] (fun _ => by kernel_rfl) ?_
    refine WL.done rfl ?_
    refine QX.then_normal (hK407 _ _ ?_)
    refine WC.cond_true rfl ?_
    refine WC.seq (fun K409 hK410 => ?_)
    refine WC.region ?_
    refine WL.runs 3 [(3, .int .i64 3), (2, .slice none 0 0), (187, .int .i64 3)] (fun _ => by kernel_rfl) ?_
    refine WL.done rfl ?_
    refine QX.then_normal (hK410 _ _ ?_)
    refine WC.ret ?_
    refine QX.then_ret ?_
    refine (hret _ _ _ rfl ?_).1
    clear hN hret hret' hK410 hK407 hK405 hK390 hK35 hK33 hK22 hK20 hK18 hK6 hK4 hK2
    have hno_ : readOk bs = false := by
     cases hro_ : readOk bs
     ·
      rfl
     ·
      exfalso
      have h1_ := hend_ hro_
      obtain ⟨h2_, h3_⟩ := readOk_yes hro_
      rw [← h1_] at h2_ h3_
      simp_all
    rw [hno_]
    exact ⟨none, 0, [], [], rfl, hC394.fr, own_nil _ _ _ _, logIn.nil _ _, rfl, (fun _ h_ => nomatch h_), (fun _ _ h_ => nomatch h_)⟩
   ·
    have t408 : (if goodL (vals L5) then (0 : Int) else 9) = 0 := by simpa using t408b
    refine WL.runs 1 [(181, .slice A395 ((if goodL (vals L5) then bytesL (vals L5) else []).length) c396)] (fun _ => by kernel_rfl) ?_
    refine WL.sem (convert 22 9 (.slice A395 ((if goodL (vals L5) then bytesL (vals L5) else []).length) c396)) 182 (.string (strOfNums (if goodL (vals L5) then bytesL (vals L5) else []))) (by kernel_rfl) (run_bytes_str rfl rfl rfl (own_rd ho399 (Go.Tw.encI_len _) (by decide)) (own_count (Go.Tw.encI_len _) (by decide) ho399)) ?_
    refine WL.runs 1 [(183, .slice A bs.length c)] (fun _ => by kernel_rfl) ?_
    refine WL.sem (convert 22 9 (.slice A bs.length c)) 184 (.string (strOfNums bs)) (by kernel_rfl) (run_bytes_str rfl rfl rfl (Rd.fr hr hC394.fr) (by first | rfl | assumption | (simp; done))) ?_
    refine WL.runs 1 [(185, .bool (!((strOfNums (if goodL (vals L5) then bytesL (vals L5) else [])).toList == (strOfNums bs).toList)))] (fun _ => by kernel_rfl) ?_
    refine WL.recast (show (.bool (!((strOfNums (if goodL (vals L5) then bytesL (vals L5) else [])).toList == (strOfNums bs).toList)) : Value) = .bool (!decide ((strOfNums (if goodL (vals L5) then bytesL (vals L5) else [])) = (strOfNums bs))) from by rw [str_eql]) ?_
    refine WL.runs 1 [(186, .bool (!decide ((strOfNums (if goodL (vals L5) then bytesL (vals L5) else [])) = (strOfNums bs))))] (fun _ => by kernel_rfl) ?_
    refine WL.done rfl ?_
    refine QX.then_normal (hK407 _ _ ?_)
    refine WC.test_at 186 (!decide ((strOfNums (if goodL (vals L5) then bytesL (vals L5) else [])) = (strOfNums bs))) rfl (fun t411b => ?_) (fun t411b => ?_)
    ·
     have t411 : (strOfNums (if goodL (vals L5) then bytesL (vals L5) else [])) ≠ (strOfNums bs) := by simpa using t411b
     refine WC.cond_true rfl ?_
     refine WC.seq (fun K412 hK413 => ?_)
     refine WC.region ?_
     refine WL.runs 3 [(3, .int .i64 3), (2, .slice none 0 0), (187, .int .i64 3)] (fun _ => by kernel_rfl) ?_
     refine WL.done rfl ?_
     refine QX.then_normal (hK413 _ _ ?_)
     refine WC.ret ?_
     refine QX.then_ret ?_
     refine (hret _ _ _ rfl ?_).1
     clear hN hret hret' hK413 hK407 hK405 hK390 hK35 hK33 hK22 hK20 hK18 hK6 hK4 hK2
     have hno_ : readOk bs = false := by
      cases hro_ : readOk bs
      ·
       rfl
      ·
       exfalso
       have h1_ := hend_ hro_
       obtain ⟨h2_, h3_⟩ := readOk_yes hro_
       rw [← h1_] at h2_ h3_
       simp_all
     rw [hno_]
     exact ⟨none, 0, [], [], rfl, hC394.fr, own_nil _ _ _ _, logIn.nil _ _, rfl, (fun _ h_ => nomatch h_), (fun _ _ h_ => nomatch h_)⟩
    ·
     have t411 : (strOfNums (if goodL (vals L5) then bytesL (vals L5) else [])) = (strOfNums bs) := by simpa using t411b
     refine WC.cond_false rfl ?_
     refine WC.skip ?_
     refine QX.then_normal (hK405 _ _ ?_)
     refine WC.seq (fun K414 hK415 => ?_)
     refine WC.region ?_
     refine WL.runs 3 [(3, .int .i64 0), (2, .slice A5 n5 c5), (188, .slice A5 n5 c5)] (fun _ => by kernel_rfl) ?_
     refine WL.done rfl ?_
     refine QX.then_normal (hK415 _ _ ?_)
     refine WC.ret ?_
     refine (hret _ _ _ rfl ?_).1
     clear hN hret hret' hK415 hK407 hK405 hK390 hK35 hK33 hK22 hK20 hK18 hK6 hK4 hK2
     have hgd_ : goodL (vals L5) = true := by
      cases hg0_ : goodL (vals L5)
      ·
       have z_ := t408b; rw [hg0_] at z_; simp at z_
      ·
       rfl
     have hbe_ : bytesL (vals L5) = bs := by
      have z_ := t411b
      rw [hgd_, if_pos rfl, strOf_dec (show byteL (bytesL (vals L5)) from bytesN_byte _) hb] at z_
      simpa using z_
     have hok_ := readOk_of (vals_wf hl402.at_) hgd_ hbe_
     rw [hok_.1, if_pos rfl]
     subst hcn5_
     exact ⟨A5, c5, L5, R5, rfl, hC394.fr, own_base ho401 (newF_of hC394 1 rfl (fun _ h_ => nomatch h_) (fun _ h_ => nomatch h_)), hl402, by rw [if_pos rfl]; exact hok_.2.symm, (fun x_ h_ => ⟨newF_of hC394 2 rfl (fun _ h_ => nomatch h_) (fun _ h_ => nomatch h_) x_ h_, hC394.ltF 2 rfl x_ h_⟩), hC394.disj 1 2 rfl rfl (by decide)⟩
 ·
  have t36 : ((intsL bs).length : Int) ≤ 0 := by have q_ := of_decide_eq_false t36b; omega
  refine WL.runs 12 [(30, .bool false), (29, undef), (28, undef), (27, undef), (26, .bool false), (25, .bool false), (24, undef), (23, undef), (22, undef), (21, undef), (20, undef), (19, undef)] (fun _ => by kernel_rfl) ?_
  refine WL.done rfl ?_
  refine QX.then_normal (hK35 _ _ ?_)
  refine WC.cond_false rfl ?_
  have hst_ : (intsL bs).length = 0 ∨ gN (intsL bs) 0 ≤ ((vals L5).length : Int) ∨ 256 < (vals L5).length := by rw [vals_len]; first | exact .inl (by omega) | exact .inr (.inr (by omega)) | exact .inr (.inl (by rw [gN_of he38]; omega))
  have hend_ := RdI_end hri hst_
  have htot_ := totE_read h65 hll
  skip
  refine WC.exit ?_
  refine QX.then_exit ?_
  refine QX.then_exit ?_
  refine QX.block_hit ?_
  refine QX.then_normal (hK22 _ _ ?_)
  refine WC.seq (fun K416 hK417 => ?_)
  refine WC.region ?_
  refine WL.runs 1 [(174, .slice A5 n5 c5)] (fun _ => by kernel_rfl) ?_
  refine WL.call rfl rfl rfl rfl rfl (by kernel_rfl) (RWrite_n A5 n5 c5 L5 w30 (own_rd hrow5 cellsC_len (by decide)) (own_count cellsC_len (by decide) hrow5) hlog5.at_ (Nat.le_trans htot_ (by decide))) ?_
  rintro _ w420 ⟨v_, rfl, hF419, ho418⟩
  have hC421 := hC31.callN hF419 (own_ge ho418) (own_lt ho418)
  obtain ⟨A422, c423, rfl, hle424⟩ := own_form ho418
  have ho426 := own_base (b' := 0) ho418 (fun _ _ => Nat.zero_le _)
  refine ⟨_, rfl, ?_⟩
  have ho427 := own_fr row16_m29 hF419 (by simp)
  have ho428 := own_fr hrow5 hF419 (by simp)
  have hl429 := logIn.fr hlog5 hF419 (by simp)
  refine WL.runs 5 [(12, .int .i64 (if goodL (vals L5) then (0 : Int) else 9)), (11, .slice A422 ((if goodL (vals L5) then bytesL (vals L5) else []).length) c423), (177, .int .i64 (if goodL (vals L5) then (0 : Int) else 9)), (176, .slice A422 ((if goodL (vals L5) then bytesL (vals L5) else []).length) c423), (173, .tuple #[.slice A422 ((if goodL (vals L5) then bytesL (vals L5) else []).length) c423, .int .i64 (if goodL (vals L5) then (0 : Int) else 9)])] (fun _ => by kernel_rfl) ?_
  refine WL.done rfl ?_
  refine QX.then_normal (hK417 _ _ ?_)
  refine WC.seq (fun K431 hK432 => ?_)
  refine WC.seq (fun K433 hK434 => ?_)
  refine WC.region ?_
  refine WL.runs 3 [(180, .bool ((if goodL (vals L5) then (0 : Int) else 9) != 0)), (179, .bool ((if goodL (vals L5) then (0 : Int) else 9) != 0)), (178, .int .i64 (if goodL (vals L5) then (0 : Int) else 9))] (fun _ => by kernel_rfl) ?_
  refine WL.test_at 180 ((if goodL (vals L5) then (0 : Int) else 9) != 0) rfl (fun t435b => ?_) (fun t435b => ?_)
  ·
   have t435 : (if goodL (vals L5) then (0 : Int) else 9) ≠ 0 := by simpa using t435b
   refine WL.runs 6 [(186, .bool true), (185, undef), (184, undef), (183, undef), (182, undef), (181, undef)] (fun _ => by kernel_rfl) ?_
   refine WL.done rfl ?_
   refine QX.then_normal (hK434 _ _ ?_)
   refine WC.cond_true rfl ?_
   refine WC.seq (fun K436 hK437 => ?_)
   refine WC.region ?_
   refine WL.runs 3 [(3, .int .i64 3), (2, .slice none 0 0), (187, .int .i64 3)] (fun _ => by kernel_rfl) ?_
   refine WL.done rfl ?_
   refine QX.then_normal (hK437 _ _ ?_)
   refine WC.ret ?_
   refine QX.then_ret ?_
   refine (hret _ _ _ rfl ?_).1
   clear hN hret hret' hK437 hK434 hK432 hK417 hK35 hK33 hK22 hK20 hK18 hK6 hK4 hK2
   have hno_ : readOk bs = false := by
    cases hro_ : readOk bs
    ·
     rfl
    ·
     exfalso
     have h1_ := hend_ hro_
     obtain ⟨h2_, h3_⟩ := readOk_yes hro_
     rw [← h1_] at h2_ h3_
     simp_all
   rw [hno_]
   exact ⟨none, 0, [], [], rfl, hC421.fr, own_nil _ _ _ _, logIn.nil _ _, rfl, (fun _ h_ => nomatch h_), (fun _ _ h_ => nomatch h_)⟩
  ·
   have t435 : (if goodL (vals L5) then (0 : Int) else 9) = 0 := by simpa using t435b
   refine WL.runs 1 [(181, .slice A422 ((if goodL (vals L5) then bytesL (vals L5) else []).length) c423)] (fun _ => by kernel_rfl) ?_
   refine WL.sem (convert 22 9 (.slice A422 ((if goodL (vals L5) then bytesL (vals L5) else []).length) c423)) 182 (.string (strOfNums (if goodL (vals L5) then bytesL (vals L5) else []))) (by kernel_rfl) (run_bytes_str rfl rfl rfl (own_rd ho426 (Go.Tw.encI_len _) (by decide)) (own_count (Go.Tw.encI_len _) (by decide) ho426)) ?_
   refine WL.runs 1 [(183, .slice A bs.length c)] (fun _ => by kernel_rfl) ?_
   refine WL.sem (convert 22 9 (.slice A bs.length c)) 184 (.string (strOfNums bs)) (by kernel_rfl) (run_bytes_str rfl rfl rfl (Rd.fr hr hC421.fr) (by first | rfl | assumption | (simp; done))) ?_
   refine WL.runs 1 [(185, .bool (!((strOfNums (if goodL (vals L5) then bytesL (vals L5) else [])).toList == (strOfNums bs).toList)))] (fun _ => by kernel_rfl) ?_
   refine WL.recast (show (.bool (!((strOfNums (if goodL (vals L5) then bytesL (vals L5) else [])).toList == (strOfNums bs).toList)) : Value) = .bool (!decide ((strOfNums (if goodL (vals L5) then bytesL (vals L5) else [])) = (strOfNums bs))) from by rw [str_eql]) ?_
   refine WL.runs 1 [(186, .bool (!decide ((strOfNums (if goodL (vals L5) then bytesL (vals L5) else [])) = (strOfNums bs))))] (fun _ => by kernel_rfl) ?_
   refine WL.done rfl ?_
   refine QX.then_normal (hK434 _ _ ?_)
   refine WC.test_at 186 (!decide ((strOfNums (if goodL (vals L5) then bytesL (vals L5) else [])) = (strOfNums bs))) rfl (fun t438b => ?_) (fun t438b => ?_)
   ·
    have t438 : (strOfNums (if goodL (vals L5) then bytesL (vals L5) else [])) ≠ (strOfNums bs) := by simpa using t438b
    refine WC.cond_true rfl ?_
    refine WC.seq (fun K439 hK440 => ?_)
    refine WC.region ?_
    refine WL.runs 3 [(3, .int .i64 3), (2, .slice none 0 0), (187, .int .i64 3)] (fun _ => by kernel_rfl) ?_
    refine WL.done rfl ?_
    refine QX.then_normal (hK440 _ _ ?_)
    refine WC.ret ?_
    refine QX.then_ret ?_
    refine (hret _ _ _ rfl ?_).1
    clear hN hret hret' hK440 hK434 hK432 hK417 hK35 hK33 hK22 hK20 hK18 hK6 hK4 hK2
    have hno_ : readOk bs = false := by
     cases hro_ : readOk bs
     ·
      rfl
     ·
      exfalso
      have h1_ := hend_ hro_
      obtain ⟨h2_, h3_⟩ := readOk_yes hro_
      rw [← h1_] at h2_ h3_
      simp_all
    rw [hno_]
    exact ⟨none, 0, [], [], rfl, hC421.fr, own_nil _ _ _ _, logIn.nil _ _, rfl, (fun _ h_ => nomatch h_), (fun _ _ h_ => nomatch h_)⟩
   ·
    have t438 : (strOfNums (if goodL (vals L5) then bytesL (vals L5) else [])) = (strOfNums bs) := by simpa using t438b
    refine WC.cond_false rfl ?_
    refine WC.skip ?_
    refine QX.then_normal (hK432 _ _ ?_)
    refine WC.seq (fun K441 hK442 => ?_)
    refine WC.region ?_
    refine WL.runs 3 [(3, .int .i64 0), (2, .slice A5 n5 c5), (188, .slice A5 n5 c5)] (fun _ => by kernel_rfl) ?_
    refine WL.done rfl ?_
    refine QX.then_normal (hK442 _ _ ?_)
    refine WC.ret ?_
    refine (hret _ _ _ rfl ?_).1
    clear hN hret hret' hK442 hK434 hK432 hK417 hK35 hK33 hK22 hK20 hK18 hK6 hK4 hK2
    have hgd_ : goodL (vals L5) = true := by
     cases hg0_ : goodL (vals L5)
     ·
      have z_ := t435b; rw [hg0_] at z_; simp at z_
     ·
      rfl
    have hbe_ : bytesL (vals L5) = bs := by
     have z_ := t438b
     rw [hgd_, if_pos rfl, strOf_dec (show byteL (bytesL (vals L5)) from bytesN_byte _) hb] at z_
     simpa using z_
    have hok_ := readOk_of (vals_wf hl429.at_) hgd_ hbe_
    rw [hok_.1, if_pos rfl]
    subst hcn5_
    exact ⟨A5, c5, L5, R5, rfl, hC421.fr, own_base ho428 (newF_of hC421 1 rfl (fun _ h_ => nomatch h_) (fun _ h_ => nomatch h_)), hl429, by rw [if_pos rfl]; exact hok_.2.symm, (fun x_ h_ => ⟨newF_of hC421 2 rfl (fun _ h_ => nomatch h_) (fun _ h_ => nomatch h_) x_ h_, hC421.ltF 2 rfl x_ h_⟩), hC421.disj 1 2 rfl rfl (by decide)⟩

end Go.Proofs.Ytjacpjdikhlcoaa
