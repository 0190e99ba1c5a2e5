/- Contracts of functions of the program, each proved by a walk through its code; conditions stand in the statements. -/
import Derived.Test.YtibkndhgeeoidaaRgD
import Derived.Test.YtibkndhgeeoidaaRgN
namespace Go.Proofs.Ytibkndhgeeoidaa
set_option linter.unusedSimpArgs false
set_option linter.unusedVariables false
set_option linter.unusedSectionVars false
open Go Go.RowKit Go.Tw
set_option linter.unusedVariables false
set_option maxRecDepth 20000
/-- a ring that is read -/
structure RingR (w : World) (G : List Nat) (p : Nat) (per : Int) (AP : Option Addr) (cP : Nat) (pts : List (Int × Int)) (AM : Option Addr) (cM : Nat) (mem : List Int) : Prop where
  box : w.heap[p]? = some (.cells #[.int .i64 per, .slice AP pts.length cP, .slice AM mem.length cM] 71 (0, 0))
  P : Rd w 2 ptC AP pts
  M : Rd w 1 (Go.Tw.encI .i64) AM mem
  sp : p ∈ G
  sP : ∀ b off, AP = some ⟨b, off, none⟩ → b ∈ G
  sM : ∀ b off, AM = some ⟨b, off, none⟩ → b ∈ G
  lt : ∀ x ∈ G, x < w.heap.size
theorem RingR.fr {w w' : World} {G H : List Nat} {p : Nat} {per : Int} {AP : Option Addr} {cP : Nat} {pts : List (Int × Int)} {AM : Option Addr} {cM : Nat} {mem : List Int} (h : RingR w G p per AP cP pts AM cM mem) (hf : Fr w w' H) (hd : ∀ x ∈ G, x ∉ H) : RingR w' G p per AP cP pts AM cM mem :=
  ⟨hf.has h.box (hd p h.sp), h.P.frN hf fun b off e => hd b (h.sP b off e), h.M.frN hf fun b off e => hd b (h.sM b off e), h.sp, h.sP, h.sM, fun x hx => Nat.lt_of_lt_of_le (h.lt x hx) hf.size⟩
theorem blk_some {A : Option Addr} {n c b off : Nat} (h : A = some ⟨b, off, none⟩) : b ∈ blk (.slice A n c) := by subst h; simp [blk, Value.ownBlock]
/-! ### which rings there are -/
def inR (m : Int) : Bool := decide (0 ≤ m ∧ m ≤ 65535)
def okTo (L : List Int) (i : Nat) : Prop := ∀ k, k < i → ∀ m, L[k]? = some m → (0 ≤ m ∧ m ≤ 65535) ∧ ∀ j y, j + 1 = k → L[j]? = some y → y ≠ m
theorem okTo_0 (L : List Int) : okTo L 0 := fun k h => absurd h (Nat.not_lt_zero _)
theorem okTo_step {L : List Int} {i : Nat} {m : Int} (h : okTo L i) (hm : L[i]? = some m) (h1 : 0 ≤ m ∧ m ≤ 65535) (h2 : ∀ j y, j + 1 = i → L[j]? = some y → y ≠ m) : okTo L (i + 1) := by
  intro k hk m' hm'
  by_cases e : k = i
  · subst e; rw [hm] at hm'; cases hm'; exact ⟨h1, h2⟩
  · exact h k (by omega) m' hm'
def okM (M : List Int) : Prop := okTo (sortI M) (sortI M).length ∧ (sortI M).length ≤ 64
def newC (per : Int) (M : List Int) (c : Int) : Prop := (per < 1 ∨ 64 < per) ∧ c = 4 ∨ (1 ≤ per ∧ per ≤ 64) ∧ ¬ okM M ∧ c = 9 ∨ (1 ≤ per ∧ per ≤ 64) ∧ okM M ∧ c = 0
theorem bad_range {M : List Int} {i : Nat} {m : Int} (hm : (sortI M)[i]? = some m) (h : m < 0 ∨ 65535 < m) : ¬ okM M := fun q => by
  have := (q.1 i (List.getElem?_eq_some_iff.1 hm).1 m hm).1; omega
theorem bad_dup {M : List Int} {i : Nat} {m y : Int} (hm : (sortI M)[i]? = some m) (hy : (sortI M)[i - 1]? = some y) (hi : 0 < i) (h : y = m) : ¬ okM M := fun q =>
  (q.1 i (List.getElem?_eq_some_iff.1 hm).1 m hm).2 (i - 1) y (by omega) hy h
theorem bad_len {M : List Int} (h : 64 < (sortI M).length) : ¬ okM M := fun q => by have := q.2; omega
def ptAt (m : Int) (j : Nat) : Int × Int := (hashU (j : Int) ⟨0, m, 0, 0, 0⟩, m)
def ptsM (n : Nat) (m : Int) : List (Int × Int) := (List.range n).map (ptAt m)
def ptsL (n : Nat) (L : List Int) : List (Int × Int) := L.flatMap (ptsM n)
theorem ptsM_succ (n : Nat) (m : Int) : ptsM (n + 1) m = ptsM n m ++ [ptAt m n] := by simp [ptsM, List.range_succ]
theorem ptsM_len (n : Nat) (m : Int) : (ptsM n m).length = n := by simp [ptsM]
theorem ptsL_len (n : Nat) : ∀ L : List Int, (ptsL n L).length = L.length * n
  | [] => by simp [ptsL]
  | m :: r => by have := ptsL_len n r; simp only [ptsL, List.flatMap_cons, List.length_append, ptsM_len, List.length_cons] at this ⊢; rw [this, Nat.add_mul]; omega
theorem ptsL_take {n : Nat} {L : List Int} {i : Nat} {m : Int} (h : L[i]? = some m) : ptsL n (L.take (i + 1)) = ptsL n (L.take i) ++ ptsM n m := by
  obtain ⟨hi, rfl⟩ := List.getElem?_eq_some_iff.1 h
  rw [List.take_succ_eq_append_getElem hi]
  show List.flatMap _ _ = _
  rw [List.flatMap_append, List.flatMap_cons, List.flatMap_nil, List.append_nil]; rfl
def ringP (per : Int) (M : List Int) : List (Int × Int) := (ptsL per.toNat (sortI M)).mergeSort leP
theorem ringP_len (per : Int) (M : List Int) : (ringP per M).length = M.length * per.toNat := by unfold ringP; rw [List.length_mergeSort, ptsL_len, sortI_len]

theorem ring_close {w0 w : World} {M : List (Nat × Obj)} {Fs : List (List Nat)} {per : Int} {AP AM : Option Addr} {nP cP nM cM p : Nat} {pts : List (Int × Int)} {mem : List Int} (hC : Cx w0 [] w M Fs) (k jP jM : Nat)
    (hk : M[k]? = some (p, .cells #[.int .i64 per, .slice AP nP cP, .slice AM nM cM] 71 (0, 0))) (hjP : Fs[jP]? = some (blk (.slice AP nP cP))) (hjM : Fs[jM]? = some (blk (.slice AM nM cM)))
    (hP : w.ownsRow 0 74 2 (.slice AP nP cP) nP (pts.flatMap ptC)) (hM : w.ownsRow 0 3 1 (.slice AM nM cM) nM (mem.flatMap (Go.Tw.encI .i64))) :
    ∃ G, RingR w G p per AP cP pts AM cM mem ∧ ∀ x ∈ G, w0.heap.size ≤ x := by
  have e1 := own_count ptC_len (by decide) hP
  have e2 := own_count (Go.Tw.encI_len _) (by decide) hM
  subst e1 e2
  refine ⟨p :: (blk (.slice AP pts.length cP) ++ blk (.slice AM mem.length cM)), ⟨hC.get k hk, own_rd hP ptC_len (by decide), own_rd hM (Go.Tw.encI_len _) (by decide), List.mem_cons_self .., fun b off e => List.mem_cons_of_mem _ (List.mem_append_left _ (blk_some e)), fun b off e => List.mem_cons_of_mem _ (List.mem_append_right _ (blk_some e)), fun x hx => ?_⟩, fun x hx => ?_⟩
  · rcases List.mem_cons.1 hx with rfl | hx
    · exact hC.lt (List.mem_of_getElem? hk)
    · rcases List.mem_append.1 hx with hx | hx
      · exact own_lt hP x hx
      · exact own_lt hM x hx
  · rcases List.mem_cons.1 hx with rfl | hx
    · rcases hC.new_ge k hk with h | h
      · simp at h
      · exact h
    · rcases List.mem_append.1 hx with hx | hx
      · exact hC.geF jP hjP x hx
      · exact hC.geF jM hjM x hx
theorem RingR.c0 {w : World} {G : List Nat} {p : Nat} {per : Int} {AP : Option Addr} {cP : Nat} {pts : List (Int × Int)} {AM : Option Addr} {cM : Nat} {mem : List Int} (h : RingR w G p per AP cP pts AM cM mem) : w.cell? ⟨p, 0, none⟩ = some (.int .i64 per) := by rw [cell_blk h.box]; rfl
theorem RingR.c1 {w : World} {G : List Nat} {p : Nat} {per : Int} {AP : Option Addr} {cP : Nat} {pts : List (Int × Int)} {AM : Option Addr} {cM : Nat} {mem : List Int} (h : RingR w G p per AP cP pts AM cM mem) : w.cell? ⟨p, 1, none⟩ = some (.slice AP pts.length cP) := by rw [cell_blk h.box]; rfl
theorem RingR.c2 {w : World} {G : List Nat} {p : Nat} {per : Int} {AP : Option Addr} {cP : Nat} {pts : List (Int × Int)} {AM : Option Addr} {cM : Nat} {mem : List Int} (h : RingR w G p per AP cP pts AM cM mem) : w.cell? ⟨p, 2, none⟩ = some (.slice AM mem.length cM) := by rw [cell_blk h.box]; rfl
theorem SortP_n (A : Option Addr) (n c : Nat) (D : List (Int × Int)) (w : World) (hn : D.length = n) (ho : w.ownsRow 0 74 2 (.slice A n c) n (D.flatMap ptC)) (hl : n < 4611686018427387904) : Calls Try.prog 33 #[.slice A n c, .func (.func 34) #[] #[]] w fun e w' => e = .returned (.tuple #[]) ∧ Fr w w' (blk (.slice A n c)) ∧ w'.ownsRow 0 74 2 (.slice A n c) n ((D.mergeSort leP).flatMap ptC) := by subst hn; exact SortP_ct A c D w ho hl
set_option maxHeartbeats 2000000 in
theorem New_ct (per : Int) (A : Option Addr) (c : Nat) (mem : List Int) (w : World) (hr : Rd w 1 (Go.Tw.encI .i64) A mem) (hl : mem.length ≤ 1099511627776) : Calls Try.prog 13 #[.int .i64 per, .slice A mem.length c] w fun e w' => (∃ c_, c_ ≠ 0 ∧ newC per mem c_ ∧ e = .returned (.tuple #[.pointer none, errV 62 c_]) ∧ Fr w w' []) ∨ (newC per mem 0 ∧ ∃ (p : Nat) (G : List Nat) (AP : Option Addr) (cP : Nat) (AM : Option Addr) (cM : Nat), e = .returned (.tuple #[.pointer (some ⟨p, 0, none⟩), .nilIface]) ∧ Fr w w' [] ∧ RingR w' G p per AP cP (ringP per mem) AM cM (sortI mem) ∧ ∀ x ∈ G, w.heap.size ≤ x) := by
 refine enterD (n := 94) Try.func13 rfl rfl (Nat.le_of_ble_eq_true rfl) ?_
 intro Q0 hN hret hret'
 have hC := Cx.start w
 refine WCs (fun K1 hK2 => ?_)
 refine WCg (WLq 2 [(5, .nilIface), (4, .pointer none)] (WLd rfl (QXn (hK2 _ _ ?_))))
 refine WCs (fun K3 hK4 => ?_)
 refine WCs (fun K5 hK6 => ?_)
 refine WCg (WLq 3 [(15, .bool (decide (per < 1))), (14, .bool (decide (per < 1))), (13, .int .i64 per)] ?_)
 refine WLa 15 (decide (per < 1)) rfl (fun t7b => ?_) (fun t7b => ?_)
 ·
  have t7 : per < 1 := by have q_ := of_decide_eq_true t7b; omega
  refine WLq 3 [(18, .bool true), (17, undef), (16, undef)] (WLd rfl (QXn (hK6 _ _ ?_)))
  refine WCt rfl ?_
  refine WCs (fun K8 hK9 => ?_)
  refine WCg (WLq 3 [(5, .iface 62 (.int .i64 4)), (4, .pointer none), (19, .iface 62 (.int .i64 4))] (WLd rfl (QXn (hK9 _ _ ?_))))
  refine WC.ret ?_
  refine QXr ?_
  refine (hret _ _ _ rfl ?_).1
  exact .inl ⟨4, by decide, .inl ⟨by omega, rfl⟩, rfl, hC.fr⟩
 ·
  have t7 : (1 : Int) ≤ per := by have q_ := of_decide_eq_false t7b; omega
  refine WLq 3 [(18, .bool (decide (per > 64))), (17, .bool (decide (per > 64))), (16, .int .i64 per)] (WLd rfl (QXn (hK6 _ _ ?_)))
  refine WCa 18 (decide (per > 64)) rfl (fun bk => ?_) (fun bk => ?_)
  ·
   have dm : (64 : Int) < per := by have q_ := of_decide_eq_true bk; omega
   refine WCt rfl ?_
   refine WCs (fun d1 cK => ?_)
   refine WCg (WLq 3 [(5, .iface 62 (.int .i64 4)), (4, .pointer none), (19, .iface 62 (.int .i64 4))] (WLd rfl (QXn (cK _ _ ?_))))
   refine WC.ret ?_
   refine QXr ?_
   refine (hret _ _ _ rfl ?_).1
   exact .inl ⟨4, by decide, .inl ⟨by omega, rfl⟩, rfl, hC.fr⟩
  ·
   have dm : per ≤ 64 := by have q_ := of_decide_eq_false bk; omega
   refine WCf rfl (WC.skip (QXn (hK4 _ _ ?_)))
   refine WCs (fun d2 bt => ?_)
   refine WCg (WLq 1 [(20, .slice A mem.length c)] ?_)
   refine WLc rfl rfl rfl rfl rfl (by kernel_rfl) (Values_ct A mem.length c w) ?_
   rintro _ dn ⟨cD, rfl, cL, cN, cO⟩
   have bl := hC.callB cL cN cO
   refine ⟨_, rfl, ?_⟩
   refine WLc rfl rfl rfl rfl rfl (by kernel_rfl) (Sorted_n A mem.length c mem cD dn (bl.get 0 rfl) (Rd.fr hr bl.fr) (by first | rfl | assumption | (simp; done)) (by first | omega | (simp; done))) ?_
   rintro _ d3 ⟨v_, rfl, cQ, aR⟩
   have cR := bl.callN cQ (own_ge aR) (own_lt aR)
   obtain ⟨ad, ae, rfl, dh⟩ := own_form aR
   have cS := own_base (b' := 0) aR (fun _ _ => Nat.zero_le _)
   refine ⟨_, rfl, ?_⟩
   refine WLq 1 [(6, .slice ad mem.length ae)] (WLd rfl (QXn (bt _ _ ?_)))
   refine WCs (fun d4 bu => ?_)
   refine WCs (fun d5 bv => ?_)
   refine WCg (WLq 3 [(25, .int .i64 0), (24, .int .i64 (mem.length : Int)), (23, .slice ad mem.length ae)] (WLd rfl (QXn (bv _ _ ?_))))
   refine WC.block ?_
   refine WC.loop (fun m_ E_ w_ => ∃ (i : Nat), m_ = mem.length - i ∧ E_ = [(0, .int .i64 per), (1, .slice A mem.length c), (6, .slice ad mem.length ae), (23, .slice ad mem.length ae), (24, .int .i64 (mem.length : Int)), (25, .int .i64 (i : Int))] ∧ Cx w [] w_ [(cD, .cells #[.slice A mem.length c] 31)] [blk (.slice ad mem.length ae)] ∧ World.ownsRow w_ 0 3 1 (.slice ad mem.length ae) mem.length ((sortI mem).flatMap (Go.Tw.encI .i64)) ∧ (i ≤ mem.length ∧ okTo (sortI mem) i)) ⟨_, _, ⟨0, rfl, rfl, cR, cS, Nat.zero_le _, okTo_0 _⟩, sub_of ⟨rfl, rfl, rfl, rfl, rfl, rfl, trivial⟩⟩ (fun m38 E_ d6 d7 bw cT => ?_)
   obtain ⟨i, rfl, rfl, ak, row30_m38, hi, hok⟩ := cT
   refine WCs (fun d8 bx => ?_)
   refine WCg (WLq 1 [(26, .bool (decide ((i : Int) < (mem.length : Int))))] (WLd rfl (QXn (bx _ _ ?_))))
   refine WCs (fun d9 bz => ?_)
   refine WCa 26 (decide ((i : Int) < (mem.length : Int))) rfl (fun bm => ?_) (fun bm => ?_)
   ·
    have dp : (i : Int) < (mem.length : Int) := by have q_ := of_decide_eq_true bm; omega
    refine WCt rfl ?_
    refine WC.skip ?_
    refine QXn (bz _ _ ?_)
    refine WCs (fun ea bA => ?_)
    refine WC.block ?_
    refine WCs (fun eb cU => ?_)
    refine WCg (WLq 1 [(27, .int .i64 (i : Int))] ?_)
    have dq := own_count (Go.Tw.encI_len _) (by decide) row30_m38
    obtain ⟨ag, al⟩ := get_some (xs := (sortI mem)) (i := i) (by omega)
    obtain ⟨b52, bB⟩ := own_addr (by decide) (Go.Tw.encI_len _) row30_m38 al
    refine WLi ad mem.length ae 28 .i64 (i : Int) b52 0 i 1 (by kernel_rfl) bB (by omega) (by omega) i (by first | (simp; done) | omega) ?_
    refine WLo 3 (.pointer (some ⟨b52, i, none⟩)) (.int .i64 ag) 29 (run_load1 rfl (by simpa [Nat.add_assoc] using Rd.cell (own_rd row30_m38 (Go.Tw.encI_len _) (by decide)) bB al 0 _ rfl)) ?_
    refine WLq 2 [(8, .int .i64 ag), (7, .int .i64 (i : Int))] (WLd rfl (QXn (cU _ _ ?_)))
    refine WCs (fun ec aS => ?_)
    refine WCg (WLq 3 [(32, .bool (decide (ag < 0))), (31, .bool (decide (ag < 0))), (30, .int .i64 ag)] ?_)
    refine WLa 32 (decide (ag < 0)) rfl (fun bn => ?_) (fun bn => ?_)
    ·
     have dr : ag < 0 := by have q_ := of_decide_eq_true bn; omega
     refine WLq 16 [(48, .bool true), (47, undef), (46, undef), (45, undef), (44, undef), (43, undef), (42, undef), (41, undef), (40, undef), (39, undef), (38, undef), (37, undef), (36, .bool true), (35, .bool true), (34, undef), (33, undef)] (WLd rfl (QXn (aS _ _ ?_)))
     refine WCt rfl ?_
     refine WCs (fun ed cV => ?_)
     refine WCg (WLq 3 [(5, .iface 62 (.int .i64 9)), (4, .pointer none), (49, .iface 62 (.int .i64 9))] (WLd rfl (QXn (cV _ _ ?_))))
     refine WC.ret ?_
     refine QXk ?_
     refine QXr ?_
     refine QXr ?_
     refine QXk ?_
     refine QXr ?_
     refine (hret _ _ _ rfl ?_).1
     exact .inl ⟨9, by decide, .inr (.inl ⟨by omega, bad_range al (by omega), rfl⟩), rfl, ak.fr⟩
    ·
     have dr : (0 : Int) ≤ ag := by have q_ := of_decide_eq_false bn; omega
     refine WLq 4 [(36, .bool (decide (ag > 65535))), (35, .bool (decide (ag > 65535))), (34, .bool (decide (ag > 65535))), (33, .int .i64 ag)] ?_
     refine WLa 36 (decide (ag > 65535)) rfl (fun bo => ?_) (fun bo => ?_)
     ·
      have ds : (65535 : Int) < ag := by have q_ := of_decide_eq_true bo; omega
      refine WLq 12 [(48, .bool true), (47, undef), (46, undef), (45, undef), (44, undef), (43, undef), (42, undef), (41, undef), (40, undef), (39, undef), (38, undef), (37, undef)] (WLd rfl (QXn (aS _ _ ?_)))
      refine WCt rfl ?_
      refine WCs (fun ee cW => ?_)
      refine WCg (WLq 3 [(5, .iface 62 (.int .i64 9)), (4, .pointer none), (49, .iface 62 (.int .i64 9))] (WLd rfl (QXn (cW _ _ ?_))))
      refine WC.ret ?_
      refine QXk ?_
      refine QXr ?_
      refine QXr ?_
      refine QXk ?_
      refine QXr ?_
      refine (hret _ _ _ rfl ?_).1
      exact .inl ⟨9, by decide, .inr (.inl ⟨by omega, bad_range al (by omega), rfl⟩), rfl, ak.fr⟩
     ·
      have ds : ag ≤ 65535 := by have q_ := of_decide_eq_false bo; omega
      refine WLq 3 [(39, .bool (decide ((i : Int) > 0))), (38, .bool (decide ((i : Int) > 0))), (37, .int .i64 (i : Int))] ?_
      refine WLa 39 (decide ((i : Int) > 0)) rfl (fun bp => ?_) (fun bp => ?_)
      ·
       have dt : (0 : Int) < (i : Int) := by have q_ := of_decide_eq_true bp; omega
       refine WLq 3 [(42, .int .i64 (IntKind.i64.wrap ((i : Int) - 1))), (41, .int .i64 (i : Int)), (40, .slice ad mem.length ae)] ?_
       refine WLt (show (.int .i64 (IntKind.i64.wrap ((i : Int) - 1)) : Value) = .int .i64 ((i - 1 : Nat) : Int) from by rw [wrap_in_i64 _ (by omega) (by omega)]; congr 1; omega) ?_
       have du := own_count (Go.Tw.encI_len _) (by decide) row30_m38
       obtain ⟨bq, aT⟩ := get_some (xs := (sortI mem)) (i := (i - 1)) (by omega)
       obtain ⟨b66, bC⟩ := own_addr (by decide) (Go.Tw.encI_len _) row30_m38 aT
       refine WLi ad mem.length ae 43 .i64 ((i - 1 : Nat) : Int) b66 0 (i - 1) 1 (by kernel_rfl) bC (by omega) (by omega) (i - 1) (by first | (simp; done) | omega) ?_
       refine WLo 3 (.pointer (some ⟨b66, (i - 1), none⟩)) (.int .i64 bq) 44 (run_load1 rfl (by simpa [Nat.add_assoc] using Rd.cell (own_rd row30_m38 (Go.Tw.encI_len _) (by decide)) bC aT 0 _ rfl)) ?_
       refine WLq 4 [(48, .bool (bq == ag)), (47, .bool (bq == ag)), (46, .bool (bq == ag)), (45, .int .i64 ag)] (WLd rfl (QXn (aS _ _ ?_)))
       refine WCa 48 (bq == ag) rfl (fun br => ?_) (fun br => ?_)
       ·
        have dv : bq = ag := by simpa using br
        refine WCt rfl ?_
        refine WCs (fun ef cX => ?_)
        refine WCg (WLq 3 [(5, .iface 62 (.int .i64 9)), (4, .pointer none), (49, .iface 62 (.int .i64 9))] (WLd rfl (QXn (cX _ _ ?_))))
        refine WC.ret ?_
        refine QXk ?_
        refine QXr ?_
        refine QXr ?_
        refine QXk ?_
        refine QXr ?_
        refine (hret _ _ _ rfl ?_).1
        exact .inl ⟨9, by decide, .inr (.inl ⟨by omega, bad_dup al aT (by omega) (by omega), rfl⟩), rfl, ak.fr⟩
       ·
        have dv : ¬ (bq = ag) := by simpa using br
        refine WCf rfl (WC.skip ?_)
        refine QXb ?_
        refine QXn (bA _ _ ?_)
        refine WCg (WLq 1 [(50, .int .i64 (IntKind.i64.wrap ((i : Int) + 1)))] ?_)
        refine WLt (show (.int .i64 (IntKind.i64.wrap ((i : Int) + 1)) : Value) = .int .i64 ((i : Int) + 1) from by rw [wrap_in_i64 ((i : Int) + 1) (by omega) (by omega)]) ?_
        refine WLq 1 [(25, .int .i64 ((i : Int) + 1))] ?_
        refine WLd rfl ?_
        refine QXn ?_
        have cY := ak.pick [0] [0] rfl rfl
        refine fun a_ ha_ => bw _ _ _ ?_ ⟨i + 1, rfl, rfl, cY, row30_m38, by omega, okTo_step hok al (by omega) (fun j_ y_ hj_ hy_ => by rw [show j_ = i - 1 from by omega, aT] at hy_; cases hy_; omega)⟩ a_ (ha_.weaken (sub_of ⟨rfl, rfl, rfl, rfl, rfl, rfl, trivial⟩))
        omega
      ·
       have dt : (i : Int) ≤ 0 := by have q_ := of_decide_eq_false bp; omega
       refine WLq 9 [(48, .bool false), (47, .bool false), (46, undef), (45, undef), (44, undef), (43, undef), (42, undef), (41, undef), (40, undef)] (WLd rfl (QXn (aS _ _ ?_)))
       refine WCf rfl (WC.skip ?_)
       refine QXb ?_
       refine QXn (bA _ _ ?_)
       refine WCg (WLq 1 [(50, .int .i64 (IntKind.i64.wrap ((i : Int) + 1)))] ?_)
       refine WLt (show (.int .i64 (IntKind.i64.wrap ((i : Int) + 1)) : Value) = .int .i64 ((i : Int) + 1) from by rw [wrap_in_i64 ((i : Int) + 1) (by omega) (by omega)]) ?_
       refine WLq 1 [(25, .int .i64 ((i : Int) + 1))] ?_
       refine WLd rfl ?_
       refine QXn ?_
       have cZ := ak.pick [0] [0] rfl rfl
       refine fun a_ ha_ => bw _ _ _ ?_ ⟨i + 1, rfl, rfl, cZ, row30_m38, by omega, okTo_step hok al (by omega) (fun j_ y_ hj_ _ => by omega)⟩ a_ (ha_.weaken (sub_of ⟨rfl, rfl, rfl, rfl, rfl, rfl, trivial⟩))
       omega
   ·
    have dp : (mem.length : Int) ≤ (i : Int) := by have q_ := of_decide_eq_false bm; omega
    refine WCf rfl ?_
    refine WC.exit ?_
    refine QXe ?_
    refine QXe ?_
    refine QX.block_hit ?_
    refine QXn (bu _ _ ?_)
    refine WCs (fun eg bD => ?_)
    refine WCs (fun eh bE => ?_)
    refine WCg (WLq 3 [(53, .bool (decide ((mem.length : Int) > 64))), (52, .int .i64 (mem.length : Int)), (51, .slice ad mem.length ae)] (WLd rfl (QXn (bE _ _ ?_))))
    refine WCa 53 (decide ((mem.length : Int) > 64)) rfl (fun bs => ?_) (fun bs => ?_)
    ·
     have dw : (64 : Int) < (mem.length : Int) := by have q_ := of_decide_eq_true bs; omega
     refine WCt rfl ?_
     refine WCs (fun ei c3 => ?_)
     refine WCg (WLq 3 [(5, .iface 62 (.int .i64 9)), (4, .pointer none), (54, .iface 62 (.int .i64 9))] (WLd rfl (QXn (c3 _ _ ?_))))
     refine WC.ret ?_
     refine QXr ?_
     refine (hret _ _ _ rfl ?_).1
     exact .inl ⟨9, by decide, .inr (.inl ⟨by omega, bad_len (by rw [sortI_len]; omega), rfl⟩), rfl, ak.fr⟩
    ·
     have dw : (mem.length : Int) ≤ 64 := by have q_ := of_decide_eq_false bs; omega
     refine WCf rfl (WC.skip (QXn (bD _ _ ?_)))
     refine WCs (fun ej bF => ?_)
     refine WCg (WLq 3 [(57, .agg #[.int .i64 per, .slice none 0 0, .slice ad mem.length ae]), (56, .slice ad mem.length ae), (55, .int .i64 per)] ?_)
     refine WL.newM ak (fun b => .pointer (some ⟨b, 0, none⟩)) (.cells #[.int .i64 per, .slice none 0 0, .slice ad mem.length ae] 71) 58 (fun _ => by kernel_rfl) (fun ac ek dx c4 c7 => ?_)
     have c8 := own_fr row30_m38 c4 (by simp)
     refine WLq 1 [(9, .pointer (some ⟨ac, 0, none⟩))] (WLd rfl (QXn (bF _ _ ?_)))
     refine WCs (fun em bG => ?_)
     refine WCs (fun en bH => ?_)
     refine WCg (WLq 3 [(61, .int .i64 0), (60, .int .i64 (mem.length : Int)), (59, .slice ad mem.length ae)] (WLd rfl (QXn (bH _ _ ?_))))
     refine WC.block ?_
     have c9 := c7.addNil
     have hper_ : (per.toNat : Int) = per := by omega
     have hie_ : i = (sortI mem).length := by rw [sortI_len]; omega
     rw [hie_] at hok
     have hokm_ : okM mem := ⟨hok, by rw [sortI_len]; omega⟩
     refine WC.loop (fun m_ E_ w_ => ∃ (k : Nat) (A5 : Option Addr) (n5 c5 : Nat), m_ = mem.length - k ∧ E_ = [(0, .int .i64 per), (1, .slice A mem.length c), (6, .slice ad mem.length ae), (9, .pointer (some ⟨ac, 0, none⟩)), (59, .slice ad mem.length ae), (60, .int .i64 (mem.length : Int)), (61, .int .i64 (k : Int))] ∧ Cx w [] w_ [(cD, .cells #[.slice A mem.length c] 31), (ac, .cells #[.int .i64 per, .slice A5 n5 c5, .slice ad mem.length ae] 71)] [blk (.slice ad mem.length ae), blk (.slice A5 n5 c5)] ∧ World.ownsRow w_ 0 3 1 (.slice ad mem.length ae) mem.length ((sortI mem).flatMap (Go.Tw.encI .i64)) ∧ World.ownsRow w_ 0 74 2 (.slice A5 n5 c5) n5 ((ptsL per.toNat ((sortI mem).take k)).flatMap ptC) ∧ (k ≤ mem.length)) ⟨_, _, ⟨0, none, 0, 0, rfl, rfl, c9, c8, own_nil _ _ _ _, Nat.zero_le _⟩, sub_of ⟨rfl, rfl, rfl, rfl, rfl, rfl, rfl, trivial⟩⟩ (fun m97 E_ dy eo da db => ?_)
     obtain ⟨k, A5, n5, c5, rfl, rfl, aU, row30_m97, hpts, hk⟩ := db
     have hpn_ := own_count ptC_len (by decide) hpts
     rw [ptsL_len, List.length_take, sortI_len] at hpn_
     have hpb_ : n5 ≤ 4096 := by rw [← hpn_]; exact Nat.mul_le_mul (show min k mem.length ≤ 64 by omega) (show per.toNat ≤ 64 by omega)
     refine WCs (fun dz aV => ?_)
     refine WCg (WLq 1 [(62, .bool (decide ((k : Int) < (mem.length : Int))))] (WLd rfl (QXn (aV _ _ ?_))))
     refine WCs (fun dA aW => ?_)
     refine WCa 62 (decide ((k : Int) < (mem.length : Int))) rfl (fun aw => ?_) (fun aw => ?_)
     ·
      have dc : (k : Int) < (mem.length : Int) := by have q_ := of_decide_eq_true aw; omega
      refine WCt rfl ?_
      refine WC.skip ?_
      refine QXn (aW _ _ ?_)
      refine WCs (fun dB bI => ?_)
      refine WC.block ?_
      refine WCs (fun dC bJ => ?_)
      refine WCg ?_
      have di := own_count (Go.Tw.encI_len _) (by decide) row30_m97
      obtain ⟨aa, am⟩ := get_some (xs := (sortI mem)) (i := k) (by omega)
      obtain ⟨b111, aX⟩ := own_addr (by decide) (Go.Tw.encI_len _) row30_m97 am
      refine WLi ad mem.length ae 63 .i64 (k : Int) b111 0 k 1 (by kernel_rfl) aX (by omega) (by omega) k (by first | (simp; done) | omega) ?_
      refine WLo 3 (.pointer (some ⟨b111, k, none⟩)) (.int .i64 aa) 64 (run_load1 rfl (by simpa [Nat.add_assoc] using Rd.cell (own_rd row30_m97 (Go.Tw.encI_len _) (by decide)) aX am 0 _ rfl)) ?_
      refine WLq 1 [(11, .int .i64 aa)] (WLd rfl (QXn (bJ _ _ ?_)))
      refine WCs (fun dD bK => ?_)
      refine WCg (WLq 2 [(66, .int .i64 0), (65, .int .i64 per)] (WLd rfl (QXn (bK _ _ ?_))))
      refine WC.block ?_
      obtain ⟨hm0_, hm1_⟩ := (hokm_.1 k (by rw [sortI_len]; omega) _ am).1
      refine WC.loop (fun m_ E_ w_ => ∃ (j : Nat) (A6 : Option Addr) (n6 c6 : Nat), m_ = per.toNat - j ∧ E_ = [(0, .int .i64 per), (1, .slice A mem.length c), (6, .slice ad mem.length ae), (9, .pointer (some ⟨ac, 0, none⟩)), (11, .int .i64 aa), (59, .slice ad mem.length ae), (60, .int .i64 (mem.length : Int)), (61, .int .i64 (k : Int)), (65, .int .i64 per), (66, .int .i64 (j : Int))] ∧ Cx w [] w_ [(cD, .cells #[.slice A mem.length c] 31), (ac, .cells #[.int .i64 per, .slice A6 n6 c6, .slice ad mem.length ae] 71)] [blk (.slice ad mem.length ae), blk (.slice A6 n6 c6)] ∧ World.ownsRow w_ 0 3 1 (.slice ad mem.length ae) mem.length ((sortI mem).flatMap (Go.Tw.encI .i64)) ∧ World.ownsRow w_ 0 74 2 (.slice A6 n6 c6) n6 ((ptsL per.toNat ((sortI mem).take k) ++ ptsM j aa).flatMap ptC) ∧ (j ≤ per.toNat)) ⟨_, _, ⟨0, A5, n5, c5, rfl, rfl, aU, row30_m97, (by simpa [ptsM] using hpts), Nat.zero_le _⟩, sub_of ⟨rfl, rfl, rfl, rfl, rfl, rfl, rfl, rfl, rfl, rfl, trivial⟩⟩ (fun m119 E_ dE dF ax bL => ?_)
      obtain ⟨j, A6, n6, c6, rfl, rfl, aY, row30_m119, hpts2, hj⟩ := bL
      have hpn2_ := own_count ptC_len (by decide) hpts2
      rw [List.length_append, ptsM_len, ptsL_len, List.length_take, sortI_len] at hpn2_
      have hpb2_ : min k mem.length * per.toNat ≤ 64 * 64 := Nat.mul_le_mul (show min k mem.length ≤ 64 by omega) (show per.toNat ≤ 64 by omega)
      refine WCs (fun dG bM => ?_)
      refine WCg (WLq 1 [(67, .bool (decide ((j : Int) < per)))] (WLd rfl (QXn (bM _ _ ?_))))
      refine WCs (fun dH bN => ?_)
      refine WCa 67 (decide ((j : Int) < per)) rfl (fun ay => ?_) (fun ay => ?_)
      ·
       have dd : (j : Int) < per := by have q_ := of_decide_eq_true ay; omega
       refine WCt rfl ?_
       refine WC.skip ?_
       refine QXn (bN _ _ ?_)
       refine WCs (fun dI az => ?_)
       refine WC.block ?_
       refine WCs (fun dJ bO => ?_)
       refine WCg (WLq 2 [(12, .int .i64 (j : Int)), (68, .int .i64 (j : Int))] (WLd rfl (QXn (bO _ _ ?_))))
       refine WC.drawC aY (ac :: blk (.slice A6 n6 c6)) (by kernel_rfl) (fun bP aZ aA ab => ?_)
       have a0 := own_fr row30_m119 aZ (by simp)
       have a1 := own_fr hpts2 aZ (by simp)
       refine WDq (NPb (NPt (NPt (NPb (NPb (NPt (NPt (NPb (NPt hN))))))))) 0 69 (.pointer (some ⟨ac, 0, none⟩)) ab ?_
       refine WDq (NPb (NPt (NPt (NPb (NPb (NPt (NPt (NPb (NPt hN))))))))) 1 70 (.pointer (some ⟨ac, 0, none⟩)) ab ?_
       refine WDq (NPb (NPt (NPt (NPb (NPb (NPt (NPt (NPb (NPt hN))))))))) 2 71 (.pointer (some ⟨ac, 0, none⟩)) ab ?_
       refine WDq (NPb (NPt (NPt (NPb (NPb (NPt (NPt (NPb (NPt hN))))))))) 3 72 (.pointer (some ⟨ac, 1, none⟩)) ab ?_
       refine WDq (NPb (NPt (NPt (NPb (NPb (NPt (NPt (NPb (NPt hN))))))))) 5 74 (.int .i64 (j : Int)) ab ?_
       refine WDq (NPb (NPt (NPt (NPb (NPb (NPt (NPt (NPb (NPt hN))))))))) 6 75 (.int .u64 (IntKind.u64.wrap ((j : Int)))) ab ?_
       refine WD.recast (show (.int .u64 (IntKind.u64.wrap ((j : Int))) : Value) = .int .u64 (j : Int) from by rw [wrap_in_u64 _ (by omega) (by omega)]) ?_
       refine WDq (NPb (NPt (NPt (NPb (NPb (NPt (NPt (NPb (NPt hN))))))))) 7 76 (.int .i64 aa) ab ?_
       refine WDq (NPb (NPt (NPt (NPb (NPb (NPt (NPt (NPb (NPt hN))))))))) 8 77 (.int .u32 (IntKind.u32.wrap (aa))) ab ?_
       refine WD.recast (show (.int .u32 (IntKind.u32.wrap (aa)) : Value) = .int .u32 aa from by rw [wrap_in_u32 _ (by omega) (by omega)]) ?_
       refine WDq (NPb (NPt (NPt (NPb (NPb (NPt (NPt (NPb (NPt hN))))))))) 9 78 (.agg #[.int .i64 0, .int .u32 aa, .int .i64 0, .int .u32 0, .int .i64 0]) ab ?_
       refine WDq (NPb (NPt (NPt (NPb (NPb (NPt (NPt (NPb (NPt hN))))))))) 11 80 (.int .i64 aa) ab ?_
       refine WD.all2 4 10 (by kernel_rfl) ?_ ?_
       ·
        refine WO.sem 4 (Instr.loadAt 69 (.pointer (some ⟨ac, 1, none⟩))) 73 (.slice A6 n6 c6) (by kernel_rfl) (by kernel_rfl) (run_ld (aA.get 1 rfl) rfl) ab ?_
        refine WD.call 10 (by kernel_rfl) rfl rfl rfl rfl rfl (by kernel_rfl) (Hash_ct (j : Int) (⟨0, aa, 0, 0, 0⟩ : FlowV) bP) ?_
        rintro _ dK ⟨rfl, an⟩
        have ao := ab.trans an (by simp)
        refine ⟨_, rfl, ao, ?_⟩
        have bQ := aA.call an
        have bR := own_fr a0 an (by simp)
        have bS := own_fr a1 an (by simp)
        refine WDq (NPb (NPt (NPt (NPb (NPb (NPt (NPt (NPb (NPt hN))))))))) 12 81 (.agg #[.int .u64 (hashU (j : Int) (⟨0, aa, 0, 0, 0⟩ : FlowV)), .int .i64 aa]) ao ?_
        refine WD.new 13 (fun b => .slice (some ⟨b, 0, none⟩) 1 1) (.cells #[.int .u64 (hashU (j : Int) (⟨0, aa, 0, 0, 0⟩ : FlowV)), .int .i64 aa] 74) (by kernel_rfl) rfl rfl rfl rfl rfl (fun _ => by kernel_rfl) (fun bT dL a2 dj ap bU => ?_)
        have aB := bQ.callB ap a2 bU
        have bV := Nat.le_trans ao.size a2
        have a3 := ao.trans ap (by simp)
        refine ⟨a3, ?_⟩
        have bW := own_fr bR ap (by simp)
        have bX := own_fr bS ap (by simp)
        obtain ⟨dM, dN, bY, bZ, a4, aC, cE, cF⟩ := app_run Try.prog aB 1 (v := .slice A6 n6 c6) rfl 69 69 74 2 16 n6 1 1 (some ⟨bT, 0, none⟩) rfl bX [.int .u64 (hashU (j : Int) (⟨0, aa, 0, 0, 0⟩ : FlowV)), .int .i64 aa] rfl (srcOk.blk 1 (aB.get 2 rfl)) rfl (by simp only [maxLen]; omega) (by omega)
        have a5 := own_snoc (enc := ptC) (ys := (ptsL per.toNat ((sortI mem).take k) ++ ptsM j aa)) (hashU (j : Int) (⟨0, aa, 0, 0, 0⟩ : FlowV), aa) bZ
        obtain ⟨aD, aE, rfl, de⟩ := own_form a5
        have ah := a3.trans a4 (fun x_ hx_ => .inl (List.mem_cons_of_mem _ hx_))
        refine WD.sem 14 (Builtin.append_ #[69, 69] 69 #[.slice A6 n6 c6, .slice (some ⟨bT, 0, none⟩) 1 1]) 83 (.slice aD (n6 + 1) aE) (by kernel_rfl) (by kernel_rfl) bY ah ?_
        have b0 := own_fr bW a4 (aB.disj 0 1 rfl rfl (by decide))
        refine WDq (NPb (NPt (NPt (NPb (NPb (NPt (NPt (NPb (NPt hN))))))))) 15 84 (.pointer (some ⟨ac, 0, none⟩)) ah ?_
        refine WDq (NPb (NPt (NPt (NPb (NPb (NPt (NPt (NPb (NPt hN))))))))) 16 85 (.pointer (some ⟨ac, 1, none⟩)) ah ?_
        obtain ⟨dO, b1, aF, b2⟩ := sto_run (c' := #[.int .i64 per, .slice aD (n6 + 1) aE, .slice ad mem.length ae]) Try.prog aC 1 69 ac 1 (.slice aD (n6 + 1) aE) rfl (by kernel_rfl)
        have b3 := ah.trans aF (by first | (simp; done) | (simp [*]; done) | (have q_ := ah.size; simp; omega))
        refine WD.semU 17 (Instr.storeAt 69 (.pointer (some ⟨ac, 1, none⟩)) (.slice aD (n6 + 1) aE)) (by kernel_rfl) (by kernel_rfl) b1 b3 ?_
        have b5 := own_fr b0 aF (aC.apartM 0 1 rfl rfl)
        have b6 := own_fr a5 aF (aC.apartM 1 1 rfl rfl)
        refine WD.done (by kernel_rfl) ?_
        refine QXb ?_
        refine QXn (az _ _ ?_)
        refine WCg (WLq 1 [(86, .int .i64 (IntKind.i64.wrap ((j : Int) + 1)))] ?_)
        refine WLt (show (.int .i64 (IntKind.i64.wrap ((j : Int) + 1)) : Value) = .int .i64 ((j : Int) + 1) from by rw [wrap_in_i64 ((j : Int) + 1) (by omega) (by omega)]) ?_
        refine WLq 1 [(66, .int .i64 ((j : Int) + 1))] ?_
        refine WLd rfl ?_
        refine QXn ?_
        have b7 := b2.pick [0, 1] [0, 1] rfl rfl
        refine fun a_ ha_ => ax _ _ _ ?_ ⟨j + 1, aD, n6 + 1, aE, rfl, rfl, b7, b5, (by rw [ptsM_succ, ← List.append_assoc]; exact b6), by omega⟩ a_ (ha_.weaken (sub_of ⟨rfl, rfl, rfl, rfl, rfl, rfl, rfl, rfl, rfl, rfl, trivial⟩))
        omega
       ·
        refine WO.call 10 (by kernel_rfl) rfl rfl rfl rfl rfl (by kernel_rfl) (Hash_ct (j : Int) (⟨0, aa, 0, 0, 0⟩ : FlowV) bP) ?_
        rintro _ dP ⟨rfl, aq⟩
        have af := ab.trans aq (by simp)
        refine ⟨_, rfl, af, ?_⟩
        have aG := aA.call aq
        have a6 := own_fr a0 aq (by simp)
        have a7 := own_fr a1 aq (by simp)
        refine WDq (NPb (NPt (NPt (NPb (NPb (NPt (NPt (NPb (NPt hN))))))))) 12 81 (.agg #[.int .u64 (hashU (j : Int) (⟨0, aa, 0, 0, 0⟩ : FlowV)), .int .i64 aa]) af ?_
        refine WD.all2 4 13 (by kernel_rfl) ?_ ?_
        ·
         refine WO.sem 4 (Instr.loadAt 69 (.pointer (some ⟨ac, 1, none⟩))) 73 (.slice A6 n6 c6) (by kernel_rfl) (by kernel_rfl) (run_ld (aG.get 1 rfl) rfl) af ?_
         refine WD.new 13 (fun b => .slice (some ⟨b, 0, none⟩) 1 1) (.cells #[.int .u64 (hashU (j : Int) (⟨0, aa, 0, 0, 0⟩ : FlowV)), .int .i64 aa] 74) (by kernel_rfl) rfl rfl rfl rfl rfl (fun _ => by kernel_rfl) (fun b9 dQ a8 dk ar ca => ?_)
         have aH := aG.callB ar a8 ca
         have cb := Nat.le_trans af.size a8
         have a9 := af.trans ar (by simp)
         refine ⟨a9, ?_⟩
         have cc := own_fr a6 ar (by simp)
         have cd := own_fr a7 ar (by simp)
         obtain ⟨dR, dS, ce, cf, ba, aI, cG, cH⟩ := app_run Try.prog aH 1 (v := .slice A6 n6 c6) rfl 69 69 74 2 16 n6 1 1 (some ⟨b9, 0, none⟩) rfl cd [.int .u64 (hashU (j : Int) (⟨0, aa, 0, 0, 0⟩ : FlowV)), .int .i64 aa] rfl (srcOk.blk 1 (aH.get 2 rfl)) rfl (by simp only [maxLen]; omega) (by omega)
         have bb := own_snoc (enc := ptC) (ys := (ptsL per.toNat ((sortI mem).take k) ++ ptsM j aa)) (hashU (j : Int) (⟨0, aa, 0, 0, 0⟩ : FlowV), aa) cf
         obtain ⟨aJ, aK, rfl, df⟩ := own_form bb
         have ai := a9.trans ba (fun x_ hx_ => .inl (List.mem_cons_of_mem _ hx_))
         refine WD.sem 14 (Builtin.append_ #[69, 69] 69 #[.slice A6 n6 c6, .slice (some ⟨b9, 0, none⟩) 1 1]) 83 (.slice aJ (n6 + 1) aK) (by kernel_rfl) (by kernel_rfl) ce ai ?_
         have cg := own_fr cc ba (aH.disj 0 1 rfl rfl (by decide))
         refine WDq (NPb (NPt (NPt (NPb (NPb (NPt (NPt (NPb (NPt hN))))))))) 15 84 (.pointer (some ⟨ac, 0, none⟩)) ai ?_
         refine WDq (NPb (NPt (NPt (NPb (NPb (NPt (NPt (NPb (NPt hN))))))))) 16 85 (.pointer (some ⟨ac, 1, none⟩)) ai ?_
         obtain ⟨dT, ch, aL, ci⟩ := sto_run (c' := #[.int .i64 per, .slice aJ (n6 + 1) aK, .slice ad mem.length ae]) Try.prog aI 1 69 ac 1 (.slice aJ (n6 + 1) aK) rfl (by kernel_rfl)
         have cj := ai.trans aL (by first | (simp; done) | (simp [*]; done) | (have q_ := ai.size; simp; omega))
         refine WD.semU 17 (Instr.storeAt 69 (.pointer (some ⟨ac, 1, none⟩)) (.slice aJ (n6 + 1) aK)) (by kernel_rfl) (by kernel_rfl) ch cj ?_
         have ck := own_fr cg aL (aI.apartM 0 1 rfl rfl)
         have cl := own_fr bb aL (aI.apartM 1 1 rfl rfl)
         refine WD.done (by kernel_rfl) ?_
         refine QXb ?_
         refine QXn (az _ _ ?_)
         refine WCg (WLq 1 [(86, .int .i64 (IntKind.i64.wrap ((j : Int) + 1)))] ?_)
         refine WLt (show (.int .i64 (IntKind.i64.wrap ((j : Int) + 1)) : Value) = .int .i64 ((j : Int) + 1) from by rw [wrap_in_i64 ((j : Int) + 1) (by omega) (by omega)]) ?_
         refine WLq 1 [(66, .int .i64 ((j : Int) + 1))] ?_
         refine WLd rfl ?_
         refine QXn ?_
         have cm := ci.pick [0, 1] [0, 1] rfl rfl
         refine fun a_ ha_ => ax _ _ _ ?_ ⟨j + 1, aJ, n6 + 1, aK, rfl, rfl, cm, ck, (by rw [ptsM_succ, ← List.append_assoc]; exact cl), by omega⟩ a_ (ha_.weaken (sub_of ⟨rfl, rfl, rfl, rfl, rfl, rfl, rfl, rfl, rfl, rfl, trivial⟩))
         omega
        ·
         refine WO.new 13 (fun b => .slice (some ⟨b, 0, none⟩) 1 1) (.cells #[.int .u64 (hashU (j : Int) (⟨0, aa, 0, 0, 0⟩ : FlowV)), .int .i64 aa] 74) (by kernel_rfl) rfl rfl rfl rfl rfl (fun _ => by kernel_rfl) (fun cn dU bc dl au co => ?_)
         have av := aG.callB au bc co
         have cp := Nat.le_trans af.size bc
         have aM := af.trans au (by simp)
         refine ⟨aM, ?_⟩
         have cq := own_fr a6 au (by simp)
         have cr := own_fr a7 au (by simp)
         refine WD.sem 4 (Instr.loadAt 69 (.pointer (some ⟨ac, 1, none⟩))) 73 (.slice A6 n6 c6) (by kernel_rfl) (by kernel_rfl) (run_ld (av.get 1 rfl) rfl) aM ?_
         obtain ⟨dV, dW, cs, ct, bd, aN, cI, cJ⟩ := app_run Try.prog av 1 (v := .slice A6 n6 c6) rfl 69 69 74 2 16 n6 1 1 (some ⟨cn, 0, none⟩) rfl cr [.int .u64 (hashU (j : Int) (⟨0, aa, 0, 0, 0⟩ : FlowV)), .int .i64 aa] rfl (srcOk.blk 1 (av.get 2 rfl)) rfl (by simp only [maxLen]; omega) (by omega)
         have be := own_snoc (enc := ptC) (ys := (ptsL per.toNat ((sortI mem).take k) ++ ptsM j aa)) (hashU (j : Int) (⟨0, aa, 0, 0, 0⟩ : FlowV), aa) ct
         obtain ⟨aO, aP, rfl, dg⟩ := own_form be
         have aj := aM.trans bd (fun x_ hx_ => .inl (List.mem_cons_of_mem _ hx_))
         refine WD.sem 14 (Builtin.append_ #[69, 69] 69 #[.slice A6 n6 c6, .slice (some ⟨cn, 0, none⟩) 1 1]) 83 (.slice aO (n6 + 1) aP) (by kernel_rfl) (by kernel_rfl) cs aj ?_
         have cu := own_fr cq bd (av.disj 0 1 rfl rfl (by decide))
         refine WDq (NPb (NPt (NPt (NPb (NPb (NPt (NPt (NPb (NPt hN))))))))) 15 84 (.pointer (some ⟨ac, 0, none⟩)) aj ?_
         refine WDq (NPb (NPt (NPt (NPb (NPb (NPt (NPt (NPb (NPt hN))))))))) 16 85 (.pointer (some ⟨ac, 1, none⟩)) aj ?_
         obtain ⟨dX, cv, aQ, cw⟩ := sto_run (c' := #[.int .i64 per, .slice aO (n6 + 1) aP, .slice ad mem.length ae]) Try.prog aN 1 69 ac 1 (.slice aO (n6 + 1) aP) rfl (by kernel_rfl)
         have cx := aj.trans aQ (by first | (simp; done) | (simp [*]; done) | (have q_ := aj.size; simp; omega))
         refine WD.semU 17 (Instr.storeAt 69 (.pointer (some ⟨ac, 1, none⟩)) (.slice aO (n6 + 1) aP)) (by kernel_rfl) (by kernel_rfl) cv cx ?_
         have cy := own_fr cu aQ (aN.apartM 0 1 rfl rfl)
         have cz := own_fr be aQ (aN.apartM 1 1 rfl rfl)
         refine WD.done (by kernel_rfl) ?_
         refine QXb ?_
         refine QXn (az _ _ ?_)
         refine WCg (WLq 1 [(86, .int .i64 (IntKind.i64.wrap ((j : Int) + 1)))] ?_)
         refine WLt (show (.int .i64 (IntKind.i64.wrap ((j : Int) + 1)) : Value) = .int .i64 ((j : Int) + 1) from by rw [wrap_in_i64 ((j : Int) + 1) (by omega) (by omega)]) ?_
         refine WLq 1 [(66, .int .i64 ((j : Int) + 1))] ?_
         refine WLd rfl ?_
         refine QXn ?_
         have cA := cw.pick [0, 1] [0, 1] rfl rfl
         refine fun a_ ha_ => ax _ _ _ ?_ ⟨j + 1, aO, n6 + 1, aP, rfl, rfl, cA, cy, (by rw [ptsM_succ, ← List.append_assoc]; exact cz), by omega⟩ a_ (ha_.weaken (sub_of ⟨rfl, rfl, rfl, rfl, rfl, rfl, rfl, rfl, rfl, rfl, trivial⟩))
         omega
      ·
       have dd : per ≤ (j : Int) := by have q_ := of_decide_eq_false ay; omega
       refine WCf rfl ?_
       refine WC.exit ?_
       refine QXe ?_
       refine QXe ?_
       refine QX.block_hit ?_
       refine QXb ?_
       refine QXn (bI _ _ ?_)
       refine WCg (WLq 1 [(87, .int .i64 (IntKind.i64.wrap ((k : Int) + 1)))] ?_)
       refine WLt (show (.int .i64 (IntKind.i64.wrap ((k : Int) + 1)) : Value) = .int .i64 ((k : Int) + 1) from by rw [wrap_in_i64 ((k : Int) + 1) (by omega) (by omega)]) ?_
       refine WLq 1 [(61, .int .i64 ((k : Int) + 1))] ?_
       refine WLd rfl ?_
       refine QXn ?_
       have cB := aY.pick [0, 1] [0, 1] rfl rfl
       refine fun a_ ha_ => da _ _ _ ?_ ⟨k + 1, A6, n6, c6, rfl, rfl, cB, row30_m119, (by rw [ptsL_take am]; have q_ := hpts2; rw [show j = per.toNat from by omega] at q_; exact q_), by omega⟩ a_ (ha_.weaken (sub_of ⟨rfl, rfl, rfl, rfl, rfl, rfl, rfl, trivial⟩))
       omega
     ·
      have dc : (mem.length : Int) ≤ (k : Int) := by have q_ := of_decide_eq_false aw; omega
      refine WCf rfl ?_
      refine WC.exit ?_
      refine QXe ?_
      refine QXe ?_
      refine QX.block_hit ?_
      refine QXn (bG _ _ ?_)
      refine WCs (fun dY bf => ?_)
      refine WCg (WLq 3 [(90, .pointer (some ⟨ac, 1, none⟩)), (89, .pointer (some ⟨ac, 0, none⟩)), (88, .pointer (some ⟨ac, 0, none⟩))] ?_)
      refine WLo 69 (.pointer (some ⟨ac, 1, none⟩)) (.slice A5 n5 c5) 91 (run_ld (aU.get 1 rfl) rfl) ?_
      refine WLc rfl rfl rfl rfl rfl (by kernel_rfl) (SortP_n A5 n5 c5 (ptsL per.toNat ((sortI mem).take k)) dy (own_count ptC_len (by decide) hpts) hpts (by omega)) ?_
      rintro _ dZ ⟨rfl, bg, bh⟩
      have bi := aU.callF 1 rfl bg (fun x_ h_ => .inl h_) (own_lt bh)
      refine ⟨_, rfl, ?_⟩
      have cC := own_fr row30_m97 bg (aU.disj 0 1 rfl rfl (by decide))
      refine WLd rfl (QXn (bf _ _ ?_))
      refine WCs (fun d0 bj => ?_)
      refine WCg (WLq 3 [(5, .nilIface), (4, .pointer (some ⟨ac, 0, none⟩)), (93, .pointer (some ⟨ac, 0, none⟩))] (WLd rfl (QXn (bj _ _ ?_))))
      refine WC.ret ?_
      refine (hret _ _ _ rfl ?_).1
      clear hN hret hret' bj bf aW aV bH bG bF bE bD bz bx bv bu bt hK6 hK4 hK2
      have hke_ : k = mem.length := by omega
      have hrp_ := bh
      rw [hke_, show mem.length = (sortI mem).length from (sortI_len mem).symm, List.take_length] at hrp_
      have hrm_ := cC
      obtain ⟨G_, hR_, hG_⟩ := ring_close bi 1 1 0 rfl rfl rfl hrp_ hrm_
      exact .inr ⟨.inr (.inr ⟨⟨by omega, by omega⟩, hokm_, rfl⟩), ac, G_, _, _, _, _, rfl, bi.fr, hR_, hG_⟩

end Go.Proofs.Ytibkndhgeeoidaa
