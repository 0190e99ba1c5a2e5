/- slices.Sorted over maps.Keys at this program's map of sessions. -/
import Derived.Test.YtmahghppojbeoaaSeA
import Derived.Shelf.SlIterI.Sorted
import Derived.Shelf.SortM.Plain
import Derived.Shelf.SortM.SortNone
import Derived.Ground.GgzProg
import Derived.Ground.SlgmProg
namespace Go.Proofs
set_option linter.unusedSimpArgs false
set_option linter.unusedVariables false
set_option linter.unusedSectionVars false
open Go.RowKit Go.Maps Go.Sort Go.Shelf
shelf_lay_g SlLaysZI.n7 Ggz 7 at Try 50 as SkKeys.keysA
shelf_lay_g SlLaysZI.n6 Ggz 6 at Try 49 as SkKeys.sortedA
shelf_lay_g SlLaysM.n5 Slgm 5 at Try 61 as SkKeys.sortA
theorem SkKeys.sortsA (m : Nat) : AnyZI.SortsIn Try.prog SkKeys.sortedA_ren Fence.wide m :=
  ⟨fun blk off cap ss W hH hblk hsz => callsIn_wide.2 (AnyM.slices_Sort_int SkKeys.sortA blk off cap ss W hH hblk hsz),
   fun p cap W => callsIn_wide.2 (AnyM.slices_Sort_int_none SkKeys.sortA p cap W)⟩
theorem SkKeys.keys (mb : Option Nat) (W : World) : Calls Try.prog 50 #[.map mb] W fun e w' => e = .returned (.func (.func 62) #[] #[.pointer (some ⟨W.heap.size, 0, none⟩)]) ∧ w' = W.alloc (.cells #[.map mb] 87) :=
  (callsIn_wide (n := 5)).1 (AnyZI.keys_in SkKeys.keysA Fence.wide 5 trivial rfl mb W)
set_option maxHeartbeats 1000000 in
theorem SkKeys.sorted {H : Type} (b Bm nn : Nat) (D0 : DataW H) (R : Value → Option (DataW H × List MemPlace)) (W : World) (hBm : Bm < W.heap.size) (hm : W.cell? ⟨Bm, 0, none⟩ = some (.map (some b))) (hown : W.ownsMap Try.prog 3 R b nn D0) (hmax : Maps.size D0 ≤ maxLen) (hbytes : Maps.size D0 * 8 ≤ 140737488355328) :
    Calls Try.prog 49 #[.func (.func 62) #[] #[.pointer (some ⟨Bm, 0, none⟩)]] W fun e w' => ∃ (v : Value) (ss : List Int), e = .returned v ∧ ss.Perm (intKeys D0) ∧
      w'.ownsRow W.heap.size 3 1 v ss.length ((ss.mergeSort (fun x y => decide (x ≤ y))).map encZ) ∧ (v = .slice none 0 0 ↔ ss = []) ∧ Below W.heap.size W w' := by
  refine (callsIn_wide (n := 5)).1 ?_
  have hseq : SeqGives Fence.wide 2 Try.prog 62 #[.pointer (some ⟨Bm, 0, none⟩)] encZ (fun ss => ss.Perm (intKeys D0)) (Maps.size D0) W :=
    AnyZI.keys_gives (ρ := SkKeys.keysA_ren) { SkKeys.keysA with } Fence.wide _ trivial rfl (by omega) Bm b nn D0 _ hBm hm hown
  exact AnyZI.sorted_in SkKeys.sortedA Fence.wide 5 trivial trivial trivial trivial rfl (by omega) (SkKeys.sortsA _) (enters_of Try.func61 (by kernel_rfl) rfl) 62 #[.pointer (some ⟨Bm, 0, none⟩)] trivial (enters_of Try.func62 (by kernel_rfl) rfl) _ _ hmax hbytes _ hseq
end Go.Proofs
namespace Go.Proofs.Ytmahghppojbeoaa
set_option linter.unusedSimpArgs false
set_option linter.unusedVariables false
set_option linter.unusedSectionVars false
open Go Go.RowKit Go.Tw
theorem encZ_flat (D : List Int) : D.map Go.encZ = D.flatMap (Go.Tw.encI .i64) := by
  induction D with
  | nil => rfl
  | cons a r ih => simp only [List.map_cons, List.flatMap_cons, ih]; rfl
open Go.Maps in
/-- a tracked map of sessions, in the maps' kit's word -/
theorem own_of_okI {P : Program} {kt : TypeId} (hkt : P.underlying kt = some (.int .i64)) {w : World} {b c : Nat} {es : Array MapEntry} {m : Lm} (hb : w.heap[b]? = some (.map es c)) (hm : MapOk ekI encO es c m) (hk : ∀ p ∈ m, (Lit.int .i64 p.1).wf = true) (hl : m.length ≤ maxLen) :
    ∃ D : DataW Unit, w.ownsMap P kt (fun _ => some (.nil, [])) b es.size D ∧ (intKeys D).Perm (m.map (·.1)) ∧ Maps.size D = m.length := by
  have hks : es.toList.map (·.key) = m.map fun p => ekI p.1 := by
    have := congrArg (List.map Prod.fst) hm.kv
    simpa [List.map_map, Function.comp_def] using this
  have hkey : ∀ x ∈ es.toList, ∃ p ∈ m, x.key = ekI p.1 := fun x hx => by
    have h1 : x.key ∈ m.map fun p => ekI p.1 := by rw [← hks]; exact List.mem_map.2 ⟨x, hx, rfl⟩
    obtain ⟨p, hp, e⟩ := List.mem_map.1 h1
    exact ⟨p, hp, e.symm⟩
  have hko : ∀ x ∈ es.toList, ∀ n : Int, x.key = ekI n → (Lit.int .i64 n).wf = true → keyOf P kt x.key = some (.int .i64 n) := fun x _ n h hs => by
    rw [h]; simp [keyOf, hkt, mapKey, ekI, hs]
  have hrd : ∀ x ∈ es.toList, ∃ p ∈ m, x.key = ekI p.1 ∧ WideElems.rd (H := Unit) P kt (fun _ => some (.nil, [])) x = some (.int .i64 p.1, .nil) := fun x hx => by
    obtain ⟨p, hp, e⟩ := hkey x hx
    refine ⟨p, hp, e, ?_⟩
    unfold WideElems.rd
    rw [hko x hx p.1 e (hk p hp)]
    rfl
  refine ⟨_, ⟨es, c, hb, ⟨by rw [hm.len]; exact hl, ⟨hm.born, hm.apart, ?_⟩, fun x hx => ?_⟩, Nat.le_refl _, rfl⟩, ?_, ?_⟩
  · rw [hks]
    have := hm.keys
    rw [show (m.map fun p => ekI p.1) = (m.map (·.1)).map ekI from by simp [List.map_map, Function.comp_def]]
    exact List.pairwise_map.2 (this.imp fun h e => h (by simpa [ekI] using e))
  · obtain ⟨p, _, _, h⟩ := hrd x hx; exact ⟨_, h⟩
  · show (((es.toList.map _).foldr DataW.insert []).map fun p => Go.intOf p.1).Perm _
    refine ((Go.WideShapes.sorted_perm _).map _).trans ?_
    rw [List.map_map]
    have e : es.toList.map ((fun p : Lit × DataW Unit => Go.intOf p.1) ∘ WideElems.rg P kt fun _ => some (.nil, [])) = m.map (·.1) := by
      have h1 : es.toList.map ((fun p : Lit × DataW Unit => Go.intOf p.1) ∘ WideElems.rg P kt fun _ => some (.nil, [])) = (es.toList.map (·.key)).map fun v => match v with | .int _ n => n | _ => 0 := by
        rw [List.map_map]
        refine List.map_congr_left fun x hx => ?_
        obtain ⟨p, _, e, h⟩ := hrd x hx
        simp only [Function.comp, WideElems.rg, h, Option.getD_some, Go.intOf, e, ekI]
      rw [h1, hks, List.map_map]; rfl
    rw [e]
  · show ((es.toList.map _).foldr DataW.insert []).length = _
    rw [(Go.WideShapes.sorted_perm _).length_eq, List.length_map]
    have := hm.len; simpa using this
theorem sort_permI {a b : List Int} (h : a.Perm b) : (a.mergeSort fun x y => decide (x ≤ y)) = b.mergeSort fun x y => decide (x ≤ y) := Go.mergeSort_of_perm_i h
/-- slices.Sorted(maps.Keys(m)), in the walk's words -/
theorem keys_ct (b Bm cl : Nat) (es : Array MapEntry) (L : Lm) (W : World) (hBm : W.heap[Bm]? = some (.cells #[.map (some b)] 87 (0, 0))) (hb : W.heap[b]? = some (.map es cl)) (hm : MapOk ekI encO es cl L) (hk : lok L) :
    Calls Try.prog 49 #[.func (.func 62) #[] #[.pointer (some ⟨Bm, 0, none⟩)]] W fun e w' => ∃ v, e = .returned v ∧ Fr W w' [] ∧ w'.ownsRow W.heap.size 3 1 v L.length ((sesL L).flatMap (Go.Tw.encI .i64)) := by
  have hl8 := lok_len hk hm.keys
  obtain ⟨D, h1, h2, h3⟩ := own_of_okI (P := Try.prog) (kt := 3) (by kernel_rfl) hb hm (fun p hp => by
    have h := of_decide_eq_true (hk.key p hp)
    simp [Lit.wf, IntKind.min, IntKind.max, IntKind.signed, IntKind.bits]; omega) (by simp only [maxLen]; omega)
  refine (SkKeys.sorted b Bm es.size D _ W (lt_of_heap hBm) (by rw [cell_blk hBm]; rfl) h1 (by rw [h3]; simp only [maxLen]; omega) (by rw [h3]; omega)).mono ?_
  rintro e w' ⟨v, ss, rfl, hp, ho, _, hbel⟩
  have hp2 := hp.trans h2
  refine ⟨v, rfl, Fr.of_below hbel (fun h_ => h_.elim), ?_⟩
  have hn : ss.length = L.length := by rw [hp2.length_eq, List.length_map]
  rw [hn, sort_permI hp2, encZ_flat] at ho
  exact ho
end Go.Proofs.Ytmahghppojbeoaa
