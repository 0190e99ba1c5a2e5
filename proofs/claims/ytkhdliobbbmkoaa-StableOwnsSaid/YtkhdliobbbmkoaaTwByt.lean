/- Laws on slices of bytes as strings, on a copied map, on objects of several tracked blocks. Each holds without conditions beyond those that stand in it. -/
import Derived.Test.YtkhdliobbbmkoaaTwAny
import Derived.Laws.BytesArg
import Derived.Laws.Externs
import Derived.Laws.Strings
namespace Go.Tw
set_option linter.unusedSimpArgs false
set_option linter.unusedVariables false
set_option linter.unusedSectionVars false
open Go Go.RowKit
section
variable {P : Program} {w w' w0 : World} {F0 : List Nat} {M : List (Nat × Obj)} {Fs : List (List Nat)}
theorem run_bytes_str {src e dst : TypeId} (hs : P.underlying src = some (.slice e)) (he : P.underlying e = some (.int .u8)) (hd : P.underlying dst = some .string) {A : Option Addr} {n c : Nat} {xs : List Int} (hr : Rd w 1 (encI .u8) A xs) (hn : xs.length = n) :
    (convert src dst (.slice A n c)).run P w = .ok (.string (strOfNums xs)) w := by
  subst hn
  cases xs with
  | nil =>
    cases A with
    | none => rw [run_convert_bytes_nil w src e hs he _ _ dst hd]; rfl
    | some a =>
      rw [run_convert_bytes_string w src dst e _ _ c hs he hd]
      have hl : (loadCells a 0).run P w = .ok (([] : List Int).map (Value.int .u8)).toArray w := run_loadCells_list (P := P) w a [] (by intro j u h; cases h)
      exact (run_bytesToString (P := P) w a 0 c [] hl).trans rfl
  | cons x r =>
    obtain ⟨b, off, rfl, _⟩ := hr.at_ 0 x rfl
    refine run_convert_bytes_arg w src e hs he b off _ c (x :: r) rfl (fun i hi => ?_) dst hd
    obtain ⟨y, hy⟩ := get_some hi
    have := hr.cell rfl hy 0 (.int .u8 y) rfl
    simpa [List.getD, hy] using this
theorem strOf_inj {xs ys : List Int} (hx : ∀ x ∈ xs, 0 ≤ x ∧ x < 256) (hy : ∀ x ∈ ys, 0 ≤ x ∧ x < 256) (h : strOfNums xs = strOfNums ys) : xs = ys := by
  have h1 : xs.map (fun n => UInt8.ofNat n.toNat) = ys.map fun n => UInt8.ofNat n.toNat := by
    rw [← strOfNums_data, ← strOfNums_data, h]
  have hz : ∀ (zs : List Int), (∀ x ∈ zs, 0 ≤ x ∧ x < 256) → (zs.map fun n => UInt8.ofNat n.toNat).map (fun b => (b.toNat : Int)) = zs := fun zs h0 => by
    rw [List.map_map]
    conv => rhs; rw [← List.map_id zs]
    refine List.map_congr_left fun x hx => ?_
    have := h0 x hx
    simp only [Function.comp, id, UInt8.toNat_ofNat']
    omega
  rw [← hz xs hx, ← hz ys hy, h1]
theorem strOf_eq {xs ys : List Int} (hx : ∀ x ∈ xs, 0 ≤ x ∧ x < 256) (hy : ∀ x ∈ ys, 0 ≤ x ∧ x < 256) : (strOfNums xs == strOfNums ys) = decide (xs = ys) := by
  rw [beq_bytes]
  by_cases h : xs = ys
  · simp [h]
  · rw [decide_eq_false h, decide_eq_false (fun q => h (strOf_inj hx hy q))]
theorem strOf_dec {xs ys : List Int} (hx : ∀ x ∈ xs, 0 ≤ x ∧ x < 256) (hy : ∀ x ∈ ys, 0 ≤ x ∧ x < 256) : decide (strOfNums xs = strOfNums ys) = decide (xs = ys) := by
  rw [← beq_bytes, strOf_eq hx hy]
theorem str_eql (a b : ByteArray) : (a.toList == b.toList) = decide (a = b) := by
  rw [ByteArray.toList_eq, ByteArray.toList_eq]
  by_cases h : a = b
  · simp [h]
  · rw [decide_eq_false h]
    refine beq_eq_false_iff_ne.2 fun q => h ?_
    cases a; cases b
    congr 1
    exact Array.toList_inj.1 q
theorem run_maps_clone {r : Nat} {es : Array MapEntry} {clock : Nat} (t : TypeId) (hb : w.heap[r]? = some (.map es clock)) :
    (Extern.MapsClone.clone #[.iface t (.map (some r))]).run P w = .ok (.iface t (.map (some w.heap.size))) (w.alloc (.map es clock)) := by
  have e : Extern.MapsClone.clone #[.iface t (.map (some r))] = (getObj r >>= fun o => match o with
      | .map entries clock => (newObj (.map entries clock) >>= fun n => pure (.iface t (.map (some n))))
      | _ => stuck "maps.clone: a map expected") := rfl
  rw [e]
  simp [MapKept.run_getObj_map hb, Result.andThen, go_sem]
theorem run_cloneF {f : FuncId} {fn : Func} {t : TypeId} {r : Nat} {es : Array MapEntry} {clock : Nat} (hf : P.funcs[f]? = some fn) (hname : (fn.name == "runtime.NumGoroutine") = false) (hb : fn.body.isNone = true) (hn : Extern.findNext fn = none) (he : Extern.find fn = some Extern.MapsClone.clone) (hm : w.heap[r]? = some (.map es clock)) :
    (callFunc f #[.iface t (.map (some r))]).run P w = .ok (.value (.iface t (.map (some w.heap.size)))) (w.alloc (.map es clock)) := by
  rw [run_callFunc_extern hf hname hb hn he, run_maps_clone t hm]; rfl
/-- '[]byte("..")' of a constant: the row that was laid ahead of it gets the run-time's mark -/
theorem run_mark {t e : TypeId} {b n c : Nat} {C : Array Value} (ht : P.underlying t = some (.slice e)) (he : P.underlying e = some (.int .u8)) (hb : w.heap[b]? = some (.cells C e (0, 0))) :
    ∃ w', (convert t t (.slice (some ⟨b, 0, none⟩) n c)).run P w = .ok (.slice (some ⟨b, 0, none⟩) n c) w' ∧ Fr w w' [b] ∧ w'.heap[b]? = some (.cells C e (C.size, C.size + 1)) := by
  have hsh : w.shape? b = some (e, C.size) := by unfold World.shape?; rw [hb]
  refine ⟨w.freeze ⟨b, C.size, none⟩ 1, ?_, ?_, ?_⟩
  · simp [convert, run_underlying ht, run_underlying he, markStringish, hsh]
  · unfold World.freeze
    rw [if_neg (by decide)]
    refine ⟨rfl, rfl, rfl, ?_, fun k hk hn => ?_, fun _ => Nat.le_refl _⟩
    · simp
    · have : b ≠ k := fun e => hn (by simp [e])
      simp [Array.getElem?_modify, this]
  · unfold World.freeze
    rw [if_neg (by decide)]
    simp [Array.getElem?_modify, hb]
theorem mark_run (hC : Cx w0 F0 w M Fs) (k : Nat) {t e : TypeId} {b n c : Nat} {C : Array Value} (ht : P.underlying t = some (.slice e)) (he : P.underlying e = some (.int .u8)) (hk : M[k]? = some (b, .cells C e (0, 0))) :
    ∃ w', (convert t t (.slice (some ⟨b, 0, none⟩) n c)).run P w = .ok (.slice (some ⟨b, 0, none⟩) n c) w' ∧ Fr w w' [b] ∧ Cx w0 F0 w' (M.set k (b, .cells C e (C.size, C.size + 1))) Fs := by
  obtain ⟨w', h1, h2, h3⟩ := run_mark (n := n) (c := c) ht he (hC.get k hk)
  exact ⟨w', h1, h2, hC.callM k hk h2 h3⟩
end
end Go.Tw
