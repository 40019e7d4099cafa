/- table: rows of entries as slices.SortFunc has them; Clone. (needs gprint: Gx0 with S81; HSortL: the laying of slices.SortFunc in plain words) -/
import Derived.Test.YtnmdckgaljldhaaGx0
import Derived.Test.YtnmdckgaljldhaaHTable1
import Derived.Test.YtnmdckgaljldhaaHSortL
set_option linter.unusedVariables false
set_option linter.unusedSimpArgs false
namespace Go.Proofs.Ytnmdckgaljldhaa.Tb
open Go Go.RowKit Go.Shelf Go.Lib Go.Sort Go.Proofs.YtnmdckgaljldhaaW.PrintWords Go.Proofs.YtnmdckgaljldhaaW.PrintLast Go.Proofs.YtnmdckgaljldhaaW.PrintMore Go.Proofs.Ytnmdckgaljldhaa.Sep Go.Proofs.Ytnmdckgaljldhaa.G
set_option maxHeartbeats 4000000
set_option maxRecDepth 100000

abbrev E1 := S81
abbrev kE : Kd E1 := k81
instance : Inhabited E1 := ⟨z81⟩
def encE (x : E1) : List Value := [.int .u64 x.f0, .int .u32 x.f1]

theorem heap_sortedK {w : World} {g n : Nat} {os : Array Obj} {cur : Array Value} {e : TypeId} {fr : Nat × Nat} (F : Array Value) (hb : w.heap[g]? = some (.cells cur e fr)) :
    (grow (putRow id (Sort.ahead w n) g 0 F) os).heap[g]? = some (.cells (putCells id 0 F cur) e fr) := by
  have hg : g < w.heap.size := (Array.getElem?_eq_some_iff.1 hb).1
  rw [heap_grow_old _ _ (by simpa using hg)]
  simp [putRow, mapBlock, Sort.ahead, Array.getElem?_modify, hb, onCells]
theorem grownBy_sortedK {w : World} {g n : Nat} {os : Array Obj} (F : Array Value) : w.grownBy (grow (putRow id (Sort.ahead w n) g 0 F) os) (some g) := by
  refine ⟨rfl, rfl, rfl, by simp, fun k hk hne => ?_⟩
  rw [heap_grow_old _ _ (by simpa using hk)]
  have : g ≠ k := fun e => hne (by rw [e])
  simp [putRow, mapBlock, Sort.ahead, Array.getElem?_modify, this]
theorem take_putCellsK (cur F : Array Value) (h : F.size ≤ cur.size) : (putCells id 0 F cur).toList.take F.size = F.toList := by
  apply List.ext_getElem?
  intro j
  by_cases hj : j < F.size
  · rw [List.getElem?_take_of_lt hj, Array.getElem?_toList, Array.getElem?_toList]
    simp [putCells, hj, show j < cur.size by omega]
  · rw [List.getElem?_take_eq_none (by omega), List.getElem?_eq_none (by simp; omega)]
theorem reps_eq {α : Type} {R R' : α → List Value → Prop} {k : Nat} (hk : 0 < k) {l : List α} {a b : List Value} (ha : Reps R k l a) (hb : Reps R' k l b) (h : ∀ p c c', R p c → R' p c' → c = c') : a = b := by
  apply List.ext_getElem?
  intro q
  by_cases hq : q < l.length * k
  · have hj : q / k < l.length := Nat.div_lt_of_lt_mul (by rw [Nat.mul_comm]; exact hq)
    have h4 := congrArg (fun c => c[q % k]?) (h _ _ _ (ha.2 (q / k) _ (List.getElem?_eq_getElem hj)) (hb.2 (q / k) _ (List.getElem?_eq_getElem hj)))
    simp only [List.getElem?_take, List.getElem?_drop, if_pos (Nat.mod_lt q hk)] at h4
    rw [Nat.mul_comm, Nat.div_add_mod] at h4
    exact h4
  · rw [List.getElem?_eq_none (by rw [ha.1]; omega), List.getElem?_eq_none (by rw [hb.1]; omega)]
theorem reps_flat {R : E1 → List Value → Prop} (hR : ∀ x, R x (encE x)) (l : List E1) : Reps R 2 l (flatK encE 2 l.toArray).toList := by
  refine ⟨by simp, fun j p hj => ?_⟩
  obtain ⟨hjl, hp⟩ := List.getElem?_eq_some_iff.1 hj
  have he : ((flatK encE 2 l.toArray).toList.drop (j * 2)).take 2 = encE p := by
    apply List.ext_getElem?
    intro t
    by_cases ht : t < 2
    · rw [List.getElem?_take_of_lt ht, List.getElem?_drop, Array.getElem?_toList]
      have hlt : j * 2 + t < (flatK encE 2 l.toArray).size := by rw [size_flatK]; simp; omega
      have h1 := get_flatK encE 2 l.toArray (j * 2 + t) (by simp; omega)
      rw [show (j * 2 + t) / 2 = j by omega, show (j * 2 + t) % 2 = t by omega] at h1
      rw [getElem!_pos (flatK encE 2 l.toArray) (j * 2 + t) hlt, getElem!_pos l.toArray j (by simpa using hjl), getElem!_pos (encE (l.toArray[j]'(by simpa using hjl))) t (by simpa [encE] using ht)] at h1
      rw [Array.getElem?_eq_getElem hlt, h1]
      have hlp : l.toArray[j] = p := by simpa using hp
      rw [List.getElem?_eq_getElem (by simpa [encE] using ht)]
      simp only [hlp]
    · rw [List.getElem?_take_eq_none (by omega), List.getElem?_eq_none (by simp [encE]; omega)]
  rw [he]; exact hR p

/-- A row of its own, as the sort has it; and what it is behind the sort. -/
theorem sort_R {w : World} {base g n cap : Nat} {ok : Nat → Prop} {l : List E1} (h : kE.R 81 w base ok (.slice (some ⟨g, 0, none⟩) n cap) l) :
    HoldsK encE 2 w g 0 l.toArray ∧ g < w.heap.size ∧ n = l.length ∧ ∀ m os (l' : List E1), l'.length = l.length →
      kE.R 81 (sortWorldK encE 2 w g 0 m l'.toArray os) base ok (.slice (some ⟨g, 0, none⟩) n cap) l' ∧ w.grownBy (sortWorldK encE 2 w g 0 m l'.toArray os) (some g) := by
  obtain ⟨h0, inner, ⟨hlen, hor⟩, hr⟩ := h
  rcases hor with ⟨hv, _⟩ | ⟨g', cap', cur, hv, hbase, hb, hn, hcap, hsz, htk⟩
  · cases hv
  · have hv' := hv
    injection hv' with e1 e2 e3
    injection e1 with e1
    injection e1 with e1 _ _
    subst e1 e3
    have hsz2 : cur.size = cap * 2 := hsz
    have htk2 : cur.toList.take (l.length * 2) = inner := htk
    have hin : inner = (flatK encE 2 l.toArray).toList := reps_eq (by decide) hr (reps_flat (R := fun x c => c = encE x) (fun _ => rfl) l) (fun p c c' hc hc' => by
      rw [hc']; exact k81_openM hc)
    refine ⟨?_, (Array.getElem?_eq_some_iff.1 hb).1, e2, fun m os l' hl => ⟨⟨h0, (flatK encE 2 l'.toArray).toList, ⟨by show _ = _ * 2; simp, .inr ⟨g, cap, _, by rw [e2, hl], hbase, heap_sortedK _ hb, by omega, hcap, ?_, ?_⟩⟩, ?_⟩, grownBy_sortedK _⟩⟩
    · intro j hj
      have hj2 : j < l.length * 2 := by simpa using hj
      refine ⟨?_, by simp [World.frozen?, hb]⟩
      have h1 : (cur.toList.take (l.length * 2))[j]? = (flatK encE 2 l.toArray).toList[j]? := by rw [htk2, hin]
      rw [List.getElem?_take_of_lt hj2, Array.getElem?_toList, Array.getElem?_toList] at h1
      simp only [World.cell?, hb, Nat.zero_add]
      simp only [Option.isSome_none, Bool.false_eq_true, if_false]
      rw [h1, Array.getElem?_eq_getElem hj, getElem!_pos _ j hj]
      rfl
    · show (putCells id 0 _ cur).size = cap * 2
      simp [putCells, hsz2]
    · show (putCells id 0 _ cur).toList.take (l'.length * 2) = _
      have := take_putCellsK cur (flatK encE 2 l'.toArray) (by rw [size_flatK]; simp only [List.size_toArray]; omega)
      rwa [size_flatK, List.size_toArray] at this
    · exact reps_flat (fun x => k81_mkM _ _ _ x) l'
end Go.Proofs.Ytnmdckgaljldhaa.Tb
