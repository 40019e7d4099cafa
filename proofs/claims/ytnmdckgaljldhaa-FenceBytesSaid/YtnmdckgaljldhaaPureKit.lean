/- Small plain lemmas: rows of numbers as texts, wraps, rounds. -/
import Derived.Test.YtnmdckgaljldhaaGx0
import Derived.Lib.Strings
import Derived.OpenShut
namespace Go.Proofs.Ytnmdckgaljldhaa.PureKit
open Go.RowKit Go.Proofs.YtnmdckgaljldhaaW.PrintWords Go.Proofs.YtnmdckgaljldhaaW.PrintLast Go.Proofs.YtnmdckgaljldhaaW.PrintMore

def Bytes (xs : List Int) : Prop := ∀ x ∈ xs, 0 ≤ x ∧ x ≤ 255
theorem Bytes.nil : Bytes [] := fun _ h => by cases h
theorem Bytes.drop {xs : List Int} (h : Bytes xs) (n : Nat) : Bytes (xs.drop n) := fun x hx => h x (List.mem_of_mem_drop hx)
theorem Bytes.take {xs : List Int} (h : Bytes xs) (n : Nat) : Bytes (xs.take n) := fun x hx => h x (List.mem_of_mem_take hx)
theorem Bytes.append {xs ys : List Int} (h : Bytes xs) (h' : Bytes ys) : Bytes (xs ++ ys) := fun x hx => by
  rcases List.mem_append.1 hx with hx | hx
  · exact h x hx
  · exact h' x hx
theorem Bytes.tail {x : Int} {xs : List Int} (h : Bytes (x :: xs)) : Bytes xs := fun y hy => h y (List.mem_cons_of_mem _ hy)
theorem Bytes.head {x : Int} {xs : List Int} (h : Bytes (x :: xs)) : 0 ≤ x ∧ x ≤ 255 := h x List.mem_cons_self
theorem Bytes.cons {x : Int} {xs : List Int} (h0 : 0 ≤ x ∧ x ≤ 255) (h : Bytes xs) : Bytes (x :: xs) := fun y hy => by
  rcases List.mem_cons.1 hy with rfl | hy
  · exact h0
  · exact h y hy
theorem Bytes.of_wf {xs : List Int} (h : ∀ x ∈ xs, (Lit.int .u8 x).wf = true) : Bytes xs := fun x hx =>
  bounds_u8 (h x hx)

theorem w64 {x : Int} (h0 : -9223372036854775808 ≤ x) (h1 : x ≤ 9223372036854775807) : wrap64 x = x := by unfold wrap64; omega
theorem wu64 {x : Int} (h0 : 0 ≤ x) (h1 : x < 18446744073709551616) : IntKind.u64.wrap x = x := by
  rw [IntKind.wrap_u64]; omega
theorem rd_at (l : List Int) (i : Nat) (h : i < l.length) : rd l (i : Int) = l[i] := by
  simp [rd, List.getD_eq_getElem?_getD, h]
theorem nums_size (xs : List Int) : (strOfNums xs).size = xs.length := by simp [strOfNums, ByteArray.size]
theorem nums_bytes (xs : List Int) : (strOfNums xs).data.toList = xs.map fun n => UInt8.ofNat n.toNat := by simp [strOfNums]
theorem ext_bytes {s t : ByteArray} (h : s.data.toList = t.data.toList) : s = t := ByteArray.ext (by rw [← Array.toArray_toList (xs := s.data), h, Array.toArray_toList])
theorem bt_nums (xs : List Int) (hb : Bytes xs) (i : Nat) (h : i < xs.length) : bt (strOfNums xs) (i : Int) = xs[i] := by
  have h2 : i < (strOfNums xs).size := by rw [nums_size]; exact h
  have hx := hb xs[i] (List.getElem_mem h)
  rw [← bt_at (strOfNums xs) i (by simpa using h2)]
  have : (strOfNums xs)[i]'h2 = UInt8.ofNat (xs[i]).toNat := by simp [strOfNums, ByteArray.getElem_eq_getElem_data]
  simp only [Int.toNat_natCast, this]
  simp
  omega
theorem nums_extract (xs : List Int) (a b : Nat) : (strOfNums xs).extract a b = strOfNums ((xs.take b).drop a) := by
  apply ext_bytes
  rw [Lib.extract_data, nums_bytes, nums_bytes, List.map_drop, List.map_take, List.drop_take]
theorem nums_nil (xs : List Int) : ((strOfNums xs).toList = ([] : List UInt8)) ↔ xs = [] := by
  rw [Lib.toList_data, nums_bytes, List.map_eq_nil_iff]
theorem nums_append (xs ys : List Int) : strOfNums xs ++ strOfNums ys = strOfNums (xs ++ ys) := by
  apply ext_bytes
  simp [strOfNums, ByteArray.data_append]
theorem nums_inj {xs ys : List Int} (hx : Bytes xs) (hy : Bytes ys) (h : strOfNums xs = strOfNums ys) : xs = ys := by
  have h1 := congrArg (fun s => s.data.toList) h
  simp only [nums_bytes] at h1
  induction xs generalizing ys with
  | nil => cases ys with
    | nil => rfl
    | cons y ys => simp at h1
  | cons x xs ih => cases ys with
    | nil => simp at h1
    | cons y ys =>
      simp only [List.map_cons, List.cons.injEq] at h1
      have h2 := congrArg UInt8.toNat h1.1
      have a := hx.head
      have b := hy.head
      simp at h2
      have : x = y := by omega
      rw [this, ih hx.tail hy.tail (by apply ext_bytes; rw [nums_bytes, nums_bytes]; exact h1.2) h1.2]
theorem nums_eq {xs ys : List Int} (hx : Bytes xs) (hy : Bytes ys) : ((strOfNums xs).toList = (strOfNums ys).toList) ↔ xs = ys := by
  constructor
  · intro h
    rw [Lib.toList_data, Lib.toList_data] at h
    exact nums_inj hx hy (ext_bytes h)
  · rintro rfl; rfl
theorem nums_beq {xs ys : List Int} (hx : Bytes xs) (hy : Bytes ys) : ((strOfNums xs).toList == (strOfNums ys).toList) = decide (xs = ys) := by
  by_cases h : xs = ys
  · subst h; simp
  · rw [decide_eq_false h]
    exact beq_eq_false_iff_ne.2 (fun e => h ((nums_eq hx hy).1 e))
theorem rounds_of {α : Type} {g : Nat → Option α} {r : α} (h : Ev g r) : ∃ k, g k = some r := h.rounds
theorem Ev.eq {α : Type} {g : Nat → Option α} {a b : α} (h : Ev g a) (e : a = b) : Ev g b := e ▸ h

end Go.Proofs.Ytnmdckgaljldhaa.PureKit
