/- Contract of bytes.IndexByte, in the printed form. -/
import Derived.Test.YtekanmieppnpeaaHBytes
import Derived.Lib.BytesEntry
import Derived.Lib.SliceRun
import Derived.Lib.Hide
namespace Go.Proofs.Ytekanmieppnpeaa.G
open Go.RowKit Go.Proofs.YtekanmieppnpeaaW.PrintWords Go.Proofs.YtekanmieppnpeaaW.PrintLast Go.Proofs.YtekanmieppnpeaaW.PrintMore
attribute [local go_sem] max2_int min2_int max_two min_two max_three min_three max_four min_four
set_option linter.unusedVariables false
set_option linter.unusedSimpArgs false

/-- The cells of an int row that is read, one by one. -/
theorem C_cells {k : IntKind} {w : World} {ad : Addr} {l : List Int} (h : Kd.C (Kd.int k) w (some ad) l.length l) (i : Nat) (hi : i < l.length) : w.cell? (ad.add i) = some (.int k (l.getD i 0)) := by
  obtain ⟨_, _, h3⟩ := h
  obtain ⟨ad', e, h4⟩ := h3 (by omega)
  cases e
  obtain ⟨c, hc1, hc2, hc3⟩ := h4 i _ (List.getElem?_eq_getElem hi)
  have hc2' : c = [Value.int k l[i]] := hc2
  subst hc2'
  have := hc3 0 _ rfl
  rw [show ad.add (i * (Kd.int k).sz + 0) = ad.add i from by simp [Kd.int, Kd.scalar]] at this
  rw [this, List.getD_eq_getElem?_getD, List.getElem?_eq_getElem hi]; rfl

theorem run_indexByteAt {P : Program} {w : World} {ad : Addr} {l : List Int} (c : Nat) (h : Kd.C (Kd.int .u8) w (some ad) l.length l) (cv : Int) :
    (Extern.BytealgIndexByte.indexByte #[.slice (some ad) l.length c, .int .u8 cv]).run P w = .ok (.int .i64 (Lib.indexByte (Lib.bytesOf l) cv.toNat.toUInt8)) w := by
  have hl := Lib.run_loadBytesX (P := P) w l ad .empty (fun j x hj => by
    have hjl : j < l.length := (List.getElem?_eq_some_iff.1 hj).1
    rw [C_cells h j hjl, List.getD_eq_getElem?_getD, hj]; rfl)
  have hs := Lib.run_indexByteString (P := P) ⟨(Lib.bytesOf l).toArray⟩ cv w
  have he : (⟨ByteArray.empty.data ++ (Lib.bytesOf l).toArray⟩ : ByteArray) = ⟨(Lib.bytesOf l).toArray⟩ := by
    apply ByteArray.ext
    show (#[] : Array UInt8) ++ (Lib.bytesOf l).toArray = (Lib.bytesOf l).toArray
    simp
  rw [he] at hl
  change Sem.run P (do
    let b ← Extern.Bytes.bytesOf (.slice (some ad) l.length c)
    let c ← Extern.Bytes.asByte (.int .u8 cv)
    match (List.range b.size).find? fun i => b[i]! == c with
    | some i => pure (goInt i)
    | none => pure (goInt (-1))) w = _
  change Sem.run P (do
    let b ← Extern.Bytes.bytesOf (.string ⟨(Lib.bytesOf l).toArray⟩)
    let c ← Extern.Bytes.asByte (.int .u8 cv)
    match (List.range b.size).find? fun i => b[i]! == c with
    | some i => pure (goInt i)
    | none => pure (goInt (-1))) w = _ at hs
  simp only [Extern.Bytes.bytesOf, Sem.run_bind, Sem.run_pure, hl, Result.andThen] at hs ⊢
  exact hs

def bytes_IndexByte.f (l0 : List Int) (a1 : Int) : Option Int := some (Lib.indexByte (Lib.bytesOf l0) a1.toNat.toUInt8)

set_option maxHeartbeats 1000000 in
set_option maxRecDepth 100000 in
theorem bytes_IndexByte.calls {n : Nat} (A0 : Option Addr) (c0 : Nat) (l0 : List Int) (a1 : Int) (r : Int) (w : World) (hr0 : Kd.C (Kd.int .u8) w A0 l0.length l0) (hc0 : l0.length ≤ c0) (h : bytes_IndexByte.f l0 a1 = some r)
    (hn : n = l0.length := by first | rfl | (simp only [List.length_drop, List.length_take]; rfl) | (simp only [List.length_drop, List.length_take]; (try simp only [decide_eq_true_eq, eq_iff_iff, iff_true] at *); omega)) :
    Calls Try.prog 109 #[.slice A0 n c0, .int .u8 a1] w fun e w' => e = .returned (.int .i64 r) ∧ Drawn0 w w' := by
  subst hn
  obtain rfl := Option.some.inj h
  have key : (Extern.BytealgIndexByte.indexByte #[.slice A0 l0.length c0, .int .u8 a1]).run Try.prog w = .ok (.int .i64 (Lib.indexByte (Lib.bytesOf l0) a1.toNat.toUInt8)) w := by
    cases A0 with
    | none =>
      obtain rfl := C_none hr0
      exact Lib.run_indexByteNil (P := Try.prog) w 0 c0 a1
    | some ad => exact run_indexByteAt c0 hr0 a1
  have K := Lib.hid key
  clear key hr0 hc0 h
  go_enter Try.func109, Try.ntmps109
  go_wp2
  rw [run_callFunc_extern Try.func141 (by kernel_rfl) (by kernel_rfl) (by kernel_rfl) (e := Extern.BytealgIndexByte.indexByte) (by kernel_rfl), K.out]
  simp only [Result.andThen]
  rw [Oper.upon_value]
  go_wp2
  go_ret
  exact ⟨rfl, Drawn0.refl _⟩

end Go.Proofs.Ytekanmieppnpeaa.G
