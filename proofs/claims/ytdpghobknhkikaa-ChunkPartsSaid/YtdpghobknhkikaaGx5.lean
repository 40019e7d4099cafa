-- Written by gprint.py (the kit's print.py with contracts of my own taken as given)
import Derived.Test.YtdpghobknhkikaaGx0
import Derived.Test.YtdpghobknhkikaaGx3
import Derived.Test.YtdpghobknhkikaaGx4
import Derived.Test.YtdpghobknhkikaaHChunk
namespace Go.Proofs.Ytdpghobknhkikaa.G
open Go.RowKit Go.Proofs.YtdpghobknhkikaaW.PrintWords Go.Proofs.YtdpghobknhkikaaW.PrintLast Go.Proofs.YtdpghobknhkikaaW.PrintMore
attribute [local go_sem] max2_int min2_int max_two min_two max_three min_three max_four min_four   -- for this text's walks alone
set_option linter.unusedVariables false
set_option linter.unusedSimpArgs false

/-! ### chunk_Cutter_At: function 20 -/
def chunk_Cutter_At.f (s0_0 : Int) (s0_1 : Int) (s0_2 : Int) (s0_3 : Int) : Option (Int × Int × Int × Int × Int × Int) := some (s0_1, s0_2, s0_0, s0_1, s0_2, s0_3)
set_option maxHeartbeats 8000000 in
set_option maxRecDepth 100000 in
theorem chunk_Cutter_At.calls (g : Nat) (s0_0 : Int) (s0_1 : Int) (s0_2 : Int) (s0_3 : Int) (r1 : Int) (r2 : Int) (r3 : Int) (r4 : Int) (r5 : Int) (r6 : Int) (w0 w : World) (hI : IsS82 w0 w g s0_0 s0_1 s0_2 s0_3) (hB : Below w0.heap.size w0 w) (h : chunk_Cutter_At.f s0_0 s0_1 s0_2 s0_3 = some (r1, r2, r3, r4, r5, r6)) :
    Calls Try.prog 20 #[.pointer (some ⟨g, 0, none⟩)] w fun e w' => e = .returned (.tuple #[.int .u64 r1, .int .i64 r2]) ∧ IsS82 w0 w' g r3 r4 r5 r6 ∧ Below w0.heap.size w0 w' ∧ KeepBut w w' g none := by
  have HI0 := Aside0.mk hI
  have HK := Aside0.mk (KeepBut.refl w g none)
  have HL := Aside0.mk hB.size
  clear hI
  have HW0 := Aside0.mk hB.size
  have HB := Aside0.mk hB
  clear hB
  have H : (some (s0_1, s0_2, s0_0, s0_1, s0_2, s0_3)) = some (r1, r2, r3, r4, r5, r6) := h
  clear h
  simp only [Option.some.injEq, Prod.mk.injEq] at H
  obtain ⟨rfl, rfl, rfl, rfl, rfl, rfl⟩ := H
  obtain ⟨HGz2, hgz2⟩ := HI0.out
  have hcz2_0 := cellS82_0 HGz2
  have hcz2_1 := cellS82_1 HGz2
  have hcz2_2 := cellS82_2 HGz2
  have hcz2_3 := cellS82_3 HGz2
  have hfz2_0 := blk_frozen HGz2 0
  have hfz2_1 := blk_frozen HGz2 1
  have hfz2_2 := blk_frozen HGz2 2
  have hfz2_3 := blk_frozen HGz2 3
  clear HGz2 hgz2
  go_enter Try.func20, Try.ntmps20
  go_wp2
  repeat (go_quiet (fail); try go_wp2)
  go_ret2
  exact ⟨by first | rfl | (simp [errW_none, errW_some] <;> rfl) | (simp [*, errW_none, errW_some] <;> rfl), by repeat (first | (with_reducible first | exact HI0.out | apply IsS82.alloc | apply IsS82.drewN | apply IsS82.drew | apply IsS82.set_0 | apply IsS82.set_1 | apply IsS82.set_2 | apply IsS82.set_3) | exact HI0.out), by repeat (first | (with_reducible first | exact HB.out | apply below_alloc | apply pw_below_drewN | apply below_drew1 | refine below_set ?_ (IsS82.ge HI0.out)) | exact HB.out), by repeat (first | (with_reducible first | exact HK.out | apply KeepBut.set_ | apply keep_drewN | apply keep_drew | apply keep_alloc) | exact HK.out)⟩

/-! ### chunk_Cutter_Open: function 21 -/
def chunk_Cutter_Open.f (s0_0 : Int) (s0_1 : Int) (s0_2 : Int) (s0_3 : Int) : Option (Int × Int × Int × Int × Int) := some (wrap64 (s0_2 - s0_3), s0_0, s0_1, s0_2, s0_3)
set_option maxHeartbeats 8000000 in
set_option maxRecDepth 100000 in
theorem chunk_Cutter_Open.calls (g : Nat) (s0_0 : Int) (s0_1 : Int) (s0_2 : Int) (s0_3 : Int) (r1 : Int) (r2 : Int) (r3 : Int) (r4 : Int) (r5 : Int) (w0 w : World) (hI : IsS82 w0 w g s0_0 s0_1 s0_2 s0_3) (hB : Below w0.heap.size w0 w) (h : chunk_Cutter_Open.f s0_0 s0_1 s0_2 s0_3 = some (r1, r2, r3, r4, r5)) :
    Calls Try.prog 21 #[.pointer (some ⟨g, 0, none⟩)] w fun e w' => e = .returned (.int .i64 r1) ∧ IsS82 w0 w' g r2 r3 r4 r5 ∧ Below w0.heap.size w0 w' ∧ KeepBut w w' g none := by
  have HI0 := Aside0.mk hI
  have HK := Aside0.mk (KeepBut.refl w g none)
  have HL := Aside0.mk hB.size
  clear hI
  have HW0 := Aside0.mk hB.size
  have HB := Aside0.mk hB
  clear hB
  have H : (some (wrap64 (s0_2 - s0_3), s0_0, s0_1, s0_2, s0_3)) = some (r1, r2, r3, r4, r5) := h
  clear h
  simp only [Option.some.injEq, Prod.mk.injEq] at H
  obtain ⟨rfl, rfl, rfl, rfl, rfl⟩ := H
  obtain ⟨HGz2, hgz2⟩ := HI0.out
  have hcz2_0 := cellS82_0 HGz2
  have hcz2_1 := cellS82_1 HGz2
  have hcz2_2 := cellS82_2 HGz2
  have hcz2_3 := cellS82_3 HGz2
  have hfz2_0 := blk_frozen HGz2 0
  have hfz2_1 := blk_frozen HGz2 1
  have hfz2_2 := blk_frozen HGz2 2
  have hfz2_3 := blk_frozen HGz2 3
  clear HGz2 hgz2
  go_enter Try.func21, Try.ntmps21
  go_wp2
  repeat (go_quiet (fail); try go_wp2)
  go_ret
  exact ⟨by first | rfl | (simp [errW_none, errW_some] <;> rfl) | (simp [*, errW_none, errW_some] <;> rfl), by repeat (first | (with_reducible first | exact HI0.out | apply IsS82.alloc | apply IsS82.drewN | apply IsS82.drew | apply IsS82.set_0 | apply IsS82.set_1 | apply IsS82.set_2 | apply IsS82.set_3) | exact HI0.out), by repeat (first | (with_reducible first | exact HB.out | apply below_alloc | apply pw_below_drewN | apply below_drew1 | refine below_set ?_ (IsS82.ge HI0.out)) | exact HB.out), by repeat (first | (with_reducible first | exact HK.out | apply KeepBut.set_ | apply keep_drewN | apply keep_drew | apply keep_alloc) | exact HK.out)⟩

/-! ### fasciclelaw22_ChunkParts: function 4 -/
mutual
def fasciclelaw22_ChunkParts.j0 : Nat → Int → List (List Int) → Bool → Option (Bool)
  | 0, _, _, _ => none
  | k + 1, x0, x1, x21 => if x21 = true then ((fasciclelaw22_lives.f k).bind fun t142 => (some t142)) else ((chunk_New.f x0).bind fun bt143 => (fasciclelaw22_ChunkParts.l0 k x0 ([] : List (S55)) (⟨#[]⟩ : ByteArray) x1 (x1.length : Int) 0 bt143.1 bt143.2.1 bt143.2.2.1 bt143.2.2.2))
def fasciclelaw22_ChunkParts.l0 : Nat → Int → List (S55) → ByteArray → List (List Int) → Int → Int → Int → Int → Int → Int → Option (Bool)
  | 0, _, _, _, _, _, _, _, _, _, _ => none
  | k + 1, x0, x6, x7, x25, x26, x27, x148000, x148001, x148002, x148003 => if x27 < x26 then (if 0 ≤ x27 then (if x27 < (x25.length : Int) then (if ((rd_L5 x25 x27).length : Int) > 200 then (some true) else ((chunk_Cutter_Write.f k x148000 x148001 x148002 x148003 (rd_L5 x25 x27)).bind fun bt149 => (if x6.length + bt149.1.length < 5864062014805 then ((some (x6 ++ bt149.1 : List (S55))).bind fun y156 => (if x7.size + (strOfNums (rd_L5 x25 x27)).size ≤ 9223372036854775807 then ((fascicleref22_All.f k x0 (x7 ++ (strOfNums (rd_L5 x25 x27)))).bind fun t159 => ((chunk_Cutter_At.f bt149.2.1 bt149.2.2.1 bt149.2.2.2.1 bt149.2.2.2.2).bind fun bt162 => ((fasciclelaw22_same.f k y156 t159).bind fun t168 => (if t168 = true then (if (mx 1 x0) = 0 then (none) else (if bt162.1 = (IntKind.u64.wrap (wrap64 (((x7 ++ (strOfNums (rd_L5 x25 x27))).size : Int) / (mx 1 x0)))) then (fasciclelaw22_ChunkParts.j2 k x0 y156 (x7 ++ (strOfNums (rd_L5 x25 x27))) t159 bt162.1 bt162.2.1 x25 x26 x27 (bt162.2.1 != (((x7 ++ (strOfNums (rd_L5 x25 x27))).size : Int) % (mx 1 x0))) bt162.2.2.1 bt162.2.2.2.1 bt162.2.2.2.2.1 bt162.2.2.2.2.2) else (fasciclelaw22_ChunkParts.j2 k x0 y156 (x7 ++ (strOfNums (rd_L5 x25 x27))) t159 bt162.1 bt162.2.1 x25 x26 x27 true bt162.2.2.1 bt162.2.2.2.1 bt162.2.2.2.2.1 bt162.2.2.2.2.2))) else (fasciclelaw22_ChunkParts.j2 k x0 y156 (x7 ++ (strOfNums (rd_L5 x25 x27))) t159 bt162.1 bt162.2.1 x25 x26 x27 true bt162.2.2.1 bt162.2.2.2.1 bt162.2.2.2.2.1 bt162.2.2.2.2.2))))) else (none))) else (none)))) else (none)) else (none)) else (some true)
def fasciclelaw22_ChunkParts.j2 : Nat → Int → List (S55) → ByteArray → List (S38) → Int → Int → List (List Int) → Int → Int → Bool → Int → Int → Int → Int → Option (Bool)
  | 0, _, _, _, _, _, _, _, _, _, _, _, _, _, _ => none
  | k + 1, x0, x6, x7, x10, x11, x12, x25, x26, x27, x73, x148000, x148001, x148002, x148003 => if x73 = true then (some false) else (if (x10.length : Int) > 0 then (if 0 ≤ (wrap64 ((x10.length : Int) - 1)) then (if (wrap64 ((x10.length : Int) - 1)) < (x10.length : Int) then (fasciclelaw22_ChunkParts.j3 k x0 x6 x7 x10 x12 x12 x25 x26 x27 (((rd_T38 x10 (wrap64 ((x10.length : Int) - 1))).f0) == x11) x148000 x148001 x148002 x148003) else (none)) else (none)) else (fasciclelaw22_ChunkParts.j3 k x0 x6 x7 x10 x12 x12 x25 x26 x27 false x148000 x148001 x148002 x148003))
def fasciclelaw22_ChunkParts.j3 : Nat → Int → List (S55) → ByteArray → List (S38) → Int → Int → List (List Int) → Int → Int → Bool → Int → Int → Int → Int → Option (Bool)
  | 0, _, _, _, _, _, _, _, _, _, _, _, _, _, _ => none
  | k + 1, x0, x6, x7, x10, x12, x14, x25, x26, x27, x88, x148000, x148001, x148002, x148003 => if x88 = true then (if 0 ≤ (wrap64 ((x10.length : Int) - 1)) then (if (wrap64 ((x10.length : Int) - 1)) < (x10.length : Int) then ((chunk_Cutter_Open.f x148000 x148001 x148002 x148003).bind fun bt171 => (if bt171.1 = (wrap64 ((wrap64 (x12 - ((rd_T38 x10 (wrap64 ((x10.length : Int) - 1))).f2))) - 1)) then (fasciclelaw22_ChunkParts.l0 k x0 x6 x7 x25 x26 (wrap64 (x27 + 1)) bt171.2.1 bt171.2.2.1 bt171.2.2.2.1 bt171.2.2.2.2) else (some false))) else (none)) else (none)) else ((chunk_Cutter_Open.f x148000 x148001 x148002 x148003).bind fun bt176 => (if bt176.1 = x14 then (fasciclelaw22_ChunkParts.l0 k x0 x6 x7 x25 x26 (wrap64 (x27 + 1)) bt176.2.1 bt176.2.2.1 bt176.2.2.2.1 bt176.2.2.2.2) else (some false)))
end
def fasciclelaw22_ChunkParts.f (k : Nat) (a0 : Int) (l1 : List (List Int)) : Option (Bool) := (fasciclelaw22_lives.f k).bind fun t141 => (if t141 = true then (fasciclelaw22_ChunkParts.j0 k a0 l1 (decide ((l1.length : Int) > 20))) else (fasciclelaw22_ChunkParts.j0 k a0 l1 true))
theorem fasciclelaw22_ChunkParts.mono_l : ∀ k, (∀ y0 y1 y2, LeO (fasciclelaw22_ChunkParts.j0 k y0 y1 y2) (fasciclelaw22_ChunkParts.j0 (k + 1) y0 y1 y2)) ∧ (∀ y0 y1 y2 y3 y4 y5 y6 y7 y8 y9, LeO (fasciclelaw22_ChunkParts.l0 k y0 y1 y2 y3 y4 y5 y6 y7 y8 y9) (fasciclelaw22_ChunkParts.l0 (k + 1) y0 y1 y2 y3 y4 y5 y6 y7 y8 y9)) ∧ (∀ y0 y1 y2 y3 y4 y5 y6 y7 y8 y9 y10 y11 y12 y13, LeO (fasciclelaw22_ChunkParts.j2 k y0 y1 y2 y3 y4 y5 y6 y7 y8 y9 y10 y11 y12 y13) (fasciclelaw22_ChunkParts.j2 (k + 1) y0 y1 y2 y3 y4 y5 y6 y7 y8 y9 y10 y11 y12 y13)) ∧ (∀ y0 y1 y2 y3 y4 y5 y6 y7 y8 y9 y10 y11 y12 y13, LeO (fasciclelaw22_ChunkParts.j3 k y0 y1 y2 y3 y4 y5 y6 y7 y8 y9 y10 y11 y12 y13) (fasciclelaw22_ChunkParts.j3 (k + 1) y0 y1 y2 y3 y4 y5 y6 y7 y8 y9 y10 y11 y12 y13))
  | 0 => ⟨fun _ _ _ r h => by simp [fasciclelaw22_ChunkParts.j0] at h, fun _ _ _ _ _ _ _ _ _ _ r h => by simp [fasciclelaw22_ChunkParts.l0] at h, fun _ _ _ _ _ _ _ _ _ _ _ _ _ _ r h => by simp [fasciclelaw22_ChunkParts.j2] at h, fun _ _ _ _ _ _ _ _ _ _ _ _ _ _ r h => by simp [fasciclelaw22_ChunkParts.j3] at h⟩
  | k + 1 => by
    obtain ⟨ih0, ih1, ih2, ih3⟩ := fasciclelaw22_ChunkParts.mono_l k
    refine ⟨?_, ?_, ?_, ?_⟩
    · intro y0 y1 y2
      unfold fasciclelaw22_ChunkParts.j0
      repeat' first
      | (with_reducible exact ih0 _ _ _)
      | (with_reducible exact ih1 _ _ _ _ _ _ _ _ _ _)
      | (with_reducible exact ih2 _ _ _ _ _ _ _ _ _ _ _ _ _ _)
      | (with_reducible exact ih3 _ _ _ _ _ _ _ _ _ _ _ _ _ _)
      | (with_reducible exact chunk_Cutter_Write.mono _ _ _ _ _ _)
      | (with_reducible exact fasciclelaw22_lives.mono _)
      | (with_reducible exact fasciclelaw22_same.mono _ _ _)
      | (with_reducible exact fascicleref22_All.mono _ _ _)
      | (with_reducible exact LeO.refl _)
      | (with_reducible exact LeO.none _)
      | (with_reducible refine LeO.ite ?_ ?_)
      | (with_reducible refine LeO.bind ?_ (fun _ => ?_))
      | exact ih0 _ _ _
      | exact ih1 _ _ _ _ _ _ _ _ _ _
      | exact ih2 _ _ _ _ _ _ _ _ _ _ _ _ _ _
      | exact ih3 _ _ _ _ _ _ _ _ _ _ _ _ _ _
      | exact chunk_Cutter_Write.mono _ _ _ _ _ _
      | exact fasciclelaw22_lives.mono _
      | exact fasciclelaw22_same.mono _ _ _
      | exact fascicleref22_All.mono _ _ _
      | exact LeO.none _
      | refine LeO.ite ?_ ?_
      | refine LeO.bind ?_ (fun _ => ?_)
    · intro y0 y1 y2 y3 y4 y5 y6 y7 y8 y9
      unfold fasciclelaw22_ChunkParts.l0
      repeat' first
      | (with_reducible exact ih0 _ _ _)
      | (with_reducible exact ih1 _ _ _ _ _ _ _ _ _ _)
      | (with_reducible exact ih2 _ _ _ _ _ _ _ _ _ _ _ _ _ _)
      | (with_reducible exact ih3 _ _ _ _ _ _ _ _ _ _ _ _ _ _)
      | (with_reducible exact chunk_Cutter_Write.mono _ _ _ _ _ _)
      | (with_reducible exact fasciclelaw22_lives.mono _)
      | (with_reducible exact fasciclelaw22_same.mono _ _ _)
      | (with_reducible exact fascicleref22_All.mono _ _ _)
      | (with_reducible exact LeO.refl _)
      | (with_reducible exact LeO.none _)
      | (with_reducible refine LeO.ite ?_ ?_)
      | (with_reducible refine LeO.bind ?_ (fun _ => ?_))
      | exact ih0 _ _ _
      | exact ih1 _ _ _ _ _ _ _ _ _ _
      | exact ih2 _ _ _ _ _ _ _ _ _ _ _ _ _ _
      | exact ih3 _ _ _ _ _ _ _ _ _ _ _ _ _ _
      | exact chunk_Cutter_Write.mono _ _ _ _ _ _
      | exact fasciclelaw22_lives.mono _
      | exact fasciclelaw22_same.mono _ _ _
      | exact fascicleref22_All.mono _ _ _
      | exact LeO.none _
      | refine LeO.ite ?_ ?_
      | refine LeO.bind ?_ (fun _ => ?_)
    · intro y0 y1 y2 y3 y4 y5 y6 y7 y8 y9 y10 y11 y12 y13
      unfold fasciclelaw22_ChunkParts.j2
      repeat' first
      | (with_reducible exact ih0 _ _ _)
      | (with_reducible exact ih1 _ _ _ _ _ _ _ _ _ _)
      | (with_reducible exact ih2 _ _ _ _ _ _ _ _ _ _ _ _ _ _)
      | (with_reducible exact ih3 _ _ _ _ _ _ _ _ _ _ _ _ _ _)
      | (with_reducible exact chunk_Cutter_Write.mono _ _ _ _ _ _)
      | (with_reducible exact fasciclelaw22_lives.mono _)
      | (with_reducible exact fasciclelaw22_same.mono _ _ _)
      | (with_reducible exact fascicleref22_All.mono _ _ _)
      | (with_reducible exact LeO.refl _)
      | (with_reducible exact LeO.none _)
      | (with_reducible refine LeO.ite ?_ ?_)
      | (with_reducible refine LeO.bind ?_ (fun _ => ?_))
      | exact ih0 _ _ _
      | exact ih1 _ _ _ _ _ _ _ _ _ _
      | exact ih2 _ _ _ _ _ _ _ _ _ _ _ _ _ _
      | exact ih3 _ _ _ _ _ _ _ _ _ _ _ _ _ _
      | exact chunk_Cutter_Write.mono _ _ _ _ _ _
      | exact fasciclelaw22_lives.mono _
      | exact fasciclelaw22_same.mono _ _ _
      | exact fascicleref22_All.mono _ _ _
      | exact LeO.none _
      | refine LeO.ite ?_ ?_
      | refine LeO.bind ?_ (fun _ => ?_)
    · intro y0 y1 y2 y3 y4 y5 y6 y7 y8 y9 y10 y11 y12 y13
      unfold fasciclelaw22_ChunkParts.j3
      repeat' first
      | (with_reducible exact ih0 _ _ _)
      | (with_reducible exact ih1 _ _ _ _ _ _ _ _ _ _)
      | (with_reducible exact ih2 _ _ _ _ _ _ _ _ _ _ _ _ _ _)
      | (with_reducible exact ih3 _ _ _ _ _ _ _ _ _ _ _ _ _ _)
      | (with_reducible exact chunk_Cutter_Write.mono _ _ _ _ _ _)
      | (with_reducible exact fasciclelaw22_lives.mono _)
      | (with_reducible exact fasciclelaw22_same.mono _ _ _)
      | (with_reducible exact fascicleref22_All.mono _ _ _)
      | (with_reducible exact LeO.refl _)
      | (with_reducible exact LeO.none _)
      | (with_reducible refine LeO.ite ?_ ?_)
      | (with_reducible refine LeO.bind ?_ (fun _ => ?_))
      | exact ih0 _ _ _
      | exact ih1 _ _ _ _ _ _ _ _ _ _
      | exact ih2 _ _ _ _ _ _ _ _ _ _ _ _ _ _
      | exact ih3 _ _ _ _ _ _ _ _ _ _ _ _ _ _
      | exact chunk_Cutter_Write.mono _ _ _ _ _ _
      | exact fasciclelaw22_lives.mono _
      | exact fasciclelaw22_same.mono _ _ _
      | exact fascicleref22_All.mono _ _ _
      | exact LeO.none _
      | refine LeO.ite ?_ ?_
      | refine LeO.bind ?_ (fun _ => ?_)
theorem fasciclelaw22_ChunkParts.mono : ∀ a0 a1 k, LeO (fasciclelaw22_ChunkParts.f k a0 a1) (fasciclelaw22_ChunkParts.f (k + 1) a0 a1) := by
  intro a0 a1 k
  obtain ⟨ih0, ih1, ih2, ih3⟩ := fasciclelaw22_ChunkParts.mono_l k
  unfold fasciclelaw22_ChunkParts.f
  repeat' first
      | (with_reducible exact ih0 _ _ _)
      | (with_reducible exact ih1 _ _ _ _ _ _ _ _ _ _)
      | (with_reducible exact ih2 _ _ _ _ _ _ _ _ _ _ _ _ _ _)
      | (with_reducible exact ih3 _ _ _ _ _ _ _ _ _ _ _ _ _ _)
      | (with_reducible exact chunk_Cutter_Write.mono _ _ _ _ _ _)
      | (with_reducible exact fasciclelaw22_lives.mono _)
      | (with_reducible exact fasciclelaw22_same.mono _ _ _)
      | (with_reducible exact fascicleref22_All.mono _ _ _)
      | (with_reducible exact LeO.refl _)
      | (with_reducible exact LeO.none _)
      | (with_reducible refine LeO.ite ?_ ?_)
      | (with_reducible refine LeO.bind ?_ (fun _ => ?_))
      | exact ih0 _ _ _
      | exact ih1 _ _ _ _ _ _ _ _ _ _
      | exact ih2 _ _ _ _ _ _ _ _ _ _ _ _ _ _
      | exact ih3 _ _ _ _ _ _ _ _ _ _ _ _ _ _
      | exact chunk_Cutter_Write.mono _ _ _ _ _ _
      | exact fasciclelaw22_lives.mono _
      | exact fasciclelaw22_same.mono _ _ _
      | exact fascicleref22_All.mono _ _ _
      | exact LeO.none _
      | refine LeO.ite ?_ ?_
      | refine LeO.bind ?_ (fun _ => ?_)
set_option maxHeartbeats 8000000 in
set_option maxRecDepth 100000 in
theorem fasciclelaw22_ChunkParts.calls (k : Nat) (a0 : Int) (A1 : Option Addr) (c1 : Nat) (l1 : List (List Int)) (r : Bool) (w : World) (hr1 : Kd.C (Kd.slice 5 (Kd.int .u8)) w A1 l1.length l1) (hc1 : l1.length ≤ c1) (h : fasciclelaw22_ChunkParts.f k a0 l1 = some r) :
    Calls Try.prog 4 #[.int .i64 a0, .slice A1 l1.length c1] w fun e w' => e = .returned (.bool r) ∧ Below w.heap.size w w' := by
  have HR1 := Aside0.mk hr1
  have HC1 := Aside0.mk hc1
  clear hr1 hc1
  have HB := Aside0.mk (Below.refl w.heap.size w)
  have H : ((fasciclelaw22_lives.f k).bind fun t141 => (if t141 = true then (fasciclelaw22_ChunkParts.j0 k a0 l1 (decide ((l1.length : Int) > 20))) else (fasciclelaw22_ChunkParts.j0 k a0 l1 true))) = some r := h
  clear h
  have HC3 := Aside0.mk H
  clear H
  go_enter Try.func4, Try.ntmps4
  go_upto_region 1 with (fail)
  go_cut [21] (fun v21 wc => ∃ (kq : Nat) (x21_2 : Bool), v21 = .bool x21_2 ∧ Aside0 (fasciclelaw22_ChunkParts.j0 kq a0 l1 x21_2 = some r) ∧ Aside0 (kq ≤ k) ∧ Aside0 (Below w.heap.size w wc))
  case first =>
    have H := HC3.out
    clear HC3
    replace H := Option.bind_eq_some_iff.mp H
    obtain ⟨t141, A40, H⟩ := H
    replace H : (if t141 = true then (fasciclelaw22_ChunkParts.j0 k a0 l1 (decide ((l1.length : Int) > 20))) else (fasciclelaw22_ChunkParts.j0 k a0 l1 true)) = some r := H
    have A4 := Aside0.mk A40
    clear A40
    by_cases c5 : t141 = true
    · subst c5
      have H1 : (fasciclelaw22_ChunkParts.j0 k a0 l1 (decide ((l1.length : Int) > 20))) = some r := by rw [if_pos rfl] at H; exact H
      clear H
      have H := H1
      clear H1
      have H' := Aside0.mk H
      clear H
      go_wp2_with (first | ((with_reducible refine gate_callee (f := 14) rfl ?_); refine goesL_ (some 15) rfl rfl Try.func14 (by kernel_rfl) rfl #[] rfl (by (try simp only [List.map_toArray, List.map_cons, List.map_nil]); first | done | rfl | (simp only [List.length_drop, List.length_take]; rfl)) ?_; (with_reducible refine (fasciclelaw22_lives.calls k  true _ A4.out).mono ?_); rintro e w6 ⟨rfl, hb⟩; refine ⟨_, rfl, ?_⟩; have n0_ := Aside0.mk (below_step (by repeat (first | (with_reducible first | exact HB.out | apply below_alloc | apply pw_below_drewN | apply below_drew1) | exact HB.out)) hb); clear HB; have HB := n0_; clear n0_; (try clear hb); (try clear hb2); (try clear hk); (try clear hi)))
      go_meet
      case rel => exact ⟨_, (decide ((l1.length : Int) > 20)), (by first | rfl | (simp; done) | (simp [*]; done)), H', ⟨by first | omega | exact Nat.le_refl _⟩, ⟨by repeat (first | (with_reducible first | exact HB.out | apply below_alloc | apply pw_below_drewN | apply below_drew1) | exact HB.out)⟩⟩
    · replace c5 := Bool.eq_false_iff.mpr c5
      subst c5
      have H1 : (fasciclelaw22_ChunkParts.j0 k a0 l1 true) = some r := by rw [if_neg (show ¬ (false = true) by decide)] at H; exact H
      clear H
      have H := H1
      clear H1
      have H' := Aside0.mk H
      clear H
      go_wp2_with (first | ((with_reducible refine gate_callee (f := 14) rfl ?_); refine goesL_ (some 15) rfl rfl Try.func14 (by kernel_rfl) rfl #[] rfl (by (try simp only [List.map_toArray, List.map_cons, List.map_nil]); first | done | rfl | (simp only [List.length_drop, List.length_take]; rfl)) ?_; (with_reducible refine (fasciclelaw22_lives.calls k  false _ A4.out).mono ?_); rintro e w7 ⟨rfl, hb⟩; refine ⟨_, rfl, ?_⟩; have n0_ := Aside0.mk (below_step (by repeat (first | (with_reducible first | exact HB.out | apply below_alloc | apply pw_below_drewN | apply below_drew1) | exact HB.out)) hb); clear HB; have HB := n0_; clear n0_; (try clear hb); (try clear hb2); (try clear hk); (try clear hi)))
      go_meet
      case rel => exact ⟨_, (true), (by first | rfl | (simp; done) | (simp [*]; done)), H', ⟨by first | omega | exact Nat.le_refl _⟩, ⟨by repeat (first | (with_reducible first | exact HB.out | apply below_alloc | apply pw_below_drewN | apply below_drew1) | exact HB.out)⟩⟩
  case rest =>
    clear HC3
    try clear c1
    try clear p2
    try clear c4
    try clear c5
    obtain ⟨kq, x21_2, rfl, HA, HJ2, HB⟩ := hcut
    cases kq with
    | zero => exact absurd HA.out (by simp [fasciclelaw22_ChunkParts.j0])
    | succ kj2 =>
      have H := HA.out
      clear HA
      simp only [fasciclelaw22_ChunkParts.j0] at H
      by_cases c8 : x21_2 = true
      · subst c8
        have H1 : ((fasciclelaw22_lives.f kj2).bind fun t142 => (some t142)) = some r := by rw [if_pos rfl] at H; exact H
        clear H
        have H := H1
        clear H1
        replace H := Option.bind_eq_some_iff.mp H
        obtain ⟨t142, A90, H⟩ := H
        replace H : (some t142) = some r := H
        have A9 := Aside0.mk A90
        clear A90
        obtain rfl := Option.some.inj H
        go_wp2_with (first | ((with_reducible refine gate_callee (f := 14) rfl ?_); refine goesL_ (some 22) rfl rfl Try.func14 (by kernel_rfl) rfl #[] rfl (by (try simp only [List.map_toArray, List.map_cons, List.map_nil]); first | done | rfl | (simp only [List.length_drop, List.length_take]; rfl)) ?_; (with_reducible refine (fasciclelaw22_lives.calls kj2  t142 _ A9.out).mono ?_); rintro e w10 ⟨rfl, hb⟩; refine ⟨_, rfl, ?_⟩; have n0_ := Aside0.mk (below_step (by repeat (first | (with_reducible first | exact HB.out | apply below_alloc | apply pw_below_drewN | apply below_drew1) | exact HB.out)) hb); clear HB; have HB := n0_; clear n0_; (try clear hb); (try clear hb2); (try clear hk); (try clear hi)))
        go_ret
        exact ⟨by first | rfl | (simp [errW_none, errW_some] <;> rfl) | (simp [*, errW_none, errW_some] <;> rfl), by repeat (first | (with_reducible first | exact HB.out | apply below_alloc | apply pw_below_drewN | apply below_drew1) | exact HB.out)⟩
      · replace c8 := Bool.eq_false_iff.mpr c8
        subst c8
        have H1 : ((chunk_New.f a0).bind fun bt143 => (fasciclelaw22_ChunkParts.l0 kj2 a0 ([] : List (S55)) (⟨#[]⟩ : ByteArray) l1 (l1.length : Int) 0 bt143.1 bt143.2.1 bt143.2.2.1 bt143.2.2.2)) = some r := by rw [if_neg (show ¬ (false = true) by decide)] at H; exact H
        clear H
        have H := H1
        clear H1
        replace H := Option.bind_eq_some_iff.mp H
        obtain ⟨⟨t143, t144, t145, t146⟩, A110, H⟩ := H
        replace H : (fasciclelaw22_ChunkParts.l0 kj2 a0 ([] : List (S55)) (⟨#[]⟩ : ByteArray) l1 (l1.length : Int) 0 t143 t144 t145 t146) = some r := H
        have A11 := Aside0.mk A110
        clear A110
        have H' := Aside0.mk H
        clear H
        go_wp2_with (first | ((with_reducible refine gate_callee (f := 18) rfl ?_); refine goesL_ (some 24) rfl rfl Try.func18 (by kernel_rfl) rfl #[.int .i64 a0] rfl (by (try simp only [List.map_toArray, List.map_cons, List.map_nil]); first | done | rfl | (simp only [List.length_drop, List.length_take]; rfl)) ?_; (with_reducible refine (chunk_New.calls a0 t143 t144 t145 t146 w _ ?side1 A11.out).mono ?_); (case side1 => repeat (first | (with_reducible first | exact HB.out | apply below_alloc | apply pw_below_drewN | apply below_drew1) | exact HB.out)); rintro e w12 ⟨g147, rfl, hi, hb, hb2⟩; refine ⟨_, rfl, ?_⟩; have n0_ := Aside0.mk (hb); have n1_ := Aside0.mk (hi); clear HB; have HB := n0_; have HI147 := n1_; clear n0_ n1_; (try clear hb); (try clear hb2); (try clear hk); (try clear hi)))
        go_loopg [6, 7, 27] kj2 (fun kq v6 v7 v27 w' => ∃ (x6_2 : List (S55)) (x7_2 : ByteArray) (x27_2 : Int) (x148000_2 : Int) (x148001_2 : Int) (x148002_2 : Int) (x148003_2 : Int), v7 = .string x7_2 ∧ v27 = .int .i64 x27_2 ∧ Aside0 (fasciclelaw22_ChunkParts.l0 kq a0 x6_2 x7_2 l1 (l1.length : Int) x27_2 x148000_2 x148001_2 x148002_2 x148003_2 = some r) ∧ Aside0 (kq ≤ kj2) ∧ Aside0 (Kd.R k55 55 w' w.heap.size (fun _ => True) v6 x6_2) ∧ Aside0 (IsS82 w w' g147 x148000_2 x148001_2 x148002_2 x148003_2) ∧ Aside0 (Below w.heap.size w w'))
        case atStart => exact ⟨(([] : List (S55))), ((⟨#[]⟩ : ByteArray)), (0), (t143), (t144), (t145), (t146), (by first | rfl | (simp; done) | (simp [*]; done)), (by first | rfl | (simp; done) | (simp [*]; done)), H', ⟨Nat.le_refl _⟩, ⟨by first | exact Kd.R_nil _ _ _ _ _ | exact Kd.N_nil _ _ _ _ _ | exact Kd.V_nil _ _ _ _ _ | exact Kd.Q_nil _ _ _ _ _ | exact Kd.S_nil _ _ _ _ _⟩, ⟨by repeat (first | (with_reducible first | exact HI147.out | apply IsS82.alloc | apply IsS82.drewN | apply IsS82.drew | apply IsS82.set_0 | apply IsS82.set_1 | apply IsS82.set_2 | apply IsS82.set_3) | exact HI147.out)⟩, ⟨by repeat (first | (with_reducible first | exact HB.out | apply below_alloc | apply pw_below_drewN | apply below_drew1 | refine below_set ?_ (IsS82.ge HI147.out)) | exact HB.out)⟩⟩
        case round =>
          clear H'
          try clear c1
          try clear p2
          try clear c4
          try clear c5
          try clear c8
          try clear p2
          obtain ⟨x6_2, x7_2, x27_2, x148000_2, x148001_2, x148002_2, x148003_2, rfl, rfl, HA, HK2, HO_6, HI147, HB⟩ := hrel
          cases gk with
          | zero => exact absurd HA.out (by simp [fasciclelaw22_ChunkParts.l0])
          | succ k2 =>
            have H := HA.out
            clear HA
            simp only [fasciclelaw22_ChunkParts.l0] at H
            by_cases c13 : x27_2 < (l1.length : Int)
            · rw [if_pos c13] at H
              have c13b0 : decide (x27_2 < (l1.length : Int)) = true := decide_eq_true c13
              clear c13
              by_cases c14 : 0 ≤ x27_2
              · rw [if_pos c14] at H
                have c14b0 : decide (0 ≤ x27_2) = true := decide_eq_true c14
                clear c14
                by_cases c15 : x27_2 < (l1.length : Int)
                · rw [if_pos c15] at H
                  have c15b0 : decide (x27_2 < (l1.length : Int)) = true := decide_eq_true c15
                  clear c15
                  by_cases c16 : ((rd_L5 l1 x27_2).length : Int) > 200
                  · rw [if_pos c16] at H
                    have c16b0 : decide (200 < ((rd_L5 l1 x27_2).length : Int)) = true := decide_eq_true c16
                    have c16b1 : decide (200 < (rd_L5 l1 x27_2).length) = true := decide_eq_true (by omega)
                    clear c16
                    obtain rfl := Option.some.inj H
                    have p148 : 0 ≤ (x27_2 : Int) := of_decide_eq_true (by first | (with_reducible assumption) | assumption)
                    have q148 : x27_2 < (l1.length : Int) := of_decide_eq_true (by first | (with_reducible assumption) | assumption)
                    obtain ⟨ad148, A148_0, c148_0, e148, hx148_0, hl148_0, hi148_0⟩ := at_L5 HR1.out x27_2 p148 q148
                    cases e148
                    replace hx148_0 := (HB.out.cell (World.block_lt_of_cell? w _ hx148_0)).trans hx148_0
                    have HR148_0 := Aside0.mk hi148_0
                    have HC148_0 := Aside0.mk hl148_0
                    clear hi148_0 hl148_0
                    replace p148 := eq_true p148
                    replace q148 := eq_true q148
                    go_wp2
                    go_ret
                    exact ⟨by first | rfl | (simp [errW_none, errW_some] <;> rfl) | (simp [*, errW_none, errW_some] <;> rfl), by repeat (first | (with_reducible first | exact HB.out | apply below_alloc | apply pw_below_drewN | apply below_drew1 | refine below_set ?_ (IsS82.ge HI147.out)) | exact HB.out)⟩
                  · rw [if_neg c16] at H
                    have c16b0 : decide (200 < ((rd_L5 l1 x27_2).length : Int)) = false := decide_eq_false c16
                    have c16b1 : decide (200 < (rd_L5 l1 x27_2).length) = false := decide_eq_false (by omega)
                    clear c16
                    replace H := Option.bind_eq_some_iff.mp H
                    obtain ⟨⟨t149, t152, t153, t154, t155⟩, A170, H⟩ := H
                    replace H : (if x6_2.length + t149.length < 5864062014805 then ((some (x6_2 ++ t149 : List (S55))).bind fun y156 => (if x7_2.size + (strOfNums (rd_L5 l1 x27_2)).size ≤ 9223372036854775807 then ((fascicleref22_All.f k2 a0 (x7_2 ++ (strOfNums (rd_L5 l1 x27_2)))).bind fun t159 => ((chunk_Cutter_At.f t152 t153 t154 t155).bind fun bt162 => ((fasciclelaw22_same.f k2 y156 t159).bind fun t168 => (if t168 = true then (if (mx 1 a0) = 0 then (none) else (if bt162.1 = (IntKind.u64.wrap (wrap64 (((x7_2 ++ (strOfNums (rd_L5 l1 x27_2))).size : Int) / (mx 1 a0)))) then (fasciclelaw22_ChunkParts.j2 k2 a0 y156 (x7_2 ++ (strOfNums (rd_L5 l1 x27_2))) t159 bt162.1 bt162.2.1 l1 (l1.length : Int) x27_2 (bt162.2.1 != (((x7_2 ++ (strOfNums (rd_L5 l1 x27_2))).size : Int) % (mx 1 a0))) bt162.2.2.1 bt162.2.2.2.1 bt162.2.2.2.2.1 bt162.2.2.2.2.2) else (fasciclelaw22_ChunkParts.j2 k2 a0 y156 (x7_2 ++ (strOfNums (rd_L5 l1 x27_2))) t159 bt162.1 bt162.2.1 l1 (l1.length : Int) x27_2 true bt162.2.2.1 bt162.2.2.2.1 bt162.2.2.2.2.1 bt162.2.2.2.2.2))) else (fasciclelaw22_ChunkParts.j2 k2 a0 y156 (x7_2 ++ (strOfNums (rd_L5 l1 x27_2))) t159 bt162.1 bt162.2.1 l1 (l1.length : Int) x27_2 true bt162.2.2.1 bt162.2.2.2.1 bt162.2.2.2.2.1 bt162.2.2.2.2.2))))) else (none))) else (none)) = some r := H
                    have A17 := Aside0.mk A170
                    clear A170
                    by_cases c18 : x6_2.length + t149.length < 5864062014805
                    · rw [if_pos c18] at H
                      have LMc18 := Aside0.mk c18
                      clear c18
                      obtain ⟨y156, hy156⟩ : ∃ y_ : List (S55), y_ = (x6_2 ++ t149) := ⟨_, rfl⟩
                      replace H : (if x7_2.size + (strOfNums (rd_L5 l1 x27_2)).size ≤ 9223372036854775807 then ((fascicleref22_All.f k2 a0 (x7_2 ++ (strOfNums (rd_L5 l1 x27_2)))).bind fun t159 => ((chunk_Cutter_At.f t152 t153 t154 t155).bind fun bt162 => ((fasciclelaw22_same.f k2 y156 t159).bind fun t168 => (if t168 = true then (if (mx 1 a0) = 0 then (none) else (if bt162.1 = (IntKind.u64.wrap (wrap64 (((x7_2 ++ (strOfNums (rd_L5 l1 x27_2))).size : Int) / (mx 1 a0)))) then (fasciclelaw22_ChunkParts.j2 k2 a0 y156 (x7_2 ++ (strOfNums (rd_L5 l1 x27_2))) t159 bt162.1 bt162.2.1 l1 (l1.length : Int) x27_2 (bt162.2.1 != (((x7_2 ++ (strOfNums (rd_L5 l1 x27_2))).size : Int) % (mx 1 a0))) bt162.2.2.1 bt162.2.2.2.1 bt162.2.2.2.2.1 bt162.2.2.2.2.2) else (fasciclelaw22_ChunkParts.j2 k2 a0 y156 (x7_2 ++ (strOfNums (rd_L5 l1 x27_2))) t159 bt162.1 bt162.2.1 l1 (l1.length : Int) x27_2 true bt162.2.2.1 bt162.2.2.2.1 bt162.2.2.2.2.1 bt162.2.2.2.2.2))) else (fasciclelaw22_ChunkParts.j2 k2 a0 y156 (x7_2 ++ (strOfNums (rd_L5 l1 x27_2))) t159 bt162.1 bt162.2.1 l1 (l1.length : Int) x27_2 true bt162.2.2.1 bt162.2.2.2.1 bt162.2.2.2.2.1 bt162.2.2.2.2.2))))) else (none)) = some r := by first | (rw [hy156]; with_reducible exact H) | (have H2_ := (Option.bind_some _ _).symm.trans H; rw [hy156]; with_reducible exact H2_) | (have H2_ := (Option.bind_some _ _).symm.trans H; with_reducible exact H2_) | with_reducible exact H | (rw [hy156]; exact H) | exact H
                      have Ny156 := Aside0.mk hy156
                      clear hy156
                      by_cases c19 : x7_2.size + (strOfNums (rd_L5 l1 x27_2)).size ≤ 9223372036854775807
                      · rw [if_pos c19] at H
                        have c19b0 := eq_true c19
                        have c19b1 : decide (x7_2.size + (strOfNums (rd_L5 l1 x27_2)).size ≤ 9223372036854775807) = true := decide_eq_true c19
                        try have c19b2 : (9223372036854775807 < x7_2.size + (strOfNums (rd_L5 l1 x27_2)).size) = False := eq_false (Nat.not_lt.2 c19)
                        replace H := Option.bind_eq_some_iff.mp H
                        obtain ⟨t159, A200, H⟩ := H
                        replace H : ((chunk_Cutter_At.f t152 t153 t154 t155).bind fun bt162 => ((fasciclelaw22_same.f k2 y156 t159).bind fun t168 => (if t168 = true then (if (mx 1 a0) = 0 then (none) else (if bt162.1 = (IntKind.u64.wrap (wrap64 (((x7_2 ++ (strOfNums (rd_L5 l1 x27_2))).size : Int) / (mx 1 a0)))) then (fasciclelaw22_ChunkParts.j2 k2 a0 y156 (x7_2 ++ (strOfNums (rd_L5 l1 x27_2))) t159 bt162.1 bt162.2.1 l1 (l1.length : Int) x27_2 (bt162.2.1 != (((x7_2 ++ (strOfNums (rd_L5 l1 x27_2))).size : Int) % (mx 1 a0))) bt162.2.2.1 bt162.2.2.2.1 bt162.2.2.2.2.1 bt162.2.2.2.2.2) else (fasciclelaw22_ChunkParts.j2 k2 a0 y156 (x7_2 ++ (strOfNums (rd_L5 l1 x27_2))) t159 bt162.1 bt162.2.1 l1 (l1.length : Int) x27_2 true bt162.2.2.1 bt162.2.2.2.1 bt162.2.2.2.2.1 bt162.2.2.2.2.2))) else (fasciclelaw22_ChunkParts.j2 k2 a0 y156 (x7_2 ++ (strOfNums (rd_L5 l1 x27_2))) t159 bt162.1 bt162.2.1 l1 (l1.length : Int) x27_2 true bt162.2.2.1 bt162.2.2.2.1 bt162.2.2.2.2.1 bt162.2.2.2.2.2)))) = some r := H
                        have A20 := Aside0.mk A200
                        clear A200
                        replace H := Option.bind_eq_some_iff.mp H
                        obtain ⟨⟨t162, t163, t164, t165, t166, t167⟩, A210, H⟩ := H
                        replace H : ((fasciclelaw22_same.f k2 y156 t159).bind fun t168 => (if t168 = true then (if (mx 1 a0) = 0 then (none) else (if t162 = (IntKind.u64.wrap (wrap64 (((x7_2 ++ (strOfNums (rd_L5 l1 x27_2))).size : Int) / (mx 1 a0)))) then (fasciclelaw22_ChunkParts.j2 k2 a0 y156 (x7_2 ++ (strOfNums (rd_L5 l1 x27_2))) t159 t162 t163 l1 (l1.length : Int) x27_2 (t163 != (((x7_2 ++ (strOfNums (rd_L5 l1 x27_2))).size : Int) % (mx 1 a0))) t164 t165 t166 t167) else (fasciclelaw22_ChunkParts.j2 k2 a0 y156 (x7_2 ++ (strOfNums (rd_L5 l1 x27_2))) t159 t162 t163 l1 (l1.length : Int) x27_2 true t164 t165 t166 t167))) else (fasciclelaw22_ChunkParts.j2 k2 a0 y156 (x7_2 ++ (strOfNums (rd_L5 l1 x27_2))) t159 t162 t163 l1 (l1.length : Int) x27_2 true t164 t165 t166 t167))) = some r := H
                        have A21 := Aside0.mk A210
                        clear A210
                        obtain ⟨ji22, hji22⟩ : ∃ j_ : Int, (mx 1 a0) = j_ := ⟨_, rfl⟩
                        replace H : ((fasciclelaw22_same.f k2 y156 t159).bind fun t168 => (if t168 = true then (if (ji22) = 0 then (none) else (if t162 = (IntKind.u64.wrap (wrap64 (((x7_2 ++ (strOfNums (rd_L5 l1 x27_2))).size : Int) / (ji22)))) then (fasciclelaw22_ChunkParts.j2 k2 a0 y156 (x7_2 ++ (strOfNums (rd_L5 l1 x27_2))) t159 t162 t163 l1 (l1.length : Int) x27_2 (t163 != (((x7_2 ++ (strOfNums (rd_L5 l1 x27_2))).size : Int) % (ji22))) t164 t165 t166 t167) else (fasciclelaw22_ChunkParts.j2 k2 a0 y156 (x7_2 ++ (strOfNums (rd_L5 l1 x27_2))) t159 t162 t163 l1 (l1.length : Int) x27_2 true t164 t165 t166 t167))) else (fasciclelaw22_ChunkParts.j2 k2 a0 y156 (x7_2 ++ (strOfNums (rd_L5 l1 x27_2))) t159 t162 t163 l1 (l1.length : Int) x27_2 true t164 t165 t166 t167))) = some r := by first | (rw [hji22] at H; exact H) | (simp only [hji22] at H ⊢; exact H)
                        (try rw [hji22] at A17)
                        (try rw [hji22] at A20)
                        (try rw [hji22] at A21)
                        (try (have hji22l : 1 ≤ ji22 := by (rw [← hji22]; unfold mx; (repeat' split) <;> omega)))
                        (try (have hji22m : 0 ≤ ji22 := by omega))
                        have hji22_ : (if 1 < a0 then a0 else 1) = ji22 := hji22
                        have HC23 := Aside0.mk H
                        clear H
                        have p148 : 0 ≤ (x27_2 : Int) := of_decide_eq_true (by first | (with_reducible assumption) | assumption)
                        have q148 : x27_2 < (l1.length : Int) := of_decide_eq_true (by first | (with_reducible assumption) | assumption)
                        obtain ⟨ad148, A148_0, c148_0, e148, hx148_0, hl148_0, hi148_0⟩ := at_L5 HR1.out x27_2 p148 q148
                        cases e148
                        replace hx148_0 := (HB.out.cell (World.block_lt_of_cell? w _ hx148_0)).trans hx148_0
                        have HR148_0 := Aside0.mk hi148_0
                        have HC148_0 := Aside0.mk hl148_0
                        clear hi148_0 hl148_0
                        replace p148 := eq_true p148
                        replace q148 := eq_true q148
                        go_upto_region 16 with (first | ((with_reducible refine gate_callee (f := 19) rfl ?_); refine goesL_ (some 37) rfl rfl Try.func19 (by kernel_rfl) rfl #[.pointer (some ⟨g147, 0, none⟩), .slice A148_0 (rd_L5 l1 x27_2).length c148_0] rfl (by (try simp only [List.map_toArray, List.map_cons, List.map_nil]); first | done | rfl | (simp only [List.length_drop, List.length_take]; rfl)) ?_; (with_reducible refine (chunk_Cutter_Write.calls k2 g147 x148000_2 x148001_2 x148002_2 x148003_2 _ _ (rd_L5 l1 x27_2) t149 t152 t153 t154 t155 w _ ?side1 ?side2 ?side3 ?side4 ?side5 A17.out).mono ?_); (case side1 => repeat (first | (with_reducible first | exact HI147.out | apply IsS82.alloc | apply IsS82.drewN | apply IsS82.drew | apply IsS82.set_0 | apply IsS82.set_1 | apply IsS82.set_2 | apply IsS82.set_3) | exact HI147.out)); (case side2 => repeat (first | (with_reducible first | exact HB.out | apply below_alloc | apply pw_below_drewN | apply below_drew1 | refine below_set ?_ (IsS82.ge HI147.out)) | exact HB.out)); (case side3 => repeat (first | exact (Kd.C_below HR148_0.out HB.out) | (with_reducible refine Kd.C_alloc ?_ _) | (with_reducible refine Kd.C_drewN ?_ _) | (with_reducible refine Kd.C_drew ?_))); (case side4 => exact HC148_0.out); (case side5 => exact Kd.far_C 0 HR148_0.out (IsS82.ge HI147.out)); rintro e w24 ⟨v150, rfl, ho0, hi, hb, hk⟩; refine ⟨_, rfl, ?_⟩; have n0_ := Aside0.mk (Kd.R_mono (Kd.R_told (Kd.R_oldK (IsS82.apart (show IsS82 w _ g147 x148000_2 x148001_2 x148002_2 x148003_2 from by repeat (first | (with_reducible first | exact HI147.out | apply IsS82.alloc | apply IsS82.drewN | apply IsS82.drew | apply IsS82.set_0 | apply IsS82.set_1 | apply IsS82.set_2 | apply IsS82.set_3) | exact HI147.out)) (by (with_reducible repeat (first | apply Kd.R_alloc | apply Kd.R_drewN | apply Kd.R_drew)); exact HO_6.out) (by decide)) hk) (Kd.R_base ho0)) (fun _ h_ => h_.1)); have n1_ := Aside0.mk (Kd.R_lower (Kd.R_new' ho0 (Kd.R_lt (by (with_reducible repeat (first | apply Kd.R_alloc | apply Kd.R_drewN | apply Kd.R_drew)); exact HO_6.out))) (below_size (by repeat (first | (with_reducible first | exact HB.out | apply below_alloc | apply pw_below_drewN | apply below_drew1 | refine below_set ?_ (IsS82.ge HI147.out)) | exact HB.out)))); have n2_ := Aside0.mk (hb); have n3_ := Aside0.mk (hi); clear HO_6; clear HB; clear HI147; have HO_6 := n0_; have HO151 := n1_; have HB := n2_; have HI147 := n3_; clear n0_ n1_ n2_ n3_; (try clear hb); (try clear hb2); (try clear hk); (try clear hi); (try clear ho0); obtain ⟨Ao26, co26, eo26⟩ := Kd.R_slice HO151.out; subst eo26) | ((with_reducible refine gate_builtin (b := .append) (xs := #[.tmp 34, .tmp 37]) rfl ?_); (try (refine gate_guard (by rfl) ?_; dsimp only)); at_builtin; refine Kd.R_append_rows k55 (w0 := w) w.heap.size rfl (.tmp 34) (.tmp 37) 24 55 (.agg #[(.int .u64 0), (.int .i64 0), (.int .i64 0)]) 24 rfl Try.underlying24 info55 rfl (by decide) (by omega) u6 x6_2 t149 _ _ _ (fun k_ => some k_ ≠ (.slice Ao26 t149.length co26 : Value).ownBlock) (fun _ => False) rfl rfl ?aO ?aR (fun _ _ h => h) (fun _ h => h.elim) ?aF ?aB ?aS ?aL ?_; (case aR => repeat (first | exact (Kd.R_reads' HO151.out).2.2 | (with_reducible refine Kd.C_alloc ?_ _) | (with_reducible refine Kd.C_drewN ?_ _) | (with_reducible refine Kd.C_drew ?_))); (case aB => exact (by repeat (first | (with_reducible first | exact HB.out | apply below_alloc | apply pw_below_drewN | apply below_drew1 | refine below_set ?_ (IsS82.ge HI147.out)) | exact HB.out))); (case aF => exact (fun k_ hk => Kd.fresh' (Kd.R_lt (by (with_reducible repeat (first | apply Kd.R_alloc | apply Kd.R_drewN | apply Kd.R_drew)); exact HO151.out)) k_ hk)); (case aO => exact (by (with_reducible repeat (first | apply Kd.R_alloc | apply Kd.R_drewN | apply Kd.R_drew)); exact Kd.R_mono HO_6.out (fun _ hk => by first | exact hk.2 | exact hk))); (case aS => exact (below_size (by repeat (first | (with_reducible first | exact HB.out | apply below_alloc | apply pw_below_drewN | apply below_drew1 | refine below_set ?_ (IsS82.ge HI147.out)) | exact HB.out)))); (case aL => have := LMc18.out; omega); intro v157 w25 ho hb hg hat; rw [← Ny156.out] at ho; have n0_ := Aside0.mk (IsS82.grown (by repeat (first | (with_reducible first | exact HI147.out | apply IsS82.alloc | apply IsS82.drewN | apply IsS82.drew | apply IsS82.set_0 | apply IsS82.set_1 | apply IsS82.set_2 | apply IsS82.set_3) | exact HI147.out)) hg (IsS82.own_ne HI147.out HO_6.out (by decide))); have n1_ := Aside0.mk (Kd.R_after (ok := (fun _ => True)) (by (with_reducible repeat (first | apply Kd.R_alloc | apply Kd.R_drewN | apply Kd.R_drew)); exact HO151.out) hg hat); have n2_ := Aside0.mk (hb); have n3_ := Aside0.mk (ho); clear HI147; clear HO151; clear HB; clear HO_6; have HI147 := n0_; have HO151 := n1_; have HB := n2_; have HO158 := n3_; clear n0_ n1_ n2_ n3_; clear ho hb hg hat; have hcv27 := Kd.C_string (P := Try.prog) (A := A148_0) (c := c148_0) Try.underlying22 Try.underlying5 Try.underlying9 (Kd.C_below HR148_0.out HB.out)) | ((with_reducible refine gate_callee (f := 17) rfl ?_); refine goesL_ (some 45) rfl rfl Try.func17 (by kernel_rfl) rfl #[.int .i64 a0, .string (x7_2 ++ (strOfNums (rd_L5 l1 x27_2)))] rfl (by (try simp only [List.map_toArray, List.map_cons, List.map_nil]); first | done | rfl | (simp only [List.length_drop, List.length_take]; rfl)) ?_; (with_reducible refine (fascicleref22_All.calls k2 a0 (x7_2 ++ (strOfNums (rd_L5 l1 x27_2))) t159 _ A20.out).mono ?_); rintro e w28 ⟨v160, rfl, ho0, hb⟩; refine ⟨_, rfl, ?_⟩; have n0_ := Aside0.mk (Kd.R_below (by (with_reducible repeat (first | apply Kd.R_alloc | apply Kd.R_drewN | apply Kd.R_drew)); exact HO151.out) hb); have n1_ := Aside0.mk (Kd.R_below (by (with_reducible repeat (first | apply Kd.R_alloc | apply Kd.R_drewN | apply Kd.R_drew)); exact HO158.out) hb); have n2_ := Aside0.mk (Kd.R_lower ho0 (below_size (by repeat (first | (with_reducible first | exact HB.out | apply below_alloc | apply pw_below_drewN | apply below_drew1 | refine below_set ?_ (IsS82.ge HI147.out)) | exact HB.out)))); have n3_ := Aside0.mk (IsS82.below (by repeat (first | (with_reducible first | exact HI147.out | apply IsS82.alloc | apply IsS82.drewN | apply IsS82.drew | apply IsS82.set_0 | apply IsS82.set_1 | apply IsS82.set_2 | apply IsS82.set_3) | exact HI147.out)) hb); have n4_ := Aside0.mk (below_step (by repeat (first | (with_reducible first | exact HB.out | apply below_alloc | apply pw_below_drewN | apply below_drew1 | refine below_set ?_ (IsS82.ge HI147.out)) | exact HB.out)) hb); clear HO151; clear HO158; clear HI147; clear HB; have HO151 := n0_; have HO158 := n1_; have HO161 := n2_; have HI147 := n3_; have HB := n4_; clear n0_ n1_ n2_ n3_ n4_; (try clear hb); (try clear hb2); (try clear hk); (try clear hi); (try clear ho0)) | ((with_reducible refine gate_callee (f := 20) rfl ?_); refine goesL_ (some 48) rfl rfl Try.func20 (by kernel_rfl) rfl #[.pointer (some ⟨g147, 0, none⟩)] rfl (by (try simp only [List.map_toArray, List.map_cons, List.map_nil]); first | done | rfl | (simp only [List.length_drop, List.length_take]; rfl)) ?_; (with_reducible refine (chunk_Cutter_At.calls g147 t152 t153 t154 t155 t162 t163 t164 t165 t166 t167 w _ ?side1 ?side2 A21.out).mono ?_); (case side1 => repeat (first | (with_reducible first | exact HI147.out | apply IsS82.alloc | apply IsS82.drewN | apply IsS82.drew | apply IsS82.set_0 | apply IsS82.set_1 | apply IsS82.set_2 | apply IsS82.set_3) | exact HI147.out)); (case side2 => repeat (first | (with_reducible first | exact HB.out | apply below_alloc | apply pw_below_drewN | apply below_drew1 | refine below_set ?_ (IsS82.ge HI147.out)) | exact HB.out)); rintro e w29 ⟨rfl, hi, hb, hk⟩; refine ⟨_, rfl, ?_⟩; have n0_ := Aside0.mk (Kd.R_mono (Kd.R_keep (IsS82.apart (show IsS82 w _ g147 t152 t153 t154 t155 from by repeat (first | (with_reducible first | exact HI147.out | apply IsS82.alloc | apply IsS82.drewN | apply IsS82.drew | apply IsS82.set_0 | apply IsS82.set_1 | apply IsS82.set_2 | apply IsS82.set_3) | exact HI147.out)) (by (with_reducible repeat (first | apply Kd.R_alloc | apply Kd.R_drewN | apply Kd.R_drew)); exact HO151.out) (by decide)) hk (fun _ h => h.2)) (fun _ h => h.1)); have n1_ := Aside0.mk (Kd.R_mono (Kd.R_keep (IsS82.apart (show IsS82 w _ g147 t152 t153 t154 t155 from by repeat (first | (with_reducible first | exact HI147.out | apply IsS82.alloc | apply IsS82.drewN | apply IsS82.drew | apply IsS82.set_0 | apply IsS82.set_1 | apply IsS82.set_2 | apply IsS82.set_3) | exact HI147.out)) (by (with_reducible repeat (first | apply Kd.R_alloc | apply Kd.R_drewN | apply Kd.R_drew)); exact HO158.out) (by decide)) hk (fun _ h => h.2)) (fun _ h => h.1)); have n2_ := Aside0.mk (Kd.R_mono (Kd.R_keep (IsS82.apart (show IsS82 w _ g147 t152 t153 t154 t155 from by repeat (first | (with_reducible first | exact HI147.out | apply IsS82.alloc | apply IsS82.drewN | apply IsS82.drew | apply IsS82.set_0 | apply IsS82.set_1 | apply IsS82.set_2 | apply IsS82.set_3) | exact HI147.out)) (by (with_reducible repeat (first | apply Kd.R_alloc | apply Kd.R_drewN | apply Kd.R_drew)); exact HO161.out) (by decide)) hk (fun _ h => h.2)) (fun _ h => h.1)); have n3_ := Aside0.mk (hb); have n4_ := Aside0.mk (hi); clear HO151; clear HO158; clear HO161; clear HB; clear HI147; have HO151 := n0_; have HO158 := n1_; have HO161 := n2_; have HB := n3_; have HI147 := n4_; clear n0_ n1_ n2_ n3_ n4_; (try clear hb); (try clear hb2); (try clear hk); (try clear hi)))
                        (try simp only [Act.put, List.setIfInBounds_toArray, List.set_cons_zero, List.set_cons_succ])
                        go_cut [73] (fun v73 wc => ∃ (kq : Nat) (x73_22 : Bool), v73 = .bool x73_22 ∧ Aside0 (fasciclelaw22_ChunkParts.j2 kq a0 y156 (x7_2 ++ (strOfNums (rd_L5 l1 x27_2))) t159 t162 t163 l1 (l1.length : Int) x27_2 x73_22 t164 t165 t166 t167 = some r) ∧ Aside0 (kq ≤ k2) ∧ Aside0 (Kd.R k55 55 wc w.heap.size (fun _ => True) v157 y156) ∧ Aside0 (Kd.R k38 38 wc w.heap.size (fun _ => True) v160 t159) ∧ Aside0 (IsS82 w wc g147 t164 t165 t166 t167) ∧ Aside0 (Below w.heap.size w wc))
                        case first =>
                          have H := HC23.out
                          clear HC23
                          replace H := Option.bind_eq_some_iff.mp H
                          obtain ⟨t168, A300, H⟩ := H
                          replace H : (if t168 = true then (if (ji22) = 0 then (none) else (if t162 = (IntKind.u64.wrap (wrap64 (((x7_2 ++ (strOfNums (rd_L5 l1 x27_2))).size : Int) / (ji22)))) then (fasciclelaw22_ChunkParts.j2 k2 a0 y156 (x7_2 ++ (strOfNums (rd_L5 l1 x27_2))) t159 t162 t163 l1 (l1.length : Int) x27_2 (t163 != (((x7_2 ++ (strOfNums (rd_L5 l1 x27_2))).size : Int) % (ji22))) t164 t165 t166 t167) else (fasciclelaw22_ChunkParts.j2 k2 a0 y156 (x7_2 ++ (strOfNums (rd_L5 l1 x27_2))) t159 t162 t163 l1 (l1.length : Int) x27_2 true t164 t165 t166 t167))) else (fasciclelaw22_ChunkParts.j2 k2 a0 y156 (x7_2 ++ (strOfNums (rd_L5 l1 x27_2))) t159 t162 t163 l1 (l1.length : Int) x27_2 true t164 t165 t166 t167)) = some r := H
                          have A30 := Aside0.mk A300
                          clear A300
                          by_cases c31 : t168 = true
                          · subst c31
                            have H1 : (if (ji22) = 0 then (none) else (if t162 = (IntKind.u64.wrap (wrap64 (((x7_2 ++ (strOfNums (rd_L5 l1 x27_2))).size : Int) / (ji22)))) then (fasciclelaw22_ChunkParts.j2 k2 a0 y156 (x7_2 ++ (strOfNums (rd_L5 l1 x27_2))) t159 t162 t163 l1 (l1.length : Int) x27_2 (t163 != (((x7_2 ++ (strOfNums (rd_L5 l1 x27_2))).size : Int) % (ji22))) t164 t165 t166 t167) else (fasciclelaw22_ChunkParts.j2 k2 a0 y156 (x7_2 ++ (strOfNums (rd_L5 l1 x27_2))) t159 t162 t163 l1 (l1.length : Int) x27_2 true t164 t165 t166 t167))) = some r := by rw [if_pos rfl] at H; exact H
                            clear H
                            have H := H1
                            clear H1
                            by_cases c32 : (ji22) = 0
                            · rw [if_pos c32] at H
                              exact absurd H (by simp)
                            · rw [if_neg c32] at H
                              have c32b0 : ((ji22) == 0) = false := beq_eq_false_iff_ne.mpr c32
                              have c32b1 : ((ji22) != 0) = true := bne_iff_ne.mpr c32
                              (first | rw [c32b0] | (simp only [i64_w, i32_w]; rw [c32b0]) | skip)
                              obtain ⟨ys1, hys1⟩ : ∃ y_ : ByteArray, (x7_2 ++ (strOfNums (rd_L5 l1 x27_2))) = y_ := ⟨_, rfl⟩
                              (try simp only [hys1] at H)
                              by_cases c33 : t162 = (IntKind.u64.wrap (wrap64 ((ys1.size : Int) / (ji22))))
                              · rw [if_pos c33] at H
                                have c33b0 : (t162 == (IntKind.u64.wrap (wrap64 ((ys1.size : Int) / (ji22))))) = true := beq_iff_eq.mpr c33
                                have c33b1 : (t162 != (IntKind.u64.wrap (wrap64 ((ys1.size : Int) / (ji22))))) = false := bne_eq_false_iff_eq.mpr c33
                                clear c33
                                have H' := Aside0.mk H
                                clear H
                                obtain ⟨Ao34, co34, eo34⟩ := Kd.R_slice HO158.out
                                subst eo34
                                obtain ⟨Ao35, co35, eo35⟩ := Kd.R_slice HO161.out
                                subst eo35
                                go_wp2_with (first | ((with_reducible refine gate_callee (f := 16) rfl ?_); refine goesL_ (some 55) rfl rfl Try.func16 (by kernel_rfl) rfl #[.slice Ao34 y156.length co34, .slice Ao35 t159.length co35] rfl (by (try simp only [List.map_toArray, List.map_cons, List.map_nil]); first | done | rfl | (simp only [List.length_drop, List.length_take]; rfl)) ?_; (with_reducible refine (fasciclelaw22_same.calls k2 _ _ y156 _ _ t159 true _ ?side1 ?side2 ?side3 ?side4 A30.out).mono ?_); (case side1 => repeat (first | exact (Kd.R_reads' HO158.out).2.2 | (with_reducible refine Kd.C_alloc ?_ _) | (with_reducible refine Kd.C_drewN ?_ _) | (with_reducible refine Kd.C_drew ?_))); (case side2 => exact (Kd.R_reads' HO158.out).2.1); (case side3 => repeat (first | exact (Kd.R_reads' HO161.out).2.2 | (with_reducible refine Kd.C_alloc ?_ _) | (with_reducible refine Kd.C_drewN ?_ _) | (with_reducible refine Kd.C_drew ?_))); (case side4 => exact (Kd.R_reads' HO161.out).2.1); rintro e w' ⟨rfl, ⟨nd, rfl⟩⟩; refine ⟨_, rfl, ?_⟩))
                                subst hys1
                                go_meet
                                case rel => exact ⟨_, ((t163 != (((x7_2 ++ (strOfNums (rd_L5 l1 x27_2))).size : Int) % (ji22)))), (by first | rfl | (simp; done) | (simp only [← hji22] <;> (first | rfl | simp)) | (simp [*]; done)), H', ⟨by have := HJ2.out; have := HK2.out; first | omega | exact Nat.le_refl _⟩, ⟨by (with_reducible repeat (first | apply Kd.R_alloc | apply Kd.R_drewN | apply Kd.R_drew)); exact Kd.R_mono HO158.out (fun _ hk => trivial)⟩, ⟨by (with_reducible repeat (first | apply Kd.R_alloc | apply Kd.R_drewN | apply Kd.R_drew)); exact HO161.out⟩, ⟨by repeat (first | (with_reducible first | exact HI147.out | apply IsS82.alloc | apply IsS82.drewN | apply IsS82.drew | apply IsS82.set_0 | apply IsS82.set_1 | apply IsS82.set_2 | apply IsS82.set_3) | exact HI147.out)⟩, ⟨by repeat (first | (with_reducible first | exact HB.out | apply below_alloc | apply pw_below_drewN | apply below_drew1 | refine below_set ?_ (IsS82.ge HI147.out)) | exact HB.out)⟩⟩
                              · rw [if_neg c33] at H
                                have c33b0 : (t162 == (IntKind.u64.wrap (wrap64 ((ys1.size : Int) / (ji22))))) = false := beq_eq_false_iff_ne.mpr c33
                                have c33b1 : (t162 != (IntKind.u64.wrap (wrap64 ((ys1.size : Int) / (ji22))))) = true := bne_iff_ne.mpr c33
                                have H' := Aside0.mk H
                                clear H
                                obtain ⟨Ao36, co36, eo36⟩ := Kd.R_slice HO158.out
                                subst eo36
                                obtain ⟨Ao37, co37, eo37⟩ := Kd.R_slice HO161.out
                                subst eo37
                                go_wp2_with (first | ((with_reducible refine gate_callee (f := 16) rfl ?_); refine goesL_ (some 55) rfl rfl Try.func16 (by kernel_rfl) rfl #[.slice Ao36 y156.length co36, .slice Ao37 t159.length co37] rfl (by (try simp only [List.map_toArray, List.map_cons, List.map_nil]); first | done | rfl | (simp only [List.length_drop, List.length_take]; rfl)) ?_; (with_reducible refine (fasciclelaw22_same.calls k2 _ _ y156 _ _ t159 true _ ?side1 ?side2 ?side3 ?side4 A30.out).mono ?_); (case side1 => repeat (first | exact (Kd.R_reads' HO158.out).2.2 | (with_reducible refine Kd.C_alloc ?_ _) | (with_reducible refine Kd.C_drewN ?_ _) | (with_reducible refine Kd.C_drew ?_))); (case side2 => exact (Kd.R_reads' HO158.out).2.1); (case side3 => repeat (first | exact (Kd.R_reads' HO161.out).2.2 | (with_reducible refine Kd.C_alloc ?_ _) | (with_reducible refine Kd.C_drewN ?_ _) | (with_reducible refine Kd.C_drew ?_))); (case side4 => exact (Kd.R_reads' HO161.out).2.1); rintro e w' ⟨rfl, ⟨nd, rfl⟩⟩; refine ⟨_, rfl, ?_⟩))
                                subst hys1
                                go_meet
                                case rel => exact ⟨_, (true), (by first | rfl | (simp; done) | (simp [*]; done)), H', ⟨by have := HJ2.out; have := HK2.out; first | omega | exact Nat.le_refl _⟩, ⟨by (with_reducible repeat (first | apply Kd.R_alloc | apply Kd.R_drewN | apply Kd.R_drew)); exact Kd.R_mono HO158.out (fun _ hk => trivial)⟩, ⟨by (with_reducible repeat (first | apply Kd.R_alloc | apply Kd.R_drewN | apply Kd.R_drew)); exact HO161.out⟩, ⟨by repeat (first | (with_reducible first | exact HI147.out | apply IsS82.alloc | apply IsS82.drewN | apply IsS82.drew | apply IsS82.set_0 | apply IsS82.set_1 | apply IsS82.set_2 | apply IsS82.set_3) | exact HI147.out)⟩, ⟨by repeat (first | (with_reducible first | exact HB.out | apply below_alloc | apply pw_below_drewN | apply below_drew1 | refine below_set ?_ (IsS82.ge HI147.out)) | exact HB.out)⟩⟩
                          · replace c31 := Bool.eq_false_iff.mpr c31
                            subst c31
                            have H1 : (fasciclelaw22_ChunkParts.j2 k2 a0 y156 (x7_2 ++ (strOfNums (rd_L5 l1 x27_2))) t159 t162 t163 l1 (l1.length : Int) x27_2 true t164 t165 t166 t167) = some r := by rw [if_neg (show ¬ (false = true) by decide)] at H; exact H
                            clear H
                            have H := H1
                            clear H1
                            have H' := Aside0.mk H
                            clear H
                            obtain ⟨Ao38, co38, eo38⟩ := Kd.R_slice HO158.out
                            subst eo38
                            obtain ⟨Ao39, co39, eo39⟩ := Kd.R_slice HO161.out
                            subst eo39
                            go_wp2_with (first | ((with_reducible refine gate_callee (f := 16) rfl ?_); refine goesL_ (some 55) rfl rfl Try.func16 (by kernel_rfl) rfl #[.slice Ao38 y156.length co38, .slice Ao39 t159.length co39] rfl (by (try simp only [List.map_toArray, List.map_cons, List.map_nil]); first | done | rfl | (simp only [List.length_drop, List.length_take]; rfl)) ?_; (with_reducible refine (fasciclelaw22_same.calls k2 _ _ y156 _ _ t159 false _ ?side1 ?side2 ?side3 ?side4 A30.out).mono ?_); (case side1 => repeat (first | exact (Kd.R_reads' HO158.out).2.2 | (with_reducible refine Kd.C_alloc ?_ _) | (with_reducible refine Kd.C_drewN ?_ _) | (with_reducible refine Kd.C_drew ?_))); (case side2 => exact (Kd.R_reads' HO158.out).2.1); (case side3 => repeat (first | exact (Kd.R_reads' HO161.out).2.2 | (with_reducible refine Kd.C_alloc ?_ _) | (with_reducible refine Kd.C_drewN ?_ _) | (with_reducible refine Kd.C_drew ?_))); (case side4 => exact (Kd.R_reads' HO161.out).2.1); rintro e w' ⟨rfl, ⟨nd, rfl⟩⟩; refine ⟨_, rfl, ?_⟩))
                            go_meet
                            case rel => exact ⟨_, (true), (by first | rfl | (simp; done) | (simp [*]; done)), H', ⟨by have := HJ2.out; have := HK2.out; first | omega | exact Nat.le_refl _⟩, ⟨by (with_reducible repeat (first | apply Kd.R_alloc | apply Kd.R_drewN | apply Kd.R_drew)); exact Kd.R_mono HO158.out (fun _ hk => trivial)⟩, ⟨by (with_reducible repeat (first | apply Kd.R_alloc | apply Kd.R_drewN | apply Kd.R_drew)); exact HO161.out⟩, ⟨by repeat (first | (with_reducible first | exact HI147.out | apply IsS82.alloc | apply IsS82.drewN | apply IsS82.drew | apply IsS82.set_0 | apply IsS82.set_1 | apply IsS82.set_2 | apply IsS82.set_3) | exact HI147.out)⟩, ⟨by repeat (first | (with_reducible first | exact HB.out | apply below_alloc | apply pw_below_drewN | apply below_drew1 | refine below_set ?_ (IsS82.ge HI147.out)) | exact HB.out)⟩⟩
                        case rest =>
                          clear HC23
                          try clear c1
                          try clear p1
                          try clear q1
                          try clear hx1
                          try clear c2
                          try clear p2
                          try clear hcv2
                          try clear c3
                          try clear c4
                          try clear c5
                          try clear p6
                          try clear c8
                          try clear c13
                          try clear c13b0
                          try clear c14
                          try clear c14b0
                          try clear p14
                          try clear q14
                          try clear hx14
                          try clear c15
                          try clear c15b0
                          try clear c16
                          try clear c16b0
                          try clear c16b1
                          try clear c17
                          try clear c18
                          try clear c19
                          try clear c19b0
                          try clear c19b1
                          try clear c19b2
                          try clear c20
                          try clear hcv27
                          try clear c31
                          try clear c32
                          try clear c32b0
                          try clear c32b1
                          try clear c33
                          try clear c33b0
                          try clear c33b1
                          try clear hx148_0
                          try clear p148
                          try clear p2
                          try clear q148
                          obtain ⟨kq, x73_22, rfl, HA, HJ22, HO_6, HO_10, HI147, HB⟩ := hcut
                          cases kq with
                          | zero => exact absurd HA.out (by simp [fasciclelaw22_ChunkParts.j2])
                          | succ kj22 =>
                            have H := HA.out
                            clear HA
                            simp only [fasciclelaw22_ChunkParts.j2] at H
                            by_cases c40 : x73_22 = true
                            · subst c40
                              have H1 : (some false) = some r := by rw [if_pos rfl] at H; exact H
                              clear H
                              have H := H1
                              clear H1
                              obtain rfl := Option.some.inj H
                              go_wp2
                              go_ret
                              exact ⟨by first | rfl | (simp [errW_none, errW_some] <;> rfl) | (simp only [← hji22]; first | rfl | (simp [errW_none, errW_some] <;> rfl)) | (simp [*, errW_none, errW_some] <;> rfl), by repeat (first | (with_reducible first | exact HB.out | apply below_alloc | apply pw_below_drewN | apply below_drew1 | refine below_set ?_ (IsS82.ge HI147.out)) | exact HB.out)⟩
                            · replace c40 := Bool.eq_false_iff.mpr c40
                              subst c40
                              have H1 : (if (t159.length : Int) > 0 then (if 0 ≤ (wrap64 ((t159.length : Int) - 1)) then (if (wrap64 ((t159.length : Int) - 1)) < (t159.length : Int) then (fasciclelaw22_ChunkParts.j3 kj22 a0 y156 (x7_2 ++ (strOfNums (rd_L5 l1 x27_2))) t159 t163 t163 l1 (l1.length : Int) x27_2 (((rd_T38 t159 (wrap64 ((t159.length : Int) - 1))).f0) == t162) t164 t165 t166 t167) else (none)) else (none)) else (fasciclelaw22_ChunkParts.j3 kj22 a0 y156 (x7_2 ++ (strOfNums (rd_L5 l1 x27_2))) t159 t163 t163 l1 (l1.length : Int) x27_2 false t164 t165 t166 t167)) = some r := by rw [if_neg (show ¬ (false = true) by decide)] at H; exact H
                              clear H
                              have H := H1
                              clear H1
                              have HC41 := Aside0.mk H
                              clear H
                              go_upto_region 19 with (fail)
                              go_cut [88] (fun v88 wc => ∃ (kq : Nat) (x88_40 : Bool), v88 = .bool x88_40 ∧ Aside0 (fasciclelaw22_ChunkParts.j3 kq a0 y156 (x7_2 ++ (strOfNums (rd_L5 l1 x27_2))) t159 t163 t163 l1 (l1.length : Int) x27_2 x88_40 t164 t165 t166 t167 = some r) ∧ Aside0 (kq ≤ kj22) ∧ Aside0 (Kd.R k55 55 wc w.heap.size (fun _ => True) v157 y156) ∧ Aside0 (Kd.R k38 38 wc w.heap.size (fun _ => True) v160 t159) ∧ Aside0 (IsS82 w wc g147 t164 t165 t166 t167) ∧ Aside0 (Below w.heap.size w wc))
                              case first =>
                                have H := HC41.out
                                clear HC41
                                by_cases c42 : (t159.length : Int) > 0
                                · rw [if_pos c42] at H
                                  have c42b0 : decide (0 < (t159.length : Int)) = true := decide_eq_true c42
                                  have c42b1 : decide (0 < t159.length) = true := decide_eq_true (by omega)
                                  clear c42
                                  (first | rw [c42b0] | (simp only [i64_w, i32_w]; rw [c42b0]) | skip)
                                  obtain ⟨ji43, hji43⟩ : ∃ j_ : Int, (wrap64 ((t159.length : Int) - 1)) = j_ := ⟨_, rfl⟩
                                  replace H : (if 0 ≤ (ji43) then (if (ji43) < (t159.length : Int) then (fasciclelaw22_ChunkParts.j3 kj22 a0 y156 (x7_2 ++ (strOfNums (rd_L5 l1 x27_2))) t159 t163 t163 l1 (l1.length : Int) x27_2 (((rd_T38 t159 (ji43)).f0) == t162) t164 t165 t166 t167) else (none)) else (none)) = some r := by first | (rw [hji43] at H; exact H) | (simp only [hji43] at H ⊢; exact H)
                                  have hji43w : (IntKind.i64.wrap ((t159.length : Int) - 1)) = ji43 := (i64_w _).trans hji43
                                  by_cases c44 : 0 ≤ (ji43)
                                  · rw [if_pos c44] at H
                                    have c44b0 : decide (0 ≤ (ji43)) = true := decide_eq_true c44
                                    clear c44
                                    by_cases c45 : (ji43) < (t159.length : Int)
                                    · rw [if_pos c45] at H
                                      have c45b0 : decide ((ji43) < (t159.length : Int)) = true := decide_eq_true c45
                                      clear c45
                                      have H' := Aside0.mk H
                                      clear H
                                      obtain ⟨Ao46, co46, eo46⟩ := Kd.R_slice HO_10.out
                                      subst eo46
                                      have p169 : 0 ≤ ((ji43) : Int) := of_decide_eq_true (by first | (with_reducible assumption) | assumption)
                                      have q169 : (ji43) < (t159.length : Int) := of_decide_eq_true (by first | (with_reducible assumption) | assumption)
                                      obtain ⟨ad169, e169, hx169_0, hx169_1, hx169_2⟩ := at_T38 (Kd.R_reads' HO_10.out).2.2 (ji43) p169 q169
                                      cases e169
                                      replace p169 := eq_true p169
                                      replace q169 := eq_true q169
                                      go_wp2
                                      go_meet
                                      case rel => exact ⟨_, ((((rd_T38 t159 (ji43)).f0) == t162)), (by first | rfl | (simp; done) | (simp only [← hji43] <;> (first | rfl | simp)) | (simp [*]; done)), H', ⟨by have := HJ2.out; have := HK2.out; have := HJ22.out; first | omega | exact Nat.le_refl _⟩, ⟨by (with_reducible repeat (first | apply Kd.R_alloc | apply Kd.R_drewN | apply Kd.R_drew)); exact HO_6.out⟩, ⟨by (with_reducible repeat (first | apply Kd.R_alloc | apply Kd.R_drewN | apply Kd.R_drew)); exact HO_10.out⟩, ⟨by repeat (first | (with_reducible first | exact HI147.out | apply IsS82.alloc | apply IsS82.drewN | apply IsS82.drew | apply IsS82.set_0 | apply IsS82.set_1 | apply IsS82.set_2 | apply IsS82.set_3) | exact HI147.out)⟩, ⟨by repeat (first | (with_reducible first | exact HB.out | apply below_alloc | apply pw_below_drewN | apply below_drew1 | refine below_set ?_ (IsS82.ge HI147.out)) | exact HB.out)⟩⟩
                                    · rw [if_neg c45] at H
                                      exact absurd H (by simp)
                                  · rw [if_neg c44] at H
                                    exact absurd H (by simp)
                                · rw [if_neg c42] at H
                                  have c42b0 : decide (0 < (t159.length : Int)) = false := decide_eq_false c42
                                  have c42b1 : decide (0 < t159.length) = false := decide_eq_false (by omega)
                                  clear c42
                                  (first | rw [c42b0] | (simp only [i64_w, i32_w]; rw [c42b0]) | skip)
                                  have H' := Aside0.mk H
                                  clear H
                                  obtain ⟨Ao47, co47, eo47⟩ := Kd.R_slice HO_10.out
                                  subst eo47
                                  go_wp2
                                  go_meet
                                  case rel => exact ⟨_, (false), (by first | rfl | (simp; done) | (simp [*]; done)), H', ⟨by have := HJ2.out; have := HK2.out; have := HJ22.out; first | omega | exact Nat.le_refl _⟩, ⟨by (with_reducible repeat (first | apply Kd.R_alloc | apply Kd.R_drewN | apply Kd.R_drew)); exact HO_6.out⟩, ⟨by (with_reducible repeat (first | apply Kd.R_alloc | apply Kd.R_drewN | apply Kd.R_drew)); exact HO_10.out⟩, ⟨by repeat (first | (with_reducible first | exact HI147.out | apply IsS82.alloc | apply IsS82.drewN | apply IsS82.drew | apply IsS82.set_0 | apply IsS82.set_1 | apply IsS82.set_2 | apply IsS82.set_3) | exact HI147.out)⟩, ⟨by repeat (first | (with_reducible first | exact HB.out | apply below_alloc | apply pw_below_drewN | apply below_drew1 | refine below_set ?_ (IsS82.ge HI147.out)) | exact HB.out)⟩⟩
                              case rest =>
                                clear HC41
                                try clear c1
                                try clear p1
                                try clear q1
                                try clear hx1
                                try clear c2
                                try clear p2
                                try clear hcv2
                                try clear c3
                                try clear c4
                                try clear c5
                                try clear p6
                                try clear c8
                                try clear c13
                                try clear c13b0
                                try clear c14
                                try clear c14b0
                                try clear p14
                                try clear q14
                                try clear hx14
                                try clear c15
                                try clear c15b0
                                try clear c16
                                try clear c16b0
                                try clear c16b1
                                try clear p16
                                try clear q16
                                try clear hx16
                                try clear c17
                                try clear c18
                                try clear c19
                                try clear c19b0
                                try clear c19b1
                                try clear c19b2
                                try clear c20
                                try clear hcv27
                                try clear c31
                                try clear c32
                                try clear c32b0
                                try clear c32b1
                                try clear c33
                                try clear c33b0
                                try clear c33b1
                                try clear c40
                                try clear c42
                                try clear c42b0
                                try clear c42b1
                                try clear c44
                                try clear c44b0
                                try clear c45
                                try clear c45b0
                                try clear hx148_0
                                try clear hx169_0
                                try clear hx169_1
                                try clear hx169_2
                                try clear p1
                                try clear p14
                                try clear p148
                                try clear p169
                                try clear p2
                                try clear p6
                                try clear q1
                                try clear q14
                                try clear q148
                                try clear q169
                                obtain ⟨kq, x88_40, rfl, HA, HJ40, HO_6, HO_10, HI147, HB⟩ := hcut
                                cases kq with
                                | zero => exact absurd HA.out (by simp [fasciclelaw22_ChunkParts.j3])
                                | succ kj40 =>
                                  have H := HA.out
                                  clear HA
                                  simp only [fasciclelaw22_ChunkParts.j3] at H
                                  by_cases c48 : x88_40 = true
                                  · subst c48
                                    have H1 : (if 0 ≤ (wrap64 ((t159.length : Int) - 1)) then (if (wrap64 ((t159.length : Int) - 1)) < (t159.length : Int) then ((chunk_Cutter_Open.f t164 t165 t166 t167).bind fun bt171 => (if bt171.1 = (wrap64 ((wrap64 (t163 - ((rd_T38 t159 (wrap64 ((t159.length : Int) - 1))).f2))) - 1)) then (fasciclelaw22_ChunkParts.l0 kj40 a0 y156 (x7_2 ++ (strOfNums (rd_L5 l1 x27_2))) l1 (l1.length : Int) (wrap64 (x27_2 + 1)) bt171.2.1 bt171.2.2.1 bt171.2.2.2.1 bt171.2.2.2.2) else (some false))) else (none)) else (none)) = some r := by rw [if_pos rfl] at H; exact H
                                    clear H
                                    have H := H1
                                    clear H1
                                    obtain ⟨ji49, hji49⟩ : ∃ j_ : Int, (wrap64 ((t159.length : Int) - 1)) = j_ := ⟨_, rfl⟩
                                    replace H : (if 0 ≤ (ji49) then (if (ji49) < (t159.length : Int) then ((chunk_Cutter_Open.f t164 t165 t166 t167).bind fun bt171 => (if bt171.1 = (wrap64 ((wrap64 (t163 - ((rd_T38 t159 (ji49)).f2))) - 1)) then (fasciclelaw22_ChunkParts.l0 kj40 a0 y156 (x7_2 ++ (strOfNums (rd_L5 l1 x27_2))) l1 (l1.length : Int) (wrap64 (x27_2 + 1)) bt171.2.1 bt171.2.2.1 bt171.2.2.2.1 bt171.2.2.2.2) else (some false))) else (none)) else (none)) = some r := by first | (rw [hji49] at H; exact H) | (simp only [hji49] at H ⊢; exact H)
                                    have hji49w : (IntKind.i64.wrap ((t159.length : Int) - 1)) = ji49 := (i64_w _).trans hji49
                                    by_cases c50 : 0 ≤ (ji49)
                                    · rw [if_pos c50] at H
                                      have c50b0 : decide (0 ≤ (ji49)) = true := decide_eq_true c50
                                      clear c50
                                      by_cases c51 : (ji49) < (t159.length : Int)
                                      · rw [if_pos c51] at H
                                        have c51b0 : decide ((ji49) < (t159.length : Int)) = true := decide_eq_true c51
                                        clear c51
                                        replace H := Option.bind_eq_some_iff.mp H
                                        obtain ⟨⟨t171, t172, t173, t174, t175⟩, A520, H⟩ := H
                                        replace H : (if t171 = (wrap64 ((wrap64 (t163 - ((rd_T38 t159 (ji49)).f2))) - 1)) then (fasciclelaw22_ChunkParts.l0 kj40 a0 y156 (x7_2 ++ (strOfNums (rd_L5 l1 x27_2))) l1 (l1.length : Int) (wrap64 (x27_2 + 1)) t172 t173 t174 t175) else (some false)) = some r := H
                                        have A52 := Aside0.mk A520
                                        clear A520
                                        by_cases c53 : t171 = (wrap64 ((wrap64 (t163 - ((rd_T38 t159 (ji49)).f2))) - 1))
                                        · rw [if_pos c53] at H
                                          have c53b0 : (t171 == (wrap64 ((wrap64 (t163 - ((rd_T38 t159 (ji49)).f2))) - 1))) = true := beq_iff_eq.mpr c53
                                          have c53b1 : (t171 != (wrap64 ((wrap64 (t163 - ((rd_T38 t159 (ji49)).f2))) - 1))) = false := bne_eq_false_iff_eq.mpr c53
                                          clear c53
                                          have H' := Aside0.mk H
                                          clear H
                                          obtain ⟨Ao54, co54, eo54⟩ := Kd.R_slice HO_10.out
                                          subst eo54
                                          have p170 : 0 ≤ ((ji49) : Int) := of_decide_eq_true (by first | (with_reducible assumption) | assumption)
                                          have q170 : (ji49) < (t159.length : Int) := of_decide_eq_true (by first | (with_reducible assumption) | assumption)
                                          obtain ⟨ad170, e170, hx170_0, hx170_1, hx170_2⟩ := at_T38 (Kd.R_reads' HO_10.out).2.2 (ji49) p170 q170
                                          cases e170
                                          replace p170 := eq_true p170
                                          replace q170 := eq_true q170
                                          go_wp2_with (first | ((with_reducible refine gate_callee (f := 21) rfl ?_); refine goesL_ (some 100) rfl rfl Try.func21 (by kernel_rfl) rfl #[.pointer (some ⟨g147, 0, none⟩)] rfl (by (try simp only [List.map_toArray, List.map_cons, List.map_nil]); first | done | rfl | (simp only [List.length_drop, List.length_take]; rfl)) ?_; (with_reducible refine (chunk_Cutter_Open.calls g147 t164 t165 t166 t167 t171 t172 t173 t174 t175 w _ ?side1 ?side2 A52.out).mono ?_); (case side1 => repeat (first | (with_reducible first | exact HI147.out | apply IsS82.alloc | apply IsS82.drewN | apply IsS82.drew | apply IsS82.set_0 | apply IsS82.set_1 | apply IsS82.set_2 | apply IsS82.set_3) | exact HI147.out)); (case side2 => repeat (first | (with_reducible first | exact HB.out | apply below_alloc | apply pw_below_drewN | apply below_drew1 | refine below_set ?_ (IsS82.ge HI147.out)) | exact HB.out)); rintro e w55 ⟨rfl, hi, hb, hk⟩; refine ⟨_, rfl, ?_⟩; have n0_ := Aside0.mk (Kd.R_mono (Kd.R_keep (IsS82.apart (show IsS82 w _ g147 t164 t165 t166 t167 from by repeat (first | (with_reducible first | exact HI147.out | apply IsS82.alloc | apply IsS82.drewN | apply IsS82.drew | apply IsS82.set_0 | apply IsS82.set_1 | apply IsS82.set_2 | apply IsS82.set_3) | exact HI147.out)) (by (with_reducible repeat (first | apply Kd.R_alloc | apply Kd.R_drewN | apply Kd.R_drew)); exact HO_6.out) (by decide)) hk (fun _ h => h.2)) (fun _ h => h.1)); have n1_ := Aside0.mk (Kd.R_mono (Kd.R_keep (IsS82.apart (show IsS82 w _ g147 t164 t165 t166 t167 from by repeat (first | (with_reducible first | exact HI147.out | apply IsS82.alloc | apply IsS82.drewN | apply IsS82.drew | apply IsS82.set_0 | apply IsS82.set_1 | apply IsS82.set_2 | apply IsS82.set_3) | exact HI147.out)) (by (with_reducible repeat (first | apply Kd.R_alloc | apply Kd.R_drewN | apply Kd.R_drew)); exact HO_10.out) (by decide)) hk (fun _ h => h.2)) (fun _ h => h.1)); have n2_ := Aside0.mk (hb); have n3_ := Aside0.mk (hi); clear HO_6; clear HO_10; clear HB; clear HI147; have HO_6 := n0_; have HO_10 := n1_; have HB := n2_; have HI147 := n3_; clear n0_ n1_ n2_ n3_; (try clear hb); (try clear hb2); (try clear hk); (try clear hi)))
                                          go_roundg kj40
                                          case measure => have := HJ2.out; have := HK2.out; have := HJ22.out; have := HJ40.out; omega
                                          case rel => exact ⟨(y156), ((x7_2 ++ (strOfNums (rd_L5 l1 x27_2)))), (wrap64 (x27_2 + 1)), (t172), (t173), (t174), (t175), (by first | rfl | (simp; done) | (simp [*]; done)), (by first | rfl | (simp; done) | (simp [*]; done)), H', ⟨by have := HJ2.out; have := HK2.out; have := HJ22.out; have := HJ40.out; omega⟩, ⟨by (with_reducible repeat (first | apply Kd.R_alloc | apply Kd.R_drewN | apply Kd.R_drew)); exact HO_6.out⟩, ⟨by repeat (first | (with_reducible first | exact HI147.out | apply IsS82.alloc | apply IsS82.drewN | apply IsS82.drew | apply IsS82.set_0 | apply IsS82.set_1 | apply IsS82.set_2 | apply IsS82.set_3) | exact HI147.out)⟩, ⟨by repeat (first | (with_reducible first | exact HB.out | apply below_alloc | apply pw_below_drewN | apply below_drew1 | refine below_set ?_ (IsS82.ge HI147.out)) | exact HB.out)⟩⟩
                                        · rw [if_neg c53] at H
                                          have c53b0 : (t171 == (wrap64 ((wrap64 (t163 - ((rd_T38 t159 (ji49)).f2))) - 1))) = false := beq_eq_false_iff_ne.mpr c53
                                          have c53b1 : (t171 != (wrap64 ((wrap64 (t163 - ((rd_T38 t159 (ji49)).f2))) - 1))) = true := bne_iff_ne.mpr c53
                                          obtain rfl := Option.some.inj H
                                          obtain ⟨Ao56, co56, eo56⟩ := Kd.R_slice HO_10.out
                                          subst eo56
                                          have p170 : 0 ≤ ((ji49) : Int) := of_decide_eq_true (by first | (with_reducible assumption) | assumption)
                                          have q170 : (ji49) < (t159.length : Int) := of_decide_eq_true (by first | (with_reducible assumption) | assumption)
                                          obtain ⟨ad170, e170, hx170_0, hx170_1, hx170_2⟩ := at_T38 (Kd.R_reads' HO_10.out).2.2 (ji49) p170 q170
                                          cases e170
                                          replace p170 := eq_true p170
                                          replace q170 := eq_true q170
                                          go_wp2_with (first | ((with_reducible refine gate_callee (f := 21) rfl ?_); refine goesL_ (some 100) rfl rfl Try.func21 (by kernel_rfl) rfl #[.pointer (some ⟨g147, 0, none⟩)] rfl (by (try simp only [List.map_toArray, List.map_cons, List.map_nil]); first | done | rfl | (simp only [List.length_drop, List.length_take]; rfl)) ?_; (with_reducible refine (chunk_Cutter_Open.calls g147 t164 t165 t166 t167 t171 t172 t173 t174 t175 w _ ?side1 ?side2 A52.out).mono ?_); (case side1 => repeat (first | (with_reducible first | exact HI147.out | apply IsS82.alloc | apply IsS82.drewN | apply IsS82.drew | apply IsS82.set_0 | apply IsS82.set_1 | apply IsS82.set_2 | apply IsS82.set_3) | exact HI147.out)); (case side2 => repeat (first | (with_reducible first | exact HB.out | apply below_alloc | apply pw_below_drewN | apply below_drew1 | refine below_set ?_ (IsS82.ge HI147.out)) | exact HB.out)); rintro e w57 ⟨rfl, hi, hb, hk⟩; refine ⟨_, rfl, ?_⟩; have n0_ := Aside0.mk (Kd.R_mono (Kd.R_keep (IsS82.apart (show IsS82 w _ g147 t164 t165 t166 t167 from by repeat (first | (with_reducible first | exact HI147.out | apply IsS82.alloc | apply IsS82.drewN | apply IsS82.drew | apply IsS82.set_0 | apply IsS82.set_1 | apply IsS82.set_2 | apply IsS82.set_3) | exact HI147.out)) (by (with_reducible repeat (first | apply Kd.R_alloc | apply Kd.R_drewN | apply Kd.R_drew)); exact HO_6.out) (by decide)) hk (fun _ h => h.2)) (fun _ h => h.1)); have n1_ := Aside0.mk (Kd.R_mono (Kd.R_keep (IsS82.apart (show IsS82 w _ g147 t164 t165 t166 t167 from by repeat (first | (with_reducible first | exact HI147.out | apply IsS82.alloc | apply IsS82.drewN | apply IsS82.drew | apply IsS82.set_0 | apply IsS82.set_1 | apply IsS82.set_2 | apply IsS82.set_3) | exact HI147.out)) (by (with_reducible repeat (first | apply Kd.R_alloc | apply Kd.R_drewN | apply Kd.R_drew)); exact HO_10.out) (by decide)) hk (fun _ h => h.2)) (fun _ h => h.1)); have n2_ := Aside0.mk (hb); have n3_ := Aside0.mk (hi); clear HO_6; clear HO_10; clear HB; clear HI147; have HO_6 := n0_; have HO_10 := n1_; have HB := n2_; have HI147 := n3_; clear n0_ n1_ n2_ n3_; (try clear hb); (try clear hb2); (try clear hk); (try clear hi)))
                                          go_ret
                                          exact ⟨by first | rfl | (simp [errW_none, errW_some] <;> rfl) | (simp only [← hji22, ← hji49]; first | rfl | (simp [errW_none, errW_some] <;> rfl)) | (simp [*, errW_none, errW_some] <;> rfl), by repeat (first | (with_reducible first | exact HB.out | apply below_alloc | apply pw_below_drewN | apply below_drew1 | refine below_set ?_ (IsS82.ge HI147.out)) | exact HB.out)⟩
                                      · rw [if_neg c51] at H
                                        exact absurd H (by simp)
                                    · rw [if_neg c50] at H
                                      exact absurd H (by simp)
                                  · replace c48 := Bool.eq_false_iff.mpr c48
                                    subst c48
                                    have H1 : ((chunk_Cutter_Open.f t164 t165 t166 t167).bind fun bt176 => (if bt176.1 = t163 then (fasciclelaw22_ChunkParts.l0 kj40 a0 y156 (x7_2 ++ (strOfNums (rd_L5 l1 x27_2))) l1 (l1.length : Int) (wrap64 (x27_2 + 1)) bt176.2.1 bt176.2.2.1 bt176.2.2.2.1 bt176.2.2.2.2) else (some false))) = some r := by rw [if_neg (show ¬ (false = true) by decide)] at H; exact H
                                    clear H
                                    have H := H1
                                    clear H1
                                    replace H := Option.bind_eq_some_iff.mp H
                                    obtain ⟨⟨t176, t177, t178, t179, t180⟩, A580, H⟩ := H
                                    replace H : (if t176 = t163 then (fasciclelaw22_ChunkParts.l0 kj40 a0 y156 (x7_2 ++ (strOfNums (rd_L5 l1 x27_2))) l1 (l1.length : Int) (wrap64 (x27_2 + 1)) t177 t178 t179 t180) else (some false)) = some r := H
                                    have A58 := Aside0.mk A580
                                    clear A580
                                    by_cases c59 : t176 = t163
                                    · rw [if_pos c59] at H
                                      have c59b0 : (t176 == t163) = true := beq_iff_eq.mpr c59
                                      have c59b1 : (t176 != t163) = false := bne_eq_false_iff_eq.mpr c59
                                      clear c59
                                      have H' := Aside0.mk H
                                      clear H
                                      go_wp2_with (first | ((with_reducible refine gate_callee (f := 21) rfl ?_); refine goesL_ (some 100) rfl rfl Try.func21 (by kernel_rfl) rfl #[.pointer (some ⟨g147, 0, none⟩)] rfl (by (try simp only [List.map_toArray, List.map_cons, List.map_nil]); first | done | rfl | (simp only [List.length_drop, List.length_take]; rfl)) ?_; (with_reducible refine (chunk_Cutter_Open.calls g147 t164 t165 t166 t167 t176 t177 t178 t179 t180 w _ ?side1 ?side2 A58.out).mono ?_); (case side1 => repeat (first | (with_reducible first | exact HI147.out | apply IsS82.alloc | apply IsS82.drewN | apply IsS82.drew | apply IsS82.set_0 | apply IsS82.set_1 | apply IsS82.set_2 | apply IsS82.set_3) | exact HI147.out)); (case side2 => repeat (first | (with_reducible first | exact HB.out | apply below_alloc | apply pw_below_drewN | apply below_drew1 | refine below_set ?_ (IsS82.ge HI147.out)) | exact HB.out)); rintro e w60 ⟨rfl, hi, hb, hk⟩; refine ⟨_, rfl, ?_⟩; have n0_ := Aside0.mk (Kd.R_mono (Kd.R_keep (IsS82.apart (show IsS82 w _ g147 t164 t165 t166 t167 from by repeat (first | (with_reducible first | exact HI147.out | apply IsS82.alloc | apply IsS82.drewN | apply IsS82.drew | apply IsS82.set_0 | apply IsS82.set_1 | apply IsS82.set_2 | apply IsS82.set_3) | exact HI147.out)) (by (with_reducible repeat (first | apply Kd.R_alloc | apply Kd.R_drewN | apply Kd.R_drew)); exact HO_6.out) (by decide)) hk (fun _ h => h.2)) (fun _ h => h.1)); have n1_ := Aside0.mk (Kd.R_mono (Kd.R_keep (IsS82.apart (show IsS82 w _ g147 t164 t165 t166 t167 from by repeat (first | (with_reducible first | exact HI147.out | apply IsS82.alloc | apply IsS82.drewN | apply IsS82.drew | apply IsS82.set_0 | apply IsS82.set_1 | apply IsS82.set_2 | apply IsS82.set_3) | exact HI147.out)) (by (with_reducible repeat (first | apply Kd.R_alloc | apply Kd.R_drewN | apply Kd.R_drew)); exact HO_10.out) (by decide)) hk (fun _ h => h.2)) (fun _ h => h.1)); have n2_ := Aside0.mk (hb); have n3_ := Aside0.mk (hi); clear HO_6; clear HO_10; clear HB; clear HI147; have HO_6 := n0_; have HO_10 := n1_; have HB := n2_; have HI147 := n3_; clear n0_ n1_ n2_ n3_; (try clear hb); (try clear hb2); (try clear hk); (try clear hi)))
                                      go_roundg kj40
                                      case measure => have := HJ2.out; have := HK2.out; have := HJ22.out; have := HJ40.out; omega
                                      case rel => exact ⟨(y156), ((x7_2 ++ (strOfNums (rd_L5 l1 x27_2)))), (wrap64 (x27_2 + 1)), (t177), (t178), (t179), (t180), (by first | rfl | (simp; done) | (simp [*]; done)), (by first | rfl | (simp; done) | (simp [*]; done)), H', ⟨by have := HJ2.out; have := HK2.out; have := HJ22.out; have := HJ40.out; omega⟩, ⟨by (with_reducible repeat (first | apply Kd.R_alloc | apply Kd.R_drewN | apply Kd.R_drew)); exact HO_6.out⟩, ⟨by repeat (first | (with_reducible first | exact HI147.out | apply IsS82.alloc | apply IsS82.drewN | apply IsS82.drew | apply IsS82.set_0 | apply IsS82.set_1 | apply IsS82.set_2 | apply IsS82.set_3) | exact HI147.out)⟩, ⟨by repeat (first | (with_reducible first | exact HB.out | apply below_alloc | apply pw_below_drewN | apply below_drew1 | refine below_set ?_ (IsS82.ge HI147.out)) | exact HB.out)⟩⟩
                                    · rw [if_neg c59] at H
                                      have c59b0 : (t176 == t163) = false := beq_eq_false_iff_ne.mpr c59
                                      have c59b1 : (t176 != t163) = true := bne_iff_ne.mpr c59
                                      obtain rfl := Option.some.inj H
                                      go_wp2_with (first | ((with_reducible refine gate_callee (f := 21) rfl ?_); refine goesL_ (some 100) rfl rfl Try.func21 (by kernel_rfl) rfl #[.pointer (some ⟨g147, 0, none⟩)] rfl (by (try simp only [List.map_toArray, List.map_cons, List.map_nil]); first | done | rfl | (simp only [List.length_drop, List.length_take]; rfl)) ?_; (with_reducible refine (chunk_Cutter_Open.calls g147 t164 t165 t166 t167 t176 t177 t178 t179 t180 w _ ?side1 ?side2 A58.out).mono ?_); (case side1 => repeat (first | (with_reducible first | exact HI147.out | apply IsS82.alloc | apply IsS82.drewN | apply IsS82.drew | apply IsS82.set_0 | apply IsS82.set_1 | apply IsS82.set_2 | apply IsS82.set_3) | exact HI147.out)); (case side2 => repeat (first | (with_reducible first | exact HB.out | apply below_alloc | apply pw_below_drewN | apply below_drew1 | refine below_set ?_ (IsS82.ge HI147.out)) | exact HB.out)); rintro e w61 ⟨rfl, hi, hb, hk⟩; refine ⟨_, rfl, ?_⟩; have n0_ := Aside0.mk (Kd.R_mono (Kd.R_keep (IsS82.apart (show IsS82 w _ g147 t164 t165 t166 t167 from by repeat (first | (with_reducible first | exact HI147.out | apply IsS82.alloc | apply IsS82.drewN | apply IsS82.drew | apply IsS82.set_0 | apply IsS82.set_1 | apply IsS82.set_2 | apply IsS82.set_3) | exact HI147.out)) (by (with_reducible repeat (first | apply Kd.R_alloc | apply Kd.R_drewN | apply Kd.R_drew)); exact HO_6.out) (by decide)) hk (fun _ h => h.2)) (fun _ h => h.1)); have n1_ := Aside0.mk (Kd.R_mono (Kd.R_keep (IsS82.apart (show IsS82 w _ g147 t164 t165 t166 t167 from by repeat (first | (with_reducible first | exact HI147.out | apply IsS82.alloc | apply IsS82.drewN | apply IsS82.drew | apply IsS82.set_0 | apply IsS82.set_1 | apply IsS82.set_2 | apply IsS82.set_3) | exact HI147.out)) (by (with_reducible repeat (first | apply Kd.R_alloc | apply Kd.R_drewN | apply Kd.R_drew)); exact HO_10.out) (by decide)) hk (fun _ h => h.2)) (fun _ h => h.1)); have n2_ := Aside0.mk (hb); have n3_ := Aside0.mk (hi); clear HO_6; clear HO_10; clear HB; clear HI147; have HO_6 := n0_; have HO_10 := n1_; have HB := n2_; have HI147 := n3_; clear n0_ n1_ n2_ n3_; (try clear hb); (try clear hb2); (try clear hk); (try clear hi)))
                                      go_ret
                                      exact ⟨by first | rfl | (simp [errW_none, errW_some] <;> rfl) | (simp only [← hji22]; first | rfl | (simp [errW_none, errW_some] <;> rfl)) | (simp [*, errW_none, errW_some] <;> rfl), by repeat (first | (with_reducible first | exact HB.out | apply below_alloc | apply pw_below_drewN | apply below_drew1 | refine below_set ?_ (IsS82.ge HI147.out)) | exact HB.out)⟩
                      · rw [if_neg c19] at H
                        exact absurd H (by simp)
                    · rw [if_neg c18] at H
                      exact absurd H (by simp)
                · rw [if_neg c15] at H
                  exact absurd H (by simp)
              · rw [if_neg c14] at H
                exact absurd H (by simp)
            · rw [if_neg c13] at H
              have c13b0 : decide (x27_2 < (l1.length : Int)) = false := decide_eq_false c13
              clear c13
              obtain rfl := Option.some.inj H
              go_wp2
              go_ret
              exact ⟨by first | rfl | (simp [errW_none, errW_some] <;> rfl) | (simp [*, errW_none, errW_some] <;> rfl), by repeat (first | (with_reducible first | exact HB.out | apply below_alloc | apply pw_below_drewN | apply below_drew1 | refine below_set ?_ (IsS82.ge HI147.out)) | exact HB.out)⟩
/-- THE ONE PURE STATEMENT of fasciclelaw22_ChunkParts. -/
def fasciclelaw22_ChunkParts.Pure : Prop := ∀ (a0 : Int) (l1 : List (List Int)), (Lit.int .i64 a0).wf = true → l1.length ≤ maxLen → l1.length * 24 ≤ 140737488351232 → (∀ y ∈ l1, (y.length ≤ 9223372036854775807 ∧ ∀ yy ∈ y, ((Lit.int .u8 yy).wf = true))) → ∃ k, fasciclelaw22_ChunkParts.f k a0 l1 = some true

end Go.Proofs.Ytdpghobknhkikaa.G
