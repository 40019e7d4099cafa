/- table: slices.Compact, walked. -/
import Derived.Test.YtnmdckgaljldhaaHTable8
set_option linter.unusedVariables false
set_option linter.unusedSimpArgs false
namespace Go.Proofs.Ytnmdckgaljldhaa.Tb
open Go Go.RowKit Go.Proofs.YtnmdckgaljldhaaW.PrintWords Go.Proofs.YtnmdckgaljldhaaW.PrintLast Go.Proofs.YtnmdckgaljldhaaW.PrintMore Go.Proofs.Ytnmdckgaljldhaa.Sep Go.Proofs.Ytnmdckgaljldhaa.G
set_option maxHeartbeats 4000000
set_option maxRecDepth 100000

theorem compact_blk (w0 w : World) (g cap : Nat) (cur : Array Value) (l : List E1) (ps : List HP) (h : Sep.Sep w0 w (blk g cur 81 :: ps)) (h2 : 2 ≤ l.length) (hcap : l.length ≤ cap) (hcm : cap ≤ maxLen) (hcs : cur.size = cap * 2) (hH : Hold cur l) (hl : l.length ≤ 1000000) :
    Calls Try.prog 87 #[.slice (some ⟨g, 0, none⟩) l.length cap] w fun r w' => ∃ cur', r = .returned (.slice (some ⟨g, 0, none⟩) (compactE l).length cap) ∧ cur'.size = cap * 2 ∧ Hold cur' (compactE l) ∧ Sep.Sep w0 w' (blk g cur' 81 :: ps) := by
  have e1 : decide ((l.length : Int) < 2) = false := decide_eq_false (by omega)
  have e2 : decide (l.length < 2) = false := decide_eq_false (by omega)
  have hSA := Aside0.mk h
  have hlA := Aside0.mk (And.intro h2 (And.intro hl hcap))
  have hHA := Aside0.mk (And.intro hH (And.intro hcs hcm))
  clear h h2 hcap hcm hcs hH hl
  go_enter Try.func87, Try.ntmps87
  go_wp2_with (fail)
  go_loopg [3] l.length (fun kq v3 w' => ∃ (i : Nat), v3 = .int .i64 (i : Int) ∧ Aside0 (i + kq = l.length + 1 ∧ 1 ≤ i) ∧ Aside0 (∀ j, 1 ≤ j → j < i → l[j]? ≠ l[j - 1]?) ∧ Aside0 (Sep.Sep w0 w' (blk g cur 81 :: ps)))
  case atStart => exact ⟨1, rfl, ⟨by have := hlA.out; omega⟩, ⟨fun j _ _ => by omega⟩, hSA⟩
  case round =>
    clear hSA
    obtain ⟨i, rfl, hA, hN, hS⟩ := hrel
    by_cases hil : i < l.length
    · obtain ⟨k1, rfl⟩ : ∃ k1, gk = k1 + 1 := ⟨gk - 1, by have := hA.out; omega⟩
      have he : decide ((i : Int) < (l.length : Int)) = true := decide_eq_true (by omega)
      have he2 : decide (i < l.length) = true := decide_eq_true hil
      obtain ⟨j, rfl⟩ : ∃ j, i = j + 1 := ⟨i - 1, by have := hA.out; omega⟩
      obtain ⟨x, hx⟩ : ∃ x, l[j + 1]? = some x := ⟨_, List.getElem?_eq_getElem hil⟩
      obtain ⟨y, hy⟩ : ∃ y, l[j]? = some y := ⟨_, List.getElem?_eq_getElem (by omega)⟩
      have hcx := hHA.out.1 _ _ hx
      have hcy := hHA.out.1 _ _ hy
      have q1 : wrap64 (((j + 1 : Nat) : Int) - 1) = (j : Int) := by unfold wrap64; have := hlA.out; omega
      have q2 : wrap64 (((j + 1 : Nat) : Int) + 1) = ((j + 1 + 1 : Nat) : Int) := by unfold wrap64; have := hlA.out; omega
      obtain ⟨z, hz⟩ : ∃ z, wrap64 (((j + 1 : Nat) : Int) - 1) = z := ⟨_, rfl⟩
      have hzi : z = (j : Int) := hz.symm.trans q1
      have hzw : IntKind.i64.wrap (((j + 1 : Nat) : Int) - 1) = z := (i64_w _).trans hz
      have p0 : ((0 : Int) ≤ ((j + 1 : Nat) : Int)) = True := eq_true (by omega)
      have q0 : (((j + 1 : Nat) : Int) < (l.length : Int)) = True := eq_true (by omega)
      have p1 : ((0 : Int) ≤ z) = True := eq_true (by omega)
      have q3 : (z < (l.length : Int)) = True := eq_true (by omega)
      have hzn : z.toNat = j := by omega
      have hA' : Aside0 (j + 1 + 1 + k1 = l.length + 1 ∧ 1 ≤ j + 1 + 1) := ⟨by have := hA.out; omega⟩
      clear q1 hzi hil
      have hx0 : wr.cell? ⟨g, (j + 1) * 2, none⟩ = some (.int .u64 x.f0) := (hS.out.cell _).trans (by rw [Nat.mul_comm]; exact hcx.1)
      have hx1 : wr.cell? ⟨g, (j + 1) * 2 + 1, none⟩ = some (.int .u32 x.f1) := (hS.out.cell _).trans (by rw [Nat.mul_comm]; exact hcx.2)
      have hy0 : wr.cell? ⟨g, z.toNat * 2, none⟩ = some (.int .u64 y.f0) := (hS.out.cell _).trans (by rw [hzn, Nat.mul_comm]; exact hcy.1)
      have hy1 : wr.cell? ⟨g, z.toNat * 2 + 1, none⟩ = some (.int .u32 y.f1) := (hS.out.cell _).trans (by rw [hzn, Nat.mul_comm]; exact hcy.2)
      have hxA := Aside0.mk hx
      have hyA := Aside0.mk hy
      clear hcx hcy hx hy hzn
      by_cases hxy : x = y
      · subst hxy
        have hM := Aside0.mk (Mid.start hHA.out.1 (show 1 ≤ j + 1 by omega) (by have := (List.getElem?_eq_some_iff.1 hxA.out).1; exact this) hN.out (by rw [hxA.out]; exact hyA.out.symm))
        have hSd := Aside0.mk hS.out.drew
        have hil := Aside0.mk (List.getElem?_eq_some_iff.1 hxA.out).1
        have hcapA := Aside0.mk (show j + 1 ≤ cap by have := hlA.out; have := hil.out; omega)
        have p2 : ((j + 1 : Nat) : Int) ≤ (l.length : Int) := by have := hil.out; omega
        have p3 : ((l.length : Nat) : Int) ≤ (cap : Int) := by have := hlA.out; omega
        have hci : ¬ cap = j + 1 := by have := hlA.out; have := hil.out; omega
        generalize j + 1 = i at *
        go_wp2_with (fail)
        refine start_ (n := 10) (S := fun w' => w'.cell? ⟨g, i * 2, none⟩ = some (.int .u64 x.f0) ∧ w'.cell? ⟨g, i * 2 + 1, none⟩ = some (.int .u32 x.f1) ∧ w'.cell? ⟨g, z.toNat * 2, none⟩ = some (.int .u64 x.f0) ∧ w'.cell? ⟨g, z.toNat * 2 + 1, none⟩ = some (.int .u32 x.f1)) (ds := []) #[false, false, false, false, false, false, false, false, false, false] (by kernel_rfl) rfl rfl ⟨hx0, hx1, hy0, hy1⟩ (fun hHeld => ?_)
        refine pure_ (i := 0) (N := some 16) (v := ?_) (a' := ?_) #[true, false, false, false, false, false, false, false, false, false] rfl rfl (by kernel_rfl) (fun _ _ _ h => h) (Or.inl ⟨by rfl, ?_⟩) ?_ ?_
        rotate_left
        · intro w'
          go_simp
          with_reducible rfl
        rotate_left
        · simp only [Act.put, List.setIfInBounds_toArray, List.set_cons_zero, List.set_cons_succ, i64_w, i32_w]
          rfl
        refine pure_ (i := 1) (N := some 17) (v := ?_) (a' := ?_) #[true, true, false, false, false, false, false, false, false, false] rfl rfl (by kernel_rfl) (fun _ _ _ h => h) (Or.inl ⟨by rfl, ?_⟩) ?_ ?_
        rotate_left
        · intro w'
          go_simp
          with_reducible rfl
        rotate_left
        · simp only [Act.put, List.setIfInBounds_toArray, List.set_cons_zero, List.set_cons_succ, i64_w, i32_w]
          rfl
        refine pure_ (i := 2) (N := some 18) (v := ?_) (a' := ?_) #[true, true, true, false, false, false, false, false, false, false] rfl rfl (by kernel_rfl) (fun _ _ _ h => h) (Or.inl ⟨by rfl, ?_⟩) ?_ ?_
        rotate_left
        · intro w'
          go_simp
          with_reducible rfl
        rotate_left
        · simp only [Act.put, List.setIfInBounds_toArray, List.set_cons_zero, List.set_cons_succ, i64_w, i32_w]
          rfl
        refine pure_ (i := 4) (N := some 20) (v := ?_) (a' := ?_) #[true, true, true, false, true, false, false, false, false, false] rfl rfl (by kernel_rfl) (fun _ _ _ h => h) (Or.inl ⟨by rfl, ?_⟩) ?_ ?_
        rotate_left
        · intro w'
          go_simp
          with_reducible rfl
        rotate_left
        · simp only [Act.put, List.setIfInBounds_toArray, List.set_cons_zero, List.set_cons_succ, i64_w, i32_w]
          rfl
        refine pure_ (i := 5) (N := some 21) (v := ?_) (a' := ?_) #[true, true, true, false, true, true, false, false, false, false] rfl rfl (by kernel_rfl) (fun _ _ _ h => h) (Or.inl ⟨by rfl, ?_⟩) ?_ ?_
        rotate_left
        · intro w'
          go_simp
          with_reducible rfl
        rotate_left
        · simp only [Act.put, List.setIfInBounds_toArray, List.set_cons_zero, List.set_cons_succ, i64_w, i32_w]
          rfl
        refine pure_ (i := 6) (N := some 22) (v := ?_) (a' := ?_) #[true, true, true, false, true, true, true, false, false, false] rfl rfl (by kernel_rfl) (fun _ _ _ h => h) (Or.inl ⟨by rfl, ?_⟩) ?_ ?_
        rotate_left
        · intro w'
          go_simp
          with_reducible rfl
        rotate_left
        · simp only [Act.put, List.setIfInBounds_toArray, List.set_cons_zero, List.set_cons_succ, i64_w, i32_w]
          rfl
        refine pure_ (i := 7) (N := some 23) (v := ?_) (a' := ?_) #[true, true, true, false, true, true, true, true, false, false] rfl rfl (by kernel_rfl) (fun _ _ _ h => h) (Or.inl ⟨by rfl, ?_⟩) ?_ ?_
        rotate_left
        · intro w'
          go_simp
          with_reducible rfl
        rotate_left
        · simp only [Act.put, List.setIfInBounds_toArray, List.set_cons_zero, List.set_cons_succ, i64_w, i32_w]
          rfl
        refine take_ (i := 3) (N := some 19) (v := ?_) (a' := ?_) #[true, true, true, true, true, true, true, true, false, false] rfl rfl (by kernel_rfl) (fun _ _ _ h => h) (Or.inl ⟨by rfl, ?_⟩) hHeld ?_ ?_
        rotate_left
        · rintro w' ⟨s0, s1, s2, s3⟩
          go_simp
          with_reducible rfl
        rotate_left
        · simp only [Act.put, List.setIfInBounds_toArray, List.set_cons_zero, List.set_cons_succ, i64_w, i32_w]
          rfl
        refine take_ (i := 8) (N := some 24) (v := ?_) (a' := ?_) #[true, true, true, true, true, true, true, true, true, false] rfl rfl (by kernel_rfl) (fun _ _ _ h => h) (Or.inl ⟨by rfl, ?_⟩) hHeld ?_ ?_
        rotate_left
        · rintro w' ⟨s0, s1, s2, s3⟩
          go_simp
          with_reducible rfl
        rotate_left
        · simp only [Act.put, List.setIfInBounds_toArray, List.set_cons_zero, List.set_cons_succ, i64_w, i32_w]
          rfl
        refine pure_ (i := 9) (N := some 25) (v := ?_) (a' := ?_) #[true, true, true, true, true, true, true, true, true, true] rfl rfl (by kernel_rfl) (fun _ _ _ h => h) (Or.inl ⟨by rfl, ?_⟩) ?_ ?_
        rotate_left
        · intro w'
          go_simp
          with_reducible rfl
        rotate_left
        · simp only [Act.put, List.setIfInBounds_toArray, List.set_cons_zero, List.set_cons_succ, i64_w, i32_w]
          rfl
        refine done_ (by kernel_rfl) ?_
        go_wp2_with (fail)
        clear hx0 hx1 hy0 hy1 he he2 q0 q2 p0 p1 q3 hz hzw hci p2 p3
        obtain ⟨m, hm⟩ : ∃ m, l.length - i = m := ⟨_, rfl⟩
        obtain ⟨c2, hc2⟩ : ∃ c2, cap - i = c2 := ⟨_, rfl⟩
        rw [hm, hc2]
        have hmA : Aside0 (l.length = i + m ∧ cap = i + c2 ∧ m ≤ c2 ∧ m ≤ 1000000) := ⟨by have := hlA.out; have := hil.out; omega⟩
        clear hm hc2
        go_loopg [3, 5] l.length (fun kq v3 v5 w' => ∃ (k q : Nat) (cu : Array Value), v3 = .int .i64 (k : Int) ∧ v5 = .int .i64 (q : Int) ∧ Aside0 (l.length ≤ i + q + kq ∧ 1 ≤ q) ∧ Aside0 (Mid cu l (i + q) k) ∧ Aside0 (cu.size = cap * 2) ∧ Aside0 (Sep.Sep w0 w' (blk g cu 81 :: ps)))
        case atStart => exact ⟨i, 1, cur, rfl, rfl, ⟨by omega⟩, hM, ⟨hHA.out.2.1⟩, hSd⟩
        case round =>
          clear hS hSd hM hyA hxA hN hA hA'
          obtain ⟨k, q, cu, rfl, rfl, hB, hMd, hcz, hSr⟩ := hrel
          by_cases hqm : q < m
          · obtain ⟨k2, rfl⟩ : ∃ k2, gk = k2 + 1 := ⟨gk - 1, by have := hB.out; have := hmA.out; omega⟩
            have he : decide ((q : Int) < (m : Int)) = true := decide_eq_true (by omega)
            have he2 : decide (q < m) = true := decide_eq_true hqm
            obtain ⟨u, rfl⟩ : ∃ u, q = u + 1 := ⟨q - 1, by have := hB.out; omega⟩
            have hil2 : i + (u + 1) < l.length := by have := hmA.out; omega
            obtain ⟨x2, hx2⟩ : ∃ x2, l[i + (u + 1)]? = some x2 := ⟨_, List.getElem?_eq_getElem hil2⟩
            obtain ⟨y2, hy2⟩ : ∃ y2, l[i + u]? = some y2 := ⟨_, List.getElem?_eq_getElem (by omega)⟩
            have hcx := hMd.out.2.2.2.2.2 _ _ (by omega) hx2
            have hcy := hMd.out.2.2.2.2.2 (i + u) _ (by omega) hy2
            have hk1 : k + 1 ≤ i + (u + 1) := hMd.out.2.2.2.1
            have q1 : wrap64 (((u + 1 : Nat) : Int) - 1) = (u : Int) := by unfold wrap64; have := hmA.out; omega
            have q2 : wrap64 (((u + 1 : Nat) : Int) + 1) = ((u + 1 + 1 : Nat) : Int) := by unfold wrap64; have := hmA.out; omega
            have q4 : wrap64 ((k : Int) + 1) = ((k + 1 : Nat) : Int) := by unfold wrap64; have := hlA.out; omega
            obtain ⟨z2, hz⟩ : ∃ z2, wrap64 (((u + 1 : Nat) : Int) - 1) = z2 := ⟨_, rfl⟩
            have hzi : z2 = (u : Int) := hz.symm.trans q1
            have hzw : IntKind.i64.wrap (((u + 1 : Nat) : Int) - 1) = z2 := (i64_w _).trans hz
            have p0 : ((0 : Int) ≤ ((u + 1 : Nat) : Int)) = True := eq_true (by omega)
            have q0 : (((u + 1 : Nat) : Int) < (m : Int)) = True := eq_true (by omega)
            have p1 : ((0 : Int) ≤ z2) = True := eq_true (by omega)
            have q3 : (z2 < (m : Int)) = True := eq_true (by omega)
            have hzn : z2.toNat = u := by omega
            have hB' : Aside0 (l.length ≤ i + (u + 1 + 1) + k2 ∧ 1 ≤ u + 1 + 1) := ⟨by have := hB.out; omega⟩
            have hkl : Aside0 (k < l.length) := ⟨by omega⟩
            have hx0 : wr.cell? ⟨g, i * 2 + (u + 1) * 2, none⟩ = some (.int .u64 x2.f0) := (hSr.out.cell _).trans (by rw [show i * 2 + (u + 1) * 2 = 2 * (i + (u + 1)) by omega]; exact hcx.1)
            have hx1 : wr.cell? ⟨g, i * 2 + (u + 1) * 2 + 1, none⟩ = some (.int .u32 x2.f1) := (hSr.out.cell _).trans (by rw [show i * 2 + (u + 1) * 2 + 1 = 2 * (i + (u + 1)) + 1 by omega]; exact hcx.2)
            have hy0 : wr.cell? ⟨g, i * 2 + z2.toNat * 2, none⟩ = some (.int .u64 y2.f0) := (hSr.out.cell _).trans (by rw [hzn, show i * 2 + u * 2 = 2 * (i + u) by omega]; exact hcy.1)
            have hy1 : wr.cell? ⟨g, i * 2 + z2.toNat * 2 + 1, none⟩ = some (.int .u32 y2.f1) := (hSr.out.cell _).trans (by rw [hzn, show i * 2 + u * 2 + 1 = 2 * (i + u) + 1 by omega]; exact hcy.2)
            have hsk : Aside0 (k * 2 + 1 < cu.size) := ⟨by rw [hcz.out]; have := hlA.out; omega⟩
            have hS2 := Aside0.mk hSr.out.drew
            have hx2A := Aside0.mk hx2
            have hy2A := Aside0.mk hy2
            have hdef : Aside0 (i + (u + 1) - 1 = i + u) := ⟨by omega⟩
            clear hcx hcy hx2 hy2 hzn hzi q1 hk1 hil2 hqm
            by_cases hxy : x2 = y2
            · subst hxy
              have hM2 : Aside0 (Mid cu l (i + (u + 1 + 1)) k) := ⟨hMd.out.skip (List.getElem?_eq_some_iff.1 hx2A.out).1 (by rw [hx2A.out, hdef.out]; exact hy2A.out.symm)⟩
              generalize u + 1 = q at *
              go_wp2_with (fail)
              refine start_ (n := 10) (S := fun w' => w'.cell? ⟨g, i * 2 + q * 2, none⟩ = some (.int .u64 x2.f0) ∧ w'.cell? ⟨g, i * 2 + q * 2 + 1, none⟩ = some (.int .u32 x2.f1) ∧ w'.cell? ⟨g, i * 2 + z2.toNat * 2, none⟩ = some (.int .u64 x2.f0) ∧ w'.cell? ⟨g, i * 2 + z2.toNat * 2 + 1, none⟩ = some (.int .u32 x2.f1)) (ds := []) #[false, false, false, false, false, false, false, false, false, false] (by kernel_rfl) rfl rfl ⟨hx0, hx1, hy0, hy1⟩ (fun hHeld => ?_)
              refine pure_ (i := 0) (N := some 35) (v := ?_) (a' := ?_) #[true, false, false, false, false, false, false, false, false, false] rfl rfl (by kernel_rfl) (fun _ _ _ h => h) (Or.inl ⟨by rfl, ?_⟩) ?_ ?_
              rotate_left
              · intro w'
                go_simp
                with_reducible rfl
              rotate_left
              · simp only [Act.put, List.setIfInBounds_toArray, List.set_cons_zero, List.set_cons_succ, i64_w, i32_w]
                rfl
              refine pure_ (i := 1) (N := some 36) (v := ?_) (a' := ?_) #[true, true, false, false, false, false, false, false, false, false] rfl rfl (by kernel_rfl) (fun _ _ _ h => h) (Or.inl ⟨by rfl, ?_⟩) ?_ ?_
              rotate_left
              · intro w'
                go_simp
                with_reducible rfl
              rotate_left
              · simp only [Act.put, List.setIfInBounds_toArray, List.set_cons_zero, List.set_cons_succ, i64_w, i32_w]
                rfl
              refine pure_ (i := 2) (N := some 37) (v := ?_) (a' := ?_) #[true, true, true, false, false, false, false, false, false, false] rfl rfl (by kernel_rfl) (fun _ _ _ h => h) (Or.inl ⟨by rfl, ?_⟩) ?_ ?_
              rotate_left
              · intro w'
                go_simp
                with_reducible rfl
              rotate_left
              · simp only [Act.put, List.setIfInBounds_toArray, List.set_cons_zero, List.set_cons_succ, i64_w, i32_w]
                rfl
              refine pure_ (i := 4) (N := some 39) (v := ?_) (a' := ?_) #[true, true, true, false, true, false, false, false, false, false] rfl rfl (by kernel_rfl) (fun _ _ _ h => h) (Or.inl ⟨by rfl, ?_⟩) ?_ ?_
              rotate_left
              · intro w'
                go_simp
                with_reducible rfl
              rotate_left
              · simp only [Act.put, List.setIfInBounds_toArray, List.set_cons_zero, List.set_cons_succ, i64_w, i32_w]
                rfl
              refine pure_ (i := 5) (N := some 40) (v := ?_) (a' := ?_) #[true, true, true, false, true, true, false, false, false, false] rfl rfl (by kernel_rfl) (fun _ _ _ h => h) (Or.inl ⟨by rfl, ?_⟩) ?_ ?_
              rotate_left
              · intro w'
                go_simp
                with_reducible rfl
              rotate_left
              · simp only [Act.put, List.setIfInBounds_toArray, List.set_cons_zero, List.set_cons_succ, i64_w, i32_w]
                rfl
              refine pure_ (i := 6) (N := some 41) (v := ?_) (a' := ?_) #[true, true, true, false, true, true, true, false, false, false] rfl rfl (by kernel_rfl) (fun _ _ _ h => h) (Or.inl ⟨by rfl, ?_⟩) ?_ ?_
              rotate_left
              · intro w'
                go_simp
                with_reducible rfl
              rotate_left
              · simp only [Act.put, List.setIfInBounds_toArray, List.set_cons_zero, List.set_cons_succ, i64_w, i32_w]
                rfl
              refine pure_ (i := 7) (N := some 42) (v := ?_) (a' := ?_) #[true, true, true, false, true, true, true, true, false, false] rfl rfl (by kernel_rfl) (fun _ _ _ h => h) (Or.inl ⟨by rfl, ?_⟩) ?_ ?_
              rotate_left
              · intro w'
                go_simp
                with_reducible rfl
              rotate_left
              · simp only [Act.put, List.setIfInBounds_toArray, List.set_cons_zero, List.set_cons_succ, i64_w, i32_w]
                rfl
              refine take_ (i := 3) (N := some 38) (v := ?_) (a' := ?_) #[true, true, true, true, true, true, true, true, false, false] rfl rfl (by kernel_rfl) (fun _ _ _ h => h) (Or.inl ⟨by rfl, ?_⟩) hHeld ?_ ?_
              rotate_left
              · rintro w' ⟨s0, s1, s2, s3⟩
                go_simp
                with_reducible rfl
              rotate_left
              · simp only [Act.put, List.setIfInBounds_toArray, List.set_cons_zero, List.set_cons_succ, i64_w, i32_w]
                rfl
              refine take_ (i := 8) (N := some 43) (v := ?_) (a' := ?_) #[true, true, true, true, true, true, true, true, true, false] rfl rfl (by kernel_rfl) (fun _ _ _ h => h) (Or.inl ⟨by rfl, ?_⟩) hHeld ?_ ?_
              rotate_left
              · rintro w' ⟨s0, s1, s2, s3⟩
                go_simp
                with_reducible rfl
              rotate_left
              · simp only [Act.put, List.setIfInBounds_toArray, List.set_cons_zero, List.set_cons_succ, i64_w, i32_w]
                rfl
              refine pure_ (i := 9) (N := some 44) (v := ?_) (a' := ?_) #[true, true, true, true, true, true, true, true, true, true] rfl rfl (by kernel_rfl) (fun _ _ _ h => h) (Or.inl ⟨by rfl, ?_⟩) ?_ ?_
              rotate_left
              · intro w'
                go_simp
                with_reducible rfl
              rotate_left
              · simp only [Act.put, List.setIfInBounds_toArray, List.set_cons_zero, List.set_cons_succ, i64_w, i32_w]
                rfl
              refine done_ (by kernel_rfl) ?_
              go_wp2_with (fail)
              go_roundg k2
              case measure => omega
              case rel => exact ⟨k, q + 1, cu, rfl, by first | rw [q2] | rfl, hB', hM2, hcz, hS2⟩
            · have hM2 : Aside0 (Mid ((cu.setIfInBounds (k * 2) (.int .u64 x2.f0)).setIfInBounds (k * 2 + 1) (.int .u32 x2.f1)) l (i + (u + 1 + 1)) (k + 1)) := ⟨by
                have := hMd.out.keep hx2A.out (by rw [hx2A.out, hdef.out, hy2A.out]; exact fun e => hxy (Option.some.inj e)) (by rw [hcz.out]; have := hlA.out; omega)
                rw [Nat.mul_comm 2 k] at this
                exact this⟩
              have hcz2 : Aside0 (((cu.setIfInBounds (k * 2) (.int .u64 x2.f0)).setIfInBounds (k * 2 + 1) (.int .u32 x2.f1)).size = cap * 2) := ⟨by rw [Array.size_setIfInBounds, Array.size_setIfInBounds]; exact hcz.out⟩
              have hb : (x2.f0 = y2.f0) = False ∨ (x2.f0 = y2.f0) = True ∧ (x2.f1 = y2.f1) = False := by
                by_cases h1 : x2.f0 = y2.f0
                · refine .inr ⟨eq_true h1, eq_false fun h2 => hxy ?_⟩
                  cases x2; cases y2; simp only at h1 h2; rw [h1, h2]
                · exact .inl (eq_false h1)
              have hS3 : Aside0 (Sep.Sep w0 ((wr.setCell ⟨g, k * 2, none⟩ (.int .u64 x2.f0)).setCell ⟨g, k * 2 + 1, none⟩ (.int .u32 x2.f1)).drew (blk g ((cu.setIfInBounds (k * 2) (.int .u64 x2.f0)).setIfInBounds (k * 2 + 1) (.int .u32 x2.f1)) 81 :: ps)) := ⟨((hSr.out.set _ _).set _ _).drew⟩
              obtain ⟨ck0, hck0⟩ : ∃ v, wr.cell? ⟨g, k * 2, none⟩ = some v := ⟨_, (hSr.out.cell _).trans (Array.getElem?_eq_getElem (by have := hsk.out; omega))⟩
              obtain ⟨ck1, hck1⟩ : ∃ v, wr.cell? ⟨g, k * 2 + 1, none⟩ = some v := ⟨_, (hSr.out.cell _).trans (Array.getElem?_eq_getElem (by have := hsk.out; omega))⟩
              have hfk0 : wr.frozen? ⟨g, k * 2, none⟩ = false := hSr.out.frozen _
              have hfk1 : wr.frozen? ⟨g, k * 2 + 1, none⟩ = false := hSr.out.frozen _
              have pk0 : (k : Int) < (l.length : Int) := by have := hkl.out; omega
              clear hxy
              generalize u + 1 = q at *
              rcases hb with hb0 | ⟨hb0, hb1⟩
              · go_wp2_with (fail)
                refine start_ (n := 10) (S := fun w' => w'.cell? ⟨g, i * 2 + q * 2, none⟩ = some (.int .u64 x2.f0) ∧ w'.cell? ⟨g, i * 2 + q * 2 + 1, none⟩ = some (.int .u32 x2.f1) ∧ w'.cell? ⟨g, i * 2 + z2.toNat * 2, none⟩ = some (.int .u64 y2.f0) ∧ w'.cell? ⟨g, i * 2 + z2.toNat * 2 + 1, none⟩ = some (.int .u32 y2.f1) ∧ (x2.f0 = y2.f0) = False) (ds := []) #[false, false, false, false, false, false, false, false, false, false] (by kernel_rfl) rfl rfl ⟨hx0, hx1, hy0, hy1, hb0⟩ (fun hHeld => ?_)
                refine pure_ (i := 0) (N := some 35) (v := ?_) (a' := ?_) #[true, false, false, false, false, false, false, false, false, false] rfl rfl (by kernel_rfl) (fun _ _ _ h => h) (Or.inl ⟨by rfl, ?_⟩) ?_ ?_
                rotate_left
                · intro w'
                  go_simp
                  with_reducible rfl
                rotate_left
                · simp only [Act.put, List.setIfInBounds_toArray, List.set_cons_zero, List.set_cons_succ, i64_w, i32_w]
                  rfl
                refine pure_ (i := 1) (N := some 36) (v := ?_) (a' := ?_) #[true, true, false, false, false, false, false, false, false, false] rfl rfl (by kernel_rfl) (fun _ _ _ h => h) (Or.inl ⟨by rfl, ?_⟩) ?_ ?_
                rotate_left
                · intro w'
                  go_simp
                  with_reducible rfl
                rotate_left
                · simp only [Act.put, List.setIfInBounds_toArray, List.set_cons_zero, List.set_cons_succ, i64_w, i32_w]
                  rfl
                refine pure_ (i := 2) (N := some 37) (v := ?_) (a' := ?_) #[true, true, true, false, false, false, false, false, false, false] rfl rfl (by kernel_rfl) (fun _ _ _ h => h) (Or.inl ⟨by rfl, ?_⟩) ?_ ?_
                rotate_left
                · intro w'
                  go_simp
                  with_reducible rfl
                rotate_left
                · simp only [Act.put, List.setIfInBounds_toArray, List.set_cons_zero, List.set_cons_succ, i64_w, i32_w]
                  rfl
                refine pure_ (i := 4) (N := some 39) (v := ?_) (a' := ?_) #[true, true, true, false, true, false, false, false, false, false] rfl rfl (by kernel_rfl) (fun _ _ _ h => h) (Or.inl ⟨by rfl, ?_⟩) ?_ ?_
                rotate_left
                · intro w'
                  go_simp
                  with_reducible rfl
                rotate_left
                · simp only [Act.put, List.setIfInBounds_toArray, List.set_cons_zero, List.set_cons_succ, i64_w, i32_w]
                  rfl
                refine pure_ (i := 5) (N := some 40) (v := ?_) (a' := ?_) #[true, true, true, false, true, true, false, false, false, false] rfl rfl (by kernel_rfl) (fun _ _ _ h => h) (Or.inl ⟨by rfl, ?_⟩) ?_ ?_
                rotate_left
                · intro w'
                  go_simp
                  with_reducible rfl
                rotate_left
                · simp only [Act.put, List.setIfInBounds_toArray, List.set_cons_zero, List.set_cons_succ, i64_w, i32_w]
                  rfl
                refine pure_ (i := 6) (N := some 41) (v := ?_) (a' := ?_) #[true, true, true, false, true, true, true, false, false, false] rfl rfl (by kernel_rfl) (fun _ _ _ h => h) (Or.inl ⟨by rfl, ?_⟩) ?_ ?_
                rotate_left
                · intro w'
                  go_simp
                  with_reducible rfl
                rotate_left
                · simp only [Act.put, List.setIfInBounds_toArray, List.set_cons_zero, List.set_cons_succ, i64_w, i32_w]
                  rfl
                refine pure_ (i := 7) (N := some 42) (v := ?_) (a' := ?_) #[true, true, true, false, true, true, true, true, false, false] rfl rfl (by kernel_rfl) (fun _ _ _ h => h) (Or.inl ⟨by rfl, ?_⟩) ?_ ?_
                rotate_left
                · intro w'
                  go_simp
                  with_reducible rfl
                rotate_left
                · simp only [Act.put, List.setIfInBounds_toArray, List.set_cons_zero, List.set_cons_succ, i64_w, i32_w]
                  rfl
                refine take_ (i := 3) (N := some 38) (v := ?_) (a' := ?_) #[true, true, true, true, true, true, true, true, false, false] rfl rfl (by kernel_rfl) (fun _ _ _ h => h) (Or.inl ⟨by rfl, ?_⟩) hHeld ?_ ?_
                rotate_left
                · rintro w' ⟨s0, s1, s2, s3, s4⟩
                  go_simp
                  with_reducible rfl
                rotate_left
                · simp only [Act.put, List.setIfInBounds_toArray, List.set_cons_zero, List.set_cons_succ, i64_w, i32_w]
                  rfl
                refine take_ (i := 8) (N := some 43) (v := ?_) (a' := ?_) #[true, true, true, true, true, true, true, true, true, false] rfl rfl (by kernel_rfl) (fun _ _ _ h => h) (Or.inl ⟨by rfl, ?_⟩) hHeld ?_ ?_
                rotate_left
                · rintro w' ⟨s0, s1, s2, s3, s4⟩
                  go_simp
                  with_reducible rfl
                rotate_left
                · simp only [Act.put, List.setIfInBounds_toArray, List.set_cons_zero, List.set_cons_succ, i64_w, i32_w]
                  rfl
                refine pure_ (i := 9) (N := some 44) (v := ?_) (a' := ?_) #[true, true, true, true, true, true, true, true, true, true] rfl rfl (by kernel_rfl) (fun _ _ _ h => h) (Or.inl ⟨by rfl, ?_⟩) ?_ ?_
                rotate_left
                · intro w'
                  go_simp
                  with_reducible rfl
                rotate_left
                · simp only [Act.put, List.setIfInBounds_toArray, List.set_cons_zero, List.set_cons_succ, i64_w, i32_w]
                  rfl
                refine done_ (by kernel_rfl) ?_
                go_wp2_with (fail)
                go_roundg k2
                case measure => omega
                case rel => exact ⟨k + 1, q + 1, _, by first | rw [q4] | rfl, by first | rw [q2] | rfl, hB', hM2, hcz2, hS3⟩
              · go_wp2_with (fail)
                refine start_ (n := 10) (S := fun w' => w'.cell? ⟨g, i * 2 + q * 2, none⟩ = some (.int .u64 x2.f0) ∧ w'.cell? ⟨g, i * 2 + q * 2 + 1, none⟩ = some (.int .u32 x2.f1) ∧ w'.cell? ⟨g, i * 2 + z2.toNat * 2, none⟩ = some (.int .u64 y2.f0) ∧ w'.cell? ⟨g, i * 2 + z2.toNat * 2 + 1, none⟩ = some (.int .u32 y2.f1) ∧ (x2.f0 = y2.f0) = True ∧ (x2.f1 = y2.f1) = False) (ds := []) #[false, false, false, false, false, false, false, false, false, false] (by kernel_rfl) rfl rfl ⟨hx0, hx1, hy0, hy1, hb0, hb1⟩ (fun hHeld => ?_)
                refine pure_ (i := 0) (N := some 35) (v := ?_) (a' := ?_) #[true, false, false, false, false, false, false, false, false, false] rfl rfl (by kernel_rfl) (fun _ _ _ h => h) (Or.inl ⟨by rfl, ?_⟩) ?_ ?_
                rotate_left
                · intro w'
                  go_simp
                  with_reducible rfl
                rotate_left
                · simp only [Act.put, List.setIfInBounds_toArray, List.set_cons_zero, List.set_cons_succ, i64_w, i32_w]
                  rfl
                refine pure_ (i := 1) (N := some 36) (v := ?_) (a' := ?_) #[true, true, false, false, false, false, false, false, false, false] rfl rfl (by kernel_rfl) (fun _ _ _ h => h) (Or.inl ⟨by rfl, ?_⟩) ?_ ?_
                rotate_left
                · intro w'
                  go_simp
                  with_reducible rfl
                rotate_left
                · simp only [Act.put, List.setIfInBounds_toArray, List.set_cons_zero, List.set_cons_succ, i64_w, i32_w]
                  rfl
                refine pure_ (i := 2) (N := some 37) (v := ?_) (a' := ?_) #[true, true, true, false, false, false, false, false, false, false] rfl rfl (by kernel_rfl) (fun _ _ _ h => h) (Or.inl ⟨by rfl, ?_⟩) ?_ ?_
                rotate_left
                · intro w'
                  go_simp
                  with_reducible rfl
                rotate_left
                · simp only [Act.put, List.setIfInBounds_toArray, List.set_cons_zero, List.set_cons_succ, i64_w, i32_w]
                  rfl
                refine pure_ (i := 4) (N := some 39) (v := ?_) (a' := ?_) #[true, true, true, false, true, false, false, false, false, false] rfl rfl (by kernel_rfl) (fun _ _ _ h => h) (Or.inl ⟨by rfl, ?_⟩) ?_ ?_
                rotate_left
                · intro w'
                  go_simp
                  with_reducible rfl
                rotate_left
                · simp only [Act.put, List.setIfInBounds_toArray, List.set_cons_zero, List.set_cons_succ, i64_w, i32_w]
                  rfl
                refine pure_ (i := 5) (N := some 40) (v := ?_) (a' := ?_) #[true, true, true, false, true, true, false, false, false, false] rfl rfl (by kernel_rfl) (fun _ _ _ h => h) (Or.inl ⟨by rfl, ?_⟩) ?_ ?_
                rotate_left
                · intro w'
                  go_simp
                  with_reducible rfl
                rotate_left
                · simp only [Act.put, List.setIfInBounds_toArray, List.set_cons_zero, List.set_cons_succ, i64_w, i32_w]
                  rfl
                refine pure_ (i := 6) (N := some 41) (v := ?_) (a' := ?_) #[true, true, true, false, true, true, true, false, false, false] rfl rfl (by kernel_rfl) (fun _ _ _ h => h) (Or.inl ⟨by rfl, ?_⟩) ?_ ?_
                rotate_left
                · intro w'
                  go_simp
                  with_reducible rfl
                rotate_left
                · simp only [Act.put, List.setIfInBounds_toArray, List.set_cons_zero, List.set_cons_succ, i64_w, i32_w]
                  rfl
                refine pure_ (i := 7) (N := some 42) (v := ?_) (a' := ?_) #[true, true, true, false, true, true, true, true, false, false] rfl rfl (by kernel_rfl) (fun _ _ _ h => h) (Or.inl ⟨by rfl, ?_⟩) ?_ ?_
                rotate_left
                · intro w'
                  go_simp
                  with_reducible rfl
                rotate_left
                · simp only [Act.put, List.setIfInBounds_toArray, List.set_cons_zero, List.set_cons_succ, i64_w, i32_w]
                  rfl
                refine take_ (i := 3) (N := some 38) (v := ?_) (a' := ?_) #[true, true, true, true, true, true, true, true, false, false] rfl rfl (by kernel_rfl) (fun _ _ _ h => h) (Or.inl ⟨by rfl, ?_⟩) hHeld ?_ ?_
                rotate_left
                · rintro w' ⟨s0, s1, s2, s3, s4, s5⟩
                  go_simp
                  with_reducible rfl
                rotate_left
                · simp only [Act.put, List.setIfInBounds_toArray, List.set_cons_zero, List.set_cons_succ, i64_w, i32_w]
                  rfl
                refine take_ (i := 8) (N := some 43) (v := ?_) (a' := ?_) #[true, true, true, true, true, true, true, true, true, false] rfl rfl (by kernel_rfl) (fun _ _ _ h => h) (Or.inl ⟨by rfl, ?_⟩) hHeld ?_ ?_
                rotate_left
                · rintro w' ⟨s0, s1, s2, s3, s4, s5⟩
                  go_simp
                  with_reducible rfl
                rotate_left
                · simp only [Act.put, List.setIfInBounds_toArray, List.set_cons_zero, List.set_cons_succ, i64_w, i32_w]
                  rfl
                refine pure_ (i := 9) (N := some 44) (v := ?_) (a' := ?_) #[true, true, true, true, true, true, true, true, true, true] rfl rfl (by kernel_rfl) (fun _ _ _ h => h) (Or.inl ⟨by rfl, ?_⟩) ?_ ?_
                rotate_left
                · intro w'
                  go_simp
                  with_reducible rfl
                rotate_left
                · simp only [Act.put, List.setIfInBounds_toArray, List.set_cons_zero, List.set_cons_succ, i64_w, i32_w]
                  rfl
                refine done_ (by kernel_rfl) ?_
                go_wp2_with (fail)
                go_roundg k2
                case measure => omega
                case rel => exact ⟨k + 1, q + 1, _, by first | rw [q4] | rfl, by first | rw [q2] | rfl, hB', hM2, hcz2, hS3⟩
          · have he : decide ((q : Int) < (m : Int)) = false := decide_eq_false (by omega)
            have he2 : decide (q < m) = false := decide_eq_false hqm
            obtain ⟨m1, m2, m3, m4, m5, m6⟩ := hMd.out
            have hiq : i + q = l.length := by have := hmA.out; omega
            rw [hiq] at m3 m5
            have hkl : k < l.length := by omega
            have hkc : ¬ cap = k := by have := hlA.out; omega
            have hkA : Aside0 (k < l.length ∧ (compactE l).length = k ∧ Hold cu (compactE l)) := ⟨hkl, m3, m5⟩
            have pk : (k : Int) ≤ (l.length : Int) := by omega
            have pk2 : (k : Int) ≤ (cap : Int) := by have := hlA.out; omega
            have pc : (l.length : Int) ≤ (cap : Int) := by have := hlA.out; omega
            have hcl : ∀ ty : TypeId, (Builtin.clear_ #[77] ty #[.slice (some ⟨g, k * 2, none⟩) ((l.length - k : Nat)) ((cap - k : Nat))]).run Try.prog wr = .ok (.tuple #[]) (wr.setCells g (k * 2) (Builtin.zeroCells #[.int .u64 0, .int .u32 0] (l.length - k)).toList) := fun ty =>
              run_clearE wr ty g (k * 2) (l.length - k) (cap - k) cu hSr.out.blk_at.1 (by omega) (by rw [hcz.out]; have := hlA.out; omega)
            obtain ⟨cs', hs1, hs2, hs3⟩ := setCells_blk (Builtin.zeroCells #[.int .u64 0, .int .u32 0] (l.length - k)).toList (k * 2) _ _ hSr.out
            have hsA : Aside0 (Sep.Sep w0 (wr.setCells g (k * 2) (Builtin.zeroCells #[.int .u64 0, .int .u32 0] (l.length - k)).toList) (blk g cs' 81 :: ps) ∧ cs'.size = cu.size ∧ ∀ i, i < k * 2 → cs'[i]? = cu[i]?) := ⟨hs1, hs2, hs3⟩
            clear m1 m2 m3 m4 m5 m6 hiq hs1 hs2 hs3 hqm
            go_wp2_with (fail)
            go_ret
            obtain ⟨k1', k2', k3'⟩ := hkA.out
            obtain ⟨s1, s2, s3⟩ := hsA.out
            refine ⟨cs', by rw [k2']; rfl, s2.trans hcz.out, fun jj y hj => ?_, s1⟩
            have hjl := (List.getElem?_eq_some_iff.1 hj).1
            obtain ⟨c0, c1⟩ := k3' jj y hj
            exact ⟨(s3 _ (by omega)).trans c0, (s3 _ (by omega)).trans c1⟩
      · have hb : (x.f0 = y.f0) = False ∨ (x.f0 = y.f0) = True ∧ (x.f1 = y.f1) = False := by
          by_cases h1 : x.f0 = y.f0
          · refine .inr ⟨eq_true h1, eq_false fun h2 => hxy ?_⟩
            cases x; cases y; simp only at h1 h2; rw [h1, h2]
          · exact .inl (eq_false h1)
        have hN' : Aside0 (∀ q, 1 ≤ q → q < j + 1 + 1 → l[q]? ≠ l[q - 1]?) := ⟨fun q h1 h2 => by
          by_cases hq : q = j + 1
          · subst hq
            rw [hxA.out, show j + 1 - 1 = j from rfl, hyA.out]
            exact fun e => hxy (Option.some.inj e)
          · exact hN.out q h1 (by omega)⟩
        have hSd := Aside0.mk hS.out.drew
        clear hxy
        generalize j + 1 = i at *
        rcases hb with hb0 | ⟨hb0, hb1⟩
        · go_wp2_with (fail)
          refine start_ (n := 10) (S := fun w' => w'.cell? ⟨g, i * 2, none⟩ = some (.int .u64 x.f0) ∧ w'.cell? ⟨g, i * 2 + 1, none⟩ = some (.int .u32 x.f1) ∧ w'.cell? ⟨g, z.toNat * 2, none⟩ = some (.int .u64 y.f0) ∧ w'.cell? ⟨g, z.toNat * 2 + 1, none⟩ = some (.int .u32 y.f1) ∧ (x.f0 = y.f0) = False) (ds := []) #[false, false, false, false, false, false, false, false, false, false] (by kernel_rfl) rfl rfl ⟨hx0, hx1, hy0, hy1, hb0⟩ (fun hHeld => ?_)
          refine pure_ (i := 0) (N := some 16) (v := ?_) (a' := ?_) #[true, false, false, false, false, false, false, false, false, false] rfl rfl (by kernel_rfl) (fun _ _ _ h => h) (Or.inl ⟨by rfl, ?_⟩) ?_ ?_
          rotate_left
          · intro w'
            go_simp
            with_reducible rfl
          rotate_left
          · simp only [Act.put, List.setIfInBounds_toArray, List.set_cons_zero, List.set_cons_succ, i64_w, i32_w]
            rfl
          refine pure_ (i := 1) (N := some 17) (v := ?_) (a' := ?_) #[true, true, false, false, false, false, false, false, false, false] rfl rfl (by kernel_rfl) (fun _ _ _ h => h) (Or.inl ⟨by rfl, ?_⟩) ?_ ?_
          rotate_left
          · intro w'
            go_simp
            with_reducible rfl
          rotate_left
          · simp only [Act.put, List.setIfInBounds_toArray, List.set_cons_zero, List.set_cons_succ, i64_w, i32_w]
            rfl
          refine pure_ (i := 2) (N := some 18) (v := ?_) (a' := ?_) #[true, true, true, false, false, false, false, false, false, false] rfl rfl (by kernel_rfl) (fun _ _ _ h => h) (Or.inl ⟨by rfl, ?_⟩) ?_ ?_
          rotate_left
          · intro w'
            go_simp
            with_reducible rfl
          rotate_left
          · simp only [Act.put, List.setIfInBounds_toArray, List.set_cons_zero, List.set_cons_succ, i64_w, i32_w]
            rfl
          refine pure_ (i := 4) (N := some 20) (v := ?_) (a' := ?_) #[true, true, true, false, true, false, false, false, false, false] rfl rfl (by kernel_rfl) (fun _ _ _ h => h) (Or.inl ⟨by rfl, ?_⟩) ?_ ?_
          rotate_left
          · intro w'
            go_simp
            with_reducible rfl
          rotate_left
          · simp only [Act.put, List.setIfInBounds_toArray, List.set_cons_zero, List.set_cons_succ, i64_w, i32_w]
            rfl
          refine pure_ (i := 5) (N := some 21) (v := ?_) (a' := ?_) #[true, true, true, false, true, true, false, false, false, false] rfl rfl (by kernel_rfl) (fun _ _ _ h => h) (Or.inl ⟨by rfl, ?_⟩) ?_ ?_
          rotate_left
          · intro w'
            go_simp
            with_reducible rfl
          rotate_left
          · simp only [Act.put, List.setIfInBounds_toArray, List.set_cons_zero, List.set_cons_succ, i64_w, i32_w]
            rfl
          refine pure_ (i := 6) (N := some 22) (v := ?_) (a' := ?_) #[true, true, true, false, true, true, true, false, false, false] rfl rfl (by kernel_rfl) (fun _ _ _ h => h) (Or.inl ⟨by rfl, ?_⟩) ?_ ?_
          rotate_left
          · intro w'
            go_simp
            with_reducible rfl
          rotate_left
          · simp only [Act.put, List.setIfInBounds_toArray, List.set_cons_zero, List.set_cons_succ, i64_w, i32_w]
            rfl
          refine pure_ (i := 7) (N := some 23) (v := ?_) (a' := ?_) #[true, true, true, false, true, true, true, true, false, false] rfl rfl (by kernel_rfl) (fun _ _ _ h => h) (Or.inl ⟨by rfl, ?_⟩) ?_ ?_
          rotate_left
          · intro w'
            go_simp
            with_reducible rfl
          rotate_left
          · simp only [Act.put, List.setIfInBounds_toArray, List.set_cons_zero, List.set_cons_succ, i64_w, i32_w]
            rfl
          refine take_ (i := 3) (N := some 19) (v := ?_) (a' := ?_) #[true, true, true, true, true, true, true, true, false, false] rfl rfl (by kernel_rfl) (fun _ _ _ h => h) (Or.inl ⟨by rfl, ?_⟩) hHeld ?_ ?_
          rotate_left
          · rintro w' ⟨s0, s1, s2, s3, s4⟩
            go_simp
            with_reducible rfl
          rotate_left
          · simp only [Act.put, List.setIfInBounds_toArray, List.set_cons_zero, List.set_cons_succ, i64_w, i32_w]
            rfl
          refine take_ (i := 8) (N := some 24) (v := ?_) (a' := ?_) #[true, true, true, true, true, true, true, true, true, false] rfl rfl (by kernel_rfl) (fun _ _ _ h => h) (Or.inl ⟨by rfl, ?_⟩) hHeld ?_ ?_
          rotate_left
          · rintro w' ⟨s0, s1, s2, s3, s4⟩
            go_simp
            with_reducible rfl
          rotate_left
          · simp only [Act.put, List.setIfInBounds_toArray, List.set_cons_zero, List.set_cons_succ, i64_w, i32_w]
            rfl
          refine pure_ (i := 9) (N := some 25) (v := ?_) (a' := ?_) #[true, true, true, true, true, true, true, true, true, true] rfl rfl (by kernel_rfl) (fun _ _ _ h => h) (Or.inl ⟨by rfl, ?_⟩) ?_ ?_
          rotate_left
          · intro w'
            go_simp
            with_reducible rfl
          rotate_left
          · simp only [Act.put, List.setIfInBounds_toArray, List.set_cons_zero, List.set_cons_succ, i64_w, i32_w]
            rfl
          refine done_ (by kernel_rfl) ?_
          go_wp2_with (fail)
          go_roundg k1
          case measure => omega
          case rel => exact ⟨i + 1, by first | rw [q2] | rfl, hA', hN', hSd⟩
        · go_wp2_with (fail)
          refine start_ (n := 10) (S := fun w' => w'.cell? ⟨g, i * 2, none⟩ = some (.int .u64 x.f0) ∧ w'.cell? ⟨g, i * 2 + 1, none⟩ = some (.int .u32 x.f1) ∧ w'.cell? ⟨g, z.toNat * 2, none⟩ = some (.int .u64 y.f0) ∧ w'.cell? ⟨g, z.toNat * 2 + 1, none⟩ = some (.int .u32 y.f1) ∧ (x.f0 = y.f0) = True ∧ (x.f1 = y.f1) = False) (ds := []) #[false, false, false, false, false, false, false, false, false, false] (by kernel_rfl) rfl rfl ⟨hx0, hx1, hy0, hy1, hb0, hb1⟩ (fun hHeld => ?_)
          refine pure_ (i := 0) (N := some 16) (v := ?_) (a' := ?_) #[true, false, false, false, false, false, false, false, false, false] rfl rfl (by kernel_rfl) (fun _ _ _ h => h) (Or.inl ⟨by rfl, ?_⟩) ?_ ?_
          rotate_left
          · intro w'
            go_simp
            with_reducible rfl
          rotate_left
          · simp only [Act.put, List.setIfInBounds_toArray, List.set_cons_zero, List.set_cons_succ, i64_w, i32_w]
            rfl
          refine pure_ (i := 1) (N := some 17) (v := ?_) (a' := ?_) #[true, true, false, false, false, false, false, false, false, false] rfl rfl (by kernel_rfl) (fun _ _ _ h => h) (Or.inl ⟨by rfl, ?_⟩) ?_ ?_
          rotate_left
          · intro w'
            go_simp
            with_reducible rfl
          rotate_left
          · simp only [Act.put, List.setIfInBounds_toArray, List.set_cons_zero, List.set_cons_succ, i64_w, i32_w]
            rfl
          refine pure_ (i := 2) (N := some 18) (v := ?_) (a' := ?_) #[true, true, true, false, false, false, false, false, false, false] rfl rfl (by kernel_rfl) (fun _ _ _ h => h) (Or.inl ⟨by rfl, ?_⟩) ?_ ?_
          rotate_left
          · intro w'
            go_simp
            with_reducible rfl
          rotate_left
          · simp only [Act.put, List.setIfInBounds_toArray, List.set_cons_zero, List.set_cons_succ, i64_w, i32_w]
            rfl
          refine pure_ (i := 4) (N := some 20) (v := ?_) (a' := ?_) #[true, true, true, false, true, false, false, false, false, false] rfl rfl (by kernel_rfl) (fun _ _ _ h => h) (Or.inl ⟨by rfl, ?_⟩) ?_ ?_
          rotate_left
          · intro w'
            go_simp
            with_reducible rfl
          rotate_left
          · simp only [Act.put, List.setIfInBounds_toArray, List.set_cons_zero, List.set_cons_succ, i64_w, i32_w]
            rfl
          refine pure_ (i := 5) (N := some 21) (v := ?_) (a' := ?_) #[true, true, true, false, true, true, false, false, false, false] rfl rfl (by kernel_rfl) (fun _ _ _ h => h) (Or.inl ⟨by rfl, ?_⟩) ?_ ?_
          rotate_left
          · intro w'
            go_simp
            with_reducible rfl
          rotate_left
          · simp only [Act.put, List.setIfInBounds_toArray, List.set_cons_zero, List.set_cons_succ, i64_w, i32_w]
            rfl
          refine pure_ (i := 6) (N := some 22) (v := ?_) (a' := ?_) #[true, true, true, false, true, true, true, false, false, false] rfl rfl (by kernel_rfl) (fun _ _ _ h => h) (Or.inl ⟨by rfl, ?_⟩) ?_ ?_
          rotate_left
          · intro w'
            go_simp
            with_reducible rfl
          rotate_left
          · simp only [Act.put, List.setIfInBounds_toArray, List.set_cons_zero, List.set_cons_succ, i64_w, i32_w]
            rfl
          refine pure_ (i := 7) (N := some 23) (v := ?_) (a' := ?_) #[true, true, true, false, true, true, true, true, false, false] rfl rfl (by kernel_rfl) (fun _ _ _ h => h) (Or.inl ⟨by rfl, ?_⟩) ?_ ?_
          rotate_left
          · intro w'
            go_simp
            with_reducible rfl
          rotate_left
          · simp only [Act.put, List.setIfInBounds_toArray, List.set_cons_zero, List.set_cons_succ, i64_w, i32_w]
            rfl
          refine take_ (i := 3) (N := some 19) (v := ?_) (a' := ?_) #[true, true, true, true, true, true, true, true, false, false] rfl rfl (by kernel_rfl) (fun _ _ _ h => h) (Or.inl ⟨by rfl, ?_⟩) hHeld ?_ ?_
          rotate_left
          · rintro w' ⟨s0, s1, s2, s3, s4, s5⟩
            go_simp
            with_reducible rfl
          rotate_left
          · simp only [Act.put, List.setIfInBounds_toArray, List.set_cons_zero, List.set_cons_succ, i64_w, i32_w]
            rfl
          refine take_ (i := 8) (N := some 24) (v := ?_) (a' := ?_) #[true, true, true, true, true, true, true, true, true, false] rfl rfl (by kernel_rfl) (fun _ _ _ h => h) (Or.inl ⟨by rfl, ?_⟩) hHeld ?_ ?_
          rotate_left
          · rintro w' ⟨s0, s1, s2, s3, s4, s5⟩
            go_simp
            with_reducible rfl
          rotate_left
          · simp only [Act.put, List.setIfInBounds_toArray, List.set_cons_zero, List.set_cons_succ, i64_w, i32_w]
            rfl
          refine pure_ (i := 9) (N := some 25) (v := ?_) (a' := ?_) #[true, true, true, true, true, true, true, true, true, true] rfl rfl (by kernel_rfl) (fun _ _ _ h => h) (Or.inl ⟨by rfl, ?_⟩) ?_ ?_
          rotate_left
          · intro w'
            go_simp
            with_reducible rfl
          rotate_left
          · simp only [Act.put, List.setIfInBounds_toArray, List.set_cons_zero, List.set_cons_succ, i64_w, i32_w]
            rfl
          refine done_ (by kernel_rfl) ?_
          go_wp2_with (fail)
          go_roundg k1
          case measure => omega
          case rel => exact ⟨i + 1, by first | rw [q2] | rfl, hA', hN', hSd⟩
    · have he : decide ((i : Int) < (l.length : Int)) = false := decide_eq_false (by omega)
      have he2 : decide (i < l.length) = false := decide_eq_false hil
      have hC : compactE l = l := by
        unfold compactE
        rw [dc_take l l.length (Nat.le_refl _) (fun j h1 h2 => hN.out j h1 (by omega)), List.take_length]
      clear hil
      go_wp2_with (fail)
      go_ret
      exact ⟨cur, by rw [hC]; rfl, hHA.out.2.1, by rw [hC]; exact hHA.out.1, hS.out⟩
end Go.Proofs.Ytnmdckgaljldhaa.Tb
