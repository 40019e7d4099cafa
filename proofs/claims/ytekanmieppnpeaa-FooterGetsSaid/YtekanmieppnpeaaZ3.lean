/- Texts of a claim, one behind the other (shake.py): what it does not use is left out. -/
import Derived.Test.YtekanmieppnpeaaZ2
import Derived.Shelf.RegionOpen
import Derived.Deep.MidRow
section
set_option linter.unusedVariables false
set_option linter.unusedSimpArgs false
namespace Go.Proofs.Ytekanmieppnpeaa.Fe
open Go Go.RowKit Go.Proofs.YtekanmieppnpeaaW.PrintWords Go.Proofs.YtekanmieppnpeaaW.PrintLast Go.Proofs.YtekanmieppnpeaaW.PrintMore Go.Proofs.Ytekanmieppnpeaa.Sep Go.Proofs.Ytekanmieppnpeaa.G Go.Proofs.Ytekanmieppnpeaa.Tb
set_option maxHeartbeats 4000000
set_option maxRecDepth 100000
attribute [local go_sem] Oper.semAt_some
def appX (ats : Array TypeId) (ty : TypeId) (args : Array Value) := Builtin.append_ ats ty args
theorem builtin_appX (ats : Array TypeId) (ty : TypeId) (cs : Array Bool) (args : Array Value) : builtin .append ats ty cs args = (do pure (.value (← appX ats ty args))) := rfl
attribute [local go_sem ↓ high] builtin_appX
def fenceAt (l : List E1) (k : Nat) : Int := (rd_T33 l ((16 * k : Nat) : Int)).f0
def fencesE (l : List E1) : List Int := (List.range (chunks l.length)).map (fenceAt l)
theorem chunk_stops (F : Fence) (n : Nat) (hf : F.fn 140) (hro : F.round = none) (hn : 1 ≤ n) (B1 B2 n₀ len cap : Nat) (ad : Addr) (A : Option Addr) (hA : 0 < len → A = some ad) (hlen : len ≤ 1000000) (hcap : len ≤ cap) (w : World)
    (hB1 : Boxed w B1 27 (.slice A len cap)) (hB2 : Boxed w B2 3 (.int .i64 16)) :
    SeqStopsK F n Try.prog 140 #[.pointer (some ⟨B1, 0, none⟩), .pointer (some ⟨B2, 0, none⟩)] (fun k : CI len => #[chunkV ad len k.1]) (KpC n₀ B1 B2 (.slice A len cap)) (fun ys => ys.map (·.1) = List.range (chunks len)) (fun _ => True) (chunks len) w := fun l J Jx W hW hJ _ hY h0 =>
  chunk1_in F n hf hro hn l B1 B2 n₀ len cap ad A hA hlen hcap J Jx (fun pre W h => hJ _ _ _ none h ⟨rfl, rfl, rfl, Nat.le_refl _, fun _ _ _ => rfl⟩ (fun r e => by cases e)) hY W ((hW.block B1 hB1.lt).trans hB1) ((hW.block B2 hB2.lt).trans hB2) h0
theorem fence_Of_in (F : Fence) (n : Nat) (h1 : F.fn 45) (h2 : F.fn 105) (h3 : F.fn 140) (hro : F.round = none) (hn : 3 ≤ n) (A : Option Addr) (cap : Nat) (l : List E1) (hlen : l.length ≤ 1000000) (hcap : l.length ≤ cap) (w : World) (hC : kE.C w A l.length l) :
    CallsIn F n Try.prog 45 #[.slice A l.length cap] w fun e W' => ∃ v, e = .returned v ∧ W'.ownsRow w.heap.size 30 1 v (fencesE l).length ((fencesE l).map (Value.int .u64)) ∧ Below w.heap.size w W' := by
  have hn1 : 1 ≤ n := by omega
  have infoU : (Try.prog.info? 30).map (fun i => (i.zero, i.size, i.bytes)) = some (some (.int .u64 0), 1, 8) := by kernel_rfl
  obtain ⟨i0, hi, hz0, hz1, hz2⟩ := info_parts infoU
  obtain ⟨ad, hA⟩ : ∃ ad : Addr, 0 < l.length → A = some ad := by
    cases A with
    | some ad => exact ⟨ad, fun _ => rfl⟩
    | none => exact ⟨⟨0, 0, none⟩, fun h => by obtain ⟨ad, e, _⟩ := at_T33 hC 0 (by omega) (by omega); cases e⟩
  refine callsIn_of_wp_marks Try.func45 rfl h1 ?_ hro
  simp only [Try.ntmps45, List.size_toArray, List.length_cons, List.length_nil, Nat.reduceAdd, Nat.reduceSub, Array.replicate_succ, Array.replicate_zero, List.push_toArray, List.append_toArray, List.nil_append, List.cons_append]
  gi_wp2_with (gi_at_call 105; refine (chunk_in F (n - 1) h2 hro _ _ _ _).mono ?_; rintro e w' ⟨rfl, rfl⟩)
  have bO := Boxed.new w 31 (.slice none 0 0)
  have bS := Boxed.new (w.alloc (.cells #[.slice none 0 0] 31)) 27 (.slice A l.length cap)
  have bN := Boxed.new ((w.alloc (.cells #[.slice none 0 0] 31)).alloc (.cells #[.slice A l.length cap] 27)) 3 (.int .i64 16)
  rw [World.size_alloc] at bS
  rw [World.size_alloc, World.size_alloc] at bN
  have hB0 : Below w.heap.size w (((w.alloc (.cells #[.slice none 0 0] 31)).alloc (.cells #[.slice A l.length cap] 27)).alloc (.cells #[.int .i64 16] 3)) := (((Below.refl _ w).alloc (Nat.le_refl _) _).alloc (by simp) _).alloc (by simp; omega) _
  obtain ⟨g, hg⟩ : ∃ g : CI l.length → Int, g = fun x => fenceAt l x.1 := ⟨_, rfl⟩
  refine wpIn_rangeFunc_ownG (α := CI l.length) hro hn1 (gf := 140) (lb := #[.pointer (some ⟨w.heap.size + 1, 0, none⟩), .pointer (some ⟨w.heap.size + 1 + 1, 0, none⟩)]) rfl h3 (enters_of Try.func140 (by kernel_rfl) rfl)
    (chunk_stops F (n - 1) h3 hro (by omega) (w.heap.size + 1) (w.heap.size + 1 + 1) w.heap.size l.length cap ad A hA hlen hcap _ (bS.alloc _) bN) KpC.trans ?hKb (Below.refl _ _) (fun _ => rfl)
    (fun (pre : List (CI l.length)) W => (∃ v, Boxed W w.heap.size 31 v ∧ W.ownsRow w.heap.size 30 1 v pre.length ((pre.map g).map (Value.int .u64)) ∧ True) ∧ Below w.heap.size w W)
    (fun _ _ _ => False)
    (OwnFrom.and (Own.from (holdsRow_own w.heap.size w.heap.size 31 30 1 (fun pre : List (CI l.length) => pre.length) (fun pre : List (CI l.length) => (pre.map g).map (Value.int .u64)) (fun (pre : List (CI l.length)) v => True)) _) (ownFrom_below (Nat.le_refl _) (by simp; omega)))
    (fun _ _ _ _ _ hs _ _ => hs)
    ⟨⟨_, (bO.alloc _).alloc _, World.ownsRow_nil _ _ _ _, trivial⟩, hB0⟩
    (fun x => { tmps := #[.slice A l.length cap, undef, .slice none 0 0, .pointer (some ⟨w.heap.size, 0, none⟩), chunkV ad l.length x.1, .slice A l.length cap, .func (.func 140) #[] #[.pointer (some ⟨w.heap.size + 1, 0, none⟩), .pointer (some ⟨w.heap.size + 1 + 1, 0, none⟩)], chunkV ad l.length x.1, undef, undef, undef, undef, undef, undef, undef, undef], defers := [] }) ?assign ?body ?done ?stop
  case hKb =>
    intro W q o o' hq ho hc hw
    have hq2 : w.heap.size + 3 ≤ q := by simpa using hq
    refine ⟨(belowK_b (w := w) (Nat.le_refl _)) W q o o' (by omega) ho hc hw, fun hb => ?_, fun hb => ?_⟩
    · exact (World.putObj_heap_other (by omega)).trans hb
    · exact (World.putObj_heap_other (by omega)).trans hb
  case assign =>
    intro lo x W K hK
    gi_wp2
    exact hK
  case body =>
    rintro lo pre x W ⟨⟨v, hv, hrow, -⟩, hB⟩ hlt
    have hxl := x.2
    obtain rfl := hA (by omega)
    obtain ⟨ad2, ea, hx0, hx1⟩ := at_T33 (Kd.C_below hC hB) ((16 * x.1 : Nat) : Int) (by omega) (by omega)
    cases ea
    rw [Int.toNat_natCast] at hx0
    have hgx : (rd_T33 l ((16 * x.1 : Nat) : Int)).f0 = g x := by rw [hg]; rfl
    rw [hgx] at hx0
    clear hgx hg
    obtain ⟨q, hq⟩ : ∃ q : Nat, min 16 (l.length - 16 * x.1) = q := ⟨_, rfl⟩
    have hqp : 0 < q := by omega
    have hcv : chunkV ad l.length x.1 = .slice (some (ad.add (16 * x.1 * 2))) q q := by unfold chunkV; rw [hq]
    rw [hcv]
    have hpl : pre.length ≤ 1000000 := by unfold chunks at hlt; omega
    have hvd : Boxed W.drew w.heap.size 31 v := hv
    have hrowd : W.drew.ownsRow w.heap.size 30 1 v pre.length ((pre.map g).map (Value.int .u64)) := hrow
    obtain ⟨v', w1, hrun, hown', hgrow, -⟩ := run_append_own (P := Try.prog) (w := W.drew.alloc (.cells #[.int .u64 (g x)] 30)) w.heap.size 31 31 30 i0 (.int .u64 0) 1 8 Try.underlying31 hi hz0 hz1 hz2 rfl (by decide) v pre.length _ (hrowd.alloc _) ⟨W.heap.size, 0, none⟩ 1 1 [.int .u64 (g x)] rfl (cell_one_new _ _ _) (by simp [Value.oneCell']) (by unfold maxLen; omega) (by omega) (by have := hB.size; simp; omega)
    obtain ⟨g', cap', rfl⟩ := ownsRow_succ hown'
    replace hrun : (appX #[31, 31] 31 #[v, .slice (some ⟨W.heap.size, 0, none⟩) 1 1]).run Try.prog ((W.alloc (.cells #[.int .u64 (g x)] 30)).drew) = .ok (.slice (some ⟨g', 0, none⟩) (pre.length + 1) cap') w1 := hrun
    obtain ⟨hv1, hv2, hr2, hk2, hb2'⟩ := hvd.appended (by decide) hrowd hB.size (Nat.le_refl _) hown' hgrow
    have hb2 : Below w.heap.size W (w1.setCell ⟨w.heap.size, 0, none⟩ (.slice (some ⟨g', 0, none⟩) (pre.length + 1) cap')) := ⟨hb2'.os, hb2'.tape, hb2'.output, hb2'.size, hb2'.block⟩
    clear hb2'
    have hKB : KpC w.heap.size (w.heap.size + 1) (w.heap.size + 1 + 1) (.slice (some ad) l.length cap) W (w1.setCell ⟨w.heap.size, 0, none⟩ (.slice (some ⟨g', 0, none⟩) (pre.length + 1) cap')) :=
      ⟨hb2, fun hb => (((show Boxed W.drew _ _ _ from hb).alloc _).kept hgrow (Boxed.not_row (show Boxed W.drew _ _ _ from hb) (by decide) hrowd)).other (by omega) _, fun hb => (((show Boxed W.drew _ _ _ from hb).alloc _).kept hgrow (Boxed.not_row (show Boxed W.drew _ _ _ from hb) (by decide) hrowd)).other (by omega) _⟩
    have hc := hv.cell
    have hcA : (W.alloc (.cells #[.int .u64 (g x)] 30)).cell? ⟨w.heap.size, 0, none⟩ = some v := (hv.alloc _).cell
    have hcB : (W.alloc (.cells #[.int .u64 (g x)] 30)).drew.cell? ⟨w.heap.size, 0, none⟩ = some v := (hv.alloc _).cell
    have hc1 := hv1.cell
    have hf1 := hv1.frozen
    have hm : Try.prog.follows .mixedOrders = true := by kernel_rfl
    have hAll := Aside0.mk (And.intro hKB (And.intro hv2 (And.intro hr2 (And.intro hk2 hb2))))
    clear hKB hv2 hr2 hk2 hb2 hv1 hgrow hown' hvd hrowd hcv hx1
    gi_wp2
    gi_region_with_o (fail)
    all_goals (
      gi_wp2
      obtain ⟨k1, k2, k3, k4, k5⟩ := hAll.out
      exact ⟨((KeepsOthers.drew W).trans k4).from _, k1, ⟨_, k2, by rw [List.length_append, List.map_append, List.map_append]; exact k3, trivial⟩, hB.trans k5⟩)
  case done =>
    rintro D ys W hD hS ⟨⟨v, hv, hrow, -⟩, hB⟩ hK
    have hc := hv.cell
    have hys : ys.map g = fencesE l := by
      have : (ys.map (·.1)).map (fenceAt l) = fencesE l := by rw [hS]; rfl
      rw [List.map_map] at this
      rw [hg]; exact this
    have hyl : ys.length = (fencesE l).length := by rw [← hys, List.length_map]
    rw [hys, hyl] at hrow
    gi_wp2
    refine ⟨by simp, .inl ⟨_, _, rfl, run_takeDeferred hK, ?_⟩⟩
    exact ⟨_, results_tmp rfl _ _ _, v, rfl, ownsRow_putObj hrow _ hK rfl, hB.trans (belowK_b (w := w) (Nat.le_refl _) W D _ _ (by simp at hD; omega) hK rfl rfl)⟩
  case stop =>
    rintro D c pre W _ _ h _
    exact h.elim
theorem fence_Of (A : Option Addr) (cap : Nat) (l : List E1) (hlen : l.length ≤ 1000000) (hcap : l.length ≤ cap) (w : World) (hC : kE.C w A l.length l) :
    Calls Try.prog 45 #[.slice A l.length cap] w fun e W' => ∃ v, e = .returned v ∧ (Kd.int .u64).R 30 W' w.heap.size (fun _ => True) v (fencesE l) ∧ Below w.heap.size w W' := by
  refine (callsIn_wide (n := 3)).1 ((fence_Of_in Fence.wide 3 trivial trivial trivial rfl (by omega) A cap l hlen hcap w hC).mono ?_)
  rintro e W' ⟨v, rfl, hr, hb⟩
  exact ⟨v, rfl, Kd.R_of_own hr (fun _ _ => trivial), hb⟩
end Go.Proofs.Ytekanmieppnpeaa.Fe
end
section
set_option linter.unusedVariables false
set_option linter.unusedSimpArgs false
namespace Go.Proofs.Ytekanmieppnpeaa.Tb
open Go Go.RowKit Go.Proofs.YtekanmieppnpeaaW.PrintWords Go.Proofs.YtekanmieppnpeaaW.PrintLast Go.Proofs.YtekanmieppnpeaaW.PrintMore Go.Proofs.Ytekanmieppnpeaa.Sep Go.Proofs.Ytekanmieppnpeaa.G Go.Proofs.Ytekanmieppnpeaa.PureKit
set_option maxHeartbeats 4000000
set_option maxRecDepth 100000
theorem above_call (w0 w : World) (gf n c : Nat) (used : Int) (A : Option Addr) (x : E1) (ps : List HP) (hs : Sep.Sep w0 w (blk gf #[.int .u32 used, .slice A n c] 29 :: ps)) :
    Calls Try.prog 47 #[.agg #[.int .u64 x.f0, .int .u32 x.f1], .pointer (some ⟨gf, 0, none⟩)] w fun e w' => e = .returned (.bool (decide (x.f1 ≥ used))) ∧ Sep.Sep w0 w' (blk gf #[.int .u32 used, .slice A n c] 29 :: ps) := by
  have h1 := hs.alloc #[.int .u64 x.f0, .int .u32 x.f1] 33
  have hS := Aside0.mk h1
  have hc0 : (w.alloc (.cells #[.int .u64 x.f0, .int .u32 x.f1] 33 (0, 0))).cell? ⟨gf, 0, none⟩ = some (.int .u32 used) := (h1.pick1.cell 0).trans rfl
  have hc1 : (w.alloc (.cells #[.int .u64 x.f0, .int .u32 x.f1] 33 (0, 0))).cell? ⟨w.heap.size, 1, none⟩ = some (.int .u32 x.f1) := (h1.cell 1).trans rfl
  clear hs h1
  go_enter Try.func47, Try.ntmps47
  go_wp2_with (fail)
  go_ret
  exact ⟨rfl, hS.out.tail⟩
theorem index_call (w0 w : World) (fid : FuncId) (caps : Array Value) (A : Option Addr) (c : Nat) (l : List E1) (q : E1 → Bool) (ps : List HP)
    (hent : ∀ (args : Array Value) (w : World), (callFunc fid args).run Try.prog w = .ok (.enter fid args) w)
    (hs : Sep.Sep w0 w ps) (hC : kE.C w0 A l.length l) (hl : l.length ≤ 1000000)
    (hcl : ∀ (W : World) (x : E1), Sep.Sep w0 W ps → Calls Try.prog fid (#[.agg #[.int .u64 x.f0, .int .u32 x.f1]] ++ caps) W fun e W' => e = .returned (.bool (q x)) ∧ Sep.Sep w0 W' ps) :
    Calls Try.prog 108 #[.slice A l.length c, .func (.func fid) #[] caps] w fun e w' => ∃ r : Int, e = .returned (.int .i64 r) ∧ decide (r ≥ 0) = l.any q ∧ Sep.Sep w0 w' ps := by
  have hS := Aside0.mk hs
  have hCL := Aside0.mk hcl
  have hCA := Aside0.mk hC
  have hlA := Aside0.mk hl
  clear hs hC hcl hl
  go_enter Try.func108, Try.ntmps108
  go_wp2_with (fail)
  go_loopg [8] l.length (fun kq v8 w' => ∃ (i : Nat), v8 = .int .i64 i ∧ Aside0 (i + kq = l.length) ∧ Aside0 ((l.take i).any q = false) ∧ Aside0 (Sep.Sep w0 w' ps))
  case atStart => exact ⟨0, rfl, ⟨by omega⟩, ⟨rfl⟩, hS⟩
  case round =>
    obtain ⟨i, rfl, hA, hN, hS⟩ := hrel
    by_cases hil : i < l.length
    · obtain ⟨k1, rfl⟩ : ∃ k1, gk = k1 + 1 := ⟨gk - 1, by have := hA.out; omega⟩
      have hd : decide ((i : Int) < (l.length : Int)) = true := decide_eq_true (by omega)
      have hd2 : decide (i < l.length) = true := decide_eq_true hil
      obtain ⟨ad, e0, hx0, hx1⟩ := at_T33 (Kd.C_below hCA.out hS.out.1) (i : Int) (by omega) (by omega)
      subst e0
      rw [Int.toNat_natCast] at hx0 hx1
      obtain ⟨x, hx⟩ : ∃ x, l[i]? = some x := ⟨_, List.getElem?_eq_getElem hil⟩
      rw [rdE l i x hx] at hx0 hx1
      have p0 : (0 : Int) ≤ (i : Int) := by omega
      have q0 : (i : Int) < (l.length : Int) := by omega
      have hcall := Aside0.mk (fun W (hW : Sep.Sep w0 W ps) => hCL.out W x hW)
      have htk : (l.take (i + 1)).any q = ((l.take i).any q || q x) := by
        rw [List.take_add_one, hx, List.any_append]; simp
      have htA := Aside0.mk htk
      have hq1 : wrap64 ((i : Int) + 1) = ((i + 1 : Nat) : Int) := inc64 (by have := hlA.out; omega)
      have hA' : Aside0 (i + 1 + k1 = l.length) := ⟨by have := hA.out; omega⟩
      have hxA := Aside0.mk (show l[i]? = some x from hx)
      clear hil htk hx
      go_wp2_with (fail)
      refine (hcall.out _ hS.out).mono ?_
      rintro e w1 ⟨rfl, h1⟩
      have hS1 := Aside0.mk h1
      clear h1
      cases hq : q x with
      | true =>
        have hany : l.any q = true := List.any_eq_true.2 ⟨x, List.mem_of_getElem? hxA.out, hq⟩
        go_wp2_with (fail)
        go_ret
        exact ⟨_, rfl, by rw [hany]; exact decide_eq_true (by omega), hS1.out⟩
      | false =>
        have hN' : Aside0 ((l.take (i + 1)).any q = false) := ⟨by rw [htA.out, hN.out, hq]; rfl⟩
        go_wp2_with (fail)
        go_roundg k1
        case measure => omega
        case rel => exact ⟨i + 1, by first | rw [hq1] | rfl, hA', hN', hS1⟩
    · have hd : decide ((i : Int) < (l.length : Int)) = false := decide_eq_false (by omega)
      have hd2 : decide (i < l.length) = false := decide_eq_false hil
      have hany : l.any q = false := by
        have := hN.out
        rwa [List.take_of_length_le (by omega)] at this
      clear hil
      go_wp2_with (fail)
      go_ret
      exact ⟨-1, rfl, by rw [hany]; rfl, hS.out⟩
theorem contains_call (w0 w : World) (fid : FuncId) (caps : Array Value) (A : Option Addr) (c : Nat) (l : List E1) (q : E1 → Bool) (ps : List HP)
    (hent : ∀ (args : Array Value) (w : World), (callFunc fid args).run Try.prog w = .ok (.enter fid args) w)
    (hs : Sep.Sep w0 w ps) (hC : kE.C w0 A l.length l) (hl : l.length ≤ 1000000)
    (hcl : ∀ (W : World) (x : E1), Sep.Sep w0 W ps → Calls Try.prog fid (#[.agg #[.int .u64 x.f0, .int .u32 x.f1]] ++ caps) W fun e W' => e = .returned (.bool (q x)) ∧ Sep.Sep w0 W' ps) :
    Calls Try.prog 49 #[.slice A l.length c, .func (.func fid) #[] caps] w fun e w' => e = .returned (.bool (l.any q)) ∧ Sep.Sep w0 w' ps := by
  have hcall := Aside0.mk (index_call w0 w fid caps A c l q ps hent hs hC hl hcl)
  clear hs hC hcl hl
  go_enter Try.func49, Try.ntmps49
  go_wp2_with (fail)
  refine hcall.out.mono ?_
  rintro e w1 ⟨r, rfl, hr, h1⟩
  have hS1 := Aside0.mk h1
  have hrA := Aside0.mk hr
  clear h1 hr
  go_wp2_with (fail)
  go_ret
  exact ⟨by rw [← hrA.out]; rfl, hS1.out⟩
def checkF (used : Int) (l : List E1) : Int := if l.length = 0 then 4 else if riseE l = false then 8 else if (l.any fun x => decide (x.f1 ≥ used)) = true then 4 else 0
theorem check_call (w : World) (A : Option Addr) (c : Nat) (used : Int) (l : List E1) (hC : kE.C w A l.length l) (hc : l.length ≤ c) (hl : l.length ≤ 1000000) :
    Calls Try.prog 17 #[.agg #[.int .u32 used, .slice A l.length c]] w fun e w' => e = .returned (.int .i64 (checkF used l)) ∧ Below w.heap.size w w' := by
  have h1 := (Sep.start w).alloc #[.int .u32 used, .slice A l.length c] 29
  have hS := Aside0.mk h1
  have hCA := Aside0.mk hC
  have hmf : ∀ (fn : Fn) (first cap : Array Value) (w : World), (Instr.makeFunc fn first cap).run Try.prog w = .ok (.func fn first cap) w := fun _ _ _ _ => rfl
  obtain ⟨kr, hkr⟩ := (rise_ev l hl).rounds
  have hR := Aside0.mk (fun W (hb : Below w.heap.size w W) => table_Rising.calls kr A c l _ W (Kd.C_below hC hb) hc hkr)
  have hlA := Aside0.mk hl
  obtain ⟨R, hRe⟩ : ∃ R, riseE l = R := ⟨_, rfl⟩
  rw [hRe] at hR
  obtain ⟨B, hBe⟩ : ∃ B, (l.any fun x => decide (x.f1 ≥ used)) = B := ⟨_, rfl⟩
  have hCt := Aside0.mk (fun W (hW : Sep.Sep w W [blk w.heap.size #[.int .u32 used, .slice A l.length c] 29]) => contains_call w W 47 #[.pointer (some ⟨w.heap.size, 0, none⟩)] A c l (fun x => decide (x.f1 ≥ used)) _ Try.call47 hW hC hl (fun W2 x h2 => above_call w W2 w.heap.size l.length c used A x [] h2))
  rw [hBe] at hCt
  have hval : checkF used l = if l.length = 0 then 4 else if R = false then 8 else if B = true then 4 else 0 := by unfold checkF; rw [hRe, hBe]
  rw [hval]
  have hc0 : (w.alloc (.cells #[.int .u32 used, .slice A l.length c] 29 (0, 0))).cell? ⟨w.heap.size, 0, none⟩ = some (.int .u32 used) := (h1.cell 0).trans rfl
  have hc1 : (w.alloc (.cells #[.int .u32 used, .slice A l.length c] 29 (0, 0))).cell? ⟨w.heap.size, 1, none⟩ = some (.slice A l.length c) := (h1.cell 1).trans rfl
  clear h1 hC hc hkr hRe hBe hval hl
  by_cases h0 : l.length = 0
  · have e1 : ((l.length : Int) == 0) = true := beq_iff_eq.2 (by omega)
    have e2 : (l.length == 0) = true := beq_iff_eq.2 h0
    have e3 : decide (l.length = 0) = true := decide_eq_true h0
    rw [if_pos h0]
    clear hR hCt h0
    go_enter Try.func17, Try.ntmps17
    go_wp2_with (fail)
    go_ret
    exact ⟨rfl, hS.out.1⟩
  · rw [if_neg h0]
    have e1 : ((l.length : Int) == 0) = false := beq_eq_false_iff_ne.2 (by omega)
    have e2 : (l.length == 0) = false := beq_eq_false_iff_ne.2 h0
    have e3 : decide (l.length = 0) = false := decide_eq_false h0
    have e4 : decide ((l.length : Int) > 1048576) = false := decide_eq_false (by have := hlA.out; omega)
    have e5 : decide (l.length > 1048576) = false := decide_eq_false (by have := hlA.out; omega)
    go_enter Try.func17, Try.ntmps17
    clear h0
    go_wp2_with (fail)
    refine (hR.out _ hS.out.1).mono ?_
    rintro e w1 ⟨rfl, hb⟩
    have hS1 := Aside0.mk (hS.out.below hb)
    have hd1 : w1.cell? ⟨w.heap.size, 1, none⟩ = some (.slice A l.length c) := (hS1.out.cell 1).trans rfl
    clear hb
    cases R with
    | false =>
      go_wp2_with (fail)
      go_ret
      exact ⟨rfl, hS1.out.1⟩
    | true =>
      go_wp2_with (fail)
      refine (hCt.out _ hS1.out).mono ?_
      rintro e w2 ⟨rfl, h2⟩
      have hS2 := Aside0.mk h2
      clear h2
      cases B with
      | true =>
        go_wp2_with (fail)
        go_ret
        exact ⟨rfl, hS2.out.1⟩
      | false =>
        go_wp2_with (fail)
        go_ret
        exact ⟨rfl, hS2.out.1⟩
end Go.Proofs.Ytekanmieppnpeaa.Tb
namespace Go.Proofs.Ytekanmieppnpeaa.G
open Go Go.RowKit Go.Proofs.YtekanmieppnpeaaW.PrintWords Go.Proofs.YtekanmieppnpeaaW.PrintLast Go.Proofs.YtekanmieppnpeaaW.PrintMore Go.Proofs.Ytekanmieppnpeaa.Sep Go.Proofs.Ytekanmieppnpeaa.Tb
def footer_Check.f (a0_0 : Int) (l0_1 : List (S33)) : Option Int := if l0_1.length ≤ 1000000 then some (checkF a0_0 l0_1) else none
theorem footer_Check.calls (a0_0 : Int) (A0_1 : Option Addr) (c0_1 : Nat) (l0_1 : List (S33)) (r : Int) (w : World) (hr0_1 : Kd.C k33 w A0_1 l0_1.length l0_1) (hc0_1 : l0_1.length ≤ c0_1) (h : footer_Check.f a0_0 l0_1 = some r) :
    Calls Try.prog 17 #[.agg #[.int .u32 a0_0, .slice A0_1 l0_1.length c0_1]] w fun e w' => e = .returned (.int .i64 r) ∧ Below w.heap.size w w' := by
  unfold footer_Check.f at h
  split at h
  · rename_i hl
    cases Option.some.inj h
    exact check_call w A0_1 c0_1 a0_0 l0_1 hr0_1 hc0_1 hl
  · cases h
end Go.Proofs.Ytekanmieppnpeaa.G
end
section
set_option linter.unusedVariables false
set_option linter.unusedSimpArgs false
namespace Go.Proofs.Ytekanmieppnpeaa.Tb
open Go Go.RowKit Go.Proofs.YtekanmieppnpeaaW.PrintWords Go.Proofs.YtekanmieppnpeaaW.PrintLast Go.Proofs.YtekanmieppnpeaaW.PrintMore Go.Proofs.Ytekanmieppnpeaa.PureKit Go.Proofs.Ytekanmieppnpeaa.Sep Go.Proofs.Ytekanmieppnpeaa.G Go.Proofs.Ytekanmieppnpeaa.Fe
set_option maxHeartbeats 8000000
set_option maxRecDepth 100000
theorem count_E (n : Nat) (h : n ≤ 1000000000) : fence_Count.f (n : Int) = some ((chunks n : Nat) : Int) := by
  unfold fence_Count.f chunks
  have e1 : mx 0 (n : Int) = (n : Int) := by unfold mx; split <;> omega
  rw [e1, w64 (x := (n : Int) + 16) (by omega) (by omega), w64 (x := (n : Int) + 16 - 1) (by omega) (by omega), Int.tdiv_eq_ediv_of_nonneg (by omega), w64 (by omega) (by omega)]
  congr 1
  omega
def ffail (e : Int) : Int × Int × List E1 × List Int := (e, 0, [], [])
def footrun2 (b : List Int) (n : Nat) : Int × Int × List E1 × List Int :=
  if b.length < 9 + 12 * n then ffail 2 else if riseE (entsAt b 9 n) = false then ffail 8 else
  if b.length < 9 + 12 * n + 8 * chunks n then ffail 2 else if risesF (fensAt b (9 + 12 * n) (chunks n)) = false then ffail 8 else
  if 9 + 12 * n + 8 * chunks n < b.length then ffail 3 else (0, lev ((b.take (5 + 4)).drop 5), entsAt b 9 n, fensAt b (9 + 12 * n) (chunks n))
def footrun (b : List Int) : Int × Int × List E1 × List Int :=
  if b.length < 1 then ffail 2 else if b.getD 0 0 ≠ 4 then ffail 4 else if b.length < 5 then ffail 2 else
  if lev ((b.take (1 + 4)).drop 1) > 1048576 then ffail 3 else if b.length < 9 then ffail 2 else footrun2 b (lev ((b.take (1 + 4)).drop 1)).toNat
abbrev capF (gf gz : Nat) (u : Int) (A : Option Addr) (n c : Nat) (B : Option Addr) (m d : Nat) : List HP := [blk gf #[.int .u32 u, .slice A n c] 29, blk gz #[.slice B m d] 31]
def QF (gf gz : Nat) (b : List Int) (x : Int) (qs : List HP) : Prop :=
  x = (footrun b).1 ∧ (x = 0 → ∃ (A : Option Addr) (n c : Nat) (B : Option Addr) (m d : Nat), qs = capF gf gz (footrun b).2.1 A n c B m d ++ [row (Kd.int .u64) 30 (.slice B m d) (footrun b).2.2.2, row kE 33 (.slice A n c) (footrun b).2.2.1])
theorem foot_fail {w0 w2 : World} {g gf gz at_ : Nat} {b : List Int} {R ps : List HP} (h : Sep.Sep w0 w2 (cur g b at_ true :: (R ++ ps))) (x : Int) (hx : footrun b = ffail x) (hx0 : x ≠ 0) :
    ∃ (at2 : Nat) (x' : Int) (qs : List HP), QF gf gz b x' qs ∧ Sep.Sep w0 w2 (cur g b at2 true :: (qs ++ ps)) ∧ ((Ending.panicked [fault g x] = .returned (.tuple #[]) ∧ x' = 0) ∨ Ending.panicked [fault g x] = .panicked [fault g x']) :=
  ⟨at_, x, [], ⟨by rw [hx]; rfl, fun h => absurd h hx0⟩, Sep.pickR0 R h, .inr rfl⟩
theorem clos_foot (w0 w : World) (g gf gz : Nat) (b : List Int) (ps : List HP) (hs : Sep.Sep w0 w (cur g b 0 true :: (capF gf gz 0 none 0 0 none 0 0 ++ ps))) (hb : Bytes b) (hl : b.length ≤ 100000) :
    Calls Try.prog 82 #[.pointer (some ⟨g, 0, none⟩), .pointer (some ⟨gf, 0, none⟩), .pointer (some ⟨gz, 0, none⟩)] w fun e w2 =>
      ∃ (at2 : Nat) (x : Int) (qs : List HP), QF gf gz b x qs ∧ Sep.Sep w0 w2 (cur g b at2 true :: (qs ++ ps)) ∧ ((e = .returned (.tuple #[]) ∧ x = 0) ∨ e = .panicked [fault g x]) := by
  have hS := Aside0.mk hs
  have hbA := Aside0.mk hb
  have hlA := Aside0.mk hl
  have hl12 := Aside0.mk (show b.length ≤ 1000000000000 by omega)
  clear hs hb hl
  go_enter Try.func82, Try.ntmps82
  go_wp2_with (fail)
  by_cases h1 : b.length < 1
  · refine (cur_Byte_short w0 _ g 0 b _ hS.out hl12.out (by omega)).mono ?_
    rintro e w2 ⟨rfl, h2⟩
    exact ⟨rfl, foot_fail (R := capF gf gz 0 none 0 0 none 0 0) h2 2 (by unfold footrun; rw [if_pos h1]) (by decide)⟩
  have e0 : b[0]'(by omega) = b.getD 0 0 := by rw [List.getD_eq_getElem?_getD, List.getElem?_eq_getElem (by omega)]; rfl
  refine (cur_Byte_some w0 _ g 0 b _ hS.out hbA.out hl12.out (by omega)).mono ?_
  rintro e w1 ⟨rfl, h2⟩
  rw [e0]
  have hS1 := Aside0.mk h2
  have h1A := Aside0.mk h1
  clear h2 hS e0 h1
  obtain ⟨y, hy⟩ : ∃ y, b.getD 0 0 = y := ⟨_, rfl⟩
  rw [hy]
  have hyA := Aside0.mk hy
  clear hy
  by_cases h4 : y ≠ 4
  · have hd : (y != 4) = true := bne_iff_ne.2 h4
    have h4A := Aside0.mk h4
    clear h4
    go_wp2_with (fail)
    refine (cur_Fail w0 _ g _ b _ 4 hS1.out (by decide)).mono ?_
    rintro e w2 ⟨rfl, h2⟩
    exact ⟨rfl, foot_fail (R := capF gf gz 0 none 0 0 none 0 0) h2 4 (by unfold footrun; rw [if_neg h1A.out, if_pos (by rw [hyA.out]; exact h4A.out)]) (by decide)⟩
  obtain rfl : y = 4 := by omega
  clear h4
  go_wp2_with (fail)
  by_cases h5 : b.length < 5
  · refine (cur_Four_short w0 _ g _ b _ hS1.out (by have := h1A.out; omega) hl12.out (by have := h1A.out; omega)).mono ?_
    rintro e w2 ⟨rfl, h2⟩
    exact ⟨rfl, foot_fail (R := capF gf gz 0 none 0 0 none 0 0) h2 2 (by unfold footrun; rw [if_neg h1A.out, if_neg (by rw [hyA.out]; decide), if_pos h5]) (by decide)⟩
  refine (cur_Four_some w0 _ g 1 b _ hS1.out hbA.out hl12.out (by omega)).mono ?_
  rintro e w2 ⟨rfl, h2⟩
  have hS2 := Aside0.mk h2
  have h5A := Aside0.mk h5
  obtain ⟨n, hn⟩ : ∃ n : Nat, lev ((b.take (1 + 4)).drop 1) = (n : Int) := ⟨(lev ((b.take (1 + 4)).drop 1)).toNat, by have := lev_lt b 1 4 hbA.out (by omega); omega⟩
  rw [hn]
  have hnA := Aside0.mk hn
  clear h2 hS1 h5 hn
  by_cases h3 : (n : Int) > 1048576
  · have hd : decide ((n : Int) > 1048576) = true := decide_eq_true h3
    have hd2 : decide (1048576 < n) = true := decide_eq_true (by omega)
    have h3A := Aside0.mk h3
    clear h3
    go_wp2_with (fail)
    refine (cur_Fail w0 _ g _ b _ 3 hS2.out (by decide)).mono ?_
    rintro e w3 ⟨rfl, h2⟩
    exact ⟨rfl, foot_fail (R := capF gf gz 0 none 0 0 none 0 0) h2 3 (by unfold footrun; rw [if_neg h1A.out, if_neg (by rw [hyA.out]; decide), if_neg h5A.out, if_pos (by rw [hnA.out]; have := h3A.out; omega)]) (by decide)⟩
  have hd : decide ((n : Int) > 1048576) = false := decide_eq_false h3
  have hd2 : decide (1048576 < n) = false := decide_eq_false (by omega)
  have h3A := Aside0.mk h3
  have hwn : wrap64 (n : Int) = (n : Int) := w64 (by omega) (by omega)
  clear h3
  go_wp2_with (fail)
  by_cases h9 : b.length < 9
  · refine (cur_Four_short w0 _ g _ b _ hS2.out (by have := h5A.out; omega) hl12.out (by have := h5A.out; omega)).mono ?_
    rintro e w3 ⟨rfl, h2⟩
    exact ⟨rfl, foot_fail (R := capF gf gz 0 none 0 0 none 0 0) h2 2 (by unfold footrun; rw [if_neg h1A.out, if_neg (by rw [hyA.out]; decide), if_neg h5A.out, if_neg (by rw [hnA.out]; have := h3A.out; omega), if_pos h9]) (by decide)⟩
  refine (cur_Four_some w0 _ g (1 + 4) b _ hS2.out hbA.out hl12.out (by omega)).mono ?_
  rintro e w3 ⟨rfl, h2⟩
  have hrun : Aside0 (footrun b = footrun2 b n) := ⟨by unfold footrun; rw [if_neg h1A.out, if_neg (by rw [hyA.out]; decide), if_neg h5A.out, if_neg (by rw [hnA.out]; have := h3A.out; omega), if_neg h9, hnA.out, Int.toNat_natCast]⟩
  have h9A := Aside0.mk h9
  obtain ⟨U, hU⟩ : ∃ U, lev ((b.take (1 + 4 + 4)).drop (1 + 4)) = U := ⟨_, rfl⟩
  rw [hU]
  have hUA := Aside0.mk hU
  have hcf_0 : w3.cell? ⟨gf, 0, none⟩ = some (.int .u32 0) := ((h2.pick1).cell 0).trans rfl; have hcf_1 : w3.cell? ⟨gf, 1, none⟩ = some (.slice none 0 0) := ((h2.pick1).cell 1).trans rfl
  have hz0 := h2.pick1.frozen 0
  have hS3 : Sep.Sep w0 (w3.setCell ⟨gf, 0, none⟩ (.int .u32 U)) (cur g b 9 true :: (capF gf gz U none 0 0 none 0 0 ++ ps)) := (h2.pick1.set 0 (.int .u32 U)).put1
  have hS3 := Aside0.mk hS3
  clear h2 hS2 h9 hU
  go_wp2_with (fail)
  generalize w3.setCell ⟨gf, 0, none⟩ (.int .u32 U) = w4 at hS3 ⊢
  clear hcf_0 hcf_1 hz0
  by_cases ht : b.length < 9 + 12 * n
  · refine (table_Get_short w0 _ g 9 b _ (n : Int) hS3.out (by have := h9A.out; omega) (by have := hlA.out; omega) (by have := h9A.out; omega) (by have := h9A.out; omega)).mono ?_
    rintro e w5 ⟨rfl, h2⟩
    exact ⟨rfl, foot_fail (R := capF gf gz U none 0 0 none 0 0) h2 2 (by rw [hrun.out]; unfold footrun2; rw [if_pos ht]) (by decide)⟩
  have htA := Aside0.mk ht
  refine (table_Get_some w0 _ g 9 b _ (n : Int) n (by split <;> omega) hS3.out hbA.out (by have := hlA.out; omega) (by omega)).mono ?_
  clear ht
  rintro e w5 (⟨hr, A, c, rfl, h2⟩ | ⟨hr, rfl, h2⟩)
  rotate_left
  · exact ⟨rfl, foot_fail (R := capF gf gz U none 0 0 none 0 0) h2 8 (by rw [hrun.out]; unfold footrun2; rw [if_neg htA.out, if_pos hr]) (by decide)⟩
  have hrA := Aside0.mk hr
  have hcf_0 : w5.cell? ⟨gf, 0, none⟩ = some (.int .u32 U) := ((h2.pick2).cell 0).trans rfl; have hcf_1 : w5.cell? ⟨gf, 1, none⟩ = some (.slice none 0 0) := ((h2.pick2).cell 1).trans rfl
  have hz1 := h2.pick2.frozen 1
  have hS5 : Sep.Sep w0 (w5.setCell ⟨gf, 1, none⟩ (.slice A n c)) (cur g b (9 + 12 * n) true :: (capF gf gz U A n c none 0 0 ++ row kE 33 (.slice A n c) (entsAt b 9 n) :: ps)) := (h2.pick2.set 1 (.slice A n c)).pick3.pick1.pick3
  have hS5 := Aside0.mk hS5
  have hct := Aside0.mk (count_E n (by have := htA.out; have := hlA.out; omega))
  clear h2 hS3 hr
  go_wp2_with (fail)
  generalize w5.setCell ⟨gf, 1, none⟩ (.slice A n c) = w6 at hS5 ⊢
  clear hcf_0 hcf_1 hz1
  refine (fence_Count.calls (n : Int) ((chunks n : Nat) : Int) _ hct.out).mono ?_
  rintro e w7 ⟨rfl, hb7⟩
  have hS7 := Aside0.mk (hS5.out.below (by first | exact hb7.below | exact hb7))
  clear hb7 hS5
  go_wp2_with (fail)
  by_cases hf : b.length < 9 + 12 * n + 8 * chunks n
  · refine (fence_Get_short w0 _ g (9 + 12 * n) b _ ((chunks n : Nat) : Int) hS7.out (by have := htA.out; omega) (by have := hlA.out; omega) (by have := htA.out; omega) (by have := htA.out; omega)).mono ?_
    rintro e w8 ⟨rfl, h2⟩
    exact ⟨rfl, foot_fail (R := capF gf gz U A n c none 0 0 ++ [row kE 33 (.slice A n c) (entsAt b 9 n)]) h2 2 (by rw [hrun.out]; unfold footrun2; rw [if_neg htA.out, if_neg (by rw [hrA.out]; decide), if_pos hf]) (by decide)⟩
  have hfA := Aside0.mk hf
  refine (fence_Get_some w0 _ g (9 + 12 * n) b _ ((chunks n : Nat) : Int) (chunks n) (by split <;> omega) hS7.out hbA.out (by have := hlA.out; omega) (by omega)).mono ?_
  clear hf
  rintro e w8 (⟨hr, B, d, rfl, h2⟩ | ⟨hr, rfl, h2⟩)
  rotate_left
  · exact ⟨rfl, foot_fail (R := capF gf gz U A n c none 0 0 ++ [row kE 33 (.slice A n c) (entsAt b 9 n)]) h2 8 (by rw [hrun.out]; unfold footrun2; rw [if_neg htA.out, if_neg (by rw [hrA.out]; decide), if_neg hfA.out, if_pos hr]) (by decide)⟩
  have hr2A := Aside0.mk hr
  have hcz_0 : w8.cell? ⟨gz, 0, none⟩ = some (.slice none 0 0) := ((h2.pick3).cell 0).trans rfl
  have hz := h2.pick3.frozen 0
  have hS9 : Sep.Sep w0 (w8.setCell ⟨gz, 0, none⟩ (.slice B (chunks n) d)) (cur g b (9 + 12 * n + 8 * chunks n) true :: ((capF gf gz U A n c B (chunks n) d ++ [row (Kd.int .u64) 30 (.slice B (chunks n) d) (fensAt b (9 + 12 * n) (chunks n)), row kE 33 (.slice A n c) (entsAt b 9 n)]) ++ ps)) := (h2.pick3.set 0 (.slice B (chunks n) d)).pick3.pick3
  have hS9 := Aside0.mk hS9
  clear h2 hS7 hr
  go_wp2_with (fail)
  generalize w8.setCell ⟨gz, 0, none⟩ (.slice B (chunks n) d) = w9 at hS9 ⊢
  clear hcz_0 hz
  by_cases he : 9 + 12 * n + 8 * chunks n < b.length
  · refine (cur_End_long w0 _ g _ b _ hS9.out he hl12.out).mono ?_
    rintro e w10 ⟨rfl, h2⟩
    exact ⟨rfl, foot_fail (R := capF gf gz U A n c B (chunks n) d ++ [row (Kd.int .u64) 30 (.slice B (chunks n) d) (fensAt b (9 + 12 * n) (chunks n)), row kE 33 (.slice A n c) (entsAt b 9 n)]) h2 3 (by rw [hrun.out]; unfold footrun2; rw [if_neg htA.out, if_neg (by rw [hrA.out]; decide), if_neg hfA.out, if_neg (by rw [hr2A.out]; decide), if_pos he]) (by decide)⟩
  refine (cur_End_ok w0 _ g _ b _ hS9.out (by have := hfA.out; omega) hl12.out).mono ?_
  rintro e w10 ⟨rfl, h2⟩
  have hfin : Aside0 (footrun b = (0, U, entsAt b 9 n, fensAt b (9 + 12 * n) (chunks n))) := ⟨by rw [hrun.out]; unfold footrun2; rw [if_neg htA.out, if_neg (by rw [hrA.out]; decide), if_neg hfA.out, if_neg (by rw [hr2A.out]; decide), if_neg he]; rw [← hUA.out]⟩
  have hS10 := Aside0.mk h2
  clear h2 he
  go_wp2_with (fail)
  go_end0
  exact ⟨9 + 12 * n + 8 * chunks n, 0, _, ⟨by rw [hfin.out], fun _ => ⟨A, n, c, B, chunks n, d, by rw [hfin.out]⟩⟩, hS10.out, .inl ⟨rfl, rfl⟩⟩
end Go.Proofs.Ytekanmieppnpeaa.Tb
end
section
set_option linter.unusedVariables false
set_option linter.unusedSimpArgs false
namespace Go.Proofs.Ytekanmieppnpeaa.Rol
open Go Go.RowKit Go.Proofs.YtekanmieppnpeaaW.PrintWords Go.Proofs.YtekanmieppnpeaaW.PrintLast Go.Proofs.YtekanmieppnpeaaW.PrintMore Go.Proofs.Ytekanmieppnpeaa.PureKit
def rol (W n x : Nat) : Nat := x * 2 ^ n % 2 ^ W + x / 2 ^ (W - n)
theorem rol_char (W n q r : Nat) (hn : n ≤ W) (hr : r < 2 ^ (W - n)) : rol W n (q * 2 ^ (W - n) + r) = r * 2 ^ n + q := by
  have hp : 2 ^ W = 2 ^ (W - n) * 2 ^ n := by rw [← Nat.pow_add, Nat.sub_add_cancel hn]
  unfold rol
  rw [hp]
  generalize 2 ^ (W - n) = A at *
  have hB : 0 < 2 ^ n := Nat.two_pow_pos n
  generalize 2 ^ n = B at *
  have h1 : (q * A + r) * B = r * B + (A * B) * q := by rw [Nat.add_mul, Nat.mul_assoc, Nat.mul_comm q, Nat.add_comm]
  rw [h1, Nat.add_mul_mod_self_left, Nat.mod_eq_of_lt (Nat.mul_lt_mul_of_pos_right hr hB), Nat.mul_comm q A, Nat.mul_add_div (by omega), Nat.div_eq_of_lt hr, Nat.add_zero]
theorem rol_split (W n x : Nat) (hn : n ≤ W) (hx : x < 2 ^ W) : ∃ q r, x = q * 2 ^ (W - n) + r ∧ r < 2 ^ (W - n) ∧ q < 2 ^ n := by
  have hp : 2 ^ W = 2 ^ (W - n) * 2 ^ n := by rw [← Nat.pow_add, Nat.sub_add_cancel hn]
  have hA : 0 < 2 ^ (W - n) := Nat.two_pow_pos _
  exact ⟨x / 2 ^ (W - n), x % 2 ^ (W - n), by rw [Nat.mul_comm]; exact (Nat.div_add_mod x _).symm, Nat.mod_lt _ hA, Nat.div_lt_of_lt_mul (by rw [← hp]; exact hx)⟩
theorem rol_lt (W n x : Nat) (hn : n ≤ W) (hx : x < 2 ^ W) : rol W n x < 2 ^ W := by
  obtain ⟨q, r, rfl, hr, hq⟩ := rol_split W n x hn hx
  rw [rol_char W n q r hn hr]
  have hp : 2 ^ W = 2 ^ (W - n) * 2 ^ n := by rw [← Nat.pow_add, Nat.sub_add_cancel hn]
  rw [hp]
  calc r * 2 ^ n + q < r * 2 ^ n + 2 ^ n := by omega
    _ = (r + 1) * 2 ^ n := by rw [Nat.add_mul, Nat.one_mul]
    _ ≤ 2 ^ (W - n) * 2 ^ n := Nat.mul_le_mul_right _ hr
theorem rol_zero (W x : Nat) (hx : x < 2 ^ W) : rol W 0 x = x := by
  unfold rol
  rw [Nat.pow_zero, Nat.mul_one, Nat.sub_zero, Nat.mod_eq_of_lt hx, Nat.div_eq_of_lt hx, Nat.add_zero]
theorem rol_succ (W n x : Nat) (hn : n + 1 ≤ W) (hx : x < 2 ^ W) : rol W (n + 1) x = 2 * rol W n x % 2 ^ W + rol W n x / 2 ^ (W - 1) := by
  obtain ⟨q, r, rfl, hr, hq⟩ := rol_split W n x (by omega) hx
  rw [rol_char W n q r (by omega) hr]
  have hA : 2 ^ (W - n) = 2 * 2 ^ (W - (n + 1)) := by rw [← Nat.pow_succ', show W - n = W - (n + 1) + 1 by omega]
  have hW : 2 ^ (W - 1) = 2 ^ (W - (n + 1)) * 2 ^ n := by rw [← Nat.pow_add]; congr 1; omega
  have hW2 : 2 ^ W = 2 * (2 ^ (W - (n + 1)) * 2 ^ n) := by rw [← hW, ← Nat.pow_succ']; congr 1; omega
  have hchar := rol_char W (n + 1) (2 * q + r / 2 ^ (W - (n + 1))) (r % 2 ^ (W - (n + 1))) hn (Nat.mod_lt _ (Nat.two_pow_pos _))
  have hB1 : 2 ^ (n + 1) = 2 * 2 ^ n := by rw [Nat.pow_succ']
  rw [hB1] at hchar
  have hB : 0 < 2 ^ n := Nat.two_pow_pos n
  have hA1 : 0 < 2 ^ (W - (n + 1)) := Nat.two_pow_pos _
  rw [hW2, hW, hA]
  rw [hA] at hr
  generalize 2 ^ (W - (n + 1)) = A at *
  generalize 2 ^ n = B at *
  have hdm := Nat.div_add_mod r A
  have hd2 : r / A < 2 := Nat.div_lt_of_lt_mul (by omega)
  have hm : r % A < A := Nat.mod_lt _ hA1
  generalize r / A = b at *
  generalize r % A = r' at *
  have e0 : q * (2 * A) + r = (2 * q + b) * A + r' := by
    rw [← hdm, Nat.add_mul, ← Nat.mul_assoc, Nat.mul_comm q 2, Nat.mul_comm A b, Nat.add_assoc]
  rw [e0, hchar, ← hdm]
  have e1 : (A * b + r') * B + q = b * (A * B) + (r' * B + q) := by
    rw [Nat.add_mul, Nat.mul_comm A b, Nat.mul_assoc, Nat.add_assoc]
  have hlt : r' * B + q < A * B := by
    calc r' * B + q < r' * B + B := by omega
      _ = (r' + 1) * B := by rw [Nat.add_mul, Nat.one_mul]
      _ ≤ A * B := Nat.mul_le_mul_right _ hm
  have hX : r' * (2 * B) = 2 * (r' * B) := by rw [Nat.mul_left_comm]
  rw [e1, hX]
  generalize r' * B = Y at *
  generalize A * B = Z at *
  rcases (show b = 0 ∨ b = 1 by omega) with rfl | rfl
  · rw [Nat.zero_mul, Nat.zero_add, Nat.div_eq_of_lt hlt, Nat.mod_eq_of_lt (by omega)]
    omega
  · rw [Nat.one_mul, show (Z + (Y + q)) / Z = 1 from by rw [Nat.add_div_left _ (by omega), Nat.div_eq_of_lt hlt], show 2 * (Z + (Y + q)) = 2 * (Y + q) + 2 * Z by omega, Nat.add_mod_right, Nat.mod_eq_of_lt (by omega)]
    omega
theorem rol_or (W n x : Nat) (hn : n ≤ W) (hx : x < 2 ^ W) : (x * 2 ^ n % 2 ^ W) ||| (x / 2 ^ (W - n)) = rol W n x := by
  obtain ⟨q, r, rfl, hr, hq⟩ := rol_split W n x hn hx
  have h := rol_char W n q r hn hr
  have hp : 2 ^ W = 2 ^ (W - n) * 2 ^ n := by rw [← Nat.pow_add, Nat.sub_add_cancel hn]
  have e2 : (q * 2 ^ (W - n) + r) / 2 ^ (W - n) = q := by rw [Nat.mul_comm, Nat.mul_add_div (Nat.two_pow_pos _), Nat.div_eq_of_lt hr, Nat.add_zero]
  have e1 : (q * 2 ^ (W - n) + r) * 2 ^ n % 2 ^ W = 2 ^ n * r := by
    have : (q * 2 ^ (W - n) + r) * 2 ^ n % 2 ^ W + q = r * 2 ^ n + q := by rw [← h]; unfold rol; rw [e2]
    rw [Nat.mul_comm (2 ^ n) r]
    omega
  rw [h, e1, e2, ← Nat.two_pow_add_eq_or_of_lt hq, Nat.mul_comm]
theorem and63 (n : Nat) (h : n < 64) : bits .and .u64 (IntKind.u64.wrap (n : Int)) 63 = n := by
  rw [wu64 (by omega) (by omega)]
  have := bits_and_u64_nat n 63 (by omega) (by omega)
  rw [show (63 : Nat) = 2 ^ 6 - 1 from rfl, Nat.and_two_pow_sub_one_eq_mod, Nat.mod_eq_of_lt (by omega)] at this
  exact this
def leb : List Int → Nat
  | [] => 0
  | b :: bs => b.toNat + 256 * leb bs
theorem leb_lt : ∀ (l : List Int), Bytes l → leb l < 256 ^ l.length
  | [], _ => by simp [leb]
  | b :: bs, h => by
    have := leb_lt bs h.tail
    have hb := h.head
    simp only [leb, List.length_cons, Nat.pow_succ]
    omega
theorem leb_lt4 (l : List Int) (h : Bytes l) (n : Nat) (hn : l.length ≤ n) : leb l < 256 ^ n := Nat.lt_of_lt_of_le (leb_lt l h) (Nat.pow_le_pow_right (by omega) hn)
end Go.Proofs.Ytekanmieppnpeaa.Rol
set_option linter.unusedVariables false
set_option linter.unusedSimpArgs false
namespace Go.Proofs.Ytekanmieppnpeaa.Rol
open Go Go.RowKit Go.Proofs.YtekanmieppnpeaaW.PrintWords Go.Proofs.YtekanmieppnpeaaW.PrintLast Go.Proofs.YtekanmieppnpeaaW.PrintMore Go.Proofs.Ytekanmieppnpeaa.PureKit
def win (x y : Nat) : Nat := rol 64 31 ((x + y * 14029467366897019727) % 18446744073709551616) * 11400714785074694791 % 18446744073709551616
def wstep (l : List Int) (i : Nat) (vs : List Nat) : List Nat := vs.set i (win (vs.getD i 0) (leb ((l.drop (8 * i)).take 8)))
def wpart (l : List Int) (vs : List Nat) : Nat → List Nat
  | 0 => vs
  | i + 1 => wstep l i (wpart l vs i)
def wstripes : Nat → List Nat → List Int → List Nat
  | 0, vs, _ => vs
  | n + 1, vs, l => wstripes n (wpart l vs 4) (l.drop 32)
def winit (s : Nat) : List Nat := [(s + 11400714785074694791 + 14029467366897019727) % 18446744073709551616, (s + 14029467366897019727) % 18446744073709551616, s, (s + 18446744073709551616 - 11400714785074694791) % 18446744073709551616]
def wmerge (h x : Nat) : Nat := ((h ^^^ win 0 x) * 11400714785074694791 + 9650029242287828579) % 18446744073709551616
def wout (v : List Nat) : Nat := v.foldl wmerge ((rol 64 1 (v.getD 0 0) + rol 64 7 (v.getD 1 0) + rol 64 12 (v.getD 2 0) + rol 64 18 (v.getD 3 0)) % 18446744073709551616)
def wbeg (s : Nat) (vs : List Nat) (n : Nat) : Nat := if n < 32 then (s + 2870177450012600261) % 18446744073709551616 else wout vs
def weight (h : Nat) (l : List Int) : Nat := (rol 64 27 (h ^^^ win 0 (leb (l.take 8))) * 11400714785074694791 + 9650029242287828579) % 18446744073709551616
def weights : Nat → Nat → List Int → Nat
  | 0, h, _ => h
  | n + 1, h, l => weights n (weight h l) (l.drop 8)
def wfour (h : Nat) (l : List Int) : Nat := (rol 64 23 (h ^^^ (leb (l.take 4) * 11400714785074694791 % 18446744073709551616)) * 14029467366897019727 + 1609587929392839161) % 18446744073709551616
def wbyte (h : Nat) (b : Int) : Nat := rol 64 11 (h ^^^ (b.toNat * 2870177450012600261 % 18446744073709551616)) * 11400714785074694791 % 18446744073709551616
def wbytes : Nat → List Int → Nat
  | h, [] => h
  | h, b :: bs => wbytes (wbyte h b) bs
def wmix (n x : Nat) : Nat := x ^^^ (x / 2 ^ n)
def wfin (h : Nat) : Nat := wmix 32 (wmix 29 (wmix 33 h * 14029467366897019727 % 18446744073709551616) * 1609587929392839161 % 18446744073709551616)
def wrest (l : List Int) : List Int := l.drop (32 * (l.length / 32))
def wlast (h : Nat) (r : List Int) : Nat := if r.length < 4 then wbytes h r else wbytes (wfour h r) (r.drop 4)
def wtail (h : Nat) (r : List Int) : Nat := wlast (weights (r.length / 8) h r) (r.drop (8 * (r.length / 8)))
def wvs (s : Nat) (l : List Int) : List Nat := wstripes (l.length / 32) (winit s) l
def wstart (s : Nat) (l : List Int) : Nat := wbeg s (wvs s l) l.length
def wsum (s : Nat) (l : List Int) : Nat := wfin (wtail ((wstart s l + l.length) % 18446744073709551616) (wrest l))
theorem win_lt (x y : Nat) : win x y < 18446744073709551616 := Nat.mod_lt _ (by omega)
theorem wstep_len (l : List Int) (i : Nat) (vs : List Nat) : (wstep l i vs).length = vs.length := by simp [wstep]
theorem wpart_len (l : List Int) (vs : List Nat) : ∀ i, (wpart l vs i).length = vs.length
  | 0 => rfl
  | i + 1 => by rw [wpart, wstep_len, wpart_len l vs i]
def Small8 (vs : List Nat) : Prop := ∀ v ∈ vs, v < 18446744073709551616
theorem Small8.at {vs : List Nat} (h : Small8 vs) (i : Nat) : vs.getD i 0 < 18446744073709551616 := by
  rw [List.getD_eq_getElem?_getD]
  rcases hv : vs[i]? with _ | v
  · rw [Option.getD_none]; exact Nat.zero_lt_succ 18446744073709551615
  · rw [Option.getD_some]; exact h v (List.mem_of_getElem? hv)
theorem wstep_small (l : List Int) (i : Nat) (vs : List Nat) (h : Small8 vs) : Small8 (wstep l i vs) := fun v hv => by
  rcases List.mem_or_eq_of_mem_set hv with hv | rfl
  · exact h v hv
  · exact win_lt _ _
theorem wpart_small (l : List Int) (vs : List Nat) (h : Small8 vs) : ∀ i, Small8 (wpart l vs i)
  | 0 => h
  | i + 1 => wstep_small l i _ (wpart_small l vs h i)
theorem winit_small (s : Nat) (h : s < 18446744073709551616) : Small8 (winit s) := by
  intro v hv
  simp only [winit, List.mem_cons, List.not_mem_nil, or_false] at hv
  rcases hv with h1 | h1 | h1 | h1 <;> rw [h1]
  · exact Nat.mod_lt _ (by omega)
  · exact Nat.mod_lt _ (by omega)
  · exact h
  · exact Nat.mod_lt _ (by omega)
theorem wstripes_succ (l : List Int) : ∀ (n : Nat) (vs : List Nat), wstripes (n + 1) vs l = wpart (l.drop (32 * n)) (wstripes n vs l) 4 := by
  intro n
  induction n generalizing l with
  | zero => intro vs; simp [wstripes]
  | succ n ih =>
    intro vs
    rw [wstripes, ih, wstripes, List.drop_drop]
    congr 2
    omega
theorem wstripes_len (l : List Int) (vs : List Nat) : ∀ n, (wstripes n vs l).length = vs.length
  | 0 => rfl
  | n + 1 => by rw [wstripes_succ, wpart_len, wstripes_len l vs n]
theorem wstripes_small (l : List Int) (vs : List Nat) (h : Small8 vs) : ∀ n, Small8 (wstripes n vs l)
  | 0 => h
  | n + 1 => by rw [wstripes_succ]; exact wpart_small _ _ (wstripes_small l vs h n) 4
theorem wpart_take (l m : List Int) (vs : List Nat) (i : Nat) (h : 8 * i ≤ l.length) : wpart (l ++ m) vs i = wpart l vs i := by
  induction i with
  | zero => rfl
  | succ i ih =>
    have e : (((l ++ m).drop (8 * i)).take 8) = ((l.drop (8 * i)).take 8) := by
      rw [List.drop_append_of_le_length (by omega), List.take_append_of_le_length (by rw [List.length_drop]; omega)]
    rw [wpart, wpart, ih (by omega), wstep, wstep, e]
theorem wstripes_take (m : List Int) : ∀ (n : Nat) (l : List Int) (vs : List Nat), 32 * n ≤ l.length → wstripes n vs (l ++ m) = wstripes n vs l
  | 0, _, _, _ => rfl
  | n + 1, l, vs, h => by
    rw [wstripes, wstripes, wpart_take l m vs 4 (by omega), List.drop_append_of_le_length (by omega), wstripes_take m n (l.drop 32) _ (by rw [List.length_drop]; omega)]
theorem wstripes_add (l : List Int) (vs : List Nat) (n : Nat) : ∀ k, wstripes (n + k) vs l = wstripes k (wstripes n vs l) (l.drop (32 * n)) := by
  intro k
  induction n generalizing l vs with
  | zero => simp [wstripes]
  | succ n ih =>
    rw [show n + 1 + k = (n + k) + 1 by omega, wstripes, ih, wstripes, List.drop_drop]
    congr 2
    omega
theorem wvs_append (s : Nat) (a l : List Int) : wvs s (a ++ l) = wstripes ((wrest a ++ l).length / 32) (wvs s a) (wrest a ++ l) := by
  have e : wrest a ++ l = (a ++ l).drop (32 * (a.length / 32)) := by unfold wrest; rw [List.drop_append_of_le_length (by omega)]
  have e2 : (wrest a ++ l).length / 32 + a.length / 32 = (a ++ l).length / 32 := by
    unfold wrest
    simp only [List.length_append, List.length_drop]
    omega
  unfold wvs
  rw [← e2, Nat.add_comm, wstripes_add, wstripes_take l _ a _ (by omega), ← e]
theorem wrest_append (a l : List Int) : wrest (a ++ l) = (wrest a ++ l).drop (32 * ((wrest a ++ l).length / 32)) := by
  have e : wrest a ++ l = (a ++ l).drop (32 * (a.length / 32)) := by unfold wrest; rw [List.drop_append_of_le_length (by omega)]
  have e2 : (wrest a ++ l).length / 32 + a.length / 32 = (a ++ l).length / 32 := by
    unfold wrest
    simp only [List.length_append, List.length_drop]
    omega
  obtain ⟨q, hq⟩ : ∃ q, (wrest a ++ l).length / 32 = q := ⟨_, rfl⟩
  rw [hq] at e2 ⊢
  rw [e, List.drop_drop]
  unfold wrest
  rw [← e2]
  congr 1
  omega
theorem wrest_len (a : List Int) : (wrest a).length < 32 := by unfold wrest; rw [List.length_drop]; omega
theorem weights_succ (l : List Int) : ∀ (n h : Nat), weights (n + 1) h l = weight (weights n h l) (l.drop (8 * n)) := by
  intro n
  induction n generalizing l with
  | zero => intro h; simp [weights]
  | succ n ih =>
    intro h
    rw [weights, ih, weights, List.drop_drop]
    congr 2
    omega
theorem weight_lt (h : Nat) (l : List Int) : weight h l < 18446744073709551616 := Nat.mod_lt _ (by omega)
theorem weights_lt (l : List Int) (h : Nat) (hh : h < 18446744073709551616) : ∀ n, weights n h l < 18446744073709551616
  | 0 => hh
  | n + 1 => by rw [weights_succ]; exact weight_lt _ _
theorem wfour_lt (h : Nat) (l : List Int) : wfour h l < 18446744073709551616 := Nat.mod_lt _ (by omega)
theorem wbyte_lt (h : Nat) (b : Int) : wbyte h b < 18446744073709551616 := Nat.mod_lt _ (by omega)
theorem wbytes_append : ∀ (a b : List Int) (h : Nat), wbytes h (a ++ b) = wbytes (wbytes h a) b
  | [], _, _ => rfl
  | x :: xs, b, h => by simp only [List.cons_append, wbytes, wbytes_append xs b]
theorem wbytes_take (l : List Int) (h i : Nat) (hi : i < l.length) : wbytes h (l.take (i + 1)) = wbyte (wbytes h (l.take i)) l[i] := by
  rw [List.take_succ_eq_append_getElem hi, wbytes_append]
  rfl
theorem wbytes_lt (h : Nat) (hh : h < 18446744073709551616) : ∀ (l : List Int), wbytes h l < 18446744073709551616 := by
  intro l
  induction l generalizing h with
  | nil => exact hh
  | cons b bs ih => exact ih _ (wbyte_lt _ _)
theorem wmix_lt (n x : Nat) (h : x < 18446744073709551616) : wmix n x < 18446744073709551616 :=
  Nat.xor_lt_two_pow (n := 64) h (Nat.lt_of_le_of_lt (Nat.div_le_self _ _) h)
theorem wmerge_lt (h x : Nat) : wmerge h x < 18446744073709551616 := Nat.mod_lt _ (by omega)
theorem wmerges_lt (vs : List Nat) (h : Nat) (hh : h < 18446744073709551616) : vs.foldl wmerge h < 18446744073709551616 := by
  induction vs generalizing h with
  | nil => exact hh
  | cons v vs ih => rw [List.foldl_cons]; exact ih (wmerge h v) (wmerge_lt h v)
theorem wout_lt (v : List Nat) : wout v < 18446744073709551616 := wmerges_lt v _ (Nat.mod_lt _ (by omega))
theorem wbeg_lt (s : Nat) (vs : List Nat) (n : Nat) : wbeg s vs n < 18446744073709551616 := by
  unfold wbeg
  split
  · exact Nat.mod_lt _ (by omega)
  · exact wout_lt _
theorem wstart_lt (s : Nat) (l : List Int) : wstart s l < 18446744073709551616 := wbeg_lt _ _ _
theorem wfin_lt (h : Nat) : wfin h < 18446744073709551616 := wmix_lt 32 _ (Nat.mod_lt _ (by omega))
theorem wsum_lt (s : Nat) (l : List Int) : wsum s l < 18446744073709551616 := wfin_lt _
theorem wvs_small (s : Nat) (l : List Int) (h : s < 18446744073709551616) : Small8 (wvs s l) := wstripes_small _ _ (winit_small s h) _
theorem wvs_len (s : Nat) (l : List Int) : (wvs s l).length = 4 := wstripes_len _ _ _
end Go.Proofs.Ytekanmieppnpeaa.Rol
set_option linter.unusedVariables false
set_option linter.unusedSimpArgs false
namespace Go.Proofs.Ytekanmieppnpeaa.G
open Go Go.RowKit Go.Proofs.YtekanmieppnpeaaW.PrintWords Go.Proofs.YtekanmieppnpeaaW.PrintLast Go.Proofs.YtekanmieppnpeaaW.PrintMore Go.Proofs.Ytekanmieppnpeaa.PureKit Go.Proofs.Ytekanmieppnpeaa.Sep Go.Proofs.Ytekanmieppnpeaa.Rol
theorem mod_lt64 (x : Nat) : x % 18446744073709551616 < 18446744073709551616 := Nat.mod_lt _ (by decide)
theorem wrap_nat64 (x : Nat) : IntKind.u64.wrap (x : Int) = ((x % 18446744073709551616 : Nat) : Int) := by rw [IntKind.wrap_u64]; omega
theorem rot64_eq (x n : Nat) (hx : x < 18446744073709551616) (h0 : 0 < n) (hn : n < 64) : bits_RotateLeft64.f (x : Int) (n : Int) = some ((rol 64 n x : Nat) : Int) := by
  have e : IntKind.u64.wrap (64 - (n : Int)) = ((64 - n : Nat) : Int) := by rw [wu64 (by omega) (by omega)]; omega
  have h := rol_or 64 n x (by omega) hx
  unfold bits_RotateLeft64.f
  rw [and63 n hn, e, if_pos (by omega), if_pos (by omega)]
  unfold shl shr
  rw [show min ((n : Int).toNat) (IntKind.u64.bits) = n from by show min _ 64 = _; omega, show min (((64 - n : Nat) : Int).toNat) (IntKind.u64.bits) = 64 - n from by show min _ 64 = _; omega]
  have e1 : IntKind.u64.wrap ((x : Int) * 2 ^ n) = ((x * 2 ^ n % 2 ^ 64 : Nat) : Int) := by
    have := wrap_nat64 (x * 2 ^ n)
    rw [Int.natCast_mul, Int.natCast_pow] at this
    exact this
  have e2 : (x : Int) / 2 ^ (64 - n) = ((x / 2 ^ (64 - n) : Nat) : Int) := by simp
  rw [e1, e2, bits_or_u64_nat _ _ (Nat.mod_lt _ (by decide)) (Nat.lt_of_le_of_lt (Nat.div_le_self _ _) hx), h]
theorem rot64 (w : World) (x n : Nat) (a b : Int) (ha : a = (x : Int)) (hb : b = (n : Int)) (hx : x < 18446744073709551616) (h0 : 0 < n) (hn : n < 64) :
    Calls Try.prog 146 #[.int .u64 a, .int .i64 b] w fun e w' => e = .returned (.int .u64 ((rol 64 n x : Nat) : Int)) ∧ Drawn0 w w' := by
  subst ha
  subst hb
  exact bits_RotateLeft64.calls _ _ _ w (rot64_eq x n hx h0 hn)
theorem rol64_lt (n x : Nat) (hn : n ≤ 64) (hx : x < 18446744073709551616) : rol 64 n x < 18446744073709551616 := rol_lt 64 n x hn hx
theorem win_step (x y : Nat) : IntKind.u64.wrap ((x : Int) + IntKind.u64.wrap ((y : Int) * 14029467366897019727)) = (((x + y * 14029467366897019727) % 18446744073709551616 : Nat) : Int) := by
  rw [IntKind.wrap_u64, IntKind.wrap_u64]
  omega
theorem mul_step (z p : Nat) : IntKind.u64.wrap ((z : Int) * (p : Int)) = ((z * p % 18446744073709551616 : Nat) : Int) := by
  rw [← Int.natCast_mul, wrap_nat64]
theorem win_eq (x y : Nat) (hx : x < 18446744073709551616) (hy : y < 18446744073709551616) : wide_into.f (x : Int) (y : Int) = some ((win x y : Nat) : Int) := by
  unfold wide_into.f win
  rw [win_step, show (31 : Int) = ((31 : Nat) : Int) from rfl, rot64_eq _ 31 (mod_lt64 _) (by decide) (by decide), Option.bind_some]
  have := mul_step (rol 64 31 ((x + y * 14029467366897019727) % 18446744073709551616)) 11400714785074694791
  exact congrArg some this
theorem win_calls (w : World) (x y : Nat) (a b : Int) (ha : a = (x : Int)) (hb : b = (y : Int)) (hx : x < 18446744073709551616) (hy : y < 18446744073709551616) :
    Calls Try.prog 143 #[.int .u64 a, .int .u64 b] w fun e w' => e = .returned (.int .u64 ((win x y : Nat) : Int)) ∧ Drawn0 w w' := by
  subst ha
  subst hb
  exact wide_into.calls _ _ _ w (win_eq x y hx hy)
theorem leb_snoc : ∀ (l : List Int) (b : Int), leb (l ++ [b]) = leb l + 2 ^ (8 * l.length) * b.toNat
  | [], b => by simp [leb]
  | x :: xs, b => by
    rw [List.cons_append, leb, leb_snoc xs b, leb, List.length_cons, show 8 * (xs.length + 1) = 8 + 8 * xs.length by omega, Nat.pow_add, Nat.mul_add, Nat.mul_assoc, Nat.add_assoc]
theorem leb_take_succ (l : List Int) (i : Nat) (h : i < l.length) : leb (l.take (i + 1)) = leb (l.take i) + 2 ^ (8 * i) * (l[i]).toNat := by
  rw [List.take_succ_eq_append_getElem h, leb_snoc, List.length_take, Nat.min_eq_left (by omega)]
theorem num_l0 (l : List Int) (hb : Bytes l) (n : Nat) (hn : n ≤ 8) (hl : n ≤ l.length) (hmax : l.length ≤ 9223372036854775807) : ∀ (d i : Nat), i + d = n → Ev (fun k => wide_num.l0 k l ((leb (l.take i) : Nat) : Int) (n : Int) (i : Int)) ((leb (l.take n) : Nat) : Int) := by
  intro d
  induction d with
  | zero =>
    intro i hi
    refine Ev.step (f := fun _ => some ((leb (l.take n) : Nat) : Int)) (fun k => ?_) (Ev.now _)
    simp only [wide_num.l0]
    rw [if_neg (by omega), show i = n by omega]
  | succ d ih =>
    intro i hi
    refine Ev.step (fun k => ?_) (ih (i + 1) (by omega))
    have hby := hb l[i] (List.getElem_mem (by omega))
    have hlt := leb_lt (l.take i) (hb.take _)
    rw [List.length_take, Nat.min_eq_left (by omega)] at hlt
    have hlt2 : leb (l.take i) < 2 ^ (8 * i) := by rw [show (256 : Nat) = 2 ^ 8 from rfl, ← Nat.pow_mul] at hlt; exact hlt
    have hpw : (2 : Nat) ^ (8 * i) ≤ 2 ^ 56 := Nat.pow_le_pow_right (by decide) (by omega)
    simp only [wide_num.l0]
    rw [if_pos (by omega), if_pos (by omega), if_pos (by omega), w64 (x := 8 * (i : Int)) (by omega) (by omega), if_pos (by omega), rd_at l i (by omega), leb_take_succ l i (by omega)]
    obtain ⟨b, hb'⟩ := Int.eq_ofNat_of_zero_le hby.1
    rw [hb', Int.toNat_natCast, wu64 (x := (b : Int)) (by omega) (by omega), w64 (by omega) (by omega)]
    have hb2 : b ≤ 255 := by omega
    have e1 : shl .u64 (b : Int) (8 * (i : Int)) = ((2 ^ (8 * i) * b : Nat) : Int) := by
      unfold shl
      rw [show min ((8 * (i : Int)).toNat) (IntKind.u64.bits) = 8 * i from by show min _ 64 = _; omega]
      have h3 : (2 : Nat) ^ (8 * i) * b ≤ 2 ^ 56 * 255 := Nat.mul_le_mul hpw hb2
      have h4 := wrap_nat64 (b * 2 ^ (8 * i))
      rw [Int.natCast_mul, Int.natCast_pow] at h4
      rw [Nat.mul_comm (2 ^ (8 * i)) b] at h3 ⊢
      rw [Nat.mod_eq_of_lt (by omega)] at h4
      exact h4
    rw [e1, bits_or_u64_nat _ _ (by omega) (by have h3 : (2 : Nat) ^ (8 * i) * b ≤ 2 ^ 56 * 255 := Nat.mul_le_mul hpw hb2; omega), Nat.or_comm, ← Nat.two_pow_add_eq_or_of_lt hlt2 b, Nat.add_comm]
    rfl
theorem num_calls (w : World) (A : Option Addr) (c n : Nat) (l : List Int) (m k : Nat) (b : Int) (hm : m = l.length) (hb' : b = (k : Int)) (hC : Kd.C (Kd.int .u8) w A l.length l) (hc : l.length ≤ c) (hb : Bytes l) (hk : k ≤ 8) (hl : k ≤ l.length) :
    Calls Try.prog 144 #[.slice A m c, .int .i64 b] w fun e w' => e = .returned (.int .u64 ((leb (l.take k) : Nat) : Int)) ∧ Drawn0 w w' := by
  subst hm
  subst hb'
  have h := num_l0 l hb k hk hl (Kd.C_max hC) k 0 (by omega)
  obtain ⟨q, hq⟩ := h.rounds
  exact wide_num.calls q A c l _ _ w hC hc hq
end Go.Proofs.Ytekanmieppnpeaa.G
set_option linter.unusedVariables false
set_option linter.unusedSimpArgs false
namespace Go.Proofs.Ytekanmieppnpeaa.G
open Go Go.RowKit Go.Proofs.YtekanmieppnpeaaW.PrintWords Go.Proofs.YtekanmieppnpeaaW.PrintLast Go.Proofs.YtekanmieppnpeaaW.PrintMore Go.Proofs.Ytekanmieppnpeaa.PureKit Go.Proofs.Ytekanmieppnpeaa.Sep Go.Proofs.Ytekanmieppnpeaa.Rol
def nat64 (vs : List Nat) : List Value := vs.map (fun (x : Nat) => Value.int .u64 (x : Int))
def wcells (s : Nat) (vs : List Nat) (v : Value) (n : Nat) : Array Value := (Value.int .u64 (s : Int) :: (nat64 vs ++ [v, Value.int .u64 (n : Int)])).toArray
theorem wcells_seed (s : Nat) (vs : List Nat) (v : Value) (n : Nat) : (wcells s vs v n)[0]? = some (.int .u64 (s : Int)) := rfl
theorem wcells_v (s : Nat) (vs : List Nat) (v : Value) (n j x : Nat) (h : vs[j]? = some x) : (wcells s vs v n)[j + 1]? = some (.int .u64 (x : Int)) := by
  unfold wcells nat64
  have hj := (List.getElem?_eq_some_iff.1 h).1
  rw [List.getElem?_toArray, List.getElem?_cons_succ, List.getElem?_append_left (by simpa using hj), List.getElem?_map, h]
  rfl
theorem wcells_set (s : Nat) (vs : List Nat) (v : Value) (n j x k : Nat) (y : Int) (hk : k = j + 1) (hy : y = (x : Int)) (h : j < vs.length) : (wcells s vs v n).setIfInBounds k (.int .u64 y) = wcells s (vs.set j x) v n := by
  subst hk
  subst hy
  unfold wcells nat64
  rw [List.setIfInBounds_toArray, List.set_cons_succ, List.set_append_left _ _ (by simpa using h), List.map_set]
theorem wcells_rest (s : Nat) (vs : List Nat) (v : Value) (n : Nat) (h : vs.length = 4) : (wcells s vs v n)[5]? = some v ∧ (wcells s vs v n)[6]? = some (.int .u64 (n : Int)) := by
  rcases vs with _ | ⟨a, _ | ⟨b, _ | ⟨c, _ | ⟨d, _ | ⟨e, r⟩⟩⟩⟩⟩ <;> simp at h
  exact ⟨rfl, rfl⟩
theorem wcells_set5 (s : Nat) (vs : List Nat) (v u : Value) (n : Nat) (h : vs.length = 4) : (wcells s vs v n).setIfInBounds 5 u = wcells s vs u n := by
  rcases vs with _ | ⟨a, _ | ⟨b, _ | ⟨c, _ | ⟨d, _ | ⟨e, r⟩⟩⟩⟩⟩ <;> simp at h
  rfl
theorem wcells_set6 (s : Nat) (vs : List Nat) (v : Value) (n m : Nat) (h : vs.length = 4) : (wcells s vs v n).setIfInBounds 6 (.int .u64 (m : Int)) = wcells s vs v m := by
  rcases vs with _ | ⟨a, _ | ⟨b, _ | ⟨c, _ | ⟨d, _ | ⟨e, r⟩⟩⟩⟩⟩ <;> simp at h
  rfl
def wst (g : Nat) (s : Nat) (a : List Int) : HP where
  p := fun w bs => ∃ v bs', bs = g :: bs' ∧ w.heap[g]? = some (.cells (wcells s (wvs s a) v a.length) 181 (0, 0)) ∧ Kd.R (Kd.int .u8) 5 w 0 (fun k => k ∈ bs') v (wrest a)
  loc := by
    rintro w w' bs ⟨v, bs', e, h1, h2⟩ hm
    exact ⟨v, bs', e, by rw [hm g (by rw [e]; simp)]; exact h1, Kd.R_move h2 (fun k hk => hm k (by rw [e]; exact List.mem_cons_of_mem _ hk))⟩
theorem wst_open {w0 w : World} {g s : Nat} {a : List Int} {ps : List HP} (h : Sep.Sep w0 w (wst g s a :: ps)) : ∃ v, Sep.Sep w0 w (blk g (wcells s (wvs s a) v a.length) 181 :: row (Kd.int .u8) 5 v (wrest a) :: ps) := by
  obtain ⟨hb, bs, ⟨b1, b2, e, ⟨v, bs', e1, h1, h2⟩, hs⟩, hn, hr⟩ := h
  exact ⟨v, hb, bs, ⟨[g], bs' ++ b2, by rw [e, e1]; simp, ⟨rfl, h1⟩, bs', b2, rfl, h2, hs⟩, hn, hr⟩
theorem wst_close {w0 w : World} {g s : Nat} {a : List Int} {v : Value} {ps : List HP} (h : Sep.Sep w0 w (blk g (wcells s (wvs s a) v a.length) 181 :: row (Kd.int .u8) 5 v (wrest a) :: ps)) : Sep.Sep w0 w (wst g s a :: ps) := by
  obtain ⟨hb, bs, ⟨b1, b2, e, ⟨e1, h1⟩, b3, b4, e2, h2, hs⟩, hn, hr⟩ := h
  exact ⟨hb, bs, ⟨g :: b3, b4, by rw [e, e1, e2]; simp, ⟨v, b3, rfl, h1, h2⟩, hs⟩, hn, hr⟩
theorem wnew_q (s q1 q2 q3 q4 : Nat) (h1 : (s + 11400714785074694791) % 18446744073709551616 = q1) (h2 : (q1 + 14029467366897019727) % 18446744073709551616 = q2) (h3 : (s + 14029467366897019727) % 18446744073709551616 = q3)
    (h4 : (s + 18446744073709551616 - 11400714785074694791) % 18446744073709551616 = q4) : wvs s [] = [q2, q3, s, q4] := by
  have e : (s + 11400714785074694791 + 14029467366897019727) % 18446744073709551616 = q2 := by rw [← h2, ← h1, Nat.mod_add_mod]
  show winit s = _
  unfold winit
  rw [e, h3, h4]
set_option maxHeartbeats 4000000 in
set_option maxRecDepth 100000 in
theorem wide_new (w0 w : World) (ps : List HP) (s : Nat) (a : Int) (ha : a = (s : Int)) (hs : Sep.Sep w0 w ps) (hl : s < 18446744073709551616) :
    Calls Try.prog 114 #[.int .u64 a] w fun e w' => ∃ g, e = .returned (.pointer (some ⟨g, 0, none⟩)) ∧ Sep.Sep w0 w' (wst g s [] :: ps) := by
  subst ha
  have hS := Aside0.mk hs
  clear hs
  obtain ⟨q1, hq1⟩ : ∃ q : Nat, (s + 11400714785074694791) % 18446744073709551616 = q := ⟨_, rfl⟩
  have fq1 : IntKind.u64.wrap ((s : Int) + 11400714785074694791) = (q1 : Int) := by rw [IntKind.wrap_u64]; omega
  obtain ⟨q2, hq2⟩ : ∃ q : Nat, (q1 + 14029467366897019727) % 18446744073709551616 = q := ⟨_, rfl⟩
  have fq2 : IntKind.u64.wrap ((q1 : Int) + 14029467366897019727) = (q2 : Int) := by rw [IntKind.wrap_u64]; omega
  obtain ⟨q3, hq3⟩ : ∃ q : Nat, (s + 14029467366897019727) % 18446744073709551616 = q := ⟨_, rfl⟩
  have fq3 : IntKind.u64.wrap ((s : Int) + 14029467366897019727) = (q3 : Int) := by rw [IntKind.wrap_u64]; omega
  obtain ⟨q4, hq4⟩ : ∃ q : Nat, (s + 18446744073709551616 - 11400714785074694791) % 18446744073709551616 = q := ⟨_, rfl⟩
  have fq4 : IntKind.u64.wrap ((s : Int) - 11400714785074694791) = (q4 : Int) := by rw [IntKind.wrap_u64]; omega
  have hv : Aside0 (wvs s [] = [q2, q3, s, q4]) := ⟨wnew_q s q1 q2 q3 q4 hq1 hq2 hq3 hq4⟩
  clear hq1 hq2 hq3 hq4
  go_enter Try.func114, Try.ntmps114
  go_wp2_with (first | ((with_reducible refine gate_dst (N := 6) rfl ?_); refine Sep.box_event ?hg (N := 6) ?hd (cs := #[.int .u64 (s : Int), .int .u64 0, .int .u64 0, .int .u64 0, .int .u64 0, .slice none 0 0, .int .u64 0]) (t := 181) hS.out ?hr ?_; (case hd => rfl); (case hg => rfl); (case hr => first | (go_simp; done) | (go_simp; rfl)); intro g1 wb1 hsb1; have hcb1_0 : wb1.cell? ⟨g1, 0, none⟩ = some (.int .u64 (s : Int)) := ((hsb1).cell 0).trans rfl; have hcb1_1 : wb1.cell? ⟨g1, 1, none⟩ = some (.int .u64 0) := ((hsb1).cell 1).trans rfl; have hcb1_2 : wb1.cell? ⟨g1, 2, none⟩ = some (.int .u64 0) := ((hsb1).cell 2).trans rfl; have hcb1_3 : wb1.cell? ⟨g1, 3, none⟩ = some (.int .u64 0) := ((hsb1).cell 3).trans rfl; have hcb1_4 : wb1.cell? ⟨g1, 4, none⟩ = some (.int .u64 0) := ((hsb1).cell 4).trans rfl; have hcb1_5 : wb1.cell? ⟨g1, 5, none⟩ = some (.slice none 0 0) := ((hsb1).cell 5).trans rfl; have hcb1_6 : wb1.cell? ⟨g1, 6, none⟩ = some (.int .u64 0) := ((hsb1).cell 6).trans rfl; have hSb1 := Aside0.mk hsb1; clear hsb1; have hz1 := hSb1.out.frozen 1; have hz2 := hSb1.out.frozen 2; have hz3 := hSb1.out.frozen 3; have hz4 := hSb1.out.frozen 4))
  have hB := hSb1.out
  rw [show (#[.int .u64 (s : Int), .int .u64 0, .int .u64 0, .int .u64 0, .int .u64 0, .slice none 0 0, .int .u64 0] : Array Value) = wcells s [0, 0, 0, 0] (.slice none 0 0) 0 from rfl] at hB
  have hS2a := (((hB.set 1 (.int .u64 (s : Int))).set 2 (.int .u64 (s : Int))).set 3 (.int .u64 (s : Int))).set 4 (.int .u64 (s : Int))
  rw [wcells_set _ _ _ _ 0 s 1 _ rfl rfl (by simp), wcells_set _ _ _ _ 1 s 2 _ rfl rfl (by simp), wcells_set _ _ _ _ 2 s 3 _ rfl rfl (by simp), wcells_set _ _ _ _ 3 s 4 _ rfl rfl (by simp)] at hS2a
  have hS2 := Aside0.mk hS2a
  clear hS2a
  generalize (((wb1.setCell ⟨g1, 1, none⟩ (.int .u64 (s : Int))).setCell ⟨g1, 2, none⟩ (.int .u64 (s : Int))).setCell ⟨g1, 3, none⟩ (.int .u64 (s : Int))).setCell ⟨g1, 4, none⟩ (.int .u64 (s : Int)) = w2 at hS2 ⊢
  simp only [List.set_cons_zero, List.set_cons_succ] at hS2
  clear hB hSb1
  clear hcb1_0 hcb1_1 hcb1_2 hcb1_3 hcb1_4 hcb1_5 hcb1_6 hz1 hz2 hz3 hz4
  have hc0 : w2.drew.cell? ⟨g1, 1, none⟩ = some (.int .u64 (s : Int)) := (hS2.out.drew.cell 1).trans (wcells_v _ _ _ _ 0 s rfl)
  refine start_ (n := 10) (S := fun w' => w'.cell? ⟨g1, 1, none⟩ = some (.int .u64 (s : Int))) (ds := [9]) #[false, false, false, false, false, false, false, false, false, false] (by kernel_rfl) rfl rfl (hc0) (fun hHeld => ?_)
  refine pure_ (i := 0) (N := some 15) (v := ?_) (a' := ?_) #[true, false, false, false, false, false, false, false, false, false] rfl rfl (by kernel_rfl) (fun _ _ _ h => h) (Or.inl ⟨by rfl, ?_⟩) ?_ ?_
  rotate_left
  · intro w'
    go_simp
    with_reducible rfl
  rotate_left
  · simp only [Act.put, List.setIfInBounds_toArray, List.set_cons_zero, List.set_cons_succ, i64_w, i32_w]
    rfl
  refine pure_ (i := 1) (N := some 16) (v := ?_) (a' := ?_) #[true, true, false, false, false, false, false, false, false, false] rfl rfl (by kernel_rfl) (fun _ _ _ h => h) (Or.inl ⟨by rfl, ?_⟩) ?_ ?_
  rotate_left
  · intro w'
    go_simp
    with_reducible rfl
  rotate_left
  · simp only [Act.put, List.setIfInBounds_toArray, List.set_cons_zero, List.set_cons_succ, i64_w, i32_w]
    rfl
  refine pure_ (i := 2) (N := some 17) (v := ?_) (a' := ?_) #[true, true, true, false, false, false, false, false, false, false] rfl rfl (by kernel_rfl) (fun _ _ _ h => h) (Or.inl ⟨by rfl, ?_⟩) ?_ ?_
  rotate_left
  · intro w'
    go_simp
    with_reducible rfl
  rotate_left
  · simp only [Act.put, List.setIfInBounds_toArray, List.set_cons_zero, List.set_cons_succ, i64_w, i32_w]
    rfl
  refine pure_ (i := 3) (N := some 18) (v := ?_) (a' := ?_) #[true, true, true, true, false, false, false, false, false, false] rfl rfl (by kernel_rfl) (fun _ _ _ h => h) (Or.inl ⟨by rfl, ?_⟩) ?_ ?_
  rotate_left
  · intro w'
    go_simp
    with_reducible rfl
  rotate_left
  · simp only [Act.put, List.setIfInBounds_toArray, List.set_cons_zero, List.set_cons_succ, i64_w, i32_w]
    rfl
  refine pure_ (i := 6) (N := some 21) (v := ?_) (a' := ?_) #[true, true, true, true, false, false, true, false, false, false] rfl rfl (by kernel_rfl) (fun _ _ _ h => h) (Or.inl ⟨by rfl, ?_⟩) ?_ ?_
  rotate_left
  · intro w'
    go_simp
    with_reducible rfl
  rotate_left
  · simp only [Act.put, List.setIfInBounds_toArray, List.set_cons_zero, List.set_cons_succ, i64_w, i32_w]
    rfl
  refine pure_ (i := 7) (N := some 22) (v := ?_) (a' := ?_) #[true, true, true, true, false, false, true, true, false, false] rfl rfl (by kernel_rfl) (fun _ _ _ h => h) (Or.inl ⟨by rfl, ?_⟩) ?_ ?_
  rotate_left
  · intro w'
    go_simp
    with_reducible rfl
  rotate_left
  · simp only [Act.put, List.setIfInBounds_toArray, List.set_cons_zero, List.set_cons_succ, i64_w, i32_w]
    rfl
  refine take_ (i := 4) (N := some 19) (v := ?_) (a' := ?_) #[true, true, true, true, true, false, true, true, false, false] rfl rfl (by kernel_rfl) (fun _ _ _ h => h) (Or.inl ⟨by rfl, ?_⟩) hHeld ?_ ?_
  rotate_left
  · intro w' s0
    go_simp
    with_reducible rfl
  rotate_left
  · simp only [Act.put, List.setIfInBounds_toArray, List.set_cons_zero, List.set_cons_succ, i64_w, i32_w]
    rfl
  refine pure_ (i := 5) (N := some 20) (v := ?_) (a' := ?_) #[true, true, true, true, true, true, true, true, false, false] rfl rfl (by kernel_rfl) (fun _ _ _ h => h) (Or.inl ⟨by rfl, ?_⟩) ?_ ?_
  rotate_left
  · intro w'
    go_simp
    with_reducible rfl
  rotate_left
  · simp only [Act.put, List.setIfInBounds_toArray, List.set_cons_zero, List.set_cons_succ, i64_w, i32_w]
    rfl
  refine pure_ (i := 8) (N := some 23) (v := ?_) (a' := ?_) #[true, true, true, true, true, true, true, true, true, false] rfl rfl (by kernel_rfl) (fun _ _ _ h => h) (Or.inl ⟨by rfl, ?_⟩) ?_ ?_
  rotate_left
  · intro w'
    go_simp
    with_reducible rfl
  rotate_left
  · simp only [Act.put, List.setIfInBounds_toArray, List.set_cons_zero, List.set_cons_succ, i64_w, i32_w]
    rfl
  refine last_ (i := 9) (N := none) #[true, true, true, true, true, true, true, true, true, true] rfl rfl (by kernel_rfl) (by decide) (fun K hK => ?_)
  have hcw : w2.cell? ⟨g1, 1, none⟩ = some (.int .u64 (s : Int)) := (hS2.out.cell 1).trans (wcells_v _ _ _ _ 0 s rfl)
  have hfw : w2.frozen? ⟨g1, 1, none⟩ = false := hS2.out.frozen 1
  refine skip_ (w1 := ?_) (by kernel_rfl) rfl ?_ ?_
  rotate_left
  · go_simp
    rfl
  refine hK.out _ _ ?_
  clear hK K
  refine done_ (by kernel_rfl) ?_
  clear hc0 hcw hfw hHeld
  have hz := (hS2.out.set 1 (.int .u64 (q1 : Int))).drew
  rw [wcells_set _ _ _ _ 0 q1 1 _ rfl rfl (by simp)] at hz
  simp only [List.set_cons_zero, List.set_cons_succ] at hz
  have hS3 := Aside0.mk hz
  clear hz hS2
  generalize (w2.setCell ⟨g1, 1, none⟩ (.int .u64 (q1 : Int))).drew = w3 at hS3 ⊢
  go_wp2
  have hc0 : w3.drew.cell? ⟨g1, 1, none⟩ = some (.int .u64 (q1 : Int)) := (hS3.out.drew.cell 1).trans (wcells_v _ _ _ _ 0 q1 rfl)
  refine start_ (n := 10) (S := fun w' => w'.cell? ⟨g1, 1, none⟩ = some (.int .u64 (q1 : Int))) (ds := [9]) #[false, false, false, false, false, false, false, false, false, false] (by kernel_rfl) rfl rfl (hc0) (fun hHeld => ?_)
  refine pure_ (i := 0) (N := some 24) (v := ?_) (a' := ?_) #[true, false, false, false, false, false, false, false, false, false] rfl rfl (by kernel_rfl) (fun _ _ _ h => h) (Or.inl ⟨by rfl, ?_⟩) ?_ ?_
  rotate_left
  · intro w'
    go_simp
    with_reducible rfl
  rotate_left
  · simp only [Act.put, List.setIfInBounds_toArray, List.set_cons_zero, List.set_cons_succ, i64_w, i32_w]
    rfl
  refine pure_ (i := 1) (N := some 25) (v := ?_) (a' := ?_) #[true, true, false, false, false, false, false, false, false, false] rfl rfl (by kernel_rfl) (fun _ _ _ h => h) (Or.inl ⟨by rfl, ?_⟩) ?_ ?_
  rotate_left
  · intro w'
    go_simp
    with_reducible rfl
  rotate_left
  · simp only [Act.put, List.setIfInBounds_toArray, List.set_cons_zero, List.set_cons_succ, i64_w, i32_w]
    rfl
  refine pure_ (i := 2) (N := some 26) (v := ?_) (a' := ?_) #[true, true, true, false, false, false, false, false, false, false] rfl rfl (by kernel_rfl) (fun _ _ _ h => h) (Or.inl ⟨by rfl, ?_⟩) ?_ ?_
  rotate_left
  · intro w'
    go_simp
    with_reducible rfl
  rotate_left
  · simp only [Act.put, List.setIfInBounds_toArray, List.set_cons_zero, List.set_cons_succ, i64_w, i32_w]
    rfl
  refine pure_ (i := 3) (N := some 27) (v := ?_) (a' := ?_) #[true, true, true, true, false, false, false, false, false, false] rfl rfl (by kernel_rfl) (fun _ _ _ h => h) (Or.inl ⟨by rfl, ?_⟩) ?_ ?_
  rotate_left
  · intro w'
    go_simp
    with_reducible rfl
  rotate_left
  · simp only [Act.put, List.setIfInBounds_toArray, List.set_cons_zero, List.set_cons_succ, i64_w, i32_w]
    rfl
  refine pure_ (i := 6) (N := some 30) (v := ?_) (a' := ?_) #[true, true, true, true, false, false, true, false, false, false] rfl rfl (by kernel_rfl) (fun _ _ _ h => h) (Or.inl ⟨by rfl, ?_⟩) ?_ ?_
  rotate_left
  · intro w'
    go_simp
    with_reducible rfl
  rotate_left
  · simp only [Act.put, List.setIfInBounds_toArray, List.set_cons_zero, List.set_cons_succ, i64_w, i32_w]
    rfl
  refine pure_ (i := 7) (N := some 31) (v := ?_) (a' := ?_) #[true, true, true, true, false, false, true, true, false, false] rfl rfl (by kernel_rfl) (fun _ _ _ h => h) (Or.inl ⟨by rfl, ?_⟩) ?_ ?_
  rotate_left
  · intro w'
    go_simp
    with_reducible rfl
  rotate_left
  · simp only [Act.put, List.setIfInBounds_toArray, List.set_cons_zero, List.set_cons_succ, i64_w, i32_w]
    rfl
  refine take_ (i := 4) (N := some 28) (v := ?_) (a' := ?_) #[true, true, true, true, true, false, true, true, false, false] rfl rfl (by kernel_rfl) (fun _ _ _ h => h) (Or.inl ⟨by rfl, ?_⟩) hHeld ?_ ?_
  rotate_left
  · intro w' s0
    go_simp
    with_reducible rfl
  rotate_left
  · simp only [Act.put, List.setIfInBounds_toArray, List.set_cons_zero, List.set_cons_succ, i64_w, i32_w]
    rfl
  refine pure_ (i := 5) (N := some 29) (v := ?_) (a' := ?_) #[true, true, true, true, true, true, true, true, false, false] rfl rfl (by kernel_rfl) (fun _ _ _ h => h) (Or.inl ⟨by rfl, ?_⟩) ?_ ?_
  rotate_left
  · intro w'
    go_simp
    with_reducible rfl
  rotate_left
  · simp only [Act.put, List.setIfInBounds_toArray, List.set_cons_zero, List.set_cons_succ, i64_w, i32_w]
    rfl
  refine pure_ (i := 8) (N := some 32) (v := ?_) (a' := ?_) #[true, true, true, true, true, true, true, true, true, false] rfl rfl (by kernel_rfl) (fun _ _ _ h => h) (Or.inl ⟨by rfl, ?_⟩) ?_ ?_
  rotate_left
  · intro w'
    go_simp
    with_reducible rfl
  rotate_left
  · simp only [Act.put, List.setIfInBounds_toArray, List.set_cons_zero, List.set_cons_succ, i64_w, i32_w]
    rfl
  refine last_ (i := 9) (N := none) #[true, true, true, true, true, true, true, true, true, true] rfl rfl (by kernel_rfl) (by decide) (fun K hK => ?_)
  have hcw : w3.cell? ⟨g1, 1, none⟩ = some (.int .u64 (q1 : Int)) := (hS3.out.cell 1).trans (wcells_v _ _ _ _ 0 q1 rfl)
  have hfw : w3.frozen? ⟨g1, 1, none⟩ = false := hS3.out.frozen 1
  refine skip_ (w1 := ?_) (by kernel_rfl) rfl ?_ ?_
  rotate_left
  · go_simp
    rfl
  refine hK.out _ _ ?_
  clear hK K
  refine done_ (by kernel_rfl) ?_
  clear hc0 hcw hfw hHeld
  have hz := (hS3.out.set 1 (.int .u64 (q2 : Int))).drew
  rw [wcells_set _ _ _ _ 0 q2 1 _ rfl rfl (by simp)] at hz
  simp only [List.set_cons_zero, List.set_cons_succ] at hz
  have hS4 := Aside0.mk hz
  clear hz hS3
  generalize (w3.setCell ⟨g1, 1, none⟩ (.int .u64 (q2 : Int))).drew = w4 at hS4 ⊢
  go_wp2
  have hc0 : w4.drew.cell? ⟨g1, 2, none⟩ = some (.int .u64 (s : Int)) := (hS4.out.drew.cell 2).trans (wcells_v _ _ _ _ 1 s rfl)
  refine start_ (n := 10) (S := fun w' => w'.cell? ⟨g1, 2, none⟩ = some (.int .u64 (s : Int))) (ds := [9]) #[false, false, false, false, false, false, false, false, false, false] (by kernel_rfl) rfl rfl (hc0) (fun hHeld => ?_)
  refine pure_ (i := 0) (N := some 33) (v := ?_) (a' := ?_) #[true, false, false, false, false, false, false, false, false, false] rfl rfl (by kernel_rfl) (fun _ _ _ h => h) (Or.inl ⟨by rfl, ?_⟩) ?_ ?_
  rotate_left
  · intro w'
    go_simp
    with_reducible rfl
  rotate_left
  · simp only [Act.put, List.setIfInBounds_toArray, List.set_cons_zero, List.set_cons_succ, i64_w, i32_w]
    rfl
  refine pure_ (i := 1) (N := some 34) (v := ?_) (a' := ?_) #[true, true, false, false, false, false, false, false, false, false] rfl rfl (by kernel_rfl) (fun _ _ _ h => h) (Or.inl ⟨by rfl, ?_⟩) ?_ ?_
  rotate_left
  · intro w'
    go_simp
    with_reducible rfl
  rotate_left
  · simp only [Act.put, List.setIfInBounds_toArray, List.set_cons_zero, List.set_cons_succ, i64_w, i32_w]
    rfl
  refine pure_ (i := 2) (N := some 35) (v := ?_) (a' := ?_) #[true, true, true, false, false, false, false, false, false, false] rfl rfl (by kernel_rfl) (fun _ _ _ h => h) (Or.inl ⟨by rfl, ?_⟩) ?_ ?_
  rotate_left
  · intro w'
    go_simp
    with_reducible rfl
  rotate_left
  · simp only [Act.put, List.setIfInBounds_toArray, List.set_cons_zero, List.set_cons_succ, i64_w, i32_w]
    rfl
  refine pure_ (i := 3) (N := some 36) (v := ?_) (a' := ?_) #[true, true, true, true, false, false, false, false, false, false] rfl rfl (by kernel_rfl) (fun _ _ _ h => h) (Or.inl ⟨by rfl, ?_⟩) ?_ ?_
  rotate_left
  · intro w'
    go_simp
    with_reducible rfl
  rotate_left
  · simp only [Act.put, List.setIfInBounds_toArray, List.set_cons_zero, List.set_cons_succ, i64_w, i32_w]
    rfl
  refine pure_ (i := 6) (N := some 39) (v := ?_) (a' := ?_) #[true, true, true, true, false, false, true, false, false, false] rfl rfl (by kernel_rfl) (fun _ _ _ h => h) (Or.inl ⟨by rfl, ?_⟩) ?_ ?_
  rotate_left
  · intro w'
    go_simp
    with_reducible rfl
  rotate_left
  · simp only [Act.put, List.setIfInBounds_toArray, List.set_cons_zero, List.set_cons_succ, i64_w, i32_w]
    rfl
  refine pure_ (i := 7) (N := some 40) (v := ?_) (a' := ?_) #[true, true, true, true, false, false, true, true, false, false] rfl rfl (by kernel_rfl) (fun _ _ _ h => h) (Or.inl ⟨by rfl, ?_⟩) ?_ ?_
  rotate_left
  · intro w'
    go_simp
    with_reducible rfl
  rotate_left
  · simp only [Act.put, List.setIfInBounds_toArray, List.set_cons_zero, List.set_cons_succ, i64_w, i32_w]
    rfl
  refine take_ (i := 4) (N := some 37) (v := ?_) (a' := ?_) #[true, true, true, true, true, false, true, true, false, false] rfl rfl (by kernel_rfl) (fun _ _ _ h => h) (Or.inl ⟨by rfl, ?_⟩) hHeld ?_ ?_
  rotate_left
  · intro w' s0
    go_simp
    with_reducible rfl
  rotate_left
  · simp only [Act.put, List.setIfInBounds_toArray, List.set_cons_zero, List.set_cons_succ, i64_w, i32_w]
    rfl
  refine pure_ (i := 5) (N := some 38) (v := ?_) (a' := ?_) #[true, true, true, true, true, true, true, true, false, false] rfl rfl (by kernel_rfl) (fun _ _ _ h => h) (Or.inl ⟨by rfl, ?_⟩) ?_ ?_
  rotate_left
  · intro w'
    go_simp
    with_reducible rfl
  rotate_left
  · simp only [Act.put, List.setIfInBounds_toArray, List.set_cons_zero, List.set_cons_succ, i64_w, i32_w]
    rfl
  refine pure_ (i := 8) (N := some 41) (v := ?_) (a' := ?_) #[true, true, true, true, true, true, true, true, true, false] rfl rfl (by kernel_rfl) (fun _ _ _ h => h) (Or.inl ⟨by rfl, ?_⟩) ?_ ?_
  rotate_left
  · intro w'
    go_simp
    with_reducible rfl
  rotate_left
  · simp only [Act.put, List.setIfInBounds_toArray, List.set_cons_zero, List.set_cons_succ, i64_w, i32_w]
    rfl
  refine last_ (i := 9) (N := none) #[true, true, true, true, true, true, true, true, true, true] rfl rfl (by kernel_rfl) (by decide) (fun K hK => ?_)
  have hcw : w4.cell? ⟨g1, 2, none⟩ = some (.int .u64 (s : Int)) := (hS4.out.cell 2).trans (wcells_v _ _ _ _ 1 s rfl)
  have hfw : w4.frozen? ⟨g1, 2, none⟩ = false := hS4.out.frozen 2
  refine skip_ (w1 := ?_) (by kernel_rfl) rfl ?_ ?_
  rotate_left
  · go_simp
    rfl
  refine hK.out _ _ ?_
  clear hK K
  refine done_ (by kernel_rfl) ?_
  clear hc0 hcw hfw hHeld
  have hz := (hS4.out.set 2 (.int .u64 (q3 : Int))).drew
  rw [wcells_set _ _ _ _ 1 q3 2 _ rfl rfl (by simp)] at hz
  simp only [List.set_cons_zero, List.set_cons_succ] at hz
  have hS5 := Aside0.mk hz
  clear hz hS4
  generalize (w4.setCell ⟨g1, 2, none⟩ (.int .u64 (q3 : Int))).drew = w5 at hS5 ⊢
  go_wp2
  have hc0 : w5.drew.cell? ⟨g1, 4, none⟩ = some (.int .u64 (s : Int)) := (hS5.out.drew.cell 4).trans (wcells_v _ _ _ _ 3 s rfl)
  refine start_ (n := 10) (S := fun w' => w'.cell? ⟨g1, 4, none⟩ = some (.int .u64 (s : Int))) (ds := [9]) #[false, false, false, false, false, false, false, false, false, false] (by kernel_rfl) rfl rfl (hc0) (fun hHeld => ?_)
  refine pure_ (i := 0) (N := some 42) (v := ?_) (a' := ?_) #[true, false, false, false, false, false, false, false, false, false] rfl rfl (by kernel_rfl) (fun _ _ _ h => h) (Or.inl ⟨by rfl, ?_⟩) ?_ ?_
  rotate_left
  · intro w'
    go_simp
    with_reducible rfl
  rotate_left
  · simp only [Act.put, List.setIfInBounds_toArray, List.set_cons_zero, List.set_cons_succ, i64_w, i32_w]
    rfl
  refine pure_ (i := 1) (N := some 43) (v := ?_) (a' := ?_) #[true, true, false, false, false, false, false, false, false, false] rfl rfl (by kernel_rfl) (fun _ _ _ h => h) (Or.inl ⟨by rfl, ?_⟩) ?_ ?_
  rotate_left
  · intro w'
    go_simp
    with_reducible rfl
  rotate_left
  · simp only [Act.put, List.setIfInBounds_toArray, List.set_cons_zero, List.set_cons_succ, i64_w, i32_w]
    rfl
  refine pure_ (i := 2) (N := some 44) (v := ?_) (a' := ?_) #[true, true, true, false, false, false, false, false, false, false] rfl rfl (by kernel_rfl) (fun _ _ _ h => h) (Or.inl ⟨by rfl, ?_⟩) ?_ ?_
  rotate_left
  · intro w'
    go_simp
    with_reducible rfl
  rotate_left
  · simp only [Act.put, List.setIfInBounds_toArray, List.set_cons_zero, List.set_cons_succ, i64_w, i32_w]
    rfl
  refine pure_ (i := 3) (N := some 45) (v := ?_) (a' := ?_) #[true, true, true, true, false, false, false, false, false, false] rfl rfl (by kernel_rfl) (fun _ _ _ h => h) (Or.inl ⟨by rfl, ?_⟩) ?_ ?_
  rotate_left
  · intro w'
    go_simp
    with_reducible rfl
  rotate_left
  · simp only [Act.put, List.setIfInBounds_toArray, List.set_cons_zero, List.set_cons_succ, i64_w, i32_w]
    rfl
  refine pure_ (i := 6) (N := some 48) (v := ?_) (a' := ?_) #[true, true, true, true, false, false, true, false, false, false] rfl rfl (by kernel_rfl) (fun _ _ _ h => h) (Or.inl ⟨by rfl, ?_⟩) ?_ ?_
  rotate_left
  · intro w'
    go_simp
    with_reducible rfl
  rotate_left
  · simp only [Act.put, List.setIfInBounds_toArray, List.set_cons_zero, List.set_cons_succ, i64_w, i32_w]
    rfl
  refine pure_ (i := 7) (N := some 49) (v := ?_) (a' := ?_) #[true, true, true, true, false, false, true, true, false, false] rfl rfl (by kernel_rfl) (fun _ _ _ h => h) (Or.inl ⟨by rfl, ?_⟩) ?_ ?_
  rotate_left
  · intro w'
    go_simp
    with_reducible rfl
  rotate_left
  · simp only [Act.put, List.setIfInBounds_toArray, List.set_cons_zero, List.set_cons_succ, i64_w, i32_w]
    rfl
  refine take_ (i := 4) (N := some 46) (v := ?_) (a' := ?_) #[true, true, true, true, true, false, true, true, false, false] rfl rfl (by kernel_rfl) (fun _ _ _ h => h) (Or.inl ⟨by rfl, ?_⟩) hHeld ?_ ?_
  rotate_left
  · intro w' s0
    go_simp
    with_reducible rfl
  rotate_left
  · simp only [Act.put, List.setIfInBounds_toArray, List.set_cons_zero, List.set_cons_succ, i64_w, i32_w]
    rfl
  refine pure_ (i := 5) (N := some 47) (v := ?_) (a' := ?_) #[true, true, true, true, true, true, true, true, false, false] rfl rfl (by kernel_rfl) (fun _ _ _ h => h) (Or.inl ⟨by rfl, ?_⟩) ?_ ?_
  rotate_left
  · intro w'
    go_simp
    with_reducible rfl
  rotate_left
  · simp only [Act.put, List.setIfInBounds_toArray, List.set_cons_zero, List.set_cons_succ, i64_w, i32_w]
    rfl
  refine pure_ (i := 8) (N := some 50) (v := ?_) (a' := ?_) #[true, true, true, true, true, true, true, true, true, false] rfl rfl (by kernel_rfl) (fun _ _ _ h => h) (Or.inl ⟨by rfl, ?_⟩) ?_ ?_
  rotate_left
  · intro w'
    go_simp
    with_reducible rfl
  rotate_left
  · simp only [Act.put, List.setIfInBounds_toArray, List.set_cons_zero, List.set_cons_succ, i64_w, i32_w]
    rfl
  refine last_ (i := 9) (N := none) #[true, true, true, true, true, true, true, true, true, true] rfl rfl (by kernel_rfl) (by decide) (fun K hK => ?_)
  have hcw : w5.cell? ⟨g1, 4, none⟩ = some (.int .u64 (s : Int)) := (hS5.out.cell 4).trans (wcells_v _ _ _ _ 3 s rfl)
  have hfw : w5.frozen? ⟨g1, 4, none⟩ = false := hS5.out.frozen 4
  refine skip_ (w1 := ?_) (by kernel_rfl) rfl ?_ ?_
  rotate_left
  · go_simp
    rfl
  refine hK.out _ _ ?_
  clear hK K
  refine done_ (by kernel_rfl) ?_
  clear hc0 hcw hfw hHeld
  have hz := (hS5.out.set 4 (.int .u64 (q4 : Int))).drew
  rw [wcells_set _ _ _ _ 3 q4 4 _ rfl rfl (by simp)] at hz
  simp only [List.set_cons_zero, List.set_cons_succ] at hz
  have hS6 := Aside0.mk hz
  clear hz hS5
  generalize (w5.setCell ⟨g1, 4, none⟩ (.int .u64 (q4 : Int))).drew = w6 at hS6 ⊢
  go_wp2
  go_ret
  refine ⟨g1, rfl, wst_close (v := .slice none 0 0) ?_⟩
  have := (hS6.out.row_nil (Kd.int .u8) 5).perm (List.Perm.swap _ _ _)
  rw [← hv.out] at this
  exact this
end Go.Proofs.Ytekanmieppnpeaa.G
set_option linter.unusedVariables false
set_option linter.unusedSimpArgs false
namespace Go.Proofs.Ytekanmieppnpeaa.G
open Go Go.RowKit Go.Proofs.YtekanmieppnpeaaW.PrintWords Go.Proofs.YtekanmieppnpeaaW.PrintLast Go.Proofs.YtekanmieppnpeaaW.PrintMore Go.Proofs.Ytekanmieppnpeaa.PureKit Go.Proofs.Ytekanmieppnpeaa.Sep Go.Proofs.Ytekanmieppnpeaa.Rol
theorem winfo8 : (Try.prog.info? 5).map (fun i => (i.zero, i.size, i.bytes)) = some (some (.int .u8 0), 1, 1) := by kernel_rfl
set_option maxHeartbeats 4000000 in
set_option maxRecDepth 100000 in
theorem wide_write (w0 w : World) (g s : Nat) (a l : List Int) (ps : List HP) (A : Option Addr) (c n : Nat) (hn : n = l.length) (hs : Sep.Sep w0 w (wst g s a :: ps)) (hC : ∀ w', Sep.Sep w0 w' ps → (∀ b, b ≠ g → w'.heap[b]? = w.heap[b]?) → Kd.C (Kd.int .u8) w' A l.length l) (hc : l.length ≤ c) (hba : Bytes a) (hb : Bytes l)
    (hsl : s < 18446744073709551616) (hal : a.length ≤ 1000000000000) (hl : l.length ≤ 1000000000000) :
    Calls Try.prog 115 #[.pointer (some ⟨g, 0, none⟩), .slice A n c] w fun e w' => e = .returned (.pointer (some ⟨g, 0, none⟩)) ∧ Sep.Sep w0 w' (wst g s (a ++ l) :: ps) := by
  subst hn
  obtain ⟨v, hO⟩ := wst_open hs
  have hvl : (wvs s a).length = 4 := wvs_len s a
  have hvs : Small8 (wvs s a) := wvs_small s a hsl
  obtain ⟨bs0, hR0⟩ := hO.tail.row_R
  obtain ⟨Av, cv, rfl⟩ := Kd.R_slice hR0
  clear hR0
  have hcell5 : w.cell? ⟨g, 5, none⟩ = some (.slice Av (wrest a).length cv) := (hO.cell 5).trans (wcells_rest _ _ _ _ hvl).1
  have hcell6 : w.cell? ⟨g, 6, none⟩ = some (.int .u64 (a.length : Int)) := (hO.cell 6).trans (wcells_rest _ _ _ _ hvl).2
  have hz6 : w.frozen? ⟨g, 6, none⟩ = false := hO.frozen 6
  have fn : IntKind.u64.wrap ((a.length : Int) + (l.length : Int)) = (a.length : Int) + (l.length : Int) := wu64 (by omega) (by omega)
  have fl : IntKind.u64.wrap (l.length : Int) = (l.length : Int) := wu64 (by omega) (by omega)
  have hO6 := hO.set 6 (.int .u64 ((a.length : Int) + (l.length : Int)))
  rw [show ((a.length : Int) + (l.length : Int)) = (((a ++ l).length : Nat) : Int) by rw [List.length_append]; omega, wcells_set6 _ _ _ _ _ hvl, show (((a ++ l).length : Nat) : Int) = ((a.length : Int) + (l.length : Int)) by rw [List.length_append]; omega] at hO6
  obtain ⟨bs, hRr, hGr⟩ := (hO6.perm (List.Perm.swap _ _ _)).row_open
  have hR := Aside0.mk hRr
  have hG := Aside0.mk hGr
  have hC6 := Aside0.mk (hC _ hO6.tail.tail (fun b hb => Below.heap_setCell w ⟨g, 6, none⟩ _ b hb))
  clear hRr hGr hO6 hC
  obtain ⟨m, hm⟩ : ∃ m, wrest a ++ l = m := ⟨_, rfl⟩
  have hml : m.length ≤ 1000000000100 := by rw [← hm, List.length_append]; have := wrest_len a; omega
  have hmb : Bytes m := by
    rw [← hm]
    intro y hy
    rcases List.mem_append.1 hy with h | h
    · exact hba y (List.mem_of_mem_drop h)
    · exact hb y h
  have hmA := Aside0.mk hm
  have hrl := Aside0.mk (wrest_len a)
  have hcA := Aside0.mk hc
  have hlA := Aside0.mk hl
  have halA := Aside0.mk hal
  have hmlA := Aside0.mk hml
  have hvlA := Aside0.mk hvl
  clear hs hO hc hl hal hml hm
  go_enter Try.func115, Try.ntmps115
  go_wp2_with (first | ((with_reducible refine gate_builtin (b := .append) (xs := #[.tmp 20, .tmp 21]) rfl ?_); at_builtin; refine Kd.R_append_rows (Kd.int .u8) (w0 := w.setCell ⟨g, 6, none⟩ (.int .u64 ((a.length : Int) + (l.length : Int)))) 0 rfl (.tmp 20) (.tmp 21) 39 5 (.int .u8 0) 1 rfl Try.underlying39 winfo8 rfl (by decide) (by omega) (.slice Av (wrest a).length cv) (wrest a) l _ _ _ (fun k => k ∈ bs ∨ (w.setCell ⟨g, 6, none⟩ (.int .u64 ((a.length : Int) + (l.length : Int)))).heap.size ≤ k) (fun _ => False) rfl rfl ?aO ?aR (fun _ _ h => h) (fun _ h => h.elim) ?aF ?aB ?aS ?aL ?_; (case aO => exact Kd.R_mono hR.out (fun _ h => .inl h)); (case aR => exact hC6.out); (case aF => exact (fun _ h => .inr h)); (case aB => exact Below.refl _ _); (case aS => exact Nat.zero_le _); (case aL => have := hlA.out; have := hrl.out; omega); intro v1 w1 ho hb1 hg hat; have hO7r := (hG.out w1 _ _ ho hg).perm (List.Perm.swap _ _ _); rw [hmA.out] at ho hO7r; obtain ⟨A1, c1, e1⟩ := Kd.R_slice ho; subst e1; have hO7 := Aside0.mk hO7r; have hc1 := Aside0.mk (Kd.R_reads' ho).2.1; clear ho hb1 hg hat hO7r))
  clear hcell5 hcell6 hz6 fn hG hR hC6
  go_loopg [5] (m.length / 32) (fun kq v5 w' => ∃ (i : Nat) (A2 : Option Addr) (c2 : Nat), v5 = .slice A2 (m.drop (32 * i)).length c2 ∧ Aside0 ((∀ W, Kd.C (Kd.int .u8) W A1 m.length m → Kd.C (Kd.int .u8) W A2 (m.drop (32 * i)).length (m.drop (32 * i))) ∧ (m.drop (32 * i)).length ≤ c2 ∧ i + kq = m.length / 32) ∧ Aside0 (Sep.Sep w0 w' (blk g (wcells s (wstripes i (wvs s a) m) (.slice Av (wrest a).length cv) (a ++ l).length) 181 :: row (Kd.int .u8) 5 (.slice A1 m.length c1) m :: ps)))
  case atStart => exact ⟨0, A1, c1, rfl, ⟨fun W h => h, hc1.out, by omega⟩, hO7⟩
  case round =>
    obtain ⟨i, A2, c2, rfl, hA, hS⟩ := hrel
    clear hO7
    by_cases hin : i < m.length / 32
    · have hlen : (m.drop (32 * i)).length = m.length - 32 * i := by rw [List.length_drop]
      have h32 : 32 ≤ (m.drop (32 * i)).length := by omega
      have hb1 : Bytes (m.drop (32 * i)) := hmb.drop _
      have hvs2 : Small8 (wstripes i (wvs s a) m) := wstripes_small _ _ hvs _
      have hvl2 : (wstripes i (wvs s a) m).length = 4 := by rw [wstripes_len, hvl]
      have hd : decide (((m.drop (32 * i)).length : Int) ≥ 32) = true := decide_eq_true (by omega)
      obtain ⟨k1, rfl⟩ : ∃ k1, gk = k1 + 1 := ⟨gk - 1, by have := hA.out; omega⟩
      have hl1l : (m.drop (32 * i)).length ≤ 1000000000100 := by have := hmlA.out; omega
      have hmA2 : Aside0 (∀ W, Kd.C (Kd.int .u8) W A2 (m.drop (32 * i)).length (m.drop (32 * i)) → True) := ⟨fun _ _ => trivial⟩
      generalize hll : m.drop (32 * i) = l1 at *
      generalize hvv : wstripes i (wvs s a) m = vs at *
      have hlenA := Aside0.mk hlen
      have h32A := Aside0.mk h32
      have hl1A := Aside0.mk hl1l
      clear hlen h32 hl1l hmA2
      go_wp2
      go_loopg [26] 4 (fun kq v26 w' => ∃ (j : Nat), v26 = .int .i64 j ∧ Aside0 (j + kq = 4) ∧ Aside0 (Sep.Sep w0 w' (blk g (wcells s (wpart l1 vs j) (.slice Av (wrest a).length cv) (a ++ l).length) 181 :: row (Kd.int .u8) 5 (.slice A1 m.length c1) m :: ps)))
      case atStart => exact ⟨0, rfl, ⟨by omega⟩, hS⟩
      case round =>
        obtain ⟨j, rfl, hj, hS2⟩ := hrel
        clear hS
        by_cases hjn : j < 4
        · have hd2 : decide ((j : Int) < 4) = true := decide_eq_true (by omega)
          obtain ⟨k2, rfl⟩ : ∃ k2, gk = k2 + 1 := ⟨gk - 1, by have := hj.out; omega⟩
          have p0 : ((0 : Int) ≤ (j : Int)) = True := eq_true (by omega)
          have q0 : ((j : Int) < 4) = True := eq_true (by omega)
          have hul : (wpart l1 vs j).length = 4 := by rw [wpart_len, hvl2]
          have hus : Small8 (wpart l1 vs j) := wpart_small _ _ hvs2 j
          obtain ⟨x, hx⟩ : ∃ x, (wpart l1 vs j).getD j 0 = x := ⟨_, rfl⟩
          have hxl : x < 18446744073709551616 := by rw [← hx]; exact hus.at j
          have hux : (wpart l1 vs j)[j]? = some x := by rw [← hx, List.getD_eq_getElem?_getD, List.getElem?_eq_getElem (by omega)]; rfl
          have hcell : (wcells s (wpart l1 vs j) (.slice Av (wrest a).length cv) (a ++ l).length)[1 + j]? = some (.int .u64 (x : Int)) := by rw [Nat.add_comm]; exact wcells_v _ _ _ _ j x hux
          generalize hu : wpart l1 vs j = us at *
          have hxA := Aside0.mk hx
          have hulA := Aside0.mk hul
          clear hx hul hux
          go_wp2
          have hS3 := hS2.out.drew
          have hc0 : wr.drew.cell? ⟨g, 1 + j, none⟩ = some (.int .u64 (x : Int)) := (hS3.cell (1 + j)).trans hcell
          obtain ⟨i0, hi0, _, hsz, _⟩ := info_parts winfo8
          have hl4 : ((8 * (j : Int)).toNat) = 8 * j := by omega
          have hcut := cut_from (P := Try.prog) 39 5 .i64 Try.underlying39 hi0 1 hsz A2 l1.length c2 (8 * (j : Int)) (by omega) (by have := h32A.out; omega)
          obtain ⟨A4, hA4⟩ : ∃ A4, A4 = (if c2 = 8 * j then A2 else A2.map (·.add (8 * j * 1))) := ⟨_, rfl⟩
          rw [hl4, ← hA4] at hcut
          have hC4 : Aside0 (∀ W, Kd.C (Kd.int .u8) W A1 m.length m → Kd.C (Kd.int .u8) W A4 (l1.drop (8 * j)).length (l1.drop (8 * j))) := ⟨fun W h => by
            rw [hA4]
            exact Kd.C_drop (m := 8 * j) (c := c2) (hA.out.1 W h) (by have := h32A.out; omega) hA.out.2.1⟩
          have hw8 : wrap64 (8 * (j : Int)) = 8 * (j : Int) := w64 (by omega) (by omega)
          have hS3 := Aside0.mk hS3
          clear hA4 hl4
          obtain ⟨y, hy⟩ : ∃ y, leb ((l1.drop (8 * j)).take 8) = y := ⟨_, rfl⟩
          have hyl : y < 18446744073709551616 := by
            rw [← hy]
            exact leb_lt4 _ ((hb1.drop _).take _) 8 (by rw [List.length_take]; omega)
          have hyA := Aside0.mk hy
          clear hy
          refine start_ (n := 18) (S := fun w' => w'.cell? ⟨g, 1 + j, none⟩ = some (.int .u64 (x : Int))) (ds := [17]) #[false, false, false, false, false, false, false, false, false, false, false, false, false, false, false, false, false, false] (by kernel_rfl) rfl rfl (hc0) (fun hHeld => ?_)
          refine pure_ (i := 0) (N := some 29) (v := ?_) (a' := ?_) #[true, false, false, false, false, false, false, false, false, false, false, false, false, false, false, false, false, false] rfl rfl (by kernel_rfl) (fun _ _ _ h => h) (Or.inl ⟨by rfl, ?_⟩) ?_ ?_
          rotate_left
          · intro w'
            go_simp
            with_reducible rfl
          rotate_left
          · simp only [Act.put, List.setIfInBounds_toArray, List.set_cons_zero, List.set_cons_succ, i64_w, i32_w]
            rfl
          refine pure_ (i := 1) (N := some 30) (v := ?_) (a' := ?_) #[true, true, false, false, false, false, false, false, false, false, false, false, false, false, false, false, false, false] rfl rfl (by kernel_rfl) (fun _ _ _ h => h) (Or.inl ⟨by rfl, ?_⟩) ?_ ?_
          rotate_left
          · intro w'
            go_simp
            with_reducible rfl
          rotate_left
          · simp only [Act.put, List.setIfInBounds_toArray, List.set_cons_zero, List.set_cons_succ, i64_w, i32_w]
            rfl
          refine pure_ (i := 2) (N := some 31) (v := ?_) (a' := ?_) #[true, true, true, false, false, false, false, false, false, false, false, false, false, false, false, false, false, false] rfl rfl (by kernel_rfl) (fun _ _ _ h => h) (Or.inl ⟨by rfl, ?_⟩) ?_ ?_
          rotate_left
          · intro w'
            go_simp
            with_reducible rfl
          rotate_left
          · simp only [Act.put, List.setIfInBounds_toArray, List.set_cons_zero, List.set_cons_succ, i64_w, i32_w]
            rfl
          refine pure_ (i := 3) (N := some 32) (v := ?_) (a' := ?_) #[true, true, true, true, false, false, false, false, false, false, false, false, false, false, false, false, false, false] rfl rfl (by kernel_rfl) (fun _ _ _ h => h) (Or.inl ⟨by rfl, ?_⟩) ?_ ?_
          rotate_left
          · intro w'
            go_simp
            with_reducible rfl
          rotate_left
          · simp only [Act.put, List.setIfInBounds_toArray, List.set_cons_zero, List.set_cons_succ, i64_w, i32_w]
            rfl
          refine pure_ (i := 4) (N := some 33) (v := ?_) (a' := ?_) #[true, true, true, true, true, false, false, false, false, false, false, false, false, false, false, false, false, false] rfl rfl (by kernel_rfl) (fun _ _ _ h => h) (Or.inl ⟨by rfl, ?_⟩) ?_ ?_
          rotate_left
          · intro w'
            go_simp
            with_reducible rfl
          rotate_left
          · simp only [Act.put, List.setIfInBounds_toArray, List.set_cons_zero, List.set_cons_succ, i64_w, i32_w]
            rfl
          refine pure_ (i := 5) (N := some 34) (v := ?_) (a' := ?_) #[true, true, true, true, true, true, false, false, false, false, false, false, false, false, false, false, false, false] rfl rfl (by kernel_rfl) (fun _ _ _ h => h) (Or.inl ⟨by rfl, ?_⟩) ?_ ?_
          rotate_left
          · intro w'
            go_simp
            with_reducible rfl
          rotate_left
          · simp only [Act.put, List.setIfInBounds_toArray, List.set_cons_zero, List.set_cons_succ, i64_w, i32_w]
            rfl
          refine pure_ (i := 6) (N := some 35) (v := ?_) (a' := ?_) #[true, true, true, true, true, true, true, false, false, false, false, false, false, false, false, false, false, false] rfl rfl (by kernel_rfl) (fun _ _ _ h => h) (Or.inl ⟨by rfl, ?_⟩) ?_ ?_
          rotate_left
          · intro w'
            go_simp
            with_reducible rfl
          rotate_left
          · simp only [Act.put, List.setIfInBounds_toArray, List.set_cons_zero, List.set_cons_succ, i64_w, i32_w]
            rfl
          refine pure_ (i := 8) (N := some 37) (v := ?_) (a' := ?_) #[true, true, true, true, true, true, true, false, true, false, false, false, false, false, false, false, false, false] rfl rfl (by kernel_rfl) (fun _ _ _ h => h) (Or.inl ⟨by rfl, ?_⟩) ?_ ?_
          rotate_left
          · intro w'
            go_simp
            with_reducible rfl
          rotate_left
          · simp only [Act.put, List.setIfInBounds_toArray, List.set_cons_zero, List.set_cons_succ, i64_w, i32_w]
            rfl
          refine pure_ (i := 9) (N := some 38) (v := ?_) (a' := ?_) #[true, true, true, true, true, true, true, false, true, true, false, false, false, false, false, false, false, false] rfl rfl (by kernel_rfl) (fun _ _ _ h => h) (Or.inl ⟨by rfl, ?_⟩) ?_ ?_
          rotate_left
          · intro w'
            go_simp
            with_reducible rfl
          rotate_left
          · simp only [Act.put, List.setIfInBounds_toArray, List.set_cons_zero, List.set_cons_succ, i64_w, i32_w]
            rfl
          refine pure_ (i := 10) (N := some 39) (v := ?_) (a' := ?_) #[true, true, true, true, true, true, true, false, true, true, true, false, false, false, false, false, false, false] rfl rfl (by kernel_rfl) (fun _ _ _ h => h) (Or.inl ⟨by rfl, ?_⟩) ?_ ?_
          rotate_left
          · intro w'
            go_simp
            with_reducible rfl
          rotate_left
          · simp only [Act.put, List.setIfInBounds_toArray, List.set_cons_zero, List.set_cons_succ, i64_w, i32_w]
            rfl
          refine pure_ (i := 11) (N := some 40) (v := ?_) (a' := ?_) #[true, true, true, true, true, true, true, false, true, true, true, true, false, false, false, false, false, false] rfl rfl (by kernel_rfl) (fun _ _ _ h => h) (Or.inl ⟨by rfl, ?_⟩) ?_ ?_
          rotate_left
          · intro w'
            go_simp
            with_reducible rfl
          rotate_left
          · simp only [Act.put, List.setIfInBounds_toArray, List.set_cons_zero, List.set_cons_succ, i64_w, i32_w]
            rfl
          refine pure_ (i := 14) (N := some 43) (v := ?_) (a' := ?_) #[true, true, true, true, true, true, true, false, true, true, true, true, false, false, true, false, false, false] rfl rfl (by kernel_rfl) (fun _ _ _ h => h) (Or.inl ⟨by rfl, ?_⟩) ?_ ?_
          rotate_left
          · intro w'
            go_simp
            with_reducible rfl
          rotate_left
          · simp only [Act.put, List.setIfInBounds_toArray, List.set_cons_zero, List.set_cons_succ, i64_w, i32_w]
            rfl
          refine pure_ (i := 15) (N := some 44) (v := ?_) (a' := ?_) #[true, true, true, true, true, true, true, false, true, true, true, true, false, false, true, true, false, false] rfl rfl (by kernel_rfl) (fun _ _ _ h => h) (Or.inl ⟨by rfl, ?_⟩) ?_ ?_
          rotate_left
          · intro w'
            go_simp
            with_reducible rfl
          rotate_left
          · simp only [Act.put, List.setIfInBounds_toArray, List.set_cons_zero, List.set_cons_succ, i64_w, i32_w]
            rfl
          refine take_ (i := 7) (N := some 36) (v := ?_) (a' := ?_) #[true, true, true, true, true, true, true, true, true, true, true, true, false, false, true, true, false, false] rfl rfl (by kernel_rfl) (fun _ _ _ h => h) (Or.inl ⟨by rfl, ?_⟩) hHeld ?_ ?_
          rotate_left
          · intro w' s0
            go_simp
            with_reducible rfl
          rotate_left
          · simp only [Act.put, List.setIfInBounds_toArray, List.set_cons_zero, List.set_cons_succ, i64_w, i32_w]
            rfl
          refine one_ (i := 12) (N := some 41) #[true, true, true, true, true, true, true, true, true, true, true, true, true, false, true, true, false, false] rfl rfl (by kernel_rfl) (by decide) (fun K hK => ?_)
          refine goes_ Try.func144 (by kernel_rfl) rfl #[.slice A4 (l1.length - 8 * j) (c2 - 8 * j), .int .i64 8] (by rfl) rfl rfl (by (try simp only [List.map_toArray, List.map_cons, List.map_nil]); first | done | rfl) ?_
          have hCm : Kd.C (Kd.int .u8) wr.drew A1 m.length m := (Kd.R_reads' hS3.out.tail.row_R.choose_spec).2.2
          have hnum := num_calls wr.drew A4 (c2 - 8 * j) (l1.length - 8 * j) (l1.drop (8 * j)) (l1.length - 8 * j) 8 8 (by rw [List.length_drop]) rfl (hC4.out _ hCm) (by rw [List.length_drop]; have := hA.out.2.1; omega) (hb1.drop _) (by decide) (by rw [List.length_drop]; have := h32A.out; omega)
          rw [hyA.out] at hnum
          refine hnum.mono ?_
          clear hnum hCm
          rintro e w3 ⟨rfl, ⟨nd, rfl⟩⟩
          refine ⟨_, rfl, ?_⟩
          have hS4 := Aside0.mk (hS3.out.drewN nd)
          have hc4 := (hS4.out.cell (1 + j)).trans hcell
          refine hK.out _ _ (hc4) (fun hHeld => ?_)
          clear hK K
          refine norm_ (a' := ?_) ?_ ?_
          rotate_left
          · show Act.put _ (some 41) _ = _
            simp only [Act.put, List.setIfInBounds_toArray, List.set_cons_zero, List.set_cons_succ, i64_w, i32_w]
            rfl
          refine one_ (i := 13) (N := some 42) #[true, true, true, true, true, true, true, true, true, true, true, true, true, true, true, true, false, false] rfl rfl (by kernel_rfl) (by decide) (fun K hK => ?_)
          refine goes_ Try.func143 (by kernel_rfl) rfl #[.int .u64 (x : Int), .int .u64 (y : Int)] (by rfl) rfl rfl (by (try simp only [List.map_toArray, List.map_cons, List.map_nil]); first | done | rfl) ?_
          refine (win_calls _ x y _ _ rfl rfl hxl hyl).mono ?_
          rintro e w4 ⟨rfl, ⟨nd2, rfl⟩⟩
          refine ⟨_, rfl, ?_⟩
          have hS5 := Aside0.mk (hS4.out.drewN nd2)
          have hc5 := (hS5.out.cell (1 + j)).trans hcell
          have hf5 := hS5.out.frozen (1 + j)
          refine hK.out _ _ (hc5) (fun hHeld => ?_)
          clear hK K
          refine norm_ (a' := ?_) ?_ ?_
          rotate_left
          · show Act.put _ (some 42) _ = _
            simp only [Act.put, List.setIfInBounds_toArray, List.set_cons_zero, List.set_cons_succ, i64_w, i32_w]
            rfl
          refine pure_ (i := 16) (N := some 45) (v := ?_) (a' := ?_) #[true, true, true, true, true, true, true, true, true, true, true, true, true, true, true, true, true, false] rfl rfl (by kernel_rfl) (fun _ _ _ h => h) (Or.inl ⟨by rfl, ?_⟩) ?_ ?_
          rotate_left
          · intro w'
            go_simp
            with_reducible rfl
          rotate_left
          · simp only [Act.put, List.setIfInBounds_toArray, List.set_cons_zero, List.set_cons_succ, i64_w, i32_w]
            rfl
          refine last_ (i := 17) (N := none) #[true, true, true, true, true, true, true, true, true, true, true, true, true, true, true, true, true, true] rfl rfl (by kernel_rfl) (by decide) (fun K hK => ?_)
          have hcw : wr.cell? ⟨g, 1 + j, none⟩ = some (.int .u64 (x : Int)) := (hS2.out.cell (1 + j)).trans hcell
          have hfw : wr.frozen? ⟨g, 1 + j, none⟩ = false := hS2.out.frozen (1 + j)
          refine skip_ (w1 := ?_) (by kernel_rfl) rfl ?_ ?_
          rotate_left
          · go_simp
            rfl
          refine hK.out _ _ ?_
          clear hK K
          refine done_ (by kernel_rfl) ?_
          clear hc0 hcut hC4
          go_wp2
          go_roundg k2
          case measure => omega
          case rel =>
            refine ⟨j + 1, by simp, ⟨by have := hj.out; omega⟩, ⟨?_⟩⟩
            have hq := (hS2.out.drewN (1 + nd + nd2)).set (1 + j) (.int .u64 ((win x y : Nat) : Int))
            rw [wcells_set _ _ _ _ j (win x y) (1 + j) _ (Nat.add_comm 1 j) rfl (by have := hulA.out; omega)] at hq
            rw [show wpart l1 vs (j + 1) = us.set j (win x y) by rw [wpart, hu, wstep, hxA.out, hyA.out]]
            exact hq
        · have hj4 : j = 4 := by have := hj.out; omega
          subst hj4
          have hd2 : decide (((4 : Nat) : Int) < 4) = false := rfl
          obtain ⟨i0, hi0, _, hsz, _⟩ := info_parts winfo8
          have hcut := cut_from (P := Try.prog) 39 5 .i64 Try.underlying39 hi0 1 hsz A2 l1.length c2 32 (by omega) (by have := h32A.out; omega)
          obtain ⟨A4, hA4⟩ : ∃ A4, A4 = (if c2 = 32 then A2 else A2.map (·.add (32 * 1))) := ⟨_, rfl⟩
          rw [show ((32 : Int).toNat) = 32 from rfl, ← hA4] at hcut
          have hC4 : Aside0 (∀ W, Kd.C (Kd.int .u8) W A1 m.length m → Kd.C (Kd.int .u8) W A4 (l1.drop 32).length (l1.drop 32)) := ⟨fun W h => by
            rw [hA4]
            exact Kd.C_drop (m := 32) (c := c2) (hA.out.1 W h) h32A.out hA.out.2.1⟩
          clear hA4
          go_wp2
          go_roundg k1
          case measure => omega
          case rel =>
            have e : m.drop (32 * (i + 1)) = l1.drop 32 := by rw [← hll, List.drop_drop]; congr 1
            refine ⟨i + 1, A4, c2 - 32, ?_, ?_, ?_⟩
            · rw [e, List.length_drop]
            · rw [e]
              exact ⟨hC4.out, by rw [List.length_drop]; have := hA.out.2.1; omega, by have := hA.out; omega⟩
            · rw [wstripes_succ, hll, hvv]
              exact hS2
    · have hie : i = m.length / 32 := by have := hA.out; omega
      have hlen : (m.drop (32 * i)).length = m.length - 32 * i := by rw [List.length_drop]
      have hd : decide (((m.drop (32 * i)).length : Int) ≥ 32) = false := decide_eq_false (by omega)
      have hCr := Aside0.mk (hA.out.1 wr (Kd.R_reads' hS.out.tail.row_R.choose_spec).2.2)
      have hr : Aside0 (m.drop (32 * i) = wrest (a ++ l)) := ⟨by rw [wrest_append, hmA.out, ← hie]⟩
      have hv2 : Aside0 (wstripes i (wvs s a) m = wvs s (a ++ l)) := ⟨by rw [wvs_append, hmA.out, ← hie]⟩
      have hl2 : (m.drop (32 * i)).length ≤ 100 := by omega
      generalize hll : m.drop (32 * i) = l1 at *
      have hl2A := Aside0.mk hl2
      clear hlen hl2 hll
      go_wp2_with (first | ((with_reducible refine gate_builtin (b := .append) (xs := #[.const (.slice none 0 0), .tmp 50]) rfl ?_); at_builtin; refine Kd.R_append_rows (Kd.int .u8) (w0 := wr) wr.heap.size rfl (.const (.slice none 0 0)) (.tmp 50) 39 5 (.int .u8 0) 1 rfl Try.underlying39 winfo8 rfl (by decide) (by omega) (.slice none 0 0) [] l1 _ _ _ (fun _ => True) (fun _ => False) rfl rfl ?aO ?aR (fun _ _ h => h) (fun _ h => h.elim) ?aF ?aB ?aS ?aL ?_; (case aO => exact Kd.R_nil _ _ _ _ _); (case aR => exact hCr.out); (case aF => exact (fun _ _ => trivial)); (case aB => exact Below.refl _ _); (case aS => exact Nat.le_refl _); (case aL => have := hl2A.out; simp; omega); intro v9 w9 ho hb9 hg9 hat9; rw [List.nil_append] at ho; obtain ⟨A9, c9, e9⟩ := Kd.R_slice ho; subst e9; have hS9 := Aside0.mk ((Sep.row_new hS.out hb9 ho).perm (List.Perm.swap _ _ _)); clear ho hb9 hg9 hat9; have hc9 : w9.cell? ⟨g, 5, none⟩ = some (.slice Av (wrest a).length cv) := (hS9.out.cell 5).trans (wcells_rest _ _ _ _ (by rw [wstripes_len, hvl])).1; have hz9 := hS9.out.frozen 5))
      go_ret
      refine ⟨rfl, wst_close (v := .slice A9 l1.length c9) ?_⟩
      have h1 := hS9.out.set 5 (.slice A9 l1.length c9)
      rw [wcells_set5 _ _ _ _ _ (by rw [wstripes_len, hvl]), hv2.out] at h1
      rw [← hr.out]
      exact h1.pick2.tail
end Go.Proofs.Ytekanmieppnpeaa.G
set_option linter.unusedVariables false
set_option linter.unusedSimpArgs false
namespace Go.Proofs.Ytekanmieppnpeaa.G
open Go Go.RowKit Go.Proofs.YtekanmieppnpeaaW.PrintWords Go.Proofs.YtekanmieppnpeaaW.PrintLast Go.Proofs.YtekanmieppnpeaaW.PrintMore Go.Proofs.Ytekanmieppnpeaa.PureKit Go.Proofs.Ytekanmieppnpeaa.Sep Go.Proofs.Ytekanmieppnpeaa.Rol
def wby (j : Nat) : Nat := match j with | 0 => 1 | 1 => 7 | 2 => 12 | _ => 18
def wturns (v : List Nat) : Nat → Nat
  | 0 => 0
  | j + 1 => (wturns v j + rol 64 (wby j) (v.getD j 0)) % 18446744073709551616
theorem wturns_succ (v : List Nat) (j : Nat) : (wturns v j + rol 64 (wby j) (v.getD j 0)) % 18446744073709551616 = wturns v (j + 1) := by rw [wturns]
theorem wturns_lt (v : List Nat) (j : Nat) : wturns v j < 18446744073709551616 := by
  cases j with
  | zero => exact Nat.zero_lt_succ 18446744073709551615
  | succ j => rw [wturns]; exact mod_lt64 _
theorem sum4 (a b c d : Nat) : (a + b + c + d) % 18446744073709551616 = ((((0 + a) % 18446744073709551616 + b) % 18446744073709551616 + c) % 18446744073709551616 + d) % 18446744073709551616 := by
  omega
theorem merge_step (h x y : Nat) (hh : h < 18446744073709551616) (hy : y < 18446744073709551616) (hq : y = win 0 x) : ∃ z1 z2 z3 : Nat, bits .xor .u64 (h : Int) (y : Int) = (z1 : Int) ∧ IntKind.u64.wrap ((z1 : Int) * 11400714785074694791) = (z2 : Int) ∧ IntKind.u64.wrap ((z2 : Int) + 9650029242287828579) = (z3 : Int) ∧ wmerge h x = z3 := by
  refine ⟨h ^^^ y, (h ^^^ y) * 11400714785074694791 % 18446744073709551616, wmerge h x, bits_xor_u64_nat h y hh hy, mul_step (h ^^^ y) 11400714785074694791, ?_, rfl⟩
  subst hq
  unfold wmerge
  generalize (h ^^^ win 0 x) * 11400714785074694791 = z
  rw [IntKind.wrap_u64]
  omega
theorem reps_turns (W : World) {base : Nat} {okp : Nat → Prop} : Reps ((Kd.int .i64).M W base okp) (Kd.int .i64).sz ([1, 7, 12, 18] : List Int) [.int .i64 1, .int .i64 7, .int .i64 12, .int .i64 18] :=
  (((Reps.none _ _).snoc (p := 1) (c := [.int .i64 1]) rfl rfl).snoc (p := 7) (c := [.int .i64 7]) rfl rfl |>.snoc (p := 12) (c := [.int .i64 12]) rfl rfl).snoc (p := 18) (c := [.int .i64 18]) rfl rfl
theorem index_arr (W : World) (x0 x1 x2 x3 j x : Nat) (hx : [x0, x1, x2, x3][j]? = some x) : (Instr.index 179 (.agg #[.int .u64 (x0 : Int), .int .u64 (x1 : Int), .int .u64 (x2 : Int), .int .u64 (x3 : Int)]) (.int .i64 (j : Int))).run Try.prog W = .ok (.int .u64 (x : Int)) W := by
  have hj : j < 4 := (List.getElem?_eq_some_iff.1 hx).1
  have hu := Try.underlying179
  rcases (show j = 0 ∨ j = 1 ∨ j = 2 ∨ j = 3 by omega) with rfl | rfl | rfl | rfl <;> (cases hx; simp [Instr.index, run_underlying hu, asIntOf, go_sem]; done)
theorem wout_turns (v : List Nat) : wout v = v.foldl wmerge (wturns v 4) := by
  unfold wout
  rw [sum4, wturns, wturns, wturns, wturns, wturns, show wby 0 = 1 from rfl, show wby 1 = 7 from rfl, show wby 2 = 12 from rfl, show wby 3 = 18 from rfl]
theorem take4 (x0 x1 x2 x3 : Nat) : [x0, x1, x2, x3].take 4 = [x0, x1, x2, x3] := rfl
theorem rd_turns (j : Nat) (h : j < 4) : rd [1, 7, 12, 18] (j : Int) = ((wby j : Nat) : Int) := by
  rcases (show j = 0 ∨ j = 1 ∨ j = 2 ∨ j = 3 by omega) with rfl | rfl | rfl | rfl <;> rfl
theorem wby_lt (j : Nat) : 0 < wby j ∧ wby j < 64 := by
  unfold wby
  split <;> omega
set_option maxHeartbeats 4000000 in
set_option maxRecDepth 100000 in
theorem wide_start (w0 w : World) (g s : Nat) (a : List Int) (ps : List HP) (hs : Sep.Sep w0 w (wst g s a :: ps)) (hsl : s < 18446744073709551616) (hal : a.length ≤ 1000000000000) :
    Calls Try.prog 145 #[.pointer (some ⟨g, 0, none⟩)] w fun e w' => e = .returned (.int .u64 ((wstart s a : Nat) : Int)) ∧ Below w.heap.size w w' := by
  obtain ⟨v, hO⟩ := wst_open hs
  have hvl : (wvs s a).length = 4 := wvs_len s a
  have hvs : Small8 (wvs s a) := wvs_small s a hsl
  have hcell0 : w.cell? ⟨g, 0, none⟩ = some (.int .u64 (s : Int)) := (hO.cell 0).trans (wcells_seed _ _ _ _)
  have hcell6 : w.cell? ⟨g, 6, none⟩ = some (.int .u64 (a.length : Int)) := (hO.cell 6).trans (wcells_rest _ _ _ _ hvl).2
  have hsA := Aside0.mk hs
  have halA := Aside0.mk hal
  have hvlA := Aside0.mk hvl
  obtain ⟨q5, hq5⟩ : ∃ q : Nat, (s + 2870177450012600261) % 18446744073709551616 = q := ⟨_, rfl⟩
  have fq5 : IntKind.u64.wrap ((s : Int) + 2870177450012600261) = (q5 : Int) := by rw [IntKind.wrap_u64]; omega
  have hq5A := Aside0.mk hq5
  clear hs hal hvl hq5
  by_cases hsh : a.length < 32
  · have hd : decide ((a.length : Int) < 32) = true := decide_eq_true (by omega)
    clear hO
    go_enter Try.func145, Try.ntmps145
    go_wp2
    go_ret
    refine ⟨?_, Below.refl _ _⟩
    unfold wstart wbeg
    rw [if_pos hsh, hq5A.out]
    rfl
  · have hd : decide ((a.length : Int) < 32) = false := decide_eq_false (by omega)
    have hOA := Aside0.mk hO
    have hshA := Aside0.mk hsh
    clear hO hsh
    go_enter Try.func145, Try.ntmps145
    go_wp2_with (first | ((with_reducible refine gate_dst (N := 18) rfl ?_); refine Kd.R_lit (Kd.int .i64) w.heap.size 3 ?hg (N := 18) ?hd (xs := ([1, 7, 12, 18] : List Int)) (inner := [.int .i64 1, .int .i64 7, .int .i64 12, .int .i64 18]) (ok := fun _ => True) (okp := fun _ => True) ?hr ?hp (fun _ hk => hk) trivial (Below.refl _ _) (Nat.le_refl _) (by simp) ?_; (case hd => rfl); (case hg => rfl); (case hr => first | (go_simp; done) | (go_simp; rfl)); (case hp => exact reps_turns _); intro v9 w9 ho hb9 hg9 hat9; have hS9 := Aside0.mk (Sep.row_new hOA.out hb9 ho); obtain ⟨A9, c9, e9⟩ := Kd.R_slice ho; subst e9; have hB9 := Aside0.mk hb9; clear ho hb9 hg9 hat9))
    obtain ⟨vs, hvv⟩ : ∃ vs, wvs s a = vs := ⟨_, rfl⟩
    rw [hvv] at hvs hvlA hS9
    clear hcell0 hcell6
    have hvvA := Aside0.mk hvv
    clear hvv
    go_loopg [3, 20] 4 (fun kq v3 v20 w' => ∃ (j : Nat), v3 = .int .u64 ((wturns vs j : Nat) : Int) ∧ v20 = .int .i64 j ∧ Aside0 (j + kq = 4) ∧ Drawn0 w9 w')
    case atStart => exact ⟨0, rfl, rfl, ⟨by omega⟩, Drawn0.refl _⟩
    case round =>
      obtain ⟨j, rfl, rfl, hj, ⟨nd, rfl⟩⟩ := hrel
      have hSd := Aside0.mk (hS9.out.drewN nd)
      by_cases hjn : j < 4
      · have hd2 : decide ((j : Int) < 4) = true := decide_eq_true (by omega)
        obtain ⟨k2, rfl⟩ : ∃ k2, gk = k2 + 1 := ⟨gk - 1, by have := hj.out; omega⟩
        have p0 : ((0 : Int) ≤ (j : Int)) = True := eq_true (by omega)
        have q0 : ((j : Int) < 4) = True := eq_true (by omega)
        have hux : vs[j]? = some (vs.getD j 0) := by rw [List.getD_eq_getElem?_getD, List.getElem?_eq_getElem (by have := hvlA.out; omega)]; rfl
        have hxl := hvs.at j
        have hts := wturns_succ vs j
        have htl := wturns_lt vs j
        obtain ⟨x, hx⟩ : ∃ x, vs.getD j 0 = x := ⟨_, rfl⟩
        obtain ⟨t, ht⟩ : ∃ t, wturns vs j = t := ⟨_, rfl⟩
        rw [hx] at hux hxl hts
        rw [ht] at hts htl ⊢
        have hcell : w9.cell? ⟨g, 1 + j, none⟩ = some (.int .u64 (x : Int)) := by
          have := hS9.out.pick1.cell (1 + j)
          rw [this, Nat.add_comm]
          exact wcells_v _ _ _ _ j x hux
        obtain ⟨bs3, hR3⟩ := hS9.out.row_R
        obtain ⟨ad, e0, hq⟩ := Kd.at_int (Kd.R_reads' hR3).2.2 (j : Int) (by omega) (by simp; omega)
        cases e0
        simp only [Int.toNat_natCast] at hq
        rw [rd_turns j hjn] at hq
        have hby := wby_lt j
        obtain ⟨b, hb⟩ : ∃ b, wby j = b := ⟨_, rfl⟩
        rw [hb] at hq hts hby
        have hr := rol64_lt b x (by omega) hxl
        have ft : IntKind.u64.wrap ((t : Int) + ((rol 64 b x : Nat) : Int)) = ((wturns vs (j + 1) : Nat) : Int) := by
          rw [← hts]
          have := wrap_nat64 (t + rol 64 b x)
          rw [Int.natCast_add] at this
          exact this
        have htsA := Aside0.mk hts
        have hrA := Aside0.mk hr
        have hbyA := Aside0.mk hby
        clear hts hr hux hR3 hx ht hb hby
        go_wp2_with (fail)
        refine (rot64 _ x b _ _ rfl rfl hxl hbyA.out.1 hbyA.out.2).mono ?_
        rintro e w4 ⟨rfl, ⟨n3, rfl⟩⟩
        go_wp2
        go_roundg k2
        case measure => omega
        case rel => exact ⟨j + 1, rfl, by simp, ⟨by have := hj.out; omega⟩, by repeat (first | exact Drawn0.refl _ | apply Drawn0.step)⟩
      · have hj4 : j = 4 := by have := hj.out; omega
        subst hj4
        have hd2 : decide (((4 : Nat) : Int) < 4) = false := rfl
        have htl := wturns_lt vs 4
        obtain ⟨t, ht⟩ : ∃ t, wturns vs 4 = t := ⟨_, rfl⟩
        rw [ht] at htl ⊢
        have hout : wstart s a = vs.foldl wmerge t := by
          unfold wstart wbeg
          rw [if_neg hshA.out, hvvA.out, ← ht, wout_turns]
        obtain ⟨x0, x1, x2, x3, hr⟩ : ∃ x0 x1 x2 x3, vs = [x0, x1, x2, x3] := by
          have := hvlA.out
          rcases vs with _ | ⟨x0, _ | ⟨x1, _ | ⟨x2, _ | ⟨x3, _ | ⟨x4, r⟩⟩⟩⟩⟩ <;> simp at this
          exact ⟨_, _, _, _, rfl⟩
        have hx0 : x0 < 18446744073709551616 := hvs x0 (by simp [hr])
        have hx1 : x1 < 18446744073709551616 := hvs x1 (by simp [hr])
        have hx2 : x2 < 18446744073709551616 := hvs x2 (by simp [hr])
        have hx3 : x3 < 18446744073709551616 := hvs x3 (by simp [hr])
        rw [hr] at hout
        have hoA := Aside0.mk hout
        have hS9' := hS9.out.pick1
        rw [hr] at hS9'
        have hc1 : w9.cell? ⟨g, 1, none⟩ = some (.int .u64 (x0 : Int)) := hS9'.cell 1
        have hc2 : w9.cell? ⟨g, 2, none⟩ = some (.int .u64 (x1 : Int)) := hS9'.cell 2
        have hc3 : w9.cell? ⟨g, 3, none⟩ = some (.int .u64 (x2 : Int)) := hS9'.cell 3
        have hc4 : w9.cell? ⟨g, 4, none⟩ = some (.int .u64 (x3 : Int)) := hS9'.cell 4
        have hrA := Aside0.mk hr
        clear hS9' hout ht hr
        go_wp2
        go_loopg [3, 40] 4 (fun kq v3 v40 w' => ∃ (j : Nat), v3 = .int .u64 ((([x0, x1, x2, x3].take j).foldl wmerge t : Nat) : Int) ∧ v40 = .int .i64 j ∧ Aside0 (j + kq = 4) ∧ Drawn0 w9 w')
        case atStart => exact ⟨0, rfl, rfl, ⟨by omega⟩, ⟨nd, rfl⟩⟩
        case round =>
          obtain ⟨j, rfl, rfl, hj, ⟨nd2, rfl⟩⟩ := hrel
          have hh := wmerges_lt ([x0, x1, x2, x3].take j) t htl
          obtain ⟨h, hhe⟩ : ∃ h, ([x0, x1, x2, x3].take j).foldl wmerge t = h := ⟨_, rfl⟩
          rw [hhe] at hh ⊢
          by_cases hjn : j < 4
          · have hd2 : decide ((j : Int) < 4) = true := decide_eq_true (by omega)
            obtain ⟨k2, rfl⟩ : ∃ k2, gk = k2 + 1 := ⟨gk - 1, by have := hj.out; omega⟩
            obtain ⟨x, hx⟩ : ∃ x, [x0, x1, x2, x3][j]? = some x := ⟨_, List.getElem?_eq_getElem (by simp; omega)⟩
            have hxl : x < 18446744073709551616 := hvs x (by rw [hrA.out]; exact List.mem_of_getElem? hx)
            have hnext : ([x0, x1, x2, x3].take (j + 1)).foldl wmerge t = wmerge h x := by
              rw [List.take_add_one, hx, List.foldl_append, hhe, Option.toList_some, List.foldl_cons, List.foldl_nil]
            have ha := fun W => index_arr W x0 x1 x2 x3 j x hx
            have hml := wmerge_lt h x
            have hyl := win_lt 0 x
            obtain ⟨y, hy⟩ : ∃ y, win 0 x = y := ⟨_, rfl⟩
            obtain ⟨z1, z2, z3, f1, f2, f3, f4⟩ := merge_step h x y hh (by rw [← hy]; exact hyl) hy.symm
            rw [f4] at hnext
            have hnA := Aside0.mk hnext
            have p0 : ((0 : Int) ≤ (j : Int)) = True := eq_true (by omega)
            have q0 : ((j : Int) < 4) = True := eq_true (by omega)
            have hyA := Aside0.mk hy
            have hhA := Aside0.mk hh
            have htA := Aside0.mk htl
            clear hnext hx hml hyl hy hhe f4 hx0 hx1 hx2 hx3 hvs hh htl hsl
            go_wp2_with (fail)
            refine (win_calls _ 0 x _ _ rfl rfl (by decide) hxl).mono ?_
            rw [hyA.out]
            rintro e w4 ⟨rfl, ⟨n3, rfl⟩⟩
            go_wp2
            go_roundg k2
            case measure => omega
            case rel => exact ⟨j + 1, by rw [hnA.out], by simp, ⟨by have := hj.out; omega⟩, by repeat (first | exact Drawn0.refl _ | apply Drawn0.step)⟩
          · have hj4 : j = 4 := by have := hj.out; omega
            subst hj4
            have hd2 : decide (((4 : Nat) : Int) < 4) = false := rfl
            go_wp2
            go_ret
            refine ⟨?_, ?_⟩
            · rw [take4] at hhe
              rw [hoA.out, hhe]
              rfl
            · exact pw_below_drewN hB9.out nd2
end Go.Proofs.Ytekanmieppnpeaa.G
set_option linter.unusedVariables false
set_option linter.unusedSimpArgs false
namespace Go.Proofs.Ytekanmieppnpeaa.G
open Go Go.RowKit Go.Proofs.YtekanmieppnpeaaW.PrintWords Go.Proofs.YtekanmieppnpeaaW.PrintLast Go.Proofs.YtekanmieppnpeaaW.PrintMore Go.Proofs.Ytekanmieppnpeaa.PureKit Go.Proofs.Ytekanmieppnpeaa.Sep Go.Proofs.Ytekanmieppnpeaa.Rol
theorem xor_lt64 (a b : Nat) (ha : a < 18446744073709551616) (hb : b < 18446744073709551616) : a ^^^ b < 18446744073709551616 := Nat.xor_lt_two_pow (n := 64) ha hb
theorem add_step (z p : Nat) : IntKind.u64.wrap ((z : Int) + (p : Int)) = (((z + p) % 18446744073709551616 : Nat) : Int) := by rw [← Int.natCast_add, wrap_nat64]
theorem mul_add_step (t p q : Nat) : ∃ z1 z2 : Nat, IntKind.u64.wrap ((t : Int) * (p : Int)) = (z1 : Int) ∧ IntKind.u64.wrap ((z1 : Int) + (q : Int)) = (z2 : Int) ∧ (t * p + q) % 18446744073709551616 = z2 :=
  ⟨_, _, mul_step t p, add_step _ q, by rw [Nat.mod_add_mod]⟩
theorem weight_step (x : Nat) (l : List Int) (hx : x < 18446744073709551616) (hb : Bytes l) : ∃ y wy z t z1 z2 : Nat, leb (l.take 8) = y ∧ y < 18446744073709551616 ∧ win 0 y = wy ∧ bits .xor .u64 (x : Int) (wy : Int) = (z : Int) ∧ z < 18446744073709551616 ∧ rol 64 27 z = t ∧
    IntKind.u64.wrap ((t : Int) * 11400714785074694791) = (z1 : Int) ∧ IntKind.u64.wrap ((z1 : Int) + 9650029242287828579) = (z2 : Int) ∧ weight x l = z2 := by
  obtain ⟨z1, z2, h1, h2, h3⟩ := mul_add_step (rol 64 27 (x ^^^ win 0 (leb (l.take 8)))) 11400714785074694791 9650029242287828579
  refine ⟨_, _, x ^^^ win 0 (leb (l.take 8)), _, z1, z2, rfl, leb_lt4 _ (hb.take _) 8 (by rw [List.length_take]; omega), rfl, bits_xor_u64_nat _ _ hx (win_lt _ _), xor_lt64 _ _ hx (win_lt _ _), rfl, h1, h2, ?_⟩
  rw [weight]
  exact h3
theorem wfour_step (x : Nat) (l : List Int) (hx : x < 18446744073709551616) (hb : Bytes l) : ∃ y q z t z1 z2 : Nat, leb (l.take 4) = y ∧ IntKind.u64.wrap ((y : Int) * 11400714785074694791) = (q : Int) ∧ bits .xor .u64 (x : Int) (q : Int) = (z : Int) ∧ z < 18446744073709551616 ∧ rol 64 23 z = t ∧
    IntKind.u64.wrap ((t : Int) * 14029467366897019727) = (z1 : Int) ∧ IntKind.u64.wrap ((z1 : Int) + 1609587929392839161) = (z2 : Int) ∧ wfour x l = z2 := by
  obtain ⟨z1, z2, h1, h2, h3⟩ := mul_add_step (rol 64 23 (x ^^^ (leb (l.take 4) * 11400714785074694791 % 18446744073709551616))) 14029467366897019727 1609587929392839161
  refine ⟨_, _, _, _, z1, z2, rfl, mul_step _ 11400714785074694791, bits_xor_u64_nat _ _ hx (mod_lt64 _), xor_lt64 _ _ hx (mod_lt64 _), rfl, h1, h2, ?_⟩
  rw [wfour]
  exact h3
theorem wbyte_step (x b : Nat) (hx : x < 18446744073709551616) : ∃ q z t z2 : Nat, IntKind.u64.wrap ((b : Int) * 2870177450012600261) = (q : Int) ∧ bits .xor .u64 (x : Int) (q : Int) = (z : Int) ∧ z < 18446744073709551616 ∧ rol 64 11 z = t ∧
    IntKind.u64.wrap ((t : Int) * 11400714785074694791) = (z2 : Int) ∧ wbyte x (b : Int) = z2 := by
  refine ⟨_, _, _, _, mul_step b 2870177450012600261, bits_xor_u64_nat _ _ hx (mod_lt64 _), xor_lt64 _ _ hx (mod_lt64 _), rfl, mul_step _ 11400714785074694791, ?_⟩
  rw [wbyte, Int.toNat_natCast]
theorem wfin_step (x : Nat) (hx : x < 18446744073709551616) : ∃ a1 b1 c1 a2 b2 c2 a3 b3 : Nat, (x : Int) / 8589934592 = (a1 : Int) ∧ bits .xor .u64 (x : Int) (a1 : Int) = (b1 : Int) ∧ IntKind.u64.wrap ((b1 : Int) * 14029467366897019727) = (c1 : Int) ∧
    (c1 : Int) / 536870912 = (a2 : Int) ∧ bits .xor .u64 (c1 : Int) (a2 : Int) = (b2 : Int) ∧ IntKind.u64.wrap ((b2 : Int) * 1609587929392839161) = (c2 : Int) ∧ (c2 : Int) / 4294967296 = (a3 : Int) ∧ bits .xor .u64 (c2 : Int) (a3 : Int) = (b3 : Int) ∧ wfin x = b3 := by
  have d : ∀ (z n : Nat), z < 18446744073709551616 → z / 2 ^ n < 18446744073709551616 := fun z n hz => Nat.lt_of_le_of_lt (Nat.div_le_self _ _) hz
  refine ⟨x / 2 ^ 33, wmix 33 x, _, _ / 2 ^ 29, wmix 29 _, _, _ / 2 ^ 32, wmix 32 _, (Int.natCast_ediv x (2 ^ 33)).symm, bits_xor_u64_nat _ _ hx (d _ _ hx), mul_step _ 14029467366897019727, (Int.natCast_ediv _ (2 ^ 29)).symm, bits_xor_u64_nat _ _ (mod_lt64 _) (d _ _ (mod_lt64 _)), mul_step _ 1609587929392839161, (Int.natCast_ediv _ (2 ^ 32)).symm, bits_xor_u64_nat _ _ (mod_lt64 _) (d _ _ (mod_lt64 _)), ?_⟩
  rw [wfin]
set_option maxHeartbeats 8000000 in
set_option maxRecDepth 100000 in
theorem wide_sum (w0 w : World) (g s : Nat) (a : List Int) (ps : List HP) (hs : Sep.Sep w0 w (wst g s a :: ps)) (hba : Bytes a) (hsl : s < 18446744073709551616) (hal : a.length ≤ 1000000000000) :
    Calls Try.prog 116 #[.pointer (some ⟨g, 0, none⟩)] w fun e w' => e = .returned (.int .u64 ((wsum s a : Nat) : Int)) ∧ Below w.heap.size w w' := by
  obtain ⟨v, hO⟩ := wst_open hs
  have hvl : (wvs s a).length = 4 := wvs_len s a
  obtain ⟨bs0, hR0⟩ := hO.tail.row_R
  obtain ⟨A1, c1, rfl⟩ := Kd.R_slice hR0
  obtain ⟨r, hr⟩ : ∃ r, wrest a = r := ⟨_, rfl⟩
  have hrl := wrest_len a
  have hrb : Bytes r := by rw [← hr]; exact hba.drop _
  rw [hr] at hR0 hO hrl
  have hC0 := Aside0.mk (Kd.R_reads' hR0).2.2
  have hc1 := Aside0.mk (Kd.R_reads' hR0).2.1
  obtain ⟨q, hq⟩ : ∃ q, wstart s a = q := ⟨_, rfl⟩
  have hql : q < 18446744073709551616 := by rw [← hq]; exact wstart_lt s a
  obtain ⟨h0, hh0⟩ : ∃ h0 : Nat, (q + a.length) % 18446744073709551616 = h0 := ⟨_, rfl⟩
  have hh0l : h0 < 18446744073709551616 := by rw [← hh0]; exact mod_lt64 _
  have fh0 : IntKind.u64.wrap ((q : Int) + (a.length : Int)) = (h0 : Int) := by rw [← hh0]; exact add_step q a.length
  have hsum : Aside0 (wsum s a = wfin (wtail h0 r)) := ⟨by unfold wsum; rw [hq, hr, hh0]⟩
  have hcell5 : w.cell? ⟨g, 5, none⟩ = some (.slice A1 r.length c1) := (hO.cell 5).trans (wcells_rest _ _ _ _ hvl).1
  have hcell6 : w.cell? ⟨g, 6, none⟩ = some (.int .u64 (a.length : Int)) := (hO.cell 6).trans (wcells_rest _ _ _ _ hvl).2
  have hcd5 : w.drew.cell? ⟨g, 5, none⟩ = some (.slice A1 r.length c1) := hcell5
  have hcd6 : w.drew.cell? ⟨g, 6, none⟩ = some (.int .u64 (a.length : Int)) := hcell6
  have hO := Aside0.mk hO
  have hsA := Aside0.mk hs
  have hqA := Aside0.mk hq
  have halA := Aside0.mk hal
  have hrlA := Aside0.mk hrl
  clear hR0 hs hq hh0 hrl hal hcell5 hcell6
  go_enter Try.func116, Try.ntmps116
  go_wp2_with (fail)
  refine start_ (n := 13) (S := fun w' => w'.cell? ⟨g, 5, none⟩ = some (.slice A1 r.length c1) ∧ w'.cell? ⟨g, 6, none⟩ = some (.int .u64 (a.length : Int))) (ds := []) #[false, false, false, false, false, false, false, false, false, false, false, false, false] (by kernel_rfl) rfl rfl ⟨hcd5, hcd6⟩ (fun hHeld => ?_)
  refine pure_ (i := 0) (N := some 7) (v := ?_) (a' := ?_) #[true, false, false, false, false, false, false, false, false, false, false, false, false] rfl rfl (by kernel_rfl) (fun _ _ _ h => h) (Or.inl ⟨by rfl, ?_⟩) ?_ ?_
  rotate_left
  · intro w'
    go_simp
    with_reducible rfl
  rotate_left
  · simp only [Act.put, List.setIfInBounds_toArray, List.set_cons_zero, List.set_cons_succ, i64_w, i32_w]
    rfl
  refine pure_ (i := 2) (N := some 9) (v := ?_) (a' := ?_) #[true, false, true, false, false, false, false, false, false, false, false, false, false] rfl rfl (by kernel_rfl) (fun _ _ _ h => h) (Or.inl ⟨by rfl, ?_⟩) ?_ ?_
  rotate_left
  · intro w'
    go_simp
    with_reducible rfl
  rotate_left
  · simp only [Act.put, List.setIfInBounds_toArray, List.set_cons_zero, List.set_cons_succ, i64_w, i32_w]
    rfl
  refine pure_ (i := 3) (N := some 10) (v := ?_) (a' := ?_) #[true, false, true, true, false, false, false, false, false, false, false, false, false] rfl rfl (by kernel_rfl) (fun _ _ _ h => h) (Or.inl ⟨by rfl, ?_⟩) ?_ ?_
  rotate_left
  · intro w'
    go_simp
    with_reducible rfl
  rotate_left
  · simp only [Act.put, List.setIfInBounds_toArray, List.set_cons_zero, List.set_cons_succ, i64_w, i32_w]
    rfl
  refine pure_ (i := 4) (N := some 11) (v := ?_) (a' := ?_) #[true, false, true, true, true, false, false, false, false, false, false, false, false] rfl rfl (by kernel_rfl) (fun _ _ _ h => h) (Or.inl ⟨by rfl, ?_⟩) ?_ ?_
  rotate_left
  · intro w'
    go_simp
    with_reducible rfl
  rotate_left
  · simp only [Act.put, List.setIfInBounds_toArray, List.set_cons_zero, List.set_cons_succ, i64_w, i32_w]
    rfl
  refine pure_ (i := 7) (N := some 14) (v := ?_) (a' := ?_) #[true, false, true, true, true, false, false, true, false, false, false, false, false] rfl rfl (by kernel_rfl) (fun _ _ _ h => h) (Or.inl ⟨by rfl, ?_⟩) ?_ ?_
  rotate_left
  · intro w'
    go_simp
    with_reducible rfl
  rotate_left
  · simp only [Act.put, List.setIfInBounds_toArray, List.set_cons_zero, List.set_cons_succ, i64_w, i32_w]
    rfl
  refine pure_ (i := 8) (N := some 15) (v := ?_) (a' := ?_) #[true, false, true, true, true, false, false, true, true, false, false, false, false] rfl rfl (by kernel_rfl) (fun _ _ _ h => h) (Or.inl ⟨by rfl, ?_⟩) ?_ ?_
  rotate_left
  · intro w'
    go_simp
    with_reducible rfl
  rotate_left
  · simp only [Act.put, List.setIfInBounds_toArray, List.set_cons_zero, List.set_cons_succ, i64_w, i32_w]
    rfl
  refine pure_ (i := 9) (N := some 16) (v := ?_) (a' := ?_) #[true, false, true, true, true, false, false, true, true, true, false, false, false] rfl rfl (by kernel_rfl) (fun _ _ _ h => h) (Or.inl ⟨by rfl, ?_⟩) ?_ ?_
  rotate_left
  · intro w'
    go_simp
    with_reducible rfl
  rotate_left
  · simp only [Act.put, List.setIfInBounds_toArray, List.set_cons_zero, List.set_cons_succ, i64_w, i32_w]
    rfl
  refine take_ (i := 5) (N := some 12) (v := ?_) (a' := ?_) #[true, false, true, true, true, true, false, true, true, true, false, false, false] rfl rfl (by kernel_rfl) (fun _ _ _ h => h) (Or.inl ⟨by rfl, ?_⟩) hHeld ?_ ?_
  rotate_left
  · rintro w' ⟨s0, s1⟩
    go_simp
    with_reducible rfl
  rotate_left
  · simp only [Act.put, List.setIfInBounds_toArray, List.set_cons_zero, List.set_cons_succ, i64_w, i32_w]
    rfl
  refine take_ (i := 10) (N := some 17) (v := ?_) (a' := ?_) #[true, false, true, true, true, true, false, true, true, true, true, false, false] rfl rfl (by kernel_rfl) (fun _ _ _ h => h) (Or.inl ⟨by rfl, ?_⟩) hHeld ?_ ?_
  rotate_left
  · rintro w' ⟨s0, s1⟩
    go_simp
    with_reducible rfl
  rotate_left
  · simp only [Act.put, List.setIfInBounds_toArray, List.set_cons_zero, List.set_cons_succ, i64_w, i32_w]
    rfl
  refine one_ (i := 1) (N := some 8) #[true, true, true, true, true, true, false, true, true, true, true, false, false] rfl rfl (by kernel_rfl) (by decide) (fun K hK => ?_)
  refine goes_ Try.func145 (by kernel_rfl) rfl #[.pointer (some ⟨g, 0, none⟩)] (by rfl) rfl rfl (by (try simp only [List.map_toArray, List.map_cons, List.map_nil]); first | done | rfl) ?_
  have hst := wide_start w0 w.drew g s a ps hsA.out.drew hsl halA.out
  rw [hqA.out] at hst
  refine hst.mono ?_
  clear hst
  rintro e w3 ⟨rfl, hb3⟩
  refine ⟨_, rfl, ?_⟩
  have hO3 := Aside0.mk (hO.out.drew.below hb3)
  have hB3 := Aside0.mk (show Below w.heap.size w w3 from (below_drew1 (Below.refl w.heap.size w)).trans hb3)
  clear hb3
  refine hK.out _ _ ⟨(hO3.out.cell 5).trans (wcells_rest _ _ _ _ hvl).1, (hO3.out.cell 6).trans (wcells_rest _ _ _ _ hvl).2⟩ (fun hHeld => ?_)
  clear hK K
  refine norm_ (a' := ?_) ?_ ?_
  rotate_left
  · show Act.put _ (some 8) _ = _
    simp only [Act.put, List.setIfInBounds_toArray, List.set_cons_zero, List.set_cons_succ, i64_w, i32_w]
    rfl
  refine pure_ (i := 6) (N := some 13) (v := ?_) (a' := ?_) #[true, true, true, true, true, true, true, true, true, true, true, false, false] rfl rfl (by kernel_rfl) (fun _ _ _ h => h) (Or.inl ⟨by rfl, ?_⟩) ?_ ?_
  rotate_left
  · intro w'
    go_simp
    with_reducible rfl
  rotate_left
  · simp only [Act.put, List.setIfInBounds_toArray, List.set_cons_zero, List.set_cons_succ, i64_w, i32_w]
    rfl
  refine pure_ (i := 11) (N := some 3) (v := ?_) (a' := ?_) #[true, true, true, true, true, true, true, true, true, true, true, true, false] rfl rfl (by kernel_rfl) (fun _ _ _ h => h) (Or.inl ⟨by rfl, ?_⟩) ?_ ?_
  rotate_left
  · intro w'
    go_simp
    with_reducible rfl
  rotate_left
  · simp only [Act.put, List.setIfInBounds_toArray, List.set_cons_zero, List.set_cons_succ, i64_w, i32_w]
    rfl
  refine pure_ (i := 12) (N := some 4) (v := ?_) (a' := ?_) #[true, true, true, true, true, true, true, true, true, true, true, true, true] rfl rfl (by kernel_rfl) (fun _ _ _ h => h) (Or.inl ⟨by rfl, ?_⟩) ?_ ?_
  rotate_left
  · intro w'
    go_simp
    with_reducible rfl
  rotate_left
  · simp only [Act.put, List.setIfInBounds_toArray, List.set_cons_zero, List.set_cons_succ, i64_w, i32_w]
    rfl
  refine done_ (by kernel_rfl) ?_
  clear hcd5 hcd6 fh0
  have hC3 := Aside0.mk (Kd.C_below hC0.out hB3.out)
  go_wp2_with (fail)
  go_loopg [3, 4] (r.length / 8) (fun kq v3 v4 w' => ∃ (i : Nat) (A2 : Option Addr) (c2 : Nat), v3 = .int .u64 ((weights i h0 r : Nat) : Int) ∧ v4 = .slice A2 (r.drop (8 * i)).length c2 ∧ Aside0 (Kd.C (Kd.int .u8) w3 A2 (r.drop (8 * i)).length (r.drop (8 * i)) ∧ (r.drop (8 * i)).length ≤ c2 ∧ i + kq = r.length / 8) ∧ Drawn0 w3 w')
  case atStart =>
    refine ⟨0, A1, c1, rfl, rfl, ⟨by rw [Nat.mul_zero, List.drop_zero]; exact hC3.out, by rw [Nat.mul_zero, List.drop_zero]; exact hc1.out, by omega⟩, by repeat (first | exact Drawn0.refl _ | apply Drawn0.step)⟩
  case round =>
    obtain ⟨i, A2, c2, rfl, rfl, hA, ⟨nd, rfl⟩⟩ := hrel
    have hxl := weights_lt r h0 hh0l i
    obtain ⟨x, hx⟩ : ∃ x, weights i h0 r = x := ⟨_, rfl⟩
    rw [hx] at hxl ⊢
    have hxA := Aside0.mk hx
    have hlen : (r.drop (8 * i)).length = r.length - 8 * i := by rw [List.length_drop]
    have hb1 : Bytes (r.drop (8 * i)) := hrb.drop _
    have hrl2 := hrlA.out
    by_cases hin : i < r.length / 8
    · have h8 : 8 ≤ (r.drop (8 * i)).length := by omega
      have hd : decide (((r.drop (8 * i)).length : Int) ≥ 8) = true := decide_eq_true (by omega)
      obtain ⟨k1, rfl⟩ : ∃ k1, gk = k1 + 1 := ⟨gk - 1, by have := hA.out; omega⟩
      generalize hll : r.drop (8 * i) = l1 at *
      obtain ⟨y, wy, z, t, z1, z2, e1, e2, e3, e4, e5, e6, e7, e8, e9⟩ := weight_step x l1 hxl hb1
      have e1A := Aside0.mk e1
      have e3A := Aside0.mk e3
      have e6A := Aside0.mk e6
      have e9A := Aside0.mk e9
      have h8A := Aside0.mk h8
      have hxlA := Aside0.mk hxl
      obtain ⟨i0, hi0, _, hsz, _⟩ := info_parts winfo8
      have hcut := cut_from (P := Try.prog) 39 5 .i64 Try.underlying39 hi0 1 hsz A2 l1.length c2 8 (by omega) (by omega)
      have hC4 := Kd.C_drop (m := 8) (c := c2) hA.out.1 h8A.out hA.out.2.1
      obtain ⟨A4, hA4⟩ : ∃ A4, A4 = (if c2 = 8 then A2 else A2.map (·.add (8 * 1))) := ⟨_, rfl⟩
      rw [show ((8 : Int).toNat) = 8 from rfl, ← hA4] at hcut
      have hC4 := Aside0.mk (show Kd.C (Kd.int .u8) w3 A4 (l1.drop 8).length (l1.drop 8) by rw [hA4]; exact hC4)
      have hllA := Aside0.mk hll
      clear hA4 hlen h8 e1 e3 e6 e9 hx hxl hll hrl2
      go_wp2_with (fail)
      refine (num_calls _ A2 c2 l1.length l1 l1.length 8 8 rfl rfl (Kd.C_drewN hA.out.1 _) hA.out.2.1 hb1 (by decide) h8A.out).mono ?_
      rw [e1A.out]
      rintro e w4 ⟨rfl, ⟨n2, rfl⟩⟩
      go_wp2_with (fail)
      refine (win_calls _ 0 y 0 _ rfl rfl (by decide) e2).mono ?_
      rw [e3A.out]
      rintro e w4 ⟨rfl, ⟨n3, rfl⟩⟩
      go_wp2_with (fail)
      refine (rot64 _ z 27 _ 27 rfl rfl e5 (by decide) (by decide)).mono ?_
      rw [e6A.out]
      rintro e w4 ⟨rfl, ⟨n4, rfl⟩⟩
      go_wp2
      go_roundg k1
      case measure => omega
      case rel =>
        have e : r.drop (8 * (i + 1)) = l1.drop 8 := by rw [← hllA.out, List.drop_drop]; congr 1
        refine ⟨i + 1, A4, c2 - 8, ?_, ?_, ?_, ?_⟩
        · rw [weights_succ, hxA.out, hllA.out, e9A.out]
        · rw [e, List.length_drop]
        · rw [e]
          exact ⟨hC4.out, by rw [List.length_drop]; have := hA.out.2.1; omega, by have := hA.out; omega⟩
        · repeat (first | exact Drawn0.refl _ | apply Drawn0.step)
    · have hie : i = r.length / 8 := by have := hA.out; omega
      have hd : decide (((r.drop (8 * i)).length : Int) ≥ 8) = false := decide_eq_false (by omega)
      have hsum2 : Aside0 (wsum s a = wfin (wlast x (r.drop (8 * i)))) := ⟨by rw [hsum.out, wtail, ← hie, hx]⟩
      have hl8 : (r.drop (8 * i)).length < 8 := by omega
      generalize hll : r.drop (8 * i) = l1 at *
      clear hx hlen hll hsum hxA hie
      have hl8A := Aside0.mk hl8
      have hxlA := Aside0.mk hxl
      clear hl8 hrl2
      by_cases h4 : 4 ≤ l1.length
      · have hd4 : decide ((l1.length : Int) ≥ 4) = true := decide_eq_true (by omega)
        obtain ⟨y, q4, z, t, z1, z2, e1, e2, e3, e4, e5, e6, e7, e8⟩ := wfour_step x l1 hxl hb1
        have hz2 : z2 < 18446744073709551616 := by rw [← e8]; exact wfour_lt _ _
        have hsum3 : Aside0 (wsum s a = wfin (wbytes z2 (l1.drop 4))) := ⟨by rw [hsum2.out, wlast, if_neg (by omega), e8]⟩
        have e1A := Aside0.mk e1
        have e5A := Aside0.mk e5
        have h4A := Aside0.mk h4
        obtain ⟨i0, hi0, _, hsz, _⟩ := info_parts winfo8
        have hcut := cut_from (P := Try.prog) 39 5 .i64 Try.underlying39 hi0 1 hsz A2 l1.length c2 4 (by omega) (by omega)
        have hC4 := Kd.C_drop (m := 4) (c := c2) hA.out.1 h4A.out hA.out.2.1
        obtain ⟨A4, hA4⟩ : ∃ A4, A4 = (if c2 = 4 then A2 else A2.map (·.add (4 * 1))) := ⟨_, rfl⟩
        rw [show ((4 : Int).toNat) = 4 from rfl, ← hA4] at hcut
        have hC4 := Aside0.mk (show Kd.C (Kd.int .u8) w3 A4 (l1.drop 4).length (l1.drop 4) by rw [hA4]; exact hC4)
        have hll4 : (l1.drop 4).length = l1.length - 4 := List.length_drop
        have hb4 : Bytes (l1.drop 4) := hb1.drop 4
        have hl44 : (l1.drop 4).length < 4 := by have := hl8A.out; omega
        have hl44A := Aside0.mk hl44
        have hll4A := Aside0.mk hll4
        clear hA4 h4 e1 e5 e8 hxl hll4 hl44 hsum2
        go_wp2_with (fail)
        refine (num_calls _ A2 c2 l1.length l1 l1.length 4 4 rfl rfl (Kd.C_drewN hA.out.1 _) hA.out.2.1 hb1 (by decide) h4A.out).mono ?_
        rw [e1A.out]
        rintro e w4 ⟨rfl, ⟨n2, rfl⟩⟩
        go_wp2_with (fail)
        refine (rot64 _ z 23 _ 23 rfl rfl e4 (by decide) (by decide)).mono ?_
        rw [e5A.out]
        rintro e w4 ⟨rfl, ⟨n4, rfl⟩⟩
        go_wp2_with (fail)
        rw [← hll4A.out]
        generalize hl2 : l1.drop 4 = l2 at *
        go_loopg [3, 46] l2.length (fun kq v3 v46 w' => ∃ (j : Nat), v3 = .int .u64 ((wbytes z2 (l2.take j) : Nat) : Int) ∧ v46 = .int .i64 j ∧ Aside0 (j + kq = l2.length) ∧ Drawn0 w3 w')
        case atStart => exact ⟨0, rfl, rfl, ⟨by omega⟩, by repeat (first | exact Drawn0.refl _ | apply Drawn0.step)⟩
        case round =>
          obtain ⟨j, rfl, rfl, hj, ⟨nd3, rfl⟩⟩ := hrel
          have hul := wbytes_lt z2 hz2 (l2.take j)
          obtain ⟨u, hu⟩ : ∃ u, wbytes z2 (l2.take j) = u := ⟨_, rfl⟩
          rw [hu] at hul ⊢
          have huA := Aside0.mk hu
          by_cases hjn : j < l2.length
          · have hd2 : decide ((j : Int) < (l2.length : Int)) = true := decide_eq_true (by omega)
            obtain ⟨k1, rfl⟩ : ∃ k1, gk = k1 + 1 := ⟨gk - 1, by have := hj.out; omega⟩
            obtain ⟨ad, e0, hq⟩ := Kd.at_int (Kd.C_drewN hC4.out nd3) (j : Int) (by omega) (by omega)
            cases e0
            simp only [Int.toNat_natCast] at hq
            rw [rd_at l2 j hjn] at hq
            have hyb := hb4 l2[j] (List.getElem_mem hjn)
            have hnext := wbytes_take l2 z2 j hjn
            rw [hu] at hnext
            obtain ⟨y5, hy⟩ : ∃ y, l2[j]'hjn = y := ⟨_, rfl⟩
            rw [hy] at hq hyb hnext
            obtain ⟨b5, rfl⟩ := Int.eq_ofNat_of_zero_le hyb.1
            obtain ⟨q5, z5, t5, z6, g1, g2, g3, g4, g5, g6⟩ := wbyte_step u b5 hul
            rw [g6] at hnext
            have fb5 : IntKind.u64.wrap (b5 : Int) = (b5 : Int) := wu64 (by omega) (by omega)
            have p0 : ((0 : Int) ≤ (j : Int)) = True := eq_true (by omega)
            have q0 : ((j : Int) < (l2.length : Int)) = True := eq_true (by omega)
            have g4A := Aside0.mk g4
            have hnA := Aside0.mk hnext
            have hw1 : wrap64 ((j : Int) + 1) = (j : Int) + 1 := w64 (by omega) (by have := hl44A.out; omega)
            clear hnext g4 g6 hy hyb hu hul
            go_wp2_with (fail)
            refine (rot64 _ z5 11 _ 11 rfl rfl g3 (by decide) (by decide)).mono ?_
            rw [g4A.out]
            rintro e w4 ⟨rfl, ⟨n3, rfl⟩⟩
            go_wp2
            have hw1A := Aside0.mk hw1
            clear g1 g2 g3 g5 fb5 hw1 p0 q0 hq
            go_roundg k1
            case measure => omega
            case rel => exact ⟨j + 1, by rw [hnA.out], by simp; exact hw1A.out, ⟨by have := hj.out; omega⟩, by repeat (first | exact Drawn0.refl _ | apply Drawn0.step)⟩
          · have hje : j = l2.length := by have := hj.out; omega
            have hd2 : decide ((j : Int) < (l2.length : Int)) = false := decide_eq_false (by omega)
            rw [hje, List.take_length] at hu
            obtain ⟨a1, b1, c3, a2, b2, c4, a3, b3, e1, e2, e3, e4, e5, e6, e7, e8, e9⟩ := wfin_step u hul
            have hfin : Aside0 (wsum s a = b3) := ⟨by rw [hsum3.out, hu, e9]⟩
            clear hu e9
            go_wp2
            go_ret
            refine ⟨?_, pw_below_drewN hB3.out _⟩
            rw [hfin.out]
            rfl
      · have hd4 : decide ((l1.length : Int) ≥ 4) = false := decide_eq_false (by omega)
        have hsum3 : Aside0 (wsum s a = wfin (wbytes x l1)) := ⟨by rw [hsum2.out, wlast, if_pos (by omega)]⟩
        have hl44A := Aside0.mk (show l1.length < 4 by omega)
        clear h4 hsum2
        go_wp2_with (fail)
        go_loopg [3, 46] l1.length (fun kq v3 v46 w' => ∃ (j : Nat), v3 = .int .u64 ((wbytes x (l1.take j) : Nat) : Int) ∧ v46 = .int .i64 j ∧ Aside0 (j + kq = l1.length) ∧ Drawn0 w3 w')
        case atStart => exact ⟨0, rfl, rfl, ⟨by omega⟩, by repeat (first | exact Drawn0.refl _ | apply Drawn0.step)⟩
        case round =>
          obtain ⟨j, rfl, rfl, hj, ⟨nd3, rfl⟩⟩ := hrel
          have hul := wbytes_lt x hxlA.out (l1.take j)
          obtain ⟨u, hu⟩ : ∃ u, wbytes x (l1.take j) = u := ⟨_, rfl⟩
          rw [hu] at hul ⊢
          have huA := Aside0.mk hu
          by_cases hjn : j < l1.length
          · have hd2 : decide ((j : Int) < (l1.length : Int)) = true := decide_eq_true (by omega)
            obtain ⟨k1, rfl⟩ : ∃ k1, gk = k1 + 1 := ⟨gk - 1, by have := hj.out; omega⟩
            obtain ⟨ad, e0, hq⟩ := Kd.at_int (Kd.C_drewN hA.out.1 nd3) (j : Int) (by omega) (by omega)
            cases e0
            simp only [Int.toNat_natCast] at hq
            rw [rd_at l1 j hjn] at hq
            have hyb := hb1 l1[j] (List.getElem_mem hjn)
            have hnext := wbytes_take l1 x j hjn
            rw [hu] at hnext
            obtain ⟨y5, hy⟩ : ∃ y, l1[j]'hjn = y := ⟨_, rfl⟩
            rw [hy] at hq hyb hnext
            obtain ⟨b5, rfl⟩ := Int.eq_ofNat_of_zero_le hyb.1
            obtain ⟨q5, z5, t5, z6, g1, g2, g3, g4, g5, g6⟩ := wbyte_step u b5 hul
            rw [g6] at hnext
            have fb5 : IntKind.u64.wrap (b5 : Int) = (b5 : Int) := wu64 (by omega) (by omega)
            have p0 : ((0 : Int) ≤ (j : Int)) = True := eq_true (by omega)
            have q0 : ((j : Int) < (l1.length : Int)) = True := eq_true (by omega)
            have g4A := Aside0.mk g4
            have hnA := Aside0.mk hnext
            have hw1 : wrap64 ((j : Int) + 1) = (j : Int) + 1 := w64 (by omega) (by have := hl44A.out; omega)
            clear hnext g4 g6 hy hyb hu hul
            go_wp2_with (fail)
            refine (rot64 _ z5 11 _ 11 rfl rfl g3 (by decide) (by decide)).mono ?_
            rw [g4A.out]
            rintro e w4 ⟨rfl, ⟨n3, rfl⟩⟩
            go_wp2
            have hw1A := Aside0.mk hw1
            clear g1 g2 g3 g5 fb5 hw1 p0 q0 hq
            go_roundg k1
            case measure => omega
            case rel => exact ⟨j + 1, by rw [hnA.out], by simp; exact hw1A.out, ⟨by have := hj.out; omega⟩, by repeat (first | exact Drawn0.refl _ | apply Drawn0.step)⟩
          · have hje : j = l1.length := by have := hj.out; omega
            have hd2 : decide ((j : Int) < (l1.length : Int)) = false := decide_eq_false (by omega)
            rw [hje, List.take_length] at hu
            obtain ⟨a1, b1, c3, a2, b2, c4, a3, b3, e1, e2, e3, e4, e5, e6, e7, e8, e9⟩ := wfin_step u hul
            have hfin : Aside0 (wsum s a = b3) := ⟨by rw [hsum3.out, hu, e9]⟩
            clear hu e9
            go_wp2
            go_ret
            refine ⟨?_, pw_below_drewN hB3.out _⟩
            rw [hfin.out]
            rfl
end Go.Proofs.Ytekanmieppnpeaa.G
set_option linter.unusedVariables false
set_option linter.unusedSimpArgs false
namespace Go.Proofs.Ytekanmieppnpeaa.G
open Go Go.RowKit Go.Proofs.YtekanmieppnpeaaW.PrintWords Go.Proofs.YtekanmieppnpeaaW.PrintLast Go.Proofs.YtekanmieppnpeaaW.PrintMore Go.Proofs.Ytekanmieppnpeaa.PureKit Go.Proofs.Ytekanmieppnpeaa.Sep Go.Proofs.Ytekanmieppnpeaa.Rol
def wbytesOK (l : List Int) : Bool := l.all (fun x => decide (0 ≤ x ∧ x ≤ 255))
theorem wbytesOK_iff (l : List Int) : wbytesOK l = true ↔ Bytes l := by
  unfold wbytesOK Bytes
  rw [List.all_eq_true]
  exact ⟨fun h x hx => of_decide_eq_true (h x hx), fun h x hx => decide_eq_true (h x hx)⟩
def wide_Sum.f (a0 : Int) (l1 : List Int) : Option Int := if 0 ≤ a0 ∧ a0 < 18446744073709551616 ∧ wbytesOK l1 = true ∧ l1.length ≤ 1000000000000 then some ((wsum a0.toNat l1 : Nat) : Int) else none
set_option maxHeartbeats 4000000 in
set_option maxRecDepth 100000 in
theorem wide_Sum_calls (w : World) (A : Option Addr) (c : Nat) (l : List Int) (s : Nat) (a : Int) (ha : a = (s : Int)) (hC : Kd.C (Kd.int .u8) w A l.length l) (hc : l.length ≤ c) (hb : Bytes l) (hs : s < 18446744073709551616) (hl : l.length ≤ 1000000000000) :
    Calls Try.prog 54 #[.int .u64 a, .slice A l.length c] w fun e w' => e = .returned (.int .u64 ((wsum s l : Nat) : Int)) ∧ Below w.heap.size w w' := by
  subst ha
  have hCA := Aside0.mk hC
  have hcA := Aside0.mk hc
  have hlA := Aside0.mk hl
  clear hC hc hl
  go_enter Try.func54, Try.ntmps54
  go_wp2_with (fail)
  refine (wide_new w _ [] s _ rfl (Sep.start w) hs).mono ?_
  rintro e w1 ⟨g, rfl, hS1⟩
  have hS1 := Aside0.mk hS1
  go_wp2_with (fail)
  refine (wide_write w _ g s [] l [] A c l.length rfl hS1.out (fun w' h _ => Kd.C_below hCA.out h.1) hcA.out Bytes.nil hb hs (by simp) hlA.out).mono ?_
  rintro e w2 ⟨rfl, hS2⟩
  have hS2 := Aside0.mk hS2
  go_wp2_with (fail)
  refine (wide_sum w _ g s _ [] hS2.out hb hs hlA.out).mono ?_
  rintro e w3 ⟨rfl, hB3⟩
  have hS3 := Aside0.mk (hS2.out.below hB3)
  clear hB3
  go_wp2_with (fail)
  go_ret
  exact ⟨rfl, hS3.out.1⟩
theorem wide_Sum.calls (a0 : Int) (A1 : Option Addr) (c1 : Nat) (l1 : List Int) (r : Int) (w : World) (hr1 : Kd.C (Kd.int .u8) w A1 l1.length l1) (hc1 : l1.length ≤ c1) (h : wide_Sum.f a0 l1 = some r) :
    Calls Try.prog 54 #[.int .u64 a0, .slice A1 l1.length c1] w fun e w' => e = .returned (.int .u64 r) ∧ Below w.heap.size w w' := by
  unfold wide_Sum.f at h
  split at h
  · rename_i hh
    cases h
    exact wide_Sum_calls w A1 c1 l1 a0.toNat a0 (by omega) hr1 hc1 ((wbytesOK_iff l1).1 hh.2.2.1) (by omega) hh.2.2.2
  · cases h
end Go.Proofs.Ytekanmieppnpeaa.G
end
section
namespace Go.Proofs.Ytekanmieppnpeaa.G
open Go.RowKit Go.Proofs.YtekanmieppnpeaaW.PrintWords Go.Proofs.YtekanmieppnpeaaW.PrintLast Go.Proofs.YtekanmieppnpeaaW.PrintMore
attribute [local go_sem] max2_int min2_int max_two min_two max_three min_three max_four min_four
set_option linter.unusedVariables false
set_option linter.unusedSimpArgs false
theorem C_cells {k : IntKind} {w : World} {ad : Addr} {l : List Int} (h : Kd.C (Kd.int k) w (some ad) l.length l) (i : Nat) (hi : i < l.length) : w.cell? (ad.add i) = some (.int k (l.getD i 0)) := by
  obtain ⟨_, _, h3⟩ := h
  obtain ⟨ad', e, h4⟩ := h3 (by omega)
  cases e
  obtain ⟨c, hc1, hc2, hc3⟩ := h4 i _ (List.getElem?_eq_getElem hi)
  have hc2' : c = [Value.int k l[i]] := hc2
  subst hc2'
  have := hc3 0 _ rfl
  rw [show ad.add (i * (Kd.int k).sz + 0) = ad.add i from by simp [Kd.int, Kd.scalar]] at this
  rw [this, List.getD_eq_getElem?_getD, List.getElem?_eq_getElem hi]; rfl
theorem run_indexByteAt {P : Program} {w : World} {ad : Addr} {l : List Int} (c : Nat) (h : Kd.C (Kd.int .u8) w (some ad) l.length l) (cv : Int) :
    (Extern.BytealgIndexByte.indexByte #[.slice (some ad) l.length c, .int .u8 cv]).run P w = .ok (.int .i64 (Lib.indexByte (Lib.bytesOf l) cv.toNat.toUInt8)) w := by
  have hl := Lib.run_loadBytesX (P := P) w l ad .empty (fun j x hj => by
    have hjl : j < l.length := (List.getElem?_eq_some_iff.1 hj).1
    rw [C_cells h j hjl, List.getD_eq_getElem?_getD, hj]; rfl)
  have hs := Lib.run_indexByteString (P := P) ⟨(Lib.bytesOf l).toArray⟩ cv w
  have he : (⟨ByteArray.empty.data ++ (Lib.bytesOf l).toArray⟩ : ByteArray) = ⟨(Lib.bytesOf l).toArray⟩ := by
    apply ByteArray.ext
    show (#[] : Array UInt8) ++ (Lib.bytesOf l).toArray = (Lib.bytesOf l).toArray
    simp
  rw [he] at hl
  change Sem.run P (do
    let b ← Extern.Bytes.bytesOf (.slice (some ad) l.length c)
    let c ← Extern.Bytes.asByte (.int .u8 cv)
    match (List.range b.size).find? fun i => b[i]! == c with
    | some i => pure (goInt i)
    | none => pure (goInt (-1))) w = _
  change Sem.run P (do
    let b ← Extern.Bytes.bytesOf (.string ⟨(Lib.bytesOf l).toArray⟩)
    let c ← Extern.Bytes.asByte (.int .u8 cv)
    match (List.range b.size).find? fun i => b[i]! == c with
    | some i => pure (goInt i)
    | none => pure (goInt (-1))) w = _ at hs
  simp only [Extern.Bytes.bytesOf, Sem.run_bind, Sem.run_pure, hl, Result.andThen] at hs ⊢
  exact hs
def bytes_IndexByte.f (l0 : List Int) (a1 : Int) : Option Int := some (Lib.indexByte (Lib.bytesOf l0) a1.toNat.toUInt8)
set_option maxHeartbeats 1000000 in
set_option maxRecDepth 100000 in
theorem bytes_IndexByte.calls {n : Nat} (A0 : Option Addr) (c0 : Nat) (l0 : List Int) (a1 : Int) (r : Int) (w : World) (hr0 : Kd.C (Kd.int .u8) w A0 l0.length l0) (hc0 : l0.length ≤ c0) (h : bytes_IndexByte.f l0 a1 = some r)
    (hn : n = l0.length := by first | rfl | (simp only [List.length_drop, List.length_take]; rfl) | (simp only [List.length_drop, List.length_take]; (try simp only [decide_eq_true_eq, eq_iff_iff, iff_true] at *); omega)) :
    Calls Try.prog 109 #[.slice A0 n c0, .int .u8 a1] w fun e w' => e = .returned (.int .i64 r) ∧ Drawn0 w w' := by
  subst hn
  obtain rfl := Option.some.inj h
  have key : (Extern.BytealgIndexByte.indexByte #[.slice A0 l0.length c0, .int .u8 a1]).run Try.prog w = .ok (.int .i64 (Lib.indexByte (Lib.bytesOf l0) a1.toNat.toUInt8)) w := by
    cases A0 with
    | none =>
      obtain rfl := C_none hr0
      exact Lib.run_indexByteNil (P := Try.prog) w 0 c0 a1
    | some ad => exact run_indexByteAt c0 hr0 a1
  have K := Lib.hid key
  clear key hr0 hc0 h
  go_enter Try.func109, Try.ntmps109
  go_wp2
  rw [run_callFunc_extern Try.func141 (by kernel_rfl) (by kernel_rfl) (by kernel_rfl) (e := Extern.BytealgIndexByte.indexByte) (by kernel_rfl), K.out]
  simp only [Result.andThen]
  rw [Oper.upon_value]
  go_wp2
  go_ret
  exact ⟨rfl, Drawn0.refl _⟩
end Go.Proofs.Ytekanmieppnpeaa.G
end
section
namespace Go.Proofs.Ytekanmieppnpeaa.G
open Go.RowKit Go.Proofs.YtekanmieppnpeaaW.PrintWords Go.Proofs.YtekanmieppnpeaaW.PrintLast Go.Proofs.YtekanmieppnpeaaW.PrintMore
attribute [local go_sem] max2_int min2_int max_two min_two max_three min_three max_four min_four   -- for this text's walks alone
set_option linter.unusedVariables false
set_option linter.unusedSimpArgs false
def cobs_Stuff.l0 : Nat → List Int → List Int → Option (List Int)
  | 0, _, _ => none
  | k + 1, x0, x3 => if 0 ≤ (mn (x0.length : Int) 254) then (if (mn (x0.length : Int) 254) ≤ (x0.length : Int) then ((bytes_IndexByte.f (x0.take ((mn (x0.length : Int) 254) : Int).toNat) 0).bind fun t197 => (if t197 ≥ 0 then (if x3.length < 140737488355328 then ((some (x3 ++ [(wrap64 (t197 + 1)) % 256] : List Int)).bind fun y198 => (if 0 ≤ t197 then (if t197 ≤ (x0.length : Int) then ((some (x0.take (t197 : Int).toNat : List Int)).bind fun y201 => (if y198.length + y201.length < 140737488355328 then (if 0 ≤ (wrap64 (t197 + 1)) then (if (wrap64 (t197 + 1)) ≤ (x0.length : Int) then (cobs_Stuff.l0 k (x0.drop ((wrap64 (t197 + 1)) : Int).toNat) (y198 ++ y201)) else (none)) else (none)) else (none))) else (none)) else (none))) else (none)) else (if (x0.length : Int) > 254 then (if x3.length < 140737488355328 then ((some (x3 ++ [255] : List Int)).bind fun y214 => (if 254 ≤ (x0.length : Int) then ((some (x0.take 254 : List Int)).bind fun y217 => (if y214.length + y217.length < 140737488355328 then (cobs_Stuff.l0 k (x0.drop 254) (y214 ++ y217)) else (none))) else (none))) else (none)) else (if x3.length < 140737488355328 then ((some (x3 ++ [(wrap64 ((x0.length : Int) + 1)) % 256] : List Int)).bind fun y230 => (if y230.length + x0.length < 140737488355328 then (some (y230 ++ x0)) else (none))) else (none))))) else (none)) else (none)
def cobs_Stuff.f (k : Nat) (l0 : List Int) : Option (List Int) := (cobs_Most.f (l0.length : Int)).bind fun t188 => (if 0 ≤ t188 then (if (t188 : Int).toNat ≤ 281474976710656 then (cobs_Stuff.l0 k l0 (([] : List Int))) else (none)) else (none))
theorem cobs_Stuff.mono_l : ∀ k, (∀ y0 y1, LeO (cobs_Stuff.l0 k y0 y1) (cobs_Stuff.l0 (k + 1) y0 y1))
  | 0 => fun _ _ r h => by simp [cobs_Stuff.l0] at h
  | k + 1 => by
    have ih0 := cobs_Stuff.mono_l k
    · intro y0 y1
      unfold cobs_Stuff.l0
      repeat' first
      | (with_reducible exact ih0 _ _)
      | (with_reducible exact LeO.refl _)
      | (with_reducible exact LeO.none _)
      | (with_reducible refine LeO.ite ?_ ?_)
      | (with_reducible refine LeO.bind ?_ (fun _ => ?_))
      | exact ih0 _ _
      | exact LeO.none _
      | refine LeO.ite ?_ ?_
      | refine LeO.bind ?_ (fun _ => ?_)
theorem cobs_Stuff.mono : ∀ a0 k, LeO (cobs_Stuff.f k a0) (cobs_Stuff.f (k + 1) a0) := by
  intro a0 k
  have ih0 := cobs_Stuff.mono_l k
  unfold cobs_Stuff.f
  repeat' first
      | (with_reducible exact ih0 _ _)
      | (with_reducible exact LeO.refl _)
      | (with_reducible exact LeO.none _)
      | (with_reducible refine LeO.ite ?_ ?_)
      | (with_reducible refine LeO.bind ?_ (fun _ => ?_))
      | exact ih0 _ _
      | exact LeO.none _
      | refine LeO.ite ?_ ?_
      | refine LeO.bind ?_ (fun _ => ?_)
def cobs_Stuff.T5 : Bool × List (List Nat × List Nat) := (true, [([], []), ([], []), ([1], [1]), ([2], [2]), ([3], [3]), ([0, 4], [0, 4]), ([], []), ([], []), ([6, 7], [6, 7]), ([5, 8, 5], [5, 8]), ([9, 9, 0, 1, 2, 3, 4, 5, 6, 7, 8, 9], [0, 9])])
def cobs_Stuff.B5 : List Nat := [0, 0, 2, 6, 14, 31, 0, 0, 192, 511, 1023]
theorem cobs_Stuff.tab5 : rtab .any (opsOf Try.f60 5) = cobs_Stuff.T5 := by kernel_rfl
theorem cobs_Stuff.bits5 : waitsOk cobs_Stuff.T5.2 cobs_Stuff.B5 = true := by kernel_rfl
set_option maxHeartbeats 8000000 in
set_option maxRecDepth 100000 in
theorem cobs_Stuff.calls (k : Nat) (P0_ : Nat → Prop) (A0 : Option Addr) (c0 : Nat) (l0 : List Int) (r : List Int) (w : World) (hs0 : Kd.V (Kd.int .u8) 5 w w.heap.size (fun k_ => P0_ k_) (.slice A0 l0.length c0) l0) (h : cobs_Stuff.f k l0 = some r) :
    Calls Try.prog 60 #[.slice A0 l0.length c0] w fun e w' => ∃ v0_ : Value, e = .returned (v0_) ∧ Kd.R (Kd.int .u8) 5 w' w.heap.size (fun k_ => (w.heap.size ≤ k_)) v0_ r ∧ Below w.heap.size w w' := by
  have HO0 := Aside0.mk (show Kd.V (Kd.int .u8) 5 w w.heap.size (fun k_ => (P0_ k_ ∨ w.heap.size ≤ k_)) (.slice A0 l0.length c0) l0 from Kd.V_mono hs0 (fun k_ hk => .inl hk))
  have HB := Aside0.mk (Below.refl w.heap.size w)
  have H : ((cobs_Most.f (l0.length : Int)).bind fun t188 => (if 0 ≤ t188 then (if (t188 : Int).toNat ≤ 281474976710656 then (cobs_Stuff.l0 k l0 (([] : List Int))) else (none)) else (none))) = some r := h
  clear h
  replace H := Option.bind_eq_some_iff.mp H
  obtain ⟨t188, A20, H⟩ := H
  replace H : (if 0 ≤ t188 then (if (t188 : Int).toNat ≤ 281474976710656 then (cobs_Stuff.l0 k l0 (([] : List Int))) else (none)) else (none)) = some r := H
  have A2 := Aside0.mk A20
  clear A20
  by_cases c3 : 0 ≤ t188
  · rw [if_pos c3] at H
    have c3b0 := eq_true c3
    have c3b1 : decide (0 ≤ t188) = true := decide_eq_true c3
    clear c3
    by_cases c4 : (t188 : Int).toNat ≤ 281474976710656
    · rw [if_pos c4] at H
      have c4b0 := eq_true c4
      have c4b1 : decide ((t188 : Int).toNat ≤ 281474976710656) = true := decide_eq_true c4
      clear c4
      obtain ⟨y189, hy189⟩ : ∃ y_ : List Int, y_ = (([] : List Int)) := ⟨_, rfl⟩
      replace H : (cobs_Stuff.l0 k l0 y189) = some r := by first | (rw [hy189]; with_reducible exact H) | (have H2_ := (Option.bind_some _ _).symm.trans H; rw [hy189]; with_reducible exact H2_) | (have H2_ := (Option.bind_some _ _).symm.trans H; with_reducible exact H2_) | with_reducible exact H | (rw [hy189]; exact H) | exact H
      have Ny189 := Aside0.mk hy189
      clear hy189
      have H' := Aside0.mk H
      clear H
      go_enter Try.func60, Try.ntmps60
      go_wp2_with (first | ((with_reducible refine gate_callee (f := 64) rfl ?_); refine goesL_ (some 7) rfl rfl Try.func64 (by kernel_rfl) rfl #[.int .i64 (l0.length : Int)] rfl (by (try simp only [List.map_toArray, List.map_cons, List.map_nil]); first | done | rfl | (simp only [List.length_drop, List.length_take]; rfl) | (refine congrArg (fun z => #[Value.int .u64 z]) ?_; rw [IntKind.wrap_u64]; omega)) ?_; (with_reducible refine (cobs_Most.calls (l0.length : Int) t188 _ A2.out).mono ?_); rintro e w' ⟨rfl, ⟨nd, rfl⟩⟩; refine ⟨_, rfl, ?_⟩) | ((with_reducible refine gate_dst (N := 8) rfl ?_); refine R_make0 (Kd.int .u8) _ 5 rfl (N := 8) rfl 39 _ _ rfl t188 rfl rfl Try.underlying39 (.int .u8 0) 1 info5 rfl (by decide) (by omega) (ok := fun _ => True) trivial (of_decide_eq_true (by first | (with_reducible assumption) | assumption)) (Nat.le_trans (Nat.mul_le_mul_right _ (of_decide_eq_true (by first | (with_reducible assumption) | assumption) : (t188 : Int).toNat ≤ 281474976710656)) (by omega)) (Below.refl _ _) (Nat.le_refl _) ?_; intro v190 w5 ho6 hb hg_ hnew_; clear hg_ hnew_; (first | rw [← Ny189.out] at ho6 | (simp only [Int.reduceToNat] at ho6; rw [← Ny189.out] at ho6)); have n0_ := Aside0.mk (Kd.V_elder' (by (with_reducible repeat (first | apply Kd.V_alloc | apply Kd.V_drewN | apply Kd.V_drew)); exact HO0.out) (Kd.R_base ho6) hb); have n1_ := Aside0.mk (Kd.R_lower (Kd.R_newM (M := fun k_ => (w.heap.size ≤ k_)) ho6 (below_size (by repeat (first | (with_reducible first | exact HB.out | apply below_alloc | apply pw_below_drewN | apply below_drew1) | exact HB.out))) (fun k_ h_ => h_)) (below_size (by repeat (first | (with_reducible first | exact HB.out | apply below_alloc | apply pw_below_drewN | apply below_drew1) | exact HB.out)))); have n2_ := Aside0.mk (below_step (by repeat (first | (with_reducible first | exact HB.out | apply below_alloc | apply pw_below_drewN | apply below_drew1) | exact HB.out)) hb); clear HO0; clear HB; have HO0 := n0_; have HO191 := n1_; have HB := n2_; clear n0_ n1_ n2_; clear hb ho6))
      go_loopg [0, 3] k (fun kq v0 v3 w' => ∃ (x0_1 : List Int) (x3_1 : List Int), Aside0 (cobs_Stuff.l0 kq x0_1 x3_1 = some r) ∧ Aside0 (kq ≤ k) ∧ Aside0 (Kd.V (Kd.int .u8) 5 w' w.heap.size (fun k_ => (P0_ k_ ∨ w.heap.size ≤ k_) ∧ some k_ ≠ (v3 : Value).ownBlock) v0 x0_1) ∧ Aside0 (Kd.R (Kd.int .u8) 5 w' w.heap.size (fun k_ => (w.heap.size ≤ k_)) v3 x3_1) ∧ Aside0 (Below w.heap.size w w'))
      case atStart => exact ⟨(l0), (y189), H', ⟨Nat.le_refl _⟩, ⟨by (with_reducible repeat (first | apply Kd.V_alloc | apply Kd.V_drewN | apply Kd.V_drew)); exact HO0.out⟩, ⟨by (with_reducible repeat (first | apply Kd.R_alloc | apply Kd.R_drewN | apply Kd.R_drew)); exact Kd.R_mono HO191.out (fun _ hk => hk.1)⟩, ⟨by repeat (first | (with_reducible first | exact HB.out | apply below_alloc | apply pw_below_drewN | apply below_drew1) | exact HB.out)⟩⟩
      case round =>
        clear H'
        try clear p2
        try clear c3
        try clear c3b0
        try clear c3b1
        try clear c4
        try clear c4b0
        try clear c4b1
        try clear c6
        obtain ⟨x0_1, x3_1, HA, HK1, HO_0, HO_3, HB⟩ := hrel
        cases gk with
        | zero => exact absurd HA.out (by simp [cobs_Stuff.l0])
        | succ k1 =>
          have H := HA.out
          clear HA
          simp only [cobs_Stuff.l0] at H
          obtain ⟨ji7, hji7⟩ : ∃ j_ : Int, (mn (x0_1.length : Int) 254) = j_ := ⟨_, rfl⟩
          replace H : (if 0 ≤ (ji7) then (if (ji7) ≤ (x0_1.length : Int) then ((bytes_IndexByte.f (x0_1.take ((ji7) : Int).toNat) 0).bind fun t197 => (if t197 ≥ 0 then (if x3_1.length < 140737488355328 then ((some (x3_1 ++ [(wrap64 (t197 + 1)) % 256] : List Int)).bind fun y198 => (if 0 ≤ t197 then (if t197 ≤ (x0_1.length : Int) then ((some (x0_1.take (t197 : Int).toNat : List Int)).bind fun y201 => (if y198.length + y201.length < 140737488355328 then (if 0 ≤ (wrap64 (t197 + 1)) then (if (wrap64 (t197 + 1)) ≤ (x0_1.length : Int) then (cobs_Stuff.l0 k1 (x0_1.drop ((wrap64 (t197 + 1)) : Int).toNat) (y198 ++ y201)) else (none)) else (none)) else (none))) else (none)) else (none))) else (none)) else (if (x0_1.length : Int) > 254 then (if x3_1.length < 140737488355328 then ((some (x3_1 ++ [255] : List Int)).bind fun y214 => (if 254 ≤ (x0_1.length : Int) then ((some (x0_1.take 254 : List Int)).bind fun y217 => (if y214.length + y217.length < 140737488355328 then (cobs_Stuff.l0 k1 (x0_1.drop 254) (y214 ++ y217)) else (none))) else (none))) else (none)) else (if x3_1.length < 140737488355328 then ((some (x3_1 ++ [(wrap64 ((x0_1.length : Int) + 1)) % 256] : List Int)).bind fun y230 => (if y230.length + x0_1.length < 140737488355328 then (some (y230 ++ x0_1)) else (none))) else (none))))) else (none)) else (none)) = some r := by first | (rw [hji7] at H; exact H) | (simp only [hji7] at H ⊢; exact H)
          have hji7_ : (if 254 < (x0_1.length : Int) then 254 else (x0_1.length : Int)) = ji7 := hji7
          by_cases c8 : 0 ≤ (ji7)
          · rw [if_pos c8] at H
            have c8b0 := eq_true c8
            have c8b1 : decide (0 ≤ (ji7)) = true := decide_eq_true c8
            clear c8
            by_cases c9 : (ji7) ≤ (x0_1.length : Int)
            · rw [if_pos c9] at H
              have c9b0 := eq_true c9
              have c9b1 : decide ((ji7) ≤ (x0_1.length : Int)) = true := decide_eq_true c9
              clear c9
              obtain ⟨y192, hy192⟩ : ∃ y_ : List Int, y_ = (x0_1.take ((ji7) : Int).toNat) := ⟨_, rfl⟩
              replace H : ((bytes_IndexByte.f y192 0).bind fun t197 => (if t197 ≥ 0 then (if x3_1.length < 140737488355328 then ((some (x3_1 ++ [(wrap64 (t197 + 1)) % 256] : List Int)).bind fun y198 => (if 0 ≤ t197 then (if t197 ≤ (x0_1.length : Int) then ((some (x0_1.take (t197 : Int).toNat : List Int)).bind fun y201 => (if y198.length + y201.length < 140737488355328 then (if 0 ≤ (wrap64 (t197 + 1)) then (if (wrap64 (t197 + 1)) ≤ (x0_1.length : Int) then (cobs_Stuff.l0 k1 (x0_1.drop ((wrap64 (t197 + 1)) : Int).toNat) (y198 ++ y201)) else (none)) else (none)) else (none))) else (none)) else (none))) else (none)) else (if (x0_1.length : Int) > 254 then (if x3_1.length < 140737488355328 then ((some (x3_1 ++ [255] : List Int)).bind fun y214 => (if 254 ≤ (x0_1.length : Int) then ((some (x0_1.take 254 : List Int)).bind fun y217 => (if y214.length + y217.length < 140737488355328 then (cobs_Stuff.l0 k1 (x0_1.drop 254) (y214 ++ y217)) else (none))) else (none))) else (none)) else (if x3_1.length < 140737488355328 then ((some (x3_1 ++ [(wrap64 ((x0_1.length : Int) + 1)) % 256] : List Int)).bind fun y230 => (if y230.length + x0_1.length < 140737488355328 then (some (y230 ++ x0_1)) else (none))) else (none))))) = some r := by first | (rw [hy192]; with_reducible exact H) | (have H2_ := (Option.bind_some _ _).symm.trans H; rw [hy192]; with_reducible exact H2_) | (have H2_ := (Option.bind_some _ _).symm.trans H; with_reducible exact H2_) | with_reducible exact H | (rw [hy192]; exact H) | exact H
              have Ny192 := Aside0.mk hy192
              clear hy192
              replace H := Option.bind_eq_some_iff.mp H
              obtain ⟨t197, A100, H⟩ := H
              replace H : (if t197 ≥ 0 then (if x3_1.length < 140737488355328 then ((some (x3_1 ++ [(wrap64 (t197 + 1)) % 256] : List Int)).bind fun y198 => (if 0 ≤ t197 then (if t197 ≤ (x0_1.length : Int) then ((some (x0_1.take (t197 : Int).toNat : List Int)).bind fun y201 => (if y198.length + y201.length < 140737488355328 then (if 0 ≤ (wrap64 (t197 + 1)) then (if (wrap64 (t197 + 1)) ≤ (x0_1.length : Int) then (cobs_Stuff.l0 k1 (x0_1.drop ((wrap64 (t197 + 1)) : Int).toNat) (y198 ++ y201)) else (none)) else (none)) else (none))) else (none)) else (none))) else (none)) else (if (x0_1.length : Int) > 254 then (if x3_1.length < 140737488355328 then ((some (x3_1 ++ [255] : List Int)).bind fun y214 => (if 254 ≤ (x0_1.length : Int) then ((some (x0_1.take 254 : List Int)).bind fun y217 => (if y214.length + y217.length < 140737488355328 then (cobs_Stuff.l0 k1 (x0_1.drop 254) (y214 ++ y217)) else (none))) else (none))) else (none)) else (if x3_1.length < 140737488355328 then ((some (x3_1 ++ [(wrap64 ((x0_1.length : Int) + 1)) % 256] : List Int)).bind fun y230 => (if y230.length + x0_1.length < 140737488355328 then (some (y230 ++ x0_1)) else (none))) else (none)))) = some r := H
              have A10 := Aside0.mk A100
              clear A100
              by_cases c11 : t197 ≥ 0
              · rw [if_pos c11] at H
                have c11b0 : decide (0 ≤ t197) = true := decide_eq_true c11
                clear c11
                by_cases c12 : x3_1.length < 140737488355328
                · rw [if_pos c12] at H
                  have LMc12 := Aside0.mk c12
                  clear c12
                  obtain ⟨y198, hy198⟩ : ∃ y_ : List Int, y_ = (x3_1 ++ [(wrap64 (t197 + 1)) % 256]) := ⟨_, rfl⟩
                  replace H : (if 0 ≤ t197 then (if t197 ≤ (x0_1.length : Int) then ((some (x0_1.take (t197 : Int).toNat : List Int)).bind fun y201 => (if y198.length + y201.length < 140737488355328 then (if 0 ≤ (wrap64 (t197 + 1)) then (if (wrap64 (t197 + 1)) ≤ (x0_1.length : Int) then (cobs_Stuff.l0 k1 (x0_1.drop ((wrap64 (t197 + 1)) : Int).toNat) (y198 ++ y201)) else (none)) else (none)) else (none))) else (none)) else (none)) = some r := by first | (rw [hy198]; with_reducible exact H) | (have H2_ := (Option.bind_some _ _).symm.trans H; rw [hy198]; with_reducible exact H2_) | (have H2_ := (Option.bind_some _ _).symm.trans H; with_reducible exact H2_) | with_reducible exact H | (rw [hy198]; exact H) | exact H
                  have Ny198 := Aside0.mk hy198
                  clear hy198
                  by_cases c13 : 0 ≤ t197
                  · rw [if_pos c13] at H
                    have c13b0 := eq_true c13
                    have c13b1 : decide (0 ≤ t197) = true := decide_eq_true c13
                    clear c13
                    by_cases c14 : t197 ≤ (x0_1.length : Int)
                    · rw [if_pos c14] at H
                      have c14b0 := eq_true c14
                      have c14b1 : decide (t197 ≤ (x0_1.length : Int)) = true := decide_eq_true c14
                      clear c14
                      obtain ⟨y201, hy201⟩ : ∃ y_ : List Int, y_ = (x0_1.take (t197 : Int).toNat) := ⟨_, rfl⟩
                      replace H : (if y198.length + y201.length < 140737488355328 then (if 0 ≤ (wrap64 (t197 + 1)) then (if (wrap64 (t197 + 1)) ≤ (x0_1.length : Int) then (cobs_Stuff.l0 k1 (x0_1.drop ((wrap64 (t197 + 1)) : Int).toNat) (y198 ++ y201)) else (none)) else (none)) else (none)) = some r := by first | (rw [hy201]; with_reducible exact H) | (have H2_ := (Option.bind_some _ _).symm.trans H; rw [hy201]; with_reducible exact H2_) | (have H2_ := (Option.bind_some _ _).symm.trans H; with_reducible exact H2_) | with_reducible exact H | (rw [hy201]; exact H) | exact H
                      have Ny201 := Aside0.mk hy201
                      clear hy201
                      by_cases c15 : y198.length + y201.length < 140737488355328
                      · rw [if_pos c15] at H
                        have LMc15 := Aside0.mk c15
                        clear c15
                        obtain ⟨y206, hy206⟩ : ∃ y_ : List Int, y_ = (y198 ++ y201) := ⟨_, rfl⟩
                        replace H : (if 0 ≤ (wrap64 (t197 + 1)) then (if (wrap64 (t197 + 1)) ≤ (x0_1.length : Int) then (cobs_Stuff.l0 k1 (x0_1.drop ((wrap64 (t197 + 1)) : Int).toNat) y206) else (none)) else (none)) = some r := by first | (rw [hy206]; with_reducible exact H) | (have H2_ := (Option.bind_some _ _).symm.trans H; rw [hy206]; with_reducible exact H2_) | (have H2_ := (Option.bind_some _ _).symm.trans H; with_reducible exact H2_) | with_reducible exact H | (rw [hy206]; exact H) | exact H
                        have Ny206 := Aside0.mk hy206
                        clear hy206
                        obtain ⟨ji16, hji16⟩ : ∃ j_ : Int, (wrap64 (t197 + 1)) = j_ := ⟨_, rfl⟩
                        replace H : (if 0 ≤ (ji16) then (if (ji16) ≤ (x0_1.length : Int) then (cobs_Stuff.l0 k1 (x0_1.drop ((ji16) : Int).toNat) y206) else (none)) else (none)) = some r := by first | (rw [hji16] at H; exact H) | (simp only [hji16] at H ⊢; exact H)
                        (try rw [hji16] at A10)
                        (try rw [hji16] at Ny198)
                        (try rw [hji16] at Ny198)
                        have hji16w : (IntKind.i64.wrap (t197 + 1)) = ji16 := (i64_w _).trans hji16
                        by_cases c17 : 0 ≤ (ji16)
                        · rw [if_pos c17] at H
                          have c17b0 := eq_true c17
                          have c17b1 : decide (0 ≤ (ji16)) = true := decide_eq_true c17
                          clear c17
                          by_cases c18 : (ji16) ≤ (x0_1.length : Int)
                          · rw [if_pos c18] at H
                            have c18b0 := eq_true c18
                            have c18b1 : decide ((ji16) ≤ (x0_1.length : Int)) = true := decide_eq_true c18
                            clear c18
                            obtain ⟨y209, hy209⟩ : ∃ y_ : List Int, y_ = (x0_1.drop ((ji16) : Int).toNat) := ⟨_, rfl⟩
                            replace H : (cobs_Stuff.l0 k1 y209 y206) = some r := by first | (rw [hy209]; with_reducible exact H) | (have H2_ := (Option.bind_some _ _).symm.trans H; rw [hy209]; with_reducible exact H2_) | (have H2_ := (Option.bind_some _ _).symm.trans H; with_reducible exact H2_) | with_reducible exact H | (rw [hy209]; exact H) | exact H
                            have Ny209 := Aside0.mk hy209
                            clear hy209
                            have H' := Aside0.mk H
                            clear H
                            obtain ⟨Ao19, co19, eo19⟩ := Kd.V_slice HO_0.out
                            subst eo19
                            have q20 : ((ji7) : Int) ≤ ((x0_1.length : Int) : Int) := of_decide_eq_true (by first | (with_reducible assumption) | assumption)
                            obtain ⟨i020, hi020, _, hsz20, _⟩ := info_parts info5
                            have hroom20 : x0_1.length ≤ co19 := (Kd.V_reads' HO_0.out).2.1
                            have hC20 : Kd.F (Kd.int .u8) _ _ Ao19 x0_1.length x0_1 := (Kd.V_at (base := w.heap.size) HO_0.out).2.2
                            have hcut20 := cut_to (P := Try.prog) 39 5 .i64 Try.underlying39 hi020 Ao19 x0_1.length co19 (ji7) (of_decide_eq_true (by first | (with_reducible assumption) | assumption)) q20 hroom20
                            have hr20 := Kd.F_take (m := ((ji7) : Int).toNat) hC20 (by omega)
                            have hy20 : y192.length = ((ji7) : Int).toNat := (by rw [Ny192.out, List.length_take]; omega)
                            rw [← Ny192.out] at hr20
                            rw [← hy20] at hcut20
                            have HO196 := Aside0.mk (show Kd.V (Kd.int .u8) 5 _ w.heap.size _ (.slice Ao19 y192.length co19) y192 from Kd.V_mk (by omega) hr20)
                            have HC196 := Aside0.mk (show y192.length ≤ co19 from by omega)
                            clear hr20 hC20 hroom20 hi020 hsz20
                            have KY20 := Aside0.mk hy20
                            clear hy20
                            replace q20 := eq_true q20
                            try go_wp2_with (first | ((with_reducible refine gate_callee (f := 109) rfl ?_); refine goesL_ (some 14) rfl rfl Try.func109 (by kernel_rfl) rfl #[.slice Ao19 y192.length co19, .int .u8 0] rfl (by (try simp only [List.map_toArray, List.map_cons, List.map_nil]); first | done | rfl | (simp only [List.length_drop, List.length_take]; rfl) | (refine congrArg (fun z => #[Value.int .u64 z]) ?_; rw [IntKind.wrap_u64]; omega)) ?_; (with_reducible refine (bytes_IndexByte.calls _ _ y192 0 t197 _ ?side1 ?side2 A10.out).mono ?_); (case side1 => repeat (first | exact (Kd.V_reads' HO196.out).2.2 | (with_reducible refine Kd.C_alloc ?_ _) | (with_reducible refine Kd.C_drewN ?_ _) | (with_reducible refine Kd.C_drew ?_))); (case side2 => exact (Kd.V_reads' HO196.out).2.1); rintro e w' ⟨rfl, ⟨nd, rfl⟩⟩; refine ⟨_, rfl, ?_⟩))
                            (try (rw [drewN_self wr]; generalize hq_ : World.drewN wr _ = wr; have n0_ : Aside0 (Kd.V (Kd.int .u8) 5 wr w.heap.size (fun k_ => (P0_ k_ ∨ w.heap.size ≤ k_) ∧ some k_ ≠ (u3 : Value).ownBlock) (.slice Ao19 y192.length co19) y192) := ⟨by rw [← hq_]; exact (by (with_reducible repeat (first | apply Kd.V_alloc | apply Kd.V_drewN | apply Kd.V_drew)); exact HO196.out)⟩; have n1_ : Aside0 (Kd.V (Kd.int .u8) 5 wr w.heap.size (fun k_ => (P0_ k_ ∨ w.heap.size ≤ k_) ∧ some k_ ≠ (u3 : Value).ownBlock) (.slice Ao19 x0_1.length co19) x0_1) := ⟨by rw [← hq_]; exact (by (with_reducible repeat (first | apply Kd.V_alloc | apply Kd.V_drewN | apply Kd.V_drew)); exact HO_0.out)⟩; have n2_ : Aside0 (Kd.R (Kd.int .u8) 5 wr w.heap.size (fun k_ => (w.heap.size ≤ k_)) u3 x3_1) := ⟨by rw [← hq_]; exact (by (with_reducible repeat (first | apply Kd.R_alloc | apply Kd.R_drewN | apply Kd.R_drew)); exact HO_3.out)⟩; have n3_ : Aside0 (Below w.heap.size w wr) := ⟨by rw [← hq_]; exact (by repeat (first | (with_reducible first | exact HB.out | apply below_alloc | apply pw_below_drewN | apply below_drew1) | exact HB.out))⟩; clear HO196 HO_0 HO_3 HB hq_; have HO196 := n0_; have HO_0 := n1_; have HO_3 := n2_; have HB := n3_; clear n0_ n1_ n2_ n3_))
                            have n0_ := Aside0.mk (Kd.V_drew HO_0.out)
                            have n1_ := Aside0.mk (Kd.R_drew HO_3.out)
                            have n2_ := Aside0.mk (Kd.V_drew HO196.out)
                            have n3_ := Aside0.mk (below_drew1 HB.out)
                            clear HO_0
                            clear HO_3
                            clear HO196
                            clear HB
                            have HO_0 := n0_
                            have HO_3 := n1_
                            have HO196 := n2_
                            have HB := n3_
                            clear n0_ n1_ n2_ n3_
                            have q22 : (t197 : Int) ≤ ((x0_1.length : Int) : Int) := of_decide_eq_true (by first | (with_reducible assumption) | assumption)
                            obtain ⟨i022, hi022, _, hsz22, _⟩ := info_parts info5
                            have hroom22 : x0_1.length ≤ co19 := (Kd.V_reads' HO_0.out).2.1
                            have hC22 : Kd.F (Kd.int .u8) _ _ Ao19 x0_1.length x0_1 := (Kd.V_at (base := w.heap.size) HO_0.out).2.2
                            have hcut22 := cut_to (P := Try.prog) 39 5 .i64 Try.underlying39 hi022 Ao19 x0_1.length co19 t197 (of_decide_eq_true (by first | (with_reducible assumption) | assumption)) q22 hroom22
                            have hr22 := Kd.F_take (m := (t197 : Int).toNat) hC22 (by omega)
                            have hy22 : y201.length = (t197 : Int).toNat := (by rw [Ny201.out, List.length_take]; omega)
                            rw [← Ny201.out] at hr22
                            rw [← hy22] at hcut22
                            have HO205 := Aside0.mk (show Kd.V (Kd.int .u8) 5 _ w.heap.size _ (.slice Ao19 y201.length co19) y201 from Kd.V_mk (by omega) hr22)
                            have HC205 := Aside0.mk (show y201.length ≤ co19 from by omega)
                            clear hr22 hC22 hroom22 hi022 hsz22
                            have KY22 := Aside0.mk hy22
                            clear hy22
                            replace q22 := eq_true q22
                            refine start_ (n := 11) (S := fun w' => True) (ds := []) #[false, false, false, false, false, false, false, false, false, false, false] (by kernel_rfl) rfl rfl trivial (fun hHeld => ?_); refine with_tabW cobs_Stuff.tab5 cobs_Stuff.bits5 (fun HT_ HW_ => ?_)
                            generalize wr.drew = w21 at HO_0 HO_3 HO196 HB HO205 hHeld ⊢
                            refine pure_ (i := 0) (N := some 27) (v := ?_) (a' := ?_) #[true, false, false, false, false, false, false, false, false, false, false] rfl rfl (any_of HT_.out (by kernel_rfl)) (fun _ _ _ h => h) (Or.inl ⟨by rfl, ?_⟩) ?_ ?_
                            rotate_left
                            · intro w'
                              go_simp
                              with_reducible rfl
                            rotate_left
                            · simp only [Act.put, List.setIfInBounds_toArray, List.set_cons_zero, List.set_cons_succ, i64_w, i32_w]
                              rfl
                            refine pure_ (i := 1) (N := some 28) (v := ?_) (a' := ?_) #[true, true, false, false, false, false, false, false, false, false, false] rfl rfl (any_of HT_.out (by kernel_rfl)) (fun _ _ _ h => h) (Or.inl ⟨by rfl, ?_⟩) ?_ ?_
                            rotate_left
                            · intro w'
                              go_simp
                              with_reducible rfl
                            rotate_left
                            · simp only [Act.put, List.setIfInBounds_toArray, List.set_cons_zero, List.set_cons_succ, i64_w, i32_w]
                              rfl
                            refine pure_ (i := 2) (N := some 29) (v := ?_) (a' := ?_) #[true, true, true, false, false, false, false, false, false, false, false] rfl rfl (any_of HT_.out (by kernel_rfl)) (fun _ _ _ h => h) (Or.inl ⟨by rfl, ?_⟩) ?_ ?_
                            rotate_left
                            · intro w'
                              go_simp
                              with_reducible rfl
                            rotate_left
                            · simp only [Act.put, List.setIfInBounds_toArray, List.set_cons_zero, List.set_cons_succ, i64_w, i32_w]
                              rfl
                            refine pure_ (i := 3) (N := some 30) (v := ?_) (a' := ?_) #[true, true, true, true, false, false, false, false, false, false, false] rfl rfl (any_of HT_.out (by kernel_rfl)) (fun _ _ _ h => h) (Or.inl ⟨by rfl, ?_⟩) ?_ ?_
                            rotate_left
                            · intro w'
                              go_simp
                              with_reducible rfl
                            rotate_left
                            · simp only [Act.put, List.setIfInBounds_toArray, List.set_cons_zero, List.set_cons_succ, i64_w, i32_w]
                              rfl
                            refine pure_ (i := 6) (N := some 33) (v := ?_) (a' := ?_) #[true, true, true, true, false, false, true, false, false, false, false] rfl rfl (any_of HT_.out (by kernel_rfl)) (fun _ _ _ h => h) (Or.inl ⟨by rfl, ?_⟩) ?_ ?_
                            rotate_left
                            · intro w'
                              go_simp
                              with_reducible rfl
                            rotate_left
                            · simp only [Act.put, List.setIfInBounds_toArray, List.set_cons_zero, List.set_cons_succ, i64_w, i32_w]
                              rfl
                            refine pure_ (i := 7) (N := some 34) (v := ?_) (a' := ?_) #[true, true, true, true, false, false, true, true, false, false, false] rfl rfl (any_of HT_.out (by kernel_rfl)) (fun _ _ _ h => h) (Or.inl ⟨by rfl, ?_⟩) ?_ ?_
                            rotate_left
                            · intro w'
                              go_simp
                              with_reducible rfl
                            rotate_left
                            · simp only [Act.put, List.setIfInBounds_toArray, List.set_cons_zero, List.set_cons_succ, i64_w, i32_w]
                              rfl
                            refine pure_ (i := 8) (N := some 35) (v := ?_) (a' := ?_) #[true, true, true, true, false, false, true, true, true, false, false] rfl rfl (any_of HT_.out (by kernel_rfl)) (fun _ _ _ h => h) (Or.inl ⟨by rfl, ?_⟩) ?_ ?_
                            rotate_left
                            · intro w'
                              go_simp
                              with_reducible rfl
                            rotate_left
                            · simp only [Act.put, List.setIfInBounds_toArray, List.set_cons_zero, List.set_cons_succ, i64_w, i32_w]
                              rfl
                            refine one_ (i := 4) (N := some 31) #[true, true, true, true, true, false, true, true, true, false, false] rfl rfl (one_of HT_.out (by kernel_rfl)) (by decide) (fun K hK => ?_)
                            refine value_ (w1 := ?_) (v := ?_) (by rfl) rfl ?_ ?_
                            rotate_left 2
                            · go_simp
                              constructor
                              · rfl
                              · rfl
                            refine hK.out _ _ trivial (fun hHeld => ?_)
                            clear hK K
                            refine norm_ (a' := ?_) ?_ ?_
                            rotate_left
                            · show Act.put _ (some 31) _ = _
                              simp only [Act.put, List.setIfInBounds_toArray, List.set_cons_zero, List.set_cons_succ, i64_w, i32_w]
                              rfl
                            refine one_ (i := 5) (N := some 32) #[true, true, true, true, true, true, true, true, true, false, false] rfl rfl (one_of HT_.out (by kernel_rfl)) (by decide) (fun K hK => ?_)
                            refine Kd.R_append_step (Kd.int .u8) (w0 := w) w.heap.size (by rfl) (.tmp 27) (.tmp 31) 39 5 (.int .u8 0) 1 rfl Try.underlying39 info5 rfl (by decide) (by omega) u3 x3_1 ((ji16) % 256) [.int .u8 ((ji16) % 256)] (fun k_ => (w.heap.size ≤ k_)) (fun _ => False) rfl rfl ?aP (fun _ hk => hk.elim) ?aF ?aO ?aB ?aS ?aL ?_
                            (case aP => exact rfl)
                            (case aB => exact (by repeat (first | (with_reducible first | exact HB.out | apply below_alloc | apply pw_below_drewN | apply below_drew1) | exact HB.out)))
                            (case aF => exact (fun k_ hk => (Nat.le_trans (below_size (by repeat (first | (with_reducible first | exact HB.out | apply below_alloc | apply pw_below_drewN | apply below_drew1) | exact HB.out))) hk)))
                            (case aO => exact (by (with_reducible repeat (first | apply Kd.R_alloc | apply Kd.R_drewN | apply Kd.R_drew)); exact HO_3.out))
                            (case aS => exact (below_size (by repeat (first | (with_reducible first | exact HB.out | apply below_alloc | apply pw_below_drewN | apply below_drew1) | exact HB.out))))
                            (case aL => have := LMc12.out; omega)
                            intro v199 w23 ho hb hg hat
                            rw [← Ny198.out] at ho
                            have n0_ := Aside0.mk (Kd.V_afterv (ok := (fun k_ => (P0_ k_ ∨ w.heap.size ≤ k_))) (by (with_reducible repeat (first | apply Kd.V_alloc | apply Kd.V_drewN | apply Kd.V_drew)); exact HO_0.out) hg hat)
                            have n1_ := Aside0.mk (Kd.V_afterv (ok := (fun k_ => (P0_ k_ ∨ w.heap.size ≤ k_))) (by (with_reducible repeat (first | apply Kd.V_alloc | apply Kd.V_drewN | apply Kd.V_drew)); exact HO196.out) hg hat)
                            have n2_ := Aside0.mk (Kd.V_afterv (ok := (fun k_ => (P0_ k_ ∨ w.heap.size ≤ k_))) (by (with_reducible repeat (first | apply Kd.V_alloc | apply Kd.V_drewN | apply Kd.V_drew)); exact HO205.out) hg hat)
                            have n3_ := Aside0.mk (hb)
                            have n4_ := Aside0.mk (ho)
                            clear HO_0
                            clear HO196
                            clear HO205
                            clear HB
                            clear HO_3
                            have HO_0 := n0_
                            have HO196 := n1_
                            have HO205 := n2_
                            have HB := n3_
                            have HO200 := n4_
                            clear n0_ n1_ n2_ n3_ n4_
                            clear ho hb hg hat
                            refine hK.out _ _ trivial (fun hHeld => ?_)
                            clear hK K
                            refine norm_ (a' := ?_) ?_ ?_
                            rotate_left
                            · show Act.put _ (some 32) _ = _
                              simp only [Act.put, List.setIfInBounds_toArray, List.set_cons_zero, List.set_cons_succ, i64_w, i32_w]
                              rfl
                            refine one_ (i := 9) (N := some 36) #[true, true, true, true, true, true, true, true, true, true, false] rfl rfl (one_of HT_.out (by kernel_rfl)) (by decide) (fun K hK => ?_)
                            refine Kd.R_append_rows_step (Kd.int .u8) (w0 := w) w.heap.size (by rfl) (.tmp 32) (.tmp 35) 39 5 (.int .u8 0) 1 rfl Try.underlying39 info5 rfl (by decide) (by omega) v199 y198 y201 _ _ _ (fun k_ => (w.heap.size ≤ k_)) (fun _ => False) rfl rfl ?aO ?aR (fun _ _ h => h) (fun _ h => h.elim) ?aF ?aB ?aS ?aL ?_
                            (case aR => repeat (first | exact (Kd.V_reads' HO205.out).2.2 | (with_reducible refine Kd.C_alloc ?_ _) | (with_reducible refine Kd.C_drewN ?_ _) | (with_reducible refine Kd.C_drew ?_)))
                            (case aB => exact (by repeat (first | (with_reducible first | exact HB.out | apply below_alloc | apply pw_below_drewN | apply below_drew1) | exact HB.out)))
                            (case aF => exact (fun k_ hk => (Nat.le_trans (below_size (by repeat (first | (with_reducible first | exact HB.out | apply below_alloc | apply pw_below_drewN | apply below_drew1) | exact HB.out))) hk)))
                            (case aO => exact (by (with_reducible repeat (first | apply Kd.R_alloc | apply Kd.R_drewN | apply Kd.R_drew)); exact HO200.out))
                            (case aS => exact (below_size (by repeat (first | (with_reducible first | exact HB.out | apply below_alloc | apply pw_below_drewN | apply below_drew1) | exact HB.out))))
                            (case aL => have := LMc15.out; omega)
                            intro v207 w24 ho hb hg hat
                            rw [← Ny206.out] at ho
                            have n0_ := Aside0.mk (Kd.V_afterv (ok := (fun k_ => (P0_ k_ ∨ w.heap.size ≤ k_))) (by (with_reducible repeat (first | apply Kd.V_alloc | apply Kd.V_drewN | apply Kd.V_drew)); exact HO_0.out) hg hat)
                            have n1_ := Aside0.mk (Kd.V_afterv (ok := (fun k_ => (P0_ k_ ∨ w.heap.size ≤ k_))) (by (with_reducible repeat (first | apply Kd.V_alloc | apply Kd.V_drewN | apply Kd.V_drew)); exact HO196.out) hg hat)
                            have n2_ := Aside0.mk (Kd.V_afterv (ok := (fun k_ => (P0_ k_ ∨ w.heap.size ≤ k_))) (by (with_reducible repeat (first | apply Kd.V_alloc | apply Kd.V_drewN | apply Kd.V_drew)); exact HO205.out) hg hat)
                            have n3_ := Aside0.mk (hb)
                            have n4_ := Aside0.mk (ho)
                            clear HO_0
                            clear HO196
                            clear HO205
                            clear HB
                            clear HO200
                            have HO_0 := n0_
                            have HO196 := n1_
                            have HO205 := n2_
                            have HB := n3_
                            have HO208 := n4_
                            clear n0_ n1_ n2_ n3_ n4_
                            clear ho hb hg hat
                            refine hK.out _ _ trivial (fun hHeld => ?_)
                            clear hK K
                            refine norm_ (a' := ?_) ?_ ?_
                            rotate_left
                            · show Act.put _ (some 36) _ = _
                              simp only [Act.put, List.setIfInBounds_toArray, List.set_cons_zero, List.set_cons_succ, i64_w, i32_w]
                              rfl
                            refine pure_ (i := 10) (N := some 3) (v := ?_) (a' := ?_) #[true, true, true, true, true, true, true, true, true, true, true] rfl rfl (any_of HT_.out (by kernel_rfl)) (fun _ _ _ h => h) (Or.inl ⟨by rfl, ?_⟩) ?_ ?_
                            rotate_left
                            · intro w'
                              go_simp
                              with_reducible rfl
                            rotate_left
                            · simp only [Act.put, List.setIfInBounds_toArray, List.set_cons_zero, List.set_cons_succ, i64_w, i32_w]
                              rfl
                            refine done_ (done_of HT_.out (by kernel_rfl)) ?_
                            have q25 : ((ji16) : Int) ≤ ((x0_1.length : Int) : Int) := of_decide_eq_true (by first | (with_reducible assumption) | assumption)
                            obtain ⟨i025, hi025, _, hsz25, _⟩ := info_parts info5
                            have hroom25 : x0_1.length ≤ co19 := (Kd.V_reads' HO_0.out).2.1
                            have hC25 : Kd.F (Kd.int .u8) _ _ Ao19 x0_1.length x0_1 := (Kd.V_at (base := w.heap.size) HO_0.out).2.2
                            have q025 : (0 : Int) ≤ ((ji16) : Int) := of_decide_eq_true (by first | (with_reducible assumption) | assumption)
                            have hcut25 := cut_from (P := Try.prog) 39 5 .i64 Try.underlying39 hi025 1 hsz25 Ao19 x0_1.length co19 (ji16) q025 q25
                            have hr25 := Kd.F_cut (m := ((ji16) : Int).toNat) (c := co19) hC25 (by omega) hroom25
                            obtain ⟨A25, hA25⟩ : ∃ A1, A1 = (if co19 = ((ji16) : Int).toNat then Ao19 else (Ao19 : Option Addr).map (·.add (((ji16) : Int).toNat * 1))) := ⟨_, rfl⟩
                            obtain ⟨c25, hc25⟩ : ∃ c1, c1 = co19 - ((ji16) : Int).toNat := ⟨_, rfl⟩
                            have hy25 : y209.length = x0_1.length - ((ji16) : Int).toNat := (by rw [Ny209.out, List.length_drop] <;> omega)
                            rw [show (x0_1).drop ((ji16) : Int).toNat = y209 from Ny209.out.symm] at hr25
                            replace hr25 : Kd.F (Kd.int .u8) _ _ A25 y209.length y209 := (by rw [hA25]; exact hr25)
                            rw [← hy25, ← hA25, ← hc25] at hcut25
                            have HO213 := Aside0.mk (show Kd.V (Kd.int .u8) 5 _ w.heap.size _ (.slice A25 y209.length c25) y209 from Kd.V_mk (by rw [hy25, hc25]; exact Nat.sub_le_sub_right hroom25 _) hr25)
                            have HC213 := Aside0.mk (show y209.length ≤ c25 from by rw [hy25, hc25]; exact Nat.sub_le_sub_right hroom25 _)
                            clear hr25 hC25 hroom25 hi025 hsz25 hc25
                            have KY25 := Aside0.mk hy25
                            have KA25 := Aside0.mk hA25
                            clear hy25 hA25
                            replace q25 := eq_true q25
                            try go_wp2
                            go_roundg k1
                            case measure => have := HK1.out; omega
                            case rel => exact ⟨(y209), (y206), H', ⟨by have := HK1.out; omega⟩, ⟨by (with_reducible repeat (first | apply Kd.V_alloc | apply Kd.V_drewN | apply Kd.V_drew)); exact HO213.out⟩, ⟨by (with_reducible repeat (first | apply Kd.R_alloc | apply Kd.R_drewN | apply Kd.R_drew)); exact HO208.out⟩, ⟨by repeat (first | (with_reducible first | exact HB.out | apply below_alloc | apply pw_below_drewN | apply below_drew1) | exact HB.out)⟩⟩
                          · rw [if_neg c18] at H
                            exact absurd H (by simp)
                        · rw [if_neg c17] at H
                          exact absurd H (by simp)
                      · rw [if_neg c15] at H
                        exact absurd H (by simp)
                    · rw [if_neg c14] at H
                      exact absurd H (by simp)
                  · rw [if_neg c13] at H
                    exact absurd H (by simp)
                · rw [if_neg c12] at H
                  exact absurd H (by simp)
              · rw [if_neg c11] at H
                have c11b0 : decide (0 ≤ t197) = false := decide_eq_false c11
                clear c11
                by_cases c26 : (x0_1.length : Int) > 254
                · rw [if_pos c26] at H
                  have c26b0 : decide (254 < (x0_1.length : Int)) = true := decide_eq_true c26
                  have c26b1 : decide (254 < x0_1.length) = true := decide_eq_true (by omega)
                  clear c26
                  by_cases c27 : x3_1.length < 140737488355328
                  · rw [if_pos c27] at H
                    have LMc27 := Aside0.mk c27
                    clear c27
                    obtain ⟨y214, hy214⟩ : ∃ y_ : List Int, y_ = (x3_1 ++ [255]) := ⟨_, rfl⟩
                    replace H : (if 254 ≤ (x0_1.length : Int) then ((some (x0_1.take 254 : List Int)).bind fun y217 => (if y214.length + y217.length < 140737488355328 then (cobs_Stuff.l0 k1 (x0_1.drop 254) (y214 ++ y217)) else (none))) else (none)) = some r := by first | (rw [hy214]; with_reducible exact H) | (have H2_ := (Option.bind_some _ _).symm.trans H; rw [hy214]; with_reducible exact H2_) | (have H2_ := (Option.bind_some _ _).symm.trans H; with_reducible exact H2_) | with_reducible exact H | (rw [hy214]; exact H) | exact H
                    have Ny214 := Aside0.mk hy214
                    clear hy214
                    by_cases c28 : 254 ≤ (x0_1.length : Int)
                    · rw [if_pos c28] at H
                      have c28b0 := eq_true c28
                      have c28b1 : decide (254 ≤ (x0_1.length : Int)) = true := decide_eq_true c28
                      clear c28
                      obtain ⟨y217, hy217⟩ : ∃ y_ : List Int, y_ = (x0_1.take 254) := ⟨_, rfl⟩
                      replace H : (if y214.length + y217.length < 140737488355328 then (cobs_Stuff.l0 k1 (x0_1.drop 254) (y214 ++ y217)) else (none)) = some r := by first | (rw [hy217]; with_reducible exact H) | (have H2_ := (Option.bind_some _ _).symm.trans H; rw [hy217]; with_reducible exact H2_) | (have H2_ := (Option.bind_some _ _).symm.trans H; with_reducible exact H2_) | with_reducible exact H | (rw [hy217]; exact H) | exact H
                      have Ny217 := Aside0.mk hy217
                      clear hy217
                      by_cases c29 : y214.length + y217.length < 140737488355328
                      · rw [if_pos c29] at H
                        have LMc29 := Aside0.mk c29
                        clear c29
                        obtain ⟨y222, hy222⟩ : ∃ y_ : List Int, y_ = (y214 ++ y217) := ⟨_, rfl⟩
                        replace H : (cobs_Stuff.l0 k1 (x0_1.drop 254) y222) = some r := by first | (rw [hy222]; with_reducible exact H) | (have H2_ := (Option.bind_some _ _).symm.trans H; rw [hy222]; with_reducible exact H2_) | (have H2_ := (Option.bind_some _ _).symm.trans H; with_reducible exact H2_) | with_reducible exact H | (rw [hy222]; exact H) | exact H
                        have Ny222 := Aside0.mk hy222
                        clear hy222
                        have c30b0 := eq_true (of_decide_eq_true (by first | (with_reducible assumption) | assumption) : 254 ≤ (x0_1.length : Int))
                        obtain ⟨y225, hy225⟩ : ∃ y_ : List Int, y_ = (x0_1.drop 254) := ⟨_, rfl⟩
                        replace H : (cobs_Stuff.l0 k1 y225 y222) = some r := by first | (rw [hy225]; with_reducible exact H) | (have H2_ := (Option.bind_some _ _).symm.trans H; rw [hy225]; with_reducible exact H2_) | (have H2_ := (Option.bind_some _ _).symm.trans H; with_reducible exact H2_) | with_reducible exact H | (rw [hy225]; exact H) | exact H
                        have Ny225 := Aside0.mk hy225
                        clear hy225
                        have H' := Aside0.mk H
                        clear H
                        obtain ⟨Ao31, co31, eo31⟩ := Kd.V_slice HO_0.out
                        subst eo31
                        have q32 : ((ji7) : Int) ≤ ((x0_1.length : Int) : Int) := of_decide_eq_true (by first | (with_reducible assumption) | assumption)
                        obtain ⟨i032, hi032, _, hsz32, _⟩ := info_parts info5
                        have hroom32 : x0_1.length ≤ co31 := (Kd.V_reads' HO_0.out).2.1
                        have hC32 : Kd.F (Kd.int .u8) _ _ Ao31 x0_1.length x0_1 := (Kd.V_at (base := w.heap.size) HO_0.out).2.2
                        have hcut32 := cut_to (P := Try.prog) 39 5 .i64 Try.underlying39 hi032 Ao31 x0_1.length co31 (ji7) (of_decide_eq_true (by first | (with_reducible assumption) | assumption)) q32 hroom32
                        have hr32 := Kd.F_take (m := ((ji7) : Int).toNat) hC32 (by omega)
                        have hy32 : y192.length = ((ji7) : Int).toNat := (by rw [Ny192.out, List.length_take]; omega)
                        rw [← Ny192.out] at hr32
                        rw [← hy32] at hcut32
                        have HO196 := Aside0.mk (show Kd.V (Kd.int .u8) 5 _ w.heap.size _ (.slice Ao31 y192.length co31) y192 from Kd.V_mk (by omega) hr32)
                        have HC196 := Aside0.mk (show y192.length ≤ co31 from by omega)
                        clear hr32 hC32 hroom32 hi032 hsz32
                        have KY32 := Aside0.mk hy32
                        clear hy32
                        replace q32 := eq_true q32
                        try go_wp2_with (first | ((with_reducible refine gate_callee (f := 109) rfl ?_); refine goesL_ (some 14) rfl rfl Try.func109 (by kernel_rfl) rfl #[.slice Ao31 y192.length co31, .int .u8 0] rfl (by (try simp only [List.map_toArray, List.map_cons, List.map_nil]); first | done | rfl | (simp only [List.length_drop, List.length_take]; rfl) | (refine congrArg (fun z => #[Value.int .u64 z]) ?_; rw [IntKind.wrap_u64]; omega)) ?_; (with_reducible refine (bytes_IndexByte.calls _ _ y192 0 t197 _ ?side1 ?side2 A10.out).mono ?_); (case side1 => repeat (first | exact (Kd.V_reads' HO196.out).2.2 | (with_reducible refine Kd.C_alloc ?_ _) | (with_reducible refine Kd.C_drewN ?_ _) | (with_reducible refine Kd.C_drew ?_))); (case side2 => exact (Kd.V_reads' HO196.out).2.1); rintro e w' ⟨rfl, ⟨nd, rfl⟩⟩; refine ⟨_, rfl, ?_⟩))
                        (try (rw [drewN_self wr]; generalize hq_ : World.drewN wr _ = wr; have n0_ : Aside0 (Kd.V (Kd.int .u8) 5 wr w.heap.size (fun k_ => (P0_ k_ ∨ w.heap.size ≤ k_) ∧ some k_ ≠ (u3 : Value).ownBlock) (.slice Ao31 y192.length co31) y192) := ⟨by rw [← hq_]; exact (by (with_reducible repeat (first | apply Kd.V_alloc | apply Kd.V_drewN | apply Kd.V_drew)); exact HO196.out)⟩; have n1_ : Aside0 (Kd.V (Kd.int .u8) 5 wr w.heap.size (fun k_ => (P0_ k_ ∨ w.heap.size ≤ k_) ∧ some k_ ≠ (u3 : Value).ownBlock) (.slice Ao31 x0_1.length co31) x0_1) := ⟨by rw [← hq_]; exact (by (with_reducible repeat (first | apply Kd.V_alloc | apply Kd.V_drewN | apply Kd.V_drew)); exact HO_0.out)⟩; have n2_ : Aside0 (Kd.R (Kd.int .u8) 5 wr w.heap.size (fun k_ => (w.heap.size ≤ k_)) u3 x3_1) := ⟨by rw [← hq_]; exact (by (with_reducible repeat (first | apply Kd.R_alloc | apply Kd.R_drewN | apply Kd.R_drew)); exact HO_3.out)⟩; have n3_ : Aside0 (Below w.heap.size w wr) := ⟨by rw [← hq_]; exact (by repeat (first | (with_reducible first | exact HB.out | apply below_alloc | apply pw_below_drewN | apply below_drew1) | exact HB.out))⟩; clear HO196 HO_0 HO_3 HB hq_; have HO196 := n0_; have HO_0 := n1_; have HO_3 := n2_; have HB := n3_; clear n0_ n1_ n2_ n3_))
                        have n0_ := Aside0.mk (Kd.V_drew HO_0.out)
                        have n1_ := Aside0.mk (Kd.R_drew HO_3.out)
                        have n2_ := Aside0.mk (Kd.V_drew HO196.out)
                        have n3_ := Aside0.mk (below_drew1 HB.out)
                        clear HO_0
                        clear HO_3
                        clear HO196
                        clear HB
                        have HO_0 := n0_
                        have HO_3 := n1_
                        have HO196 := n2_
                        have HB := n3_
                        clear n0_ n1_ n2_ n3_
                        have q34 : (254 : Int) ≤ ((x0_1.length : Int) : Int) := of_decide_eq_true (by first | (with_reducible assumption) | assumption)
                        obtain ⟨i034, hi034, _, hsz34, _⟩ := info_parts info5
                        have hroom34 : x0_1.length ≤ co31 := (Kd.V_reads' HO_0.out).2.1
                        have hC34 : Kd.F (Kd.int .u8) _ _ Ao31 x0_1.length x0_1 := (Kd.V_at (base := w.heap.size) HO_0.out).2.2
                        have hcut34 := cut_to (P := Try.prog) 39 5 .i64 Try.underlying39 hi034 Ao31 x0_1.length co31 254 (by omega) q34 hroom34
                        have hr34 := Kd.F_take (m := 254) hC34 (by omega)
                        have hy34 : y217.length = (254 : Int).toNat := (by rw [Ny217.out, List.length_take]; omega)
                        rw [← Ny217.out] at hr34
                        rw [← hy34] at hcut34
                        have HO221 := Aside0.mk (show Kd.V (Kd.int .u8) 5 _ w.heap.size _ (.slice Ao31 y217.length co31) y217 from Kd.V_mk (by omega) hr34)
                        have HC221 := Aside0.mk (show y217.length ≤ co31 from by omega)
                        clear hr34 hC34 hroom34 hi034 hsz34
                        have KY34 := Aside0.mk hy34
                        clear hy34
                        replace q34 := eq_true q34
                        refine start_ (n := 7) (S := fun w' => True) (ds := []) #[false, false, false, false, false, false, false] (by kernel_rfl) rfl rfl trivial (fun hHeld => ?_)
                        generalize wr.drew = w33 at HO_0 HO_3 HO196 HB HO221 hHeld ⊢
                        refine pure_ (i := 0) (N := some 45) (v := ?_) (a' := ?_) #[true, false, false, false, false, false, false] rfl rfl (by kernel_rfl) (fun _ _ _ h => h) (Or.inl ⟨by rfl, ?_⟩) ?_ ?_
                        rotate_left
                        · intro w'
                          go_simp
                          with_reducible rfl
                        rotate_left
                        · simp only [Act.put, List.setIfInBounds_toArray, List.set_cons_zero, List.set_cons_succ, i64_w, i32_w]
                          rfl
                        refine pure_ (i := 3) (N := some 48) (v := ?_) (a' := ?_) #[true, false, false, true, false, false, false] rfl rfl (by kernel_rfl) (fun _ _ _ h => h) (Or.inl ⟨by rfl, ?_⟩) ?_ ?_
                        rotate_left
                        · intro w'
                          go_simp
                          with_reducible rfl
                        rotate_left
                        · simp only [Act.put, List.setIfInBounds_toArray, List.set_cons_zero, List.set_cons_succ, i64_w, i32_w]
                          rfl
                        refine pure_ (i := 4) (N := some 49) (v := ?_) (a' := ?_) #[true, false, false, true, true, false, false] rfl rfl (by kernel_rfl) (fun _ _ _ h => h) (Or.inl ⟨by rfl, ?_⟩) ?_ ?_
                        rotate_left
                        · intro w'
                          go_simp
                          with_reducible rfl
                        rotate_left
                        · simp only [Act.put, List.setIfInBounds_toArray, List.set_cons_zero, List.set_cons_succ, i64_w, i32_w]
                          rfl
                        refine one_ (i := 1) (N := some 46) #[true, true, false, true, true, false, false] rfl rfl (by kernel_rfl) (by decide) (fun K hK => ?_)
                        refine value_ (w1 := ?_) (v := ?_) (by rfl) rfl ?_ ?_
                        rotate_left 2
                        · go_simp
                          constructor
                          · rfl
                          · rfl
                        refine hK.out _ _ trivial (fun hHeld => ?_)
                        clear hK K
                        refine norm_ (a' := ?_) ?_ ?_
                        rotate_left
                        · show Act.put _ (some 46) _ = _
                          simp only [Act.put, List.setIfInBounds_toArray, List.set_cons_zero, List.set_cons_succ, i64_w, i32_w]
                          rfl
                        refine one_ (i := 2) (N := some 47) #[true, true, true, true, true, false, false] rfl rfl (by kernel_rfl) (by decide) (fun K hK => ?_)
                        refine Kd.R_append_step (Kd.int .u8) (w0 := w) w.heap.size (by rfl) (.tmp 45) (.tmp 46) 39 5 (.int .u8 0) 1 rfl Try.underlying39 info5 rfl (by decide) (by omega) u3 x3_1 255 [.int .u8 255] (fun k_ => (w.heap.size ≤ k_)) (fun _ => False) rfl rfl ?aP (fun _ hk => hk.elim) ?aF ?aO ?aB ?aS ?aL ?_
                        (case aP => exact rfl)
                        (case aB => exact (by repeat (first | (with_reducible first | exact HB.out | apply below_alloc | apply pw_below_drewN | apply below_drew1) | exact HB.out)))
                        (case aF => exact (fun k_ hk => (Nat.le_trans (below_size (by repeat (first | (with_reducible first | exact HB.out | apply below_alloc | apply pw_below_drewN | apply below_drew1) | exact HB.out))) hk)))
                        (case aO => exact (by (with_reducible repeat (first | apply Kd.R_alloc | apply Kd.R_drewN | apply Kd.R_drew)); exact HO_3.out))
                        (case aS => exact (below_size (by repeat (first | (with_reducible first | exact HB.out | apply below_alloc | apply pw_below_drewN | apply below_drew1) | exact HB.out))))
                        (case aL => have := LMc27.out; omega)
                        intro v215 w35 ho hb hg hat
                        rw [← Ny214.out] at ho
                        have n0_ := Aside0.mk (Kd.V_afterv (ok := (fun k_ => (P0_ k_ ∨ w.heap.size ≤ k_))) (by (with_reducible repeat (first | apply Kd.V_alloc | apply Kd.V_drewN | apply Kd.V_drew)); exact HO_0.out) hg hat)
                        have n1_ := Aside0.mk (Kd.V_afterv (ok := (fun k_ => (P0_ k_ ∨ w.heap.size ≤ k_))) (by (with_reducible repeat (first | apply Kd.V_alloc | apply Kd.V_drewN | apply Kd.V_drew)); exact HO196.out) hg hat)
                        have n2_ := Aside0.mk (Kd.V_afterv (ok := (fun k_ => (P0_ k_ ∨ w.heap.size ≤ k_))) (by (with_reducible repeat (first | apply Kd.V_alloc | apply Kd.V_drewN | apply Kd.V_drew)); exact HO221.out) hg hat)
                        have n3_ := Aside0.mk (hb)
                        have n4_ := Aside0.mk (ho)
                        clear HO_0
                        clear HO196
                        clear HO221
                        clear HB
                        clear HO_3
                        have HO_0 := n0_
                        have HO196 := n1_
                        have HO221 := n2_
                        have HB := n3_
                        have HO216 := n4_
                        clear n0_ n1_ n2_ n3_ n4_
                        clear ho hb hg hat
                        refine hK.out _ _ trivial (fun hHeld => ?_)
                        clear hK K
                        refine norm_ (a' := ?_) ?_ ?_
                        rotate_left
                        · show Act.put _ (some 47) _ = _
                          simp only [Act.put, List.setIfInBounds_toArray, List.set_cons_zero, List.set_cons_succ, i64_w, i32_w]
                          rfl
                        refine one_ (i := 5) (N := some 50) #[true, true, true, true, true, true, false] rfl rfl (by kernel_rfl) (by decide) (fun K hK => ?_)
                        refine Kd.R_append_rows_step (Kd.int .u8) (w0 := w) w.heap.size (by rfl) (.tmp 47) (.tmp 49) 39 5 (.int .u8 0) 1 rfl Try.underlying39 info5 rfl (by decide) (by omega) v215 y214 y217 _ _ _ (fun k_ => (w.heap.size ≤ k_)) (fun _ => False) rfl rfl ?aO ?aR (fun _ _ h => h) (fun _ h => h.elim) ?aF ?aB ?aS ?aL ?_
                        (case aR => repeat (first | exact (Kd.V_reads' HO221.out).2.2 | (with_reducible refine Kd.C_alloc ?_ _) | (with_reducible refine Kd.C_drewN ?_ _) | (with_reducible refine Kd.C_drew ?_)))
                        (case aB => exact (by repeat (first | (with_reducible first | exact HB.out | apply below_alloc | apply pw_below_drewN | apply below_drew1) | exact HB.out)))
                        (case aF => exact (fun k_ hk => (Nat.le_trans (below_size (by repeat (first | (with_reducible first | exact HB.out | apply below_alloc | apply pw_below_drewN | apply below_drew1) | exact HB.out))) hk)))
                        (case aO => exact (by (with_reducible repeat (first | apply Kd.R_alloc | apply Kd.R_drewN | apply Kd.R_drew)); exact HO216.out))
                        (case aS => exact (below_size (by repeat (first | (with_reducible first | exact HB.out | apply below_alloc | apply pw_below_drewN | apply below_drew1) | exact HB.out))))
                        (case aL => have := LMc29.out; omega)
                        intro v223 w36 ho hb hg hat
                        rw [← Ny222.out] at ho
                        have n0_ := Aside0.mk (Kd.V_afterv (ok := (fun k_ => (P0_ k_ ∨ w.heap.size ≤ k_))) (by (with_reducible repeat (first | apply Kd.V_alloc | apply Kd.V_drewN | apply Kd.V_drew)); exact HO_0.out) hg hat)
                        have n1_ := Aside0.mk (Kd.V_afterv (ok := (fun k_ => (P0_ k_ ∨ w.heap.size ≤ k_))) (by (with_reducible repeat (first | apply Kd.V_alloc | apply Kd.V_drewN | apply Kd.V_drew)); exact HO196.out) hg hat)
                        have n2_ := Aside0.mk (Kd.V_afterv (ok := (fun k_ => (P0_ k_ ∨ w.heap.size ≤ k_))) (by (with_reducible repeat (first | apply Kd.V_alloc | apply Kd.V_drewN | apply Kd.V_drew)); exact HO221.out) hg hat)
                        have n3_ := Aside0.mk (hb)
                        have n4_ := Aside0.mk (ho)
                        clear HO_0
                        clear HO196
                        clear HO221
                        clear HB
                        clear HO216
                        have HO_0 := n0_
                        have HO196 := n1_
                        have HO221 := n2_
                        have HB := n3_
                        have HO224 := n4_
                        clear n0_ n1_ n2_ n3_ n4_
                        clear ho hb hg hat
                        refine hK.out _ _ trivial (fun hHeld => ?_)
                        clear hK K
                        refine norm_ (a' := ?_) ?_ ?_
                        rotate_left
                        · show Act.put _ (some 50) _ = _
                          simp only [Act.put, List.setIfInBounds_toArray, List.set_cons_zero, List.set_cons_succ, i64_w, i32_w]
                          rfl
                        refine pure_ (i := 6) (N := some 3) (v := ?_) (a' := ?_) #[true, true, true, true, true, true, true] rfl rfl (by kernel_rfl) (fun _ _ _ h => h) (Or.inl ⟨by rfl, ?_⟩) ?_ ?_
                        rotate_left
                        · intro w'
                          go_simp
                          with_reducible rfl
                        rotate_left
                        · simp only [Act.put, List.setIfInBounds_toArray, List.set_cons_zero, List.set_cons_succ, i64_w, i32_w]
                          rfl
                        refine done_ (by kernel_rfl) ?_
                        have q37 : (254 : Int) ≤ ((x0_1.length : Int) : Int) := of_decide_eq_true (by first | (with_reducible assumption) | assumption)
                        obtain ⟨i037, hi037, _, hsz37, _⟩ := info_parts info5
                        have hroom37 : x0_1.length ≤ co31 := (Kd.V_reads' HO_0.out).2.1
                        have hC37 : Kd.F (Kd.int .u8) _ _ Ao31 x0_1.length x0_1 := (Kd.V_at (base := w.heap.size) HO_0.out).2.2
                        have hcut37 := cut_from (P := Try.prog) 39 5 .i64 Try.underlying39 hi037 1 hsz37 Ao31 x0_1.length co31 254 (by omega) q37
                        have hr37 := Kd.F_cut (m := (254 : Int).toNat) (c := co31) hC37 (by omega) hroom37
                        obtain ⟨A37, hA37⟩ : ∃ A1, A1 = (if co31 = (254 : Int).toNat then Ao31 else (Ao31 : Option Addr).map (·.add ((254 : Int).toNat * 1))) := ⟨_, rfl⟩
                        obtain ⟨c37, hc37⟩ : ∃ c1, c1 = co31 - (254 : Int).toNat := ⟨_, rfl⟩
                        have hy37 : y225.length = x0_1.length - (254 : Int).toNat := (by rw [Ny225.out, List.length_drop] <;> omega)
                        rw [show (x0_1).drop (254 : Int).toNat = y225 from Ny225.out.symm] at hr37
                        replace hr37 : Kd.F (Kd.int .u8) _ _ A37 y225.length y225 := (by rw [hA37]; exact hr37)
                        rw [← hy37, ← hA37, ← hc37] at hcut37
                        have HO229 := Aside0.mk (show Kd.V (Kd.int .u8) 5 _ w.heap.size _ (.slice A37 y225.length c37) y225 from Kd.V_mk (by rw [hy37, hc37]; exact Nat.sub_le_sub_right hroom37 _) hr37)
                        have HC229 := Aside0.mk (show y225.length ≤ c37 from by rw [hy37, hc37]; exact Nat.sub_le_sub_right hroom37 _)
                        clear hr37 hC37 hroom37 hi037 hsz37 hc37
                        have KY37 := Aside0.mk hy37
                        have KA37 := Aside0.mk hA37
                        clear hy37 hA37
                        replace q37 := eq_true q37
                        try go_wp2
                        go_roundg k1
                        case measure => have := HK1.out; omega
                        case rel => exact ⟨(y225), (y222), H', ⟨by have := HK1.out; omega⟩, ⟨by (with_reducible repeat (first | apply Kd.V_alloc | apply Kd.V_drewN | apply Kd.V_drew)); exact HO229.out⟩, ⟨by (with_reducible repeat (first | apply Kd.R_alloc | apply Kd.R_drewN | apply Kd.R_drew)); exact HO224.out⟩, ⟨by repeat (first | (with_reducible first | exact HB.out | apply below_alloc | apply pw_below_drewN | apply below_drew1) | exact HB.out)⟩⟩
                      · rw [if_neg c29] at H
                        exact absurd H (by simp)
                    · rw [if_neg c28] at H
                      exact absurd H (by simp)
                  · rw [if_neg c27] at H
                    exact absurd H (by simp)
                · rw [if_neg c26] at H
                  have c26b0 : decide (254 < (x0_1.length : Int)) = false := decide_eq_false c26
                  have c26b1 : decide (254 < x0_1.length) = false := decide_eq_false (by omega)
                  clear c26
                  by_cases c38 : x3_1.length < 140737488355328
                  · rw [if_pos c38] at H
                    have LMc38 := Aside0.mk c38
                    clear c38
                    obtain ⟨y230, hy230⟩ : ∃ y_ : List Int, y_ = (x3_1 ++ [(wrap64 ((x0_1.length : Int) + 1)) % 256]) := ⟨_, rfl⟩
                    replace H : (if y230.length + x0_1.length < 140737488355328 then (some (y230 ++ x0_1)) else (none)) = some r := by first | (rw [hy230]; with_reducible exact H) | (have H2_ := (Option.bind_some _ _).symm.trans H; rw [hy230]; with_reducible exact H2_) | (have H2_ := (Option.bind_some _ _).symm.trans H; with_reducible exact H2_) | with_reducible exact H | (rw [hy230]; exact H) | exact H
                    have Ny230 := Aside0.mk hy230
                    clear hy230
                    by_cases c39 : y230.length + x0_1.length < 140737488355328
                    · rw [if_pos c39] at H
                      have LMc39 := Aside0.mk c39
                      clear c39
                      obtain ⟨y233, hy233⟩ : ∃ y_ : List Int, y_ = (y230 ++ x0_1) := ⟨_, rfl⟩
                      replace H : (some y233) = some r := by first | (rw [hy233]; with_reducible exact H) | (have H2_ := (Option.bind_some _ _).symm.trans H; rw [hy233]; with_reducible exact H2_) | (have H2_ := (Option.bind_some _ _).symm.trans H; with_reducible exact H2_) | with_reducible exact H | (rw [hy233]; exact H) | exact H
                      have Ny233 := Aside0.mk hy233
                      clear hy233
                      obtain rfl := Option.some.inj H
                      obtain ⟨Ao40, co40, eo40⟩ := Kd.V_slice HO_0.out
                      subst eo40
                      have q41 : ((ji7) : Int) ≤ ((x0_1.length : Int) : Int) := of_decide_eq_true (by first | (with_reducible assumption) | assumption)
                      obtain ⟨i041, hi041, _, hsz41, _⟩ := info_parts info5
                      have hroom41 : x0_1.length ≤ co40 := (Kd.V_reads' HO_0.out).2.1
                      have hC41 : Kd.F (Kd.int .u8) _ _ Ao40 x0_1.length x0_1 := (Kd.V_at (base := w.heap.size) HO_0.out).2.2
                      have hcut41 := cut_to (P := Try.prog) 39 5 .i64 Try.underlying39 hi041 Ao40 x0_1.length co40 (ji7) (of_decide_eq_true (by first | (with_reducible assumption) | assumption)) q41 hroom41
                      have hr41 := Kd.F_take (m := ((ji7) : Int).toNat) hC41 (by omega)
                      have hy41 : y192.length = ((ji7) : Int).toNat := (by rw [Ny192.out, List.length_take]; omega)
                      rw [← Ny192.out] at hr41
                      rw [← hy41] at hcut41
                      have HO196 := Aside0.mk (show Kd.V (Kd.int .u8) 5 _ w.heap.size _ (.slice Ao40 y192.length co40) y192 from Kd.V_mk (by omega) hr41)
                      have HC196 := Aside0.mk (show y192.length ≤ co40 from by omega)
                      clear hr41 hC41 hroom41 hi041 hsz41
                      have KY41 := Aside0.mk hy41
                      clear hy41
                      replace q41 := eq_true q41
                      go_wp2_with (first | ((with_reducible refine gate_callee (f := 109) rfl ?_); refine goesL_ (some 14) rfl rfl Try.func109 (by kernel_rfl) rfl #[.slice Ao40 y192.length co40, .int .u8 0] rfl (by (try simp only [List.map_toArray, List.map_cons, List.map_nil]); first | done | rfl | (simp only [List.length_drop, List.length_take]; rfl) | (refine congrArg (fun z => #[Value.int .u64 z]) ?_; rw [IntKind.wrap_u64]; omega)) ?_; (with_reducible refine (bytes_IndexByte.calls _ _ y192 0 t197 _ ?side1 ?side2 A10.out).mono ?_); (case side1 => repeat (first | exact (Kd.V_reads' HO196.out).2.2 | (with_reducible refine Kd.C_alloc ?_ _) | (with_reducible refine Kd.C_drewN ?_ _) | (with_reducible refine Kd.C_drew ?_))); (case side2 => exact (Kd.V_reads' HO196.out).2.1); rintro e w' ⟨rfl, ⟨nd, rfl⟩⟩; refine ⟨_, rfl, ?_⟩) | ((with_reducible refine gate_builtin (b := .append) (xs := #[.tmp 15, .tmp 20]) rfl ?_); at_builtin; refine Kd.R_append (Kd.int .u8) (w0 := w) w.heap.size rfl (.tmp 15) (.tmp 20) 39 5 (.int .u8 0) 1 rfl Try.underlying39 info5 rfl (by decide) (by omega) u3 x3_1 ((wrap64 ((x0_1.length : Int) + 1)) % 256) [.int .u8 ((wrap64 ((x0_1.length : Int) + 1)) % 256)] (fun k_ => (w.heap.size ≤ k_)) (fun _ => False) rfl rfl ?aP (fun _ hk => hk.elim) ?aF ?aO ?aB ?aS ?aL ?_; (case aP => exact rfl); (case aB => exact (by repeat (first | (with_reducible first | exact HB.out | apply below_alloc | apply pw_below_drewN | apply below_drew1) | exact HB.out))); (case aF => exact (fun k_ hk => (Nat.le_trans (below_size (by repeat (first | (with_reducible first | exact HB.out | apply below_alloc | apply pw_below_drewN | apply below_drew1) | exact HB.out))) hk))); (case aO => exact (by (with_reducible repeat (first | apply Kd.R_alloc | apply Kd.R_drewN | apply Kd.R_drew)); exact HO_3.out)); (case aS => exact (below_size (by repeat (first | (with_reducible first | exact HB.out | apply below_alloc | apply pw_below_drewN | apply below_drew1) | exact HB.out)))); (case aL => have := LMc38.out; omega); intro v231 w42 ho hb hg hat; rw [← Ny230.out] at ho; have n0_ := Aside0.mk (Kd.V_afterv (ok := (fun k_ => (P0_ k_ ∨ w.heap.size ≤ k_))) (by (with_reducible repeat (first | apply Kd.V_alloc | apply Kd.V_drewN | apply Kd.V_drew)); exact HO_0.out) hg hat); have n1_ := Aside0.mk (Kd.V_afterv (ok := (fun k_ => (P0_ k_ ∨ w.heap.size ≤ k_))) (by (with_reducible repeat (first | apply Kd.V_alloc | apply Kd.V_drewN | apply Kd.V_drew)); exact HO196.out) hg hat); have n2_ := Aside0.mk (hb); have n3_ := Aside0.mk (ho); clear HO_0; clear HO196; clear HB; clear HO_3; have HO_0 := n0_; have HO196 := n1_; have HB := n2_; have HO232 := n3_; clear n0_ n1_ n2_ n3_; clear ho hb hg hat) | ((with_reducible refine gate_builtin (b := .append) (xs := #[.tmp 21, .tmp 22]) rfl ?_); at_builtin; refine Kd.R_append_rows (Kd.int .u8) (w0 := w) w.heap.size rfl (.tmp 21) (.tmp 22) 39 5 (.int .u8 0) 1 rfl Try.underlying39 info5 rfl (by decide) (by omega) v231 y230 x0_1 _ _ _ (fun k_ => (w.heap.size ≤ k_)) (fun _ => False) rfl rfl ?aO ?aR (fun _ _ h => h) (fun _ h => h.elim) ?aF ?aB ?aS ?aL ?_; (case aR => repeat (first | exact (Kd.V_reads' HO_0.out).2.2 | (with_reducible refine Kd.C_alloc ?_ _) | (with_reducible refine Kd.C_drewN ?_ _) | (with_reducible refine Kd.C_drew ?_))); (case aB => exact (by repeat (first | (with_reducible first | exact HB.out | apply below_alloc | apply pw_below_drewN | apply below_drew1) | exact HB.out))); (case aF => exact (fun k_ hk => (Nat.le_trans (below_size (by repeat (first | (with_reducible first | exact HB.out | apply below_alloc | apply pw_below_drewN | apply below_drew1) | exact HB.out))) hk))); (case aO => exact (by (with_reducible repeat (first | apply Kd.R_alloc | apply Kd.R_drewN | apply Kd.R_drew)); exact HO232.out)); (case aS => exact (below_size (by repeat (first | (with_reducible first | exact HB.out | apply below_alloc | apply pw_below_drewN | apply below_drew1) | exact HB.out)))); (case aL => have := LMc39.out; omega); intro v234 w43 ho hb hg hat; rw [← Ny233.out] at ho; have n0_ := Aside0.mk (Kd.V_afterv (ok := (fun k_ => (P0_ k_ ∨ w.heap.size ≤ k_))) (by (with_reducible repeat (first | apply Kd.V_alloc | apply Kd.V_drewN | apply Kd.V_drew)); exact HO_0.out) hg hat); have n1_ := Aside0.mk (Kd.V_afterv (ok := (fun k_ => (P0_ k_ ∨ w.heap.size ≤ k_))) (by (with_reducible repeat (first | apply Kd.V_alloc | apply Kd.V_drewN | apply Kd.V_drew)); exact HO196.out) hg hat); have n2_ := Aside0.mk (hb); have n3_ := Aside0.mk (ho); clear HO_0; clear HO196; clear HB; clear HO232; have HO_0 := n0_; have HO196 := n1_; have HB := n2_; have HO235 := n3_; clear n0_ n1_ n2_ n3_; clear ho hb hg hat))
                      go_ret
                      exact ⟨_, by first | rfl | (simp [errW_none, errW_some] <;> rfl) | (simp only [← hji7]; first | rfl | (simp [errW_none, errW_some] <;> rfl)) | (simp [*, errW_none, errW_some] <;> rfl), by (with_reducible repeat (first | apply Kd.R_alloc | apply Kd.R_drewN | apply Kd.R_drew)); exact HO235.out, by repeat (first | (with_reducible first | exact HB.out | apply below_alloc | apply pw_below_drewN | apply below_drew1) | exact HB.out)⟩
                    · rw [if_neg c39] at H
                      exact absurd H (by simp)
                  · rw [if_neg c38] at H
                    exact absurd H (by simp)
            · rw [if_neg c9] at H
              exact absurd H (by simp)
          · rw [if_neg c8] at H
            exact absurd H (by simp)
    · rw [if_neg c4] at H
      exact absurd H (by simp)
  · rw [if_neg c3] at H
    exact absurd H (by simp)
def bytes_Equal.f (l0 : List Int) (l1 : List Int) : Option (Bool) := some ((strOfNums l0).toList == (strOfNums l1).toList)
set_option maxHeartbeats 8000000 in
set_option maxRecDepth 100000 in
theorem bytes_Equal.calls (A0 : Option Addr) (c0 : Nat) (l0 : List Int) (A1 : Option Addr) (c1 : Nat) (l1 : List Int) (r : Bool) (w : World) (hr0 : Kd.C (Kd.int .u8) w A0 l0.length l0) (hc0 : l0.length ≤ c0) (hr1 : Kd.C (Kd.int .u8) w A1 l1.length l1) (hc1 : l1.length ≤ c1) (h : bytes_Equal.f l0 l1 = some r) :
    Calls Try.prog 110 #[.slice A0 l0.length c0, .slice A1 l1.length c1] w fun e w' => e = .returned (.bool r) ∧ Drawn0 w w' := by
  have HR0 := Aside0.mk hr0
  have HC0 := Aside0.mk hc0
  clear hr0 hc0
  have HR1 := Aside0.mk hr1
  have HC1 := Aside0.mk hc1
  clear hr1 hc1
  have H : (some ((strOfNums l0).toList == (strOfNums l1).toList)) = some r := h
  clear h
  obtain rfl := Option.some.inj H
  have hcv3 := Kd.C_string (P := Try.prog) (A := A0) (c := c0) Try.underlying39 Try.underlying5 Try.underlying9 HR0.out
  have hcv4 := Kd.C_string (P := Try.prog) (A := A1) (c := c1) Try.underlying39 Try.underlying5 Try.underlying9 HR1.out
  go_enter Try.func110, Try.ntmps110
  go_wp2
  go_ret
  exact ⟨by first | rfl | (simp; done) | (simp [*]; done), by repeat (first | exact Drawn0.refl _ | apply Drawn0.step)⟩
end Go.Proofs.Ytekanmieppnpeaa.G
end
