/- fence.Of, walked: a loop over slices.Chunk. -/
import Derived.Test.YtnmdckgaljldhaaHChunkF
import Derived.Test.YtnmdckgaljldhaaHTable11
import Derived.Shelf.RegionOpen
set_option linter.unusedVariables false
set_option linter.unusedSimpArgs false
namespace Go.Proofs.Ytnmdckgaljldhaa.Fe
open Go Go.RowKit Go.Proofs.YtnmdckgaljldhaaW.PrintWords Go.Proofs.YtnmdckgaljldhaaW.PrintLast Go.Proofs.YtnmdckgaljldhaaW.PrintMore Go.Proofs.Ytnmdckgaljldhaa.Sep Go.Proofs.Ytnmdckgaljldhaa.G Go.Proofs.Ytnmdckgaljldhaa.Tb
set_option maxHeartbeats 4000000
set_option maxRecDepth 100000
attribute [local go_sem] Oper.semAt_some
/-- append, under a name that the walk leaves alone. -/
def appX (ats : Array TypeId) (ty : TypeId) (args : Array Value) := Builtin.append_ ats ty args
theorem builtin_appX (ats : Array TypeId) (ty : TypeId) (cs : Array Bool) (args : Array Value) : builtin .append ats ty cs args = (do pure (.value (← appX ats ty args))) := rfl
attribute [local go_sem ↓ high] builtin_appX

/-- The k-th fence. -/
def fenceAt (l : List E1) (k : Nat) : Int := (rd_T81 l ((16 * k : Nat) : Int)).f0
def fencesE (l : List E1) : List Int := (List.range (chunks l.length)).map (fenceAt l)

theorem chunk_stops (F : Fence) (n : Nat) (hf : F.fn 122) (hro : F.round = none) (hn : 1 ≤ n) (B1 B2 n₀ len cap : Nat) (ad : Addr) (A : Option Addr) (hA : 0 < len → A = some ad) (hlen : len ≤ 1000000) (hcap : len ≤ cap) (w : World)
    (hB1 : Boxed w B1 77 (.slice A len cap)) (hB2 : Boxed w B2 3 (.int .i64 16)) :
    SeqStopsK F n Try.prog 122 #[.pointer (some ⟨B1, 0, none⟩), .pointer (some ⟨B2, 0, none⟩)] (fun k : CI len => #[chunkV ad len k.1]) (KpC n₀ B1 B2 (.slice A len cap)) (fun ys => ys.map (·.1) = List.range (chunks len)) (fun _ => True) (chunks len) w := fun l J Jx W hW hJ _ hY h0 =>
  chunk1_in F n hf hro hn l B1 B2 n₀ len cap ad A hA hlen hcap J Jx (fun pre W h => hJ _ _ _ none h ⟨rfl, rfl, rfl, Nat.le_refl _, fun _ _ _ => rfl⟩ (fun r e => by cases e)) hY W ((hW.block B1 hB1.lt).trans hB1) ((hW.block B2 hB2.lt).trans hB2) h0

theorem fence_Of_in (F : Fence) (n : Nat) (h1 : F.fn 53) (h2 : F.fn 93) (h3 : F.fn 122) (hro : F.round = none) (hn : 3 ≤ n) (A : Option Addr) (cap : Nat) (l : List E1) (hlen : l.length ≤ 1000000) (hcap : l.length ≤ cap) (w : World) (hC : kE.C w A l.length l) :
    CallsIn F n Try.prog 53 #[.slice A l.length cap] w fun e W' => ∃ v, e = .returned v ∧ W'.ownsRow w.heap.size 39 1 v (fencesE l).length ((fencesE l).map (Value.int .u64)) ∧ Below w.heap.size w W' := by
  have hn1 : 1 ≤ n := by omega
  have infoU : (Try.prog.info? 39).map (fun i => (i.zero, i.size, i.bytes)) = some (some (.int .u64 0), 1, 8) := by kernel_rfl
  obtain ⟨i0, hi, hz0, hz1, hz2⟩ := info_parts infoU
  obtain ⟨ad, hA⟩ : ∃ ad : Addr, 0 < l.length → A = some ad := by
    cases A with
    | some ad => exact ⟨ad, fun _ => rfl⟩
    | none => exact ⟨⟨0, 0, none⟩, fun h => by obtain ⟨ad, e, _⟩ := at_T81 hC 0 (by omega) (by omega); cases e⟩
  refine callsIn_of_wp_marks Try.func53 rfl h1 ?_ hro
  simp only [Try.ntmps53, List.size_toArray, List.length_cons, List.length_nil, Nat.reduceAdd, Nat.reduceSub, Array.replicate_succ, Array.replicate_zero, List.push_toArray, List.append_toArray, List.nil_append, List.cons_append]
  gi_wp2_with (gi_at_call 93; refine (chunk_in F (n - 1) h2 hro _ _ _ _).mono ?_; rintro e w' ⟨rfl, rfl⟩)
  have bO := Boxed.new w 26 (.slice none 0 0)
  have bS := Boxed.new (w.alloc (.cells #[.slice none 0 0] 26)) 77 (.slice A l.length cap)
  have bN := Boxed.new ((w.alloc (.cells #[.slice none 0 0] 26)).alloc (.cells #[.slice A l.length cap] 77)) 3 (.int .i64 16)
  rw [World.size_alloc] at bS
  rw [World.size_alloc, World.size_alloc] at bN
  have hB0 : Below w.heap.size w (((w.alloc (.cells #[.slice none 0 0] 26)).alloc (.cells #[.slice A l.length cap] 77)).alloc (.cells #[.int .i64 16] 3)) := (((Below.refl _ w).alloc (Nat.le_refl _) _).alloc (by simp) _).alloc (by simp; omega) _
  obtain ⟨g, hg⟩ : ∃ g : CI l.length → Int, g = fun x => fenceAt l x.1 := ⟨_, rfl⟩
  refine wpIn_rangeFunc_ownG (α := CI l.length) hro hn1 (gf := 122) (lb := #[.pointer (some ⟨w.heap.size + 1, 0, none⟩), .pointer (some ⟨w.heap.size + 1 + 1, 0, none⟩)]) rfl h3 (enters_of Try.func122 (by kernel_rfl) rfl)
    (chunk_stops F (n - 1) h3 hro (by omega) (w.heap.size + 1) (w.heap.size + 1 + 1) w.heap.size l.length cap ad A hA hlen hcap _ (bS.alloc _) bN) KpC.trans ?hKb (Below.refl _ _) (fun _ => rfl)
    (fun (pre : List (CI l.length)) W => (∃ v, Boxed W w.heap.size 26 v ∧ W.ownsRow w.heap.size 39 1 v pre.length ((pre.map g).map (Value.int .u64)) ∧ True) ∧ Below w.heap.size w W)
    (fun _ _ _ => False)
    (OwnFrom.and (Own.from (holdsRow_own w.heap.size w.heap.size 26 39 1 (fun pre : List (CI l.length) => pre.length) (fun pre : List (CI l.length) => (pre.map g).map (Value.int .u64)) (fun (pre : List (CI l.length)) v => True)) _) (ownFrom_below (Nat.le_refl _) (by simp; omega)))
    (fun _ _ _ _ _ hs _ _ => hs)
    ⟨⟨_, (bO.alloc _).alloc _, World.ownsRow_nil _ _ _ _, trivial⟩, hB0⟩
    (fun x => { tmps := #[.slice A l.length cap, undef, .slice none 0 0, .pointer (some ⟨w.heap.size, 0, none⟩), chunkV ad l.length x.1, .slice A l.length cap, .func (.func 122) #[] #[.pointer (some ⟨w.heap.size + 1, 0, none⟩), .pointer (some ⟨w.heap.size + 1 + 1, 0, none⟩)], chunkV ad l.length x.1, undef, undef, undef, undef, undef, undef, undef, undef], defers := [] }) ?assign ?body ?done ?stop
  case hKb =>
    intro W q o o' hq ho hc hw
    have hq2 : w.heap.size + 3 ≤ q := by simpa using hq
    refine ⟨(belowK_b (w := w) (Nat.le_refl _)) W q o o' (by omega) ho hc hw, fun hb => ?_, fun hb => ?_⟩
    · exact (World.putObj_heap_other (by omega)).trans hb
    · exact (World.putObj_heap_other (by omega)).trans hb
  case assign =>
    intro lo x W K hK
    gi_wp2
    exact hK
  case body =>
    rintro lo pre x W ⟨⟨v, hv, hrow, -⟩, hB⟩ hlt
    have hxl := x.2
    obtain rfl := hA (by omega)
    obtain ⟨ad2, ea, hx0, hx1⟩ := at_T81 (Kd.C_below hC hB) ((16 * x.1 : Nat) : Int) (by omega) (by omega)
    cases ea
    rw [Int.toNat_natCast] at hx0
    have hgx : (rd_T81 l ((16 * x.1 : Nat) : Int)).f0 = g x := by rw [hg]; rfl
    rw [hgx] at hx0
    clear hgx hg
    obtain ⟨q, hq⟩ : ∃ q : Nat, min 16 (l.length - 16 * x.1) = q := ⟨_, rfl⟩
    have hqp : 0 < q := by omega
    have hcv : chunkV ad l.length x.1 = .slice (some (ad.add (16 * x.1 * 2))) q q := by unfold chunkV; rw [hq]
    rw [hcv]
    have hpl : pre.length ≤ 1000000 := by unfold chunks at hlt; omega
    have hvd : Boxed W.drew w.heap.size 26 v := hv
    have hrowd : W.drew.ownsRow w.heap.size 39 1 v pre.length ((pre.map g).map (Value.int .u64)) := hrow
    obtain ⟨v', w1, hrun, hown', hgrow, -⟩ := run_append_own (P := Try.prog) (w := W.drew.alloc (.cells #[.int .u64 (g x)] 39)) w.heap.size 26 26 39 i0 (.int .u64 0) 1 8 Try.underlying26 hi hz0 hz1 hz2 rfl (by decide) v pre.length _ (hrowd.alloc _) ⟨W.heap.size, 0, none⟩ 1 1 [.int .u64 (g x)] rfl (cell_one_new _ _ _) (by simp [Value.oneCell']) (by unfold maxLen; omega) (by omega) (by have := hB.size; simp; omega)
    obtain ⟨g', cap', rfl⟩ := ownsRow_succ hown'
    replace hrun : (appX #[26, 26] 26 #[v, .slice (some ⟨W.heap.size, 0, none⟩) 1 1]).run Try.prog ((W.alloc (.cells #[.int .u64 (g x)] 39)).drew) = .ok (.slice (some ⟨g', 0, none⟩) (pre.length + 1) cap') w1 := hrun
    obtain ⟨hv1, hv2, hr2, hk2, hb2'⟩ := hvd.appended (by decide) hrowd hB.size (Nat.le_refl _) hown' hgrow
    have hb2 : Below w.heap.size W (w1.setCell ⟨w.heap.size, 0, none⟩ (.slice (some ⟨g', 0, none⟩) (pre.length + 1) cap')) := ⟨hb2'.os, hb2'.tape, hb2'.output, hb2'.size, hb2'.block⟩
    clear hb2'
    have hKB : KpC w.heap.size (w.heap.size + 1) (w.heap.size + 1 + 1) (.slice (some ad) l.length cap) W (w1.setCell ⟨w.heap.size, 0, none⟩ (.slice (some ⟨g', 0, none⟩) (pre.length + 1) cap')) :=
      ⟨hb2, fun hb => (((show Boxed W.drew _ _ _ from hb).alloc _).kept hgrow (Boxed.not_row (show Boxed W.drew _ _ _ from hb) (by decide) hrowd)).other (by omega) _, fun hb => (((show Boxed W.drew _ _ _ from hb).alloc _).kept hgrow (Boxed.not_row (show Boxed W.drew _ _ _ from hb) (by decide) hrowd)).other (by omega) _⟩
    have hc := hv.cell
    have hcA : (W.alloc (.cells #[.int .u64 (g x)] 39)).cell? ⟨w.heap.size, 0, none⟩ = some v := (hv.alloc _).cell
    have hcB : (W.alloc (.cells #[.int .u64 (g x)] 39)).drew.cell? ⟨w.heap.size, 0, none⟩ = some v := (hv.alloc _).cell
    have hc1 := hv1.cell
    have hf1 := hv1.frozen
    have hm : Try.prog.follows .mixedOrders = true := by kernel_rfl
    have hAll := Aside0.mk (And.intro hKB (And.intro hv2 (And.intro hr2 (And.intro hk2 hb2))))
    clear hKB hv2 hr2 hk2 hb2 hv1 hgrow hown' hvd hrowd hcv hx1
    gi_wp2
    gi_region_with_o (fail)
    all_goals (
      gi_wp2
      obtain ⟨k1, k2, k3, k4, k5⟩ := hAll.out
      exact ⟨((KeepsOthers.drew W).trans k4).from _, k1, ⟨_, k2, by rw [List.length_append, List.map_append, List.map_append]; exact k3, trivial⟩, hB.trans k5⟩)
  case done =>
    rintro D ys W hD hS ⟨⟨v, hv, hrow, -⟩, hB⟩ hK
    have hc := hv.cell
    have hys : ys.map g = fencesE l := by
      have : (ys.map (·.1)).map (fenceAt l) = fencesE l := by rw [hS]; rfl
      rw [List.map_map] at this
      rw [hg]; exact this
    have hyl : ys.length = (fencesE l).length := by rw [← hys, List.length_map]
    rw [hys, hyl] at hrow
    gi_wp2
    refine ⟨by simp, .inl ⟨_, _, rfl, run_takeDeferred hK, ?_⟩⟩
    exact ⟨_, results_tmp rfl _ _ _, v, rfl, ownsRow_putObj hrow _ hK rfl, hB.trans (belowK_b (w := w) (Nat.le_refl _) W D _ _ (by simp at hD; omega) hK rfl rfl)⟩
  case stop =>
    rintro D c pre W _ _ h _
    exact h.elim

/-- fence.Of: the fences of a row of entries. -/
theorem fence_Of (A : Option Addr) (cap : Nat) (l : List E1) (hlen : l.length ≤ 1000000) (hcap : l.length ≤ cap) (w : World) (hC : kE.C w A l.length l) :
    Calls Try.prog 53 #[.slice A l.length cap] w fun e W' => ∃ v, e = .returned v ∧ (Kd.int .u64).R 39 W' w.heap.size (fun _ => True) v (fencesE l) ∧ Below w.heap.size w W' := by
  refine (callsIn_wide (n := 3)).1 ((fence_Of_in Fence.wide 3 trivial trivial trivial rfl (by omega) A cap l hlen hcap w hC).mono ?_)
  rintro e W' ⟨v, rfl, hr, hb⟩
  exact ⟨v, rfl, Kd.R_of_own hr (fun _ _ => trivial), hb⟩
end Go.Proofs.Ytnmdckgaljldhaa.Fe
