/- fasciclelaw11.TableFinds holds; for every input, no condition. -/
import Derived.Test.YtnmdckgaljldhaaGx6
import Derived.Test.YtnmdckgaljldhaaGx4
import Derived.Test.YtnmdckgaljldhaaLTabA
import Derived.Test.YtnmdckgaljldhaaLSearch
import Derived.Test.YtnmdckgaljldhaaLRef04
import Derived.Test.YtnmdckgaljldhaaHTHash
set_option linter.unusedVariables false
set_option linter.unusedSimpArgs false
namespace Go.Proofs.Ytnmdckgaljldhaa.Pure
open Go Go.RowKit Go.Proofs.Ytnmdckgaljldhaa.G Go.Proofs.YtnmdckgaljldhaaW.PrintWords Go.Proofs.YtnmdckgaljldhaaW.PrintLast Go.Proofs.Ytnmdckgaljldhaa.PureKit Go.Proofs.Ytnmdckgaljldhaa.Sep Go.Proofs.Ytnmdckgaljldhaa.Tb Go.Proofs.Ytnmdckgaljldhaa.Rol

theorem hashes_ex (l : List E1) (hl : l.length ≤ 1000) : ∀ (d i : Nat) (acc : List Int), i + d = l.length → acc.length ≤ i → ∃ hs : List Int, hs.length ≤ l.length ∧ Ev (fun k => fasciclelaw11_hashes.l0 k acc l (l.length : Int) (i : Int)) hs
  | 0, i, acc, h, ha => ⟨acc, by omega, Ev.step (f := fun _ => some acc) (fun k => by unfold fasciclelaw11_hashes.l0; rw [if_neg (by omega)]) (Ev.now _)⟩
  | d + 1, i, acc, h, ha => by
    obtain ⟨hs, h1, h2⟩ := hashes_ex l hl d (i + 1) (acc ++ [(rd_T81 l (i : Int)).f0]) (by omega) (by rw [List.length_append]; simp; omega)
    refine ⟨hs, h1, Ev.step (f := fun k => fasciclelaw11_hashes.l0 k (acc ++ [(rd_T81 l (i : Int)).f0]) l (l.length : Int) ((i + 1 : Nat) : Int)) (fun k => ?_) h2⟩
    simp only [fasciclelaw11_hashes.l0]
    rw [if_pos (by omega), if_pos (by omega), if_pos (by omega), if_pos (by omega), inc64 (by omega)]

/-- The document's counts, up to the i-th entry. -/
theorem reffind_loop (l : List E1) (hp : l.Pairwise lessE) (hl : l.length ≤ 1000) (h : Int) : ∀ (d i : Nat), i + d = l.length → Ev (fun k => fascicleref11_Find.l0 k h ((min i (findF l h) : Nat) : Int) ((min i (findF l h + findN l h) : Nat) : Int) (refsE l) (l.length : Int) (i : Int)) (((findF l h : Nat) : Int), ((findF l h + findN l h : Nat) : Int))
  | 0, i, hi => by
    obtain ⟨f1, -⟩ := findF_spec hp h
    obtain ⟨n1, -⟩ := findN_spec hp h
    refine Ev.step (f := fun _ => some (((findF l h : Nat) : Int), ((findF l h + findN l h : Nat) : Int))) (fun k => ?_) (Ev.now _)
    simp only [fascicleref11_Find.l0]
    rw [if_neg (by omega), show min i (findF l h) = findF l h by omega, show min i (findF l h + findN l h) = findF l h + findN l h by omega]
  | d + 1, i, hi => by
    have ih := reffind_loop l hp hl h d (i + 1) (by omega)
    obtain ⟨f1, f2⟩ := findF_spec hp h
    obtain ⟨n1, n2⟩ := findN_spec hp h
    obtain ⟨x, hx⟩ : ∃ x, l[i]? = some x := ⟨_, List.getElem?_eq_getElem (by omega)⟩
    have hrd : (rd_T130 (refsE l) (i : Int)).f0 = hsh l i := by
      rw [rdR l i x hx]
      unfold hsh
      rw [rdE l i x hx]
      rfl
    have hlt := f2 i (by omega)
    have hle := n2 i (by omega)
    have hinc : ∀ c : Nat, c ≤ 100000 → wrap64 ((c : Int) + 1) = ((c + 1 : Nat) : Int) := fun c hc => inc64 (by omega)
    clear f2 n2
    refine Ev.step (f := fun k => fascicleref11_Find.l0 k h ((min (i + 1) (findF l h) : Nat) : Int) ((min (i + 1) (findF l h + findN l h) : Nat) : Int) (refsE l) (l.length : Int) ((i + 1 : Nat) : Int)) (fun k => ?_) ih
    generalize hT : findF l h + findN l h = b at *
    generalize findF l h = a at *
    simp only [fascicleref11_Find.l0]
    rw [if_pos (by omega), if_pos (by omega), if_pos (by rw [refsE_len]; omega), hrd, hinc _ (by omega), hinc _ (by omega), hinc _ (by omega)]
    by_cases c1 : i < a
    · rw [if_pos (hlt.2 c1), show min i a + 1 = min (i + 1) a by omega]
      by_cases c2 : i < b
      · rw [if_pos (hle.2 c2), show min i b + 1 = min (i + 1) b by omega]
      · rw [if_neg (fun hh => c2 (hle.1 hh)), show min i b = min (i + 1) b by omega]
    · rw [if_neg (fun hh => c1 (hlt.1 hh)), show min i a = min (i + 1) a by omega]
      by_cases c2 : i < b
      · rw [if_pos (hle.2 c2), show min i b + 1 = min (i + 1) b by omega]
      · rw [if_neg (fun hh => c2 (hle.1 hh)), show min i b = min (i + 1) b by omega]
theorem reffind_ev (l : List E1) (hp : l.Pairwise lessE) (hl : l.length ≤ 1000) (h : Int) : Ev (fun k => fascicleref11_Find.f k (refsE l) h) (((findF l h : Nat) : Int), ((findF l h + findN l h : Nat) : Int)) := by
  have := reffind_loop l hp hl h l.length 0 (by omega)
  rw [Nat.zero_min, Nat.zero_min] at this
  unfold fascicleref11_Find.f
  rw [refsE_len]
  exact this
theorem finds_loop (s : List E1) (hp : s.Pairwise lessE) (hsl : s.length ≤ 60) (key : ByteArray) (hk : key.size ≤ 300) (hs : List Int) (hhl : hs.length ≤ 1000) : ∀ (d i : Nat), i + d = hs.length → Ev (fun k => fasciclelaw11_TableFinds.l0 k key s hs (hs.length : Int) (i : Int)) true
  | 0, i, h => by
    have hH : table_Hash.f key = some ((wsum 0 (sby key) : Nat) : Int) := by unfold table_Hash.f; exact if_pos (by omega)
    have hR := ref4_ev 0 (sby key) (by decide) (by decide) (sby_bytes key) (by rw [sby_len]; omega)
    rw [nums_sby] at hR
    refine Ev.step (f := fun k => (fascicleref04_Sum.f k 0 key).bind fun t169 => (some (((wsum 0 (sby key) : Nat) : Int) == t169))) (fun k => ?_) (Ev.bind (f := fun _ t169 => some (((wsum 0 (sby key) : Nat) : Int) == t169)) hR (ev_eq (Ev.now _) (beq_self_eq_true _)))
    simp only [fasciclelaw11_TableFinds.l0]
    rw [if_neg (by omega), hH, Option.bind_some]
  | d + 1, i, h => by
    have ih := finds_loop s hp hsl key hk hs hhl d (i + 1) (by omega)
    obtain ⟨x, hx⟩ : ∃ x, rd hs (i : Int) = x := ⟨_, rfl⟩
    have hfind : table_Find.f s x = some (((findF s x : Nat) : Int), ((findF s x + findN s x : Nat) : Int)) := by unfold table_Find.f; exact if_pos (by omega)
    have ha := reffind_ev s hp (by omega) x
    generalize hT : findF s x + findN s x = b at *
    generalize findF s x = a at *
    refine Ev.step (f := fun k => (fasciclelaw11_Refs.f k s).bind fun t173 => ((fascicleref11_Find.f k t173 x).bind fun bt176 => (if (a : Int) = bt176.1 then (if (b : Int) = bt176.2 then (fasciclelaw11_TableFinds.l0 k key s hs (hs.length : Int) ((i + 1 : Nat) : Int)) else (some false)) else (some false)))) (fun k => ?_) ?_
    · simp only [fasciclelaw11_TableFinds.l0]
      rw [if_pos (by omega), if_pos (by omega), if_pos (by omega), hx, hfind, Option.bind_some, inc64 (by omega)]
    refine Ev.bind (f := fun k t173 => ((fascicleref11_Find.f k t173 x).bind fun bt176 => (if (a : Int) = bt176.1 then (if (b : Int) = bt176.2 then (fasciclelaw11_TableFinds.l0 k key s hs (hs.length : Int) ((i + 1 : Nat) : Int)) else (some false)) else (some false)))) (refs_ev s (by omega)) ?_
    refine Ev.bind (f := fun k bt176 => (if (a : Int) = bt176.1 then (if (b : Int) = bt176.2 then (fasciclelaw11_TableFinds.l0 k key s hs (hs.length : Int) ((i + 1 : Nat) : Int)) else (some false)) else (some false))) ha ?_
    refine Ev.congr (f := fun k => fasciclelaw11_TableFinds.l0 k key s hs (hs.length : Int) ((i + 1 : Nat) : Int)) (fun k => ?_) ih
    rw [if_pos rfl, if_pos rfl]
theorem finds_long (l : List E1) (a : Int) (key : ByteArray) : Ev (fun k => fasciclelaw11_TableFinds.j0 k l a key true) true := by
  refine Ev.step (f := fun _ => some true) (fun k => ?_) (Ev.now _)
  simp only [fasciclelaw11_TableFinds.j0, if_true]
  rfl
theorem finds_short (l : List E1) (a : Int) (key : ByteArray) (hl : l.length ≤ 60) (hk : key.size ≤ 300) : Ev (fun k => fasciclelaw11_TableFinds.j0 k l a key false) true := by
  have hsl := sortE_len l
  have hS : table_Sorted.f l = some (sortE l) := by unfold table_Sorted.f; exact if_pos (by omega)
  have hp := sortE_rise l
  obtain ⟨hs, h1, h2⟩ := hashes_ex l (by omega) l.length 0 [] (by omega) (Nat.le_refl _)
  generalize sortE l = s at *
  refine Ev.step (f := fun k => (fasciclelaw11_hashes.f k l).bind fun t162 => (if (([a, 0, 18446744073709551615] : List Int)).length + t162.length < 17592186044416 then ((some (([a, 0, 18446744073709551615] : List Int) ++ t162 : List Int)).bind fun y165 => (fasciclelaw11_TableFinds.l0 k key s y165 (y165.length : Int) 0)) else (none))) (fun k => ?_) ?_
  · simp only [fasciclelaw11_TableFinds.j0]
    rw [if_neg (by decide), hS, Option.bind_some, Option.bind_some]
  refine Ev.bind (a := hs) (f := fun k t162 => (if (([a, 0, 18446744073709551615] : List Int)).length + t162.length < 17592186044416 then ((some (([a, 0, 18446744073709551615] : List Int) ++ t162 : List Int)).bind fun y165 => (fasciclelaw11_TableFinds.l0 k key s y165 (y165.length : Int) 0)) else (none))) h2 ?_
  refine Ev.congr (f := fun k => fasciclelaw11_TableFinds.l0 k key s ([a, 0, 18446744073709551615] ++ hs) ((([a, 0, 18446744073709551615] ++ hs : List Int).length : Nat) : Int) ((0 : Nat) : Int)) (fun k => ?_) (finds_loop s hp (by omega) key hk _ (by rw [List.length_append]; simp only [List.length_cons, List.length_nil]; omega) _ 0 (Nat.zero_add _))
  rw [if_pos (by simp only [List.length_cons, List.length_nil]; omega), Option.bind_some]
  rfl
theorem TableFinds : fasciclelaw11_TableFinds.Pure := by
  intro l a key _ _ _ _ _
  refine rounds_of (r := true) ?_
  unfold fasciclelaw11_TableFinds.f fasciclelaw11_lives.f
  by_cases h : (l.length : Int) > 60
  · refine Ev.congr (f := fun k => fasciclelaw11_TableFinds.j0 k l a key true) (fun k => ?_) (finds_long l a key)
    rw [Option.bind_some, if_pos rfl, if_pos h]
  · by_cases h2 : (key.size : Int) > 300
    · refine Ev.congr (f := fun k => fasciclelaw11_TableFinds.j0 k l a key true) (fun k => ?_) (finds_long l a key)
      rw [Option.bind_some, if_pos rfl, if_neg h, decide_eq_true h2]
    · refine Ev.congr (f := fun k => fasciclelaw11_TableFinds.j0 k l a key false) (fun k => ?_) (finds_short l a key (by omega) (by omega))
      rw [Option.bind_some, if_pos rfl, if_neg h, decide_eq_false h2]

end Go.Proofs.Ytnmdckgaljldhaa.Pure
