/- What the reference's functions square, further and distances come to: the least sums of walks. Conditions: up to 13 places, arcs between them, numbers up to 3000000 in size, at most 1000 arcs. -/
import Derived.Test.YteebkkdbkkibmaaPr15
import Derived.Test.YteebkkdbkkibmaaPr16
import Derived.Test.YteebkkdbkkibmaaPr17
import Derived.Test.YteebkkdbkkibmaaPb
namespace Go.Proofs.Yteebkkdbkkibmaa.Pure
open Go.RowKit Go.Proofs.Yteebkkdbkkibmaa.Pr Go.Proofs.YteebkkdbkkibmaaW.PrintWords Go.Proofs.YteebkkdbkkibmaaW.PrintLast Go.Proofs.YteebkkdbkkibmaaW.PrintMore Go.Proofs.Yteebkkdbkkibmaa.Bf
set_option linter.unusedVariables false

def far : Int := 1125899906842624
def tab2 (N : Nat) (T : Nat → Nat → Int) : List (List Int) := (List.range N).map fun i => tab N (T i)
theorem tab2_len (N : Nat) (T : Nat → Nat → Int) : (tab2 N T).length = N := by simp [tab2]
theorem tab2_rd {N : Nat} {T : Nat → Nat → Int} {x : Int} (h0 : 0 ≤ x) (h1 : x < N) : rd_L5 (tab2 N T) x = tab N (T x.toNat) := by
  unfold rd_L5 tab2
  rw [List.getD_eq_getElem?_getD, List.getElem?_map, List.getElem?_range (by omega)]
  rfl
def upd2 (T : Nat → Nat → Int) (i j : Nat) (v : Int) : Nat → Nat → Int := fun a b => if a = i then (if b = j then v else T a b) else T a b
theorem tab2_set {N : Nat} {T : Nat → Nat → Int} {i j : Nat} {v : Int} : (tab2 N T).set i ((tab N (T i)).set j v) = tab2 N (upd2 T i j v) := by
  apply List.ext_getElem?
  intro a
  rw [List.getElem?_set, tab2_len]
  by_cases ha : a < N
  · by_cases hia : i = a
    · subst hia
      rw [if_pos rfl, if_pos ha, tab_set]
      unfold tab2
      rw [List.getElem?_map, List.getElem?_range ha]
      simp only [Option.map_some, Option.some.injEq]
      apply tab_congr
      intro b hb
      simp [upd, upd2]
    · rw [if_neg hia]
      unfold tab2
      rw [List.getElem?_map, List.getElem?_map, List.getElem?_range ha]
      simp only [Option.map_some, Option.some.injEq]
      apply tab_congr
      intro b hb
      simp [upd2, show ¬ a = i from fun h => hia h.symm]
  · rw [List.getElem?_eq_none (l := tab2 N (upd2 T i j v)) (by rw [tab2_len]; omega), List.getElem?_eq_none (l := tab2 N T) (by rw [tab2_len]; omega)]
    split
    · rename_i h
      subst h
      rw [if_neg ha]
    · rfl
theorem tab2_congr {N : Nat} {T U : Nat → Nat → Int} (h : ∀ i, i < N → ∀ j, j < N → T i j = U i j) : tab2 N T = tab2 N U :=
  List.map_congr_left fun i hi => tab_congr fun j hj => h i (List.mem_range.1 hi) j hj
theorem tab_snoc (N : Nat) (D : Nat → Int) : tab N D ++ [D N] = tab (N + 1) D := by simp [tab, List.range_succ]
theorem tab2_snoc (M N : Nat) (T : Nat → Nat → Int) : ((List.range M).map fun i => tab N (T i)) ++ [tab N (T M)] = (List.range (M + 1)).map fun i => tab N (T i) := by simp [List.range_succ]

/-! ### square -/
def diag (off on : Int) : Nat → Nat → Int := fun i k => if i = k then on else off
theorem square_inner {N : Nat} (hN : N ≤ 13) (n off on : Int) (hn : n + 1 = N) (X : List (List Int)) (i : Nat) (hi : i ≤ N) {R : List (List Int)} (hX : X.length ≤ 100)
    (hR : Ev (fun q => scarfjointref03_square.l0 q n off on (X ++ [tab N (diag off on i)]) ((i + 1 : Nat) : Int)) R) :
    ∀ (m j : Nat), j + m = N → Ev (fun q => scarfjointref03_square.l1 q n off on X (i : Int) (tab j (diag off on i)) (j : Int)) R
  | 0, j, hj => by
    have hw : wrap64 ((i : Int) + 1) = ((i + 1 : Nat) : Int) := by rw [w64 (by omega)]; omega
    obtain rfl : j = N := by omega
    refine Ev.step (fun q => ?_) hR
    rw [scarfjointref03_square.l1, if_neg (by omega), if_pos (by omega), hw]
  | m + 1, j, hj => by
    have hw : wrap64 ((j : Int) + 1) = ((j + 1 : Nat) : Int) := by rw [w64 (by omega)]; omega
    have ih := square_inner hN n off on hn X i hi hX hR m (j + 1) (by omega)
    rw [← tab_snoc] at ih
    refine Ev.step (fun q => ?_) ih
    by_cases hij : i = j
    · rw [scarfjointref03_square.l1, if_pos (by omega), if_pos (by omega), tab_len, if_pos (by omega), hw, show diag off on i j = on from if_pos hij]
    · rw [scarfjointref03_square.l1, if_pos (by omega), if_neg (by omega), tab_len, if_pos (by omega), hw, show diag off on i j = off from if_neg hij]
theorem square_outer {N : Nat} (hN : N ≤ 13) (n off on : Int) (hn : n + 1 = N) : ∀ (m i : Nat), i + m = N → Ev (fun q => scarfjointref03_square.l0 q n off on ((List.range i).map fun a => tab N (diag off on a)) (i : Int)) (tab2 N (diag off on))
  | 0, i, hi => by
    obtain rfl : i = N := by omega
    refine Ev.step (f := fun _ => some (tab2 i (diag off on))) (fun q => ?_) (Ev.now _)
    rw [scarfjointref03_square.l0, if_neg (by omega)]
    rfl
  | m + 1, i, hi => by
    have ih := square_outer hN n off on hn m (i + 1) (by omega)
    rw [← tab2_snoc] at ih
    refine Ev.step (f := fun q => scarfjointref03_square.l1 q n off on ((List.range i).map fun a => tab N (diag off on a)) (i : Int) (tab 0 (diag off on i)) ((0 : Nat) : Int)) (fun q => ?_) (square_inner hN n off on hn _ i (by omega) (by simp; omega) ih N 0 (by omega))
    rw [scarfjointref03_square.l0, if_pos (by omega)]
    rfl
theorem square_ev {N : Nat} (hN : N ≤ 13) (n off on : Int) (hn : n + 1 = N) : Ev (fun q => scarfjointref03_square.f q n off on) (tab2 N (diag off on)) := square_outer hN n off on hn N 0 (by omega)

/-! ### further -/
def stepT (T : Nat → Nat → Int) (O : Nat → Nat → Int) (a : Arc) : Nat → Nat → Int := fun i j => if i = a.s ∧ T a.t j < far then min (O i j) (a.c + T a.t j) else O i j
def fur (l : List Arc) (T : Nat → Nat → Int) : Nat → Nat → Int := l.foldl (stepT T) (fun _ _ => far)
theorem mn_min (a b : Int) : mn a b = min a b := by unfold mn; split <;> omega
def mid (T : Nat → Nat → Int) (O : Nat → Nat → Int) (a : Arc) (m : Nat) : Nat → Nat → Int := fun i j => if j < m then stepT T O a i j else O i j
def sane (T : Nat → Nat → Int) : Prop := ∀ i j, -1152921504606846976 ≤ T i j ∧ T i j ≤ 1152921504606846976
theorem rdT79_at {l : List S71} {pre rest : List S71} {x : S71} (h : l = pre ++ x :: rest) : rd_T79 (l.map to79) (pre.length : Int) = to79 x := by
  subst h; simp [rd_T79]
theorem further_inner {N : Nat} (hN : N ≤ 13) (n : Int) (hn : n + 1 = N) {l : List S71} (hl : l.length ≤ 1000) {T : Nat → Nat → Int} (hT : sane T) (O : Nat → Nat → Int) (a : S71) (hg : goodA N a) (i : Nat) (hi : i < l.length) {R : List (List Int)}
    (hR : Ev (fun q => scarfjointref03_further.l0 q n (l.map to79) (tab2 N T) (tab2 N (stepT T O (toA a))) ((i + 1 : Nat) : Int)) R) :
    ∀ (m j : Nat), j + m = N → Ev (fun q => scarfjointref03_further.l1 q n (l.map to79) (tab2 N T) (tab2 N (mid T O (toA a) j)) (i : Int) (j : Int) a.f0.f0 a.f0.f1 a.f1 a.f2 a.f3) R
  | 0, j, hj => by
    have hw : wrap64 ((i : Int) + 1) = ((i + 1 : Nat) : Int) := by rw [w64 (by omega)]; omega
    obtain rfl : j = N := by omega
    have he : tab2 j (mid T O (toA a) j) = tab2 j (stepT T O (toA a)) := tab2_congr fun x hx y hy => by unfold mid; rw [if_pos hy]
    rw [he]
    refine Ev.step (fun q => ?_) hR
    rw [scarfjointref03_further.l1, if_neg (by omega), hw]
  | m + 1, j, hj => by
    unfold goodA at hg
    have hw : wrap64 ((j : Int) + 1) = ((j + 1 : Nat) : Int) := by rw [w64 (by omega)]; omega
    have ih := further_inner hN n hn hl hT O a (by unfold goodA; exact hg) i hi hR m (j + 1) (by omega)
    have ht := hT a.f2.toNat j
    have hws : wrap64 (a.f3 + T a.f2.toNat j) = a.f3 + T a.f2.toNat j := w64 (by omega)
    have hjn : (j : Int).toNat = j := by omega
    have hrow : mid T O (toA a) j a.f1.toNat j = O a.f1.toNat j := by unfold mid; rw [if_neg (by omega)]
    by_cases hf : T a.f2.toNat j < far
    · have hf' : T a.f2.toNat j < 1125899906842624 := hf
      have he : tab2 N (mid T O (toA a) (j + 1)) = tab2 N (upd2 (mid T O (toA a) j) a.f1.toNat j (min (O a.f1.toNat j) (a.f3 + T a.f2.toNat j))) := tab2_congr fun x hx y hy => by
        unfold upd2 mid stepT toA
        simp only
        by_cases hx1 : x = a.f1.toNat
        · subst hx1
          rw [if_pos rfl]
          by_cases hy1 : y = j
          · subst hy1
            rw [if_pos rfl, if_pos (by omega), if_pos ⟨rfl, hf⟩]
          · rw [if_neg hy1]
            by_cases hy2 : y < j
            · rw [if_pos hy2, if_pos (by omega)]
            · rw [if_neg hy2, if_neg (by omega)]
        · rw [if_neg hx1]
          by_cases hy2 : y < j
          · rw [if_pos hy2, if_pos (by omega)]
          · rw [if_neg hy2]
            split
            · rw [if_neg (by rintro ⟨h, _⟩; exact hx1 h)]
            · rfl
      rw [he] at ih
      refine Ev.step (fun q => ?_) ih
      rw [scarfjointref03_further.l1, if_pos (by omega), if_pos (by omega), tab2_len, if_pos (by omega), if_pos (by omega), tab2_rd (by omega) (by omega), tab_len, if_pos (by omega), tab_rd (by omega) (by omega), hjn, if_pos hf', if_pos (by omega), tab2_len, if_pos (by omega), tab2_rd (by omega) (by omega), tab_len, if_pos (by omega), tab_rd (by omega) (by omega), hjn, hws, mn_min, hrow, tab2_set, hw]
    · have hf' : ¬ T a.f2.toNat j < 1125899906842624 := hf
      have he : tab2 N (mid T O (toA a) (j + 1)) = tab2 N (mid T O (toA a) j) := tab2_congr fun x hx y hy => by
        unfold mid
        by_cases hy2 : y < j
        · rw [if_pos hy2, if_pos (by omega)]
        · rw [if_neg hy2]
          split
          · have : y = j := by omega
            subst this
            unfold stepT toA
            rw [if_neg (by rintro ⟨_, h⟩; exact hf h)]
          · rfl
      rw [he] at ih
      refine Ev.step (fun q => ?_) ih
      rw [scarfjointref03_further.l1, if_pos (by omega), if_pos (by omega), tab2_len, if_pos (by omega), if_pos (by omega), tab2_rd (by omega) (by omega), tab_len, if_pos (by omega), tab_rd (by omega) (by omega), hjn, if_neg hf', hw]
theorem further_outer {N : Nat} (hN : N ≤ 13) (n : Int) (hn : n + 1 = N) {l : List S71} (hl : l.length ≤ 1000) (hg : good N l) {T : Nat → Nat → Int} (hT : sane T) : ∀ (rest pre : List S71) (O : Nat → Nat → Int), l = pre ++ rest →
    Ev (fun q => scarfjointref03_further.l0 q n (l.map to79) (tab2 N T) (tab2 N O) (pre.length : Int)) (tab2 N ((rest.map toA).foldl (stepT T) O))
  | [], pre, O, h => by
    refine Ev.step (f := fun _ => some (tab2 N O)) (fun q => ?_) (Ev.now _)
    rw [scarfjointref03_further.l0, if_neg (by rw [h]; simp)]
  | a :: rest, pre, O, h => by
    have hlen : pre.length < l.length := by rw [h]; simp
    have ih := further_outer hN n hn hl hg hT rest (pre ++ [a]) (stepT T O (toA a)) (by rw [h]; simp)
    rw [List.length_append, List.length_singleton] at ih
    have h1 := further_inner hN n hn hl hT O a (hg a (by rw [h]; simp)) pre.length hlen ih N 0 (by omega)
    have he : tab2 N (mid T O (toA a) 0) = tab2 N O := tab2_congr fun x hx y hy => by unfold mid; rw [if_neg (by omega)]
    rw [he] at h1
    refine Ev.step (fun q => ?_) h1
    rw [scarfjointref03_further.l0, List.length_map, if_pos (by omega), if_pos (by omega), rdT79_at h]
    rfl
theorem further_ev {N : Nat} (hN : N ≤ 13) (n : Int) (hn : n + 1 = N) {l : List S71} (hl : l.length ≤ 1000) (hg : good N l) {T : Nat → Nat → Int} (hT : sane T) :
    Ev (fun q => scarfjointref03_further.f q n (l.map to79) (tab2 N T)) (tab2 N (fur (l.map toA) T)) := by
  unfold scarfjointref03_further.f
  refine Ev.bind (square_ev hN n _ _ hn) ?_
  have := further_outer hN n hn hl hg hT l [] (diag 1125899906842624 1125899906842624) rfl
  have he : tab2 N ((l.map toA).foldl (stepT T) (diag 1125899906842624 1125899906842624)) = tab2 N (fur (l.map toA) T) := by
    unfold fur
    congr 2
    funext i j
    simp [diag, far]
  rw [he] at this
  exact this
end Go.Proofs.Yteebkkdbkkibmaa.Pure
