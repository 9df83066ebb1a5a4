/- The law DifferenceCheck over the printed functions: it comes to true. Conditions: none. -/
import Derived.Test.YteebkkdbkkibmaaQ7
import Derived.Test.YteebkkdbkkibmaaQ5
import Derived.Test.YteebkkdbkkibmaaPr25
import Derived.Test.YteebkkdbkkibmaaPr13
import Derived.Test.YteebkkdbkkibmaaPh
namespace Go.Proofs.Yteebkkdbkkibmaa.Pure
open Go.RowKit Go.Proofs.Yteebkkdbkkibmaa.Pr Go.Proofs.YteebkkdbkkibmaaW.PrintWords Go.Proofs.YteebkkdbkkibmaaW.PrintLast Go.Proofs.YteebkkdbkkibmaaW.PrintMore Go.Proofs.Yteebkkdbkkibmaa.Bf
set_option linter.unusedVariables false

theorem awake_some : Ev (fun q => (scarfjointlaw03_awake.f q).bind fun t => some t) true := Ev.bind awake_ev (Ev.now true)
theorem clone_test {l : List S26} (hl : l.length ≤ 45) : api_Test_14.f l = some l := by
  unfold api_Test_14.f
  simp only [Option.bind_some, List.length_nil, List.nil_append]
  rw [if_pos (by omega)]
/-! ### Uses are found -/
def isU (u : S55) (a : S71) : Bool := a.f0.f0 == u.f0 && a.f0.f1 == u.f1
def look (L : List S71) (u : S55) : Option S71 := L.find? (isU u)
theorem isU_eq {u : S55} {a : S71} : isU u a = true ↔ a.f0 = u := by
  unfold isU
  rw [Bool.and_eq_true, beq_iff_eq, beq_iff_eq]
  constructor
  · rintro ⟨h1, h2⟩
    cases u; cases h : a.f0; simp_all
  · intro h; rw [h]; exact ⟨rfl, rfl⟩
def gather (L : List S71) : List S55 → Option (List S71)
  | [] => some []
  | u :: r => (look L u).bind fun a => (gather L r).map (a :: ·)
def total : List S71 → Int
  | [] => 0
  | a :: l => a.f3 + total l
def follows : Int → List S71 → Bool
  | _, [] => true
  | at_, a :: l => decide (a.f1 = at_) && follows a.f2 l
def endOf : Int → List S71 → Int
  | at_, [] => at_
  | _, a :: l => endOf a.f2 l
def uniq (L : List S71) : Prop := L.Pairwise fun a b => a.f0 ≠ b.f0
theorem arcsX_use {i : Int} {x : S26} : ∀ a ∈ arcsX i x, a.f0.f0 = i := by
  intro a ha
  unfold arcsX at ha
  split at ha
  · rcases List.mem_cons.1 ha with rfl | ha
    · rfl
    · rcases List.mem_cons.1 ha with rfl | ha
      · rfl
      · cases ha
  · rcases List.mem_cons.1 ha with rfl | ha
    · rfl
    · cases ha
theorem arcsF_use : ∀ (l : List S26) (i : Nat), ∀ a ∈ arcsF i l, (i : Int) ≤ a.f0.f0
  | [], i => fun a ha => by cases ha
  | x :: l, i => fun a ha => by
    rcases List.mem_append.1 ha with ha | ha
    · rw [arcsX_use a ha]; omega
    · have := arcsF_use l (i + 1) a ha; omega
theorem arcsF_uniq : ∀ (l : List S26) (i : Nat), uniq (arcsF i l)
  | [], i => List.Pairwise.nil
  | x :: l, i => by
    refine List.pairwise_append.2 ⟨?_, arcsF_uniq l (i + 1), fun a ha b hb => ?_⟩
    · unfold arcsX
      split
      · refine List.Pairwise.cons (fun b hb => ?_) (List.pairwise_singleton _ _)
        rw [List.mem_singleton.1 hb]
        intro h
        have := congrArg S55.f1 h
        simp [arc1, arc2] at this
      · exact List.pairwise_singleton _ _
    · intro h
      have h1 := arcsX_use a ha
      have h2 := arcsF_use l (i + 1) b hb
      rw [h] at h1
      omega
theorem look_mem {L : List S71} {u : S55} {a : S71} (h : look L u = some a) : a ∈ L ∧ a.f0 = u := ⟨List.mem_of_find?_eq_some h, isU_eq.1 (List.find?_some h)⟩
theorem mem_look : ∀ {L : List S71}, uniq L → ∀ a ∈ L, look L a.f0 = some a
  | [], _, a, h => by cases h
  | b :: L, hu, a, h => by
    obtain ⟨h1, h2⟩ := List.pairwise_cons.1 hu
    unfold look
    rcases List.mem_cons.1 h with rfl | h
    · rw [List.find?_cons_of_pos (isU_eq.2 rfl)]
    · rw [List.find?_cons_of_neg (fun hb => h1 a h (isU_eq.1 hb))]
      exact mem_look h2 a h
theorem gather_mem {L : List S71} : ∀ {r : List S55} {l : List S71}, gather L r = some l → (∀ a ∈ l, a ∈ L) ∧ l.length = r.length
  | [], l, h => by obtain rfl : l = [] := (Option.some.inj h).symm; exact ⟨fun a ha => (by cases ha), rfl⟩
  | u :: r, l, h => by
    unfold gather at h
    obtain ⟨a, ha, h⟩ := Option.bind_eq_some_iff.1 h
    obtain ⟨l', hl', rfl⟩ := Option.map_eq_some_iff.1 h
    obtain ⟨h1, h2⟩ := gather_mem hl'
    refine ⟨fun b hb => ?_, by simp [h2]⟩
    rcases List.mem_cons.1 hb with rfl | hb
    · exact (look_mem ha).1
    · exact h1 b hb
theorem gather_of {L : List S71} (hu : uniq L) : ∀ (l : List S71), (∀ a ∈ l, a ∈ L) → gather L (l.map (·.f0)) = some l
  | [], _ => rfl
  | a :: l, h => by
    show (look L a.f0).bind _ = _
    rw [mem_look hu a (h a (by simp)), Option.bind_some, gather_of hu l (fun b hb => h b (by simp [hb]))]
    rfl
/-- What the checks come to, on arcs. -/
def okList : List S71 → Bool
  | [] => false
  | a :: l => follows a.f2 l && (decide (endOf a.f2 l = a.f1) && decide (total (a :: l) < 0))
def okUses (L : List S71) (r : List S55) : Bool := match gather L r with
  | none => false
  | some l => okList l

/-! ### The program -/
theorem idx_loop {L : List S71} (hL : L.length ≤ 1000) (u : S55) : ∀ (rest pre : List S71), L = pre ++ rest → ∃ i, Ev (fun q => difference_arc_53.l0 q L u.f0 u.f1 (L.length : Int) (pre.length : Int)) i ∧ (rest.find? (isU u) = none → i < 0) ∧ ∀ a, rest.find? (isU u) = some a → 0 ≤ i ∧ i < L.length ∧ rd_T71 L i = a
  | [], pre, h => by
    refine ⟨-1, Ev.step (f := fun _ => some (-1)) (fun q => ?_) (Ev.now _), fun _ => by omega, fun a ha => by simp at ha⟩
    rw [difference_arc_53.l0, if_neg (by rw [h]; simp)]
  | a :: rest, pre, h => by
    have hlen : pre.length < L.length := by rw [h]; simp
    have hw : wrap64 ((pre.length : Int) + 1) = ((pre ++ [a]).length : Int) := by rw [w64 (by omega)]; simp
    have hstep : ∀ q, difference_arc_53.l0 (q + 1) L u.f0 u.f1 (L.length : Int) (pre.length : Int) = if isU u a = true then some (pre.length : Int) else difference_arc_53.l0 q L u.f0 u.f1 (L.length : Int) ((pre ++ [a]).length : Int) := by
      intro q
      rw [difference_arc_53.l0, if_pos (by omega), if_pos (by omega), if_pos (by omega), rdT71_at h, hw]
      rfl
    by_cases hu : isU u a = true
    · refine ⟨(pre.length : Int), Ev.step (f := fun _ => some (pre.length : Int)) (fun q => by rw [hstep, if_pos hu]) (Ev.now _), fun hn => ?_, fun b hb => ?_⟩
      · rw [List.find?_cons_of_pos hu] at hn; cases hn
      · rw [List.find?_cons_of_pos hu] at hb
        obtain rfl := Option.some.inj hb
        exact ⟨by omega, by omega, rdT71_at h⟩
    · obtain ⟨i, he, h1, h2⟩ := idx_loop hL u rest (pre ++ [a]) (by rw [h]; simp)
      refine ⟨i, Ev.step (fun q => by rw [hstep, if_neg hu]) he, fun hn => ?_, fun b hb => ?_⟩
      · rw [List.find?_cons_of_neg hu] at hn; exact h1 hn
      · rw [List.find?_cons_of_neg hu] at hb; exact h2 b hb
theorem idx_ev {L : List S71} (hL : L.length ≤ 1000) (u : S55) : ∃ i, Ev (fun q => difference_arc_53.f q L u.f0 u.f1) i ∧ (look L u = none → i < 0) ∧ ∀ a, look L u = some a → 0 ≤ i ∧ i < L.length ∧ rd_T71 L i = a := idx_loop hL u L [] rfl
theorem chk_l1 {list : List S71} (hl : list.length ≤ 1000) (s : Int) : ∀ (rest pre : List S71) (last : S71), list = pre ++ rest → Ev (fun q => difference_CheckRefute.l1 q s list (list.length : Int) (pre.length : Int) last.f0.f0 last.f0.f1 last.f1 last.f2 last.f3) (follows last.f2 rest && decide (s < 0))
  | [], pre, last, h => by
    refine Ev.step (f := fun _ => some (decide (s < 0))) (fun q => ?_) (by simpa [follows] using Ev.now (decide (s < 0)))
    rw [difference_CheckRefute.l1, if_neg (by rw [h]; simp)]
  | a :: rest, pre, last, h => by
    have hlen : pre.length < list.length := by rw [h]; simp
    have hw : wrap64 ((pre.length : Int) + 1) = ((pre ++ [a]).length : Int) := by rw [w64 (by omega)]; simp
    by_cases ha : a.f1 = last.f2
    · have ih := chk_l1 hl s rest (pre ++ [a]) a (by rw [h]; simp)
      have he : follows last.f2 (a :: rest) = follows a.f2 rest := by simp [follows, ha]
      rw [he]
      refine Ev.step (fun q => ?_) ih
      rw [difference_CheckRefute.l1, if_pos (by omega), if_pos (by omega), if_pos (by omega), rdT71_at h, if_pos ha, hw]
    · have he : (follows last.f2 (a :: rest) && decide (s < 0)) = false := by simp [follows, ha]
      rw [he]
      refine Ev.step (f := fun _ => some false) (fun q => ?_) (Ev.now _)
      rw [difference_CheckRefute.l1, if_pos (by omega), if_pos (by omega), if_pos (by omega), rdT71_at h, if_neg ha]
/-- The program's last check. -/
def finB (list : List S71) (s : Int) : Bool := match list.getLast? with
  | none => false
  | some a => follows a.f2 list && decide (s < 0)
theorem chk_l0 {N : Nat} {L : List S71} (hL : L.length ≤ 1000) (hg : good N L) {r : List S55} (hr1 : 1 ≤ r.length) (hr : r.length ≤ 40) : ∀ (rest pre : List S55) (acc : List S71) (sum : Int), r = pre ++ rest → acc.length = pre.length → (-(3000000 * pre.length : Int) ≤ sum ∧ sum ≤ 3000000 * pre.length) →
    Ev (fun q => difference_CheckRefute.l0 q L acc sum r (r.length : Int) (pre.length : Int)) (match gather L rest with
      | none => false
      | some l => finB (acc ++ l) (sum + total l))
  | [], pre, acc, sum, h, ha, hs => by
    have hpr : pre.length = r.length := by rw [h]; simp
    have hne : acc ≠ [] := by intro h0; rw [h0] at ha; simp at ha; omega
    obtain ⟨ini, a, rfl⟩ : ∃ ini a, acc = ini ++ [a] := (by
      rcases List.eq_nil_or_concat acc with h1 | ⟨i, a, h1⟩
      · exact absurd h1 hne
      · exact ⟨i, a, by rw [h1]; simp⟩)
    have hlen : (ini ++ [a]).length = ini.length + 1 := by simp
    have hw : wrap64 (((ini ++ [a]).length : Int) - 1) = (ini.length : Int) := by rw [w64 (by omega)]; omega
    have hrd : rd_T71 (ini ++ [a]) (ini.length : Int) = a := rdT71_at (rest := []) rfl
    have hfin : finB (ini ++ [a] ++ []) (sum + total []) = (follows a.f2 (ini ++ [a]) && decide (sum < 0)) := by
      unfold finB
      rw [List.append_nil, List.getLast?_concat]
      simp [total]
    show Ev _ (finB (ini ++ [a] ++ []) (sum + total []))
    rw [hfin]
    have := chk_l1 (list := ini ++ [a]) (by omega) sum (ini ++ [a]) [] a rfl
    refine Ev.step (fun q => ?_) this
    rw [difference_CheckRefute.l0, if_neg (by omega), hw, if_pos (by omega), if_pos (by omega), hrd]
    rfl
  | u :: rest, pre, acc, sum, h, ha, hs => by
    have hlen : pre.length < r.length := by rw [h]; simp
    have hw : wrap64 ((pre.length : Int) + 1) = ((pre ++ [u]).length : Int) := by rw [w64 (by omega)]; simp
    have hrd : rd_T55 r (pre.length : Int) = u := by rw [h]; simp [rd_T55]
    obtain ⟨i, he, h1, h2⟩ := idx_ev hL u
    refine Ev.step (f := fun q => (difference_arc_53.f q L u.f0 u.f1).bind fun t503 => (if t503 < 0 then (some false) else (if 0 ≤ t503 then (if t503 < (L.length : Int) then (if acc.length < 3518437208883 then (difference_CheckRefute.l0 q L (acc ++ [(⟨(⟨(rd_T71 L t503).f0.f0, (rd_T71 L t503).f0.f1⟩ : S55), (rd_T71 L t503).f1, (rd_T71 L t503).f2, (rd_T71 L t503).f3⟩ : S71)]) (wrap64 (sum + ((rd_T71 L t503).f3))) r (r.length : Int) ((pre ++ [u]).length : Int)) else (none)) else (none)) else (none)))) (fun q => ?_) ?_
    · rw [difference_CheckRefute.l0, if_pos (by omega), if_pos (by omega), if_pos (by omega), hrd, hw]
    · refine Ev.bind he ?_
      cases hk : look L u with
      | none =>
        have hg0 : gather L (u :: rest) = none := by unfold gather; rw [hk]; rfl
        rw [hg0]
        exact Ev.ite_pos (h1 hk) (Ev.now _)
      | some a =>
        obtain ⟨h3, h4, h5⟩ := h2 a hk
        have hga := hg a (look_mem hk).1
        unfold goodA at hga
        have hpl : (pre ++ [u]).length = pre.length + 1 := by simp
        have hws : wrap64 (sum + a.f3) = sum + a.f3 := w64 (by omega)
        have ih := chk_l0 hL hg hr1 hr rest (pre ++ [u]) (acc ++ [a]) (sum + a.f3) (by rw [h]; simp) (by simp [ha]) (by rw [hpl]; omega)
        have hg1 : gather L (u :: rest) = (gather L rest).map (a :: ·) := by rw [gather, hk]; rfl
        have hres : (match gather L (u :: rest) with
            | none => false
            | some l => finB (acc ++ l) (sum + total l)) = (match gather L rest with
            | none => false
            | some l => finB (acc ++ [a] ++ l) (sum + a.f3 + total l)) := by
          rw [hg1]
          cases gather L rest with
          | none => rfl
          | some l => simp [total, Int.add_assoc]
        rw [hres]
        refine Ev.ite_neg (by omega) (Ev.ite_pos h3 (Ev.ite_pos h4 (Ev.ite_pos (by omega) ?_)))
        rw [h5, hws]
        exact ih
theorem follows_end : ∀ (l : List S71) (a : S71), finB (a :: l) (total (a :: l)) = okList (a :: l) := by
  have key : ∀ (l : List S71) (b : S71), ∃ z, (b :: l).getLast? = some z ∧ z.f2 = endOf b.f2 l := by
    intro l
    induction l with
    | nil => intro b; exact ⟨b, rfl, rfl⟩
    | cons c l ih =>
      intro b
      obtain ⟨z, h1, h2⟩ := ih c
      exact ⟨z, by rw [List.getLast?_cons_cons]; exact h1, h2⟩
  intro l a
  obtain ⟨z, h1, h2⟩ := key l a
  unfold finB okList
  rw [h1]
  simp only [follows, h2]
  cases follows a.f2 l <;> simp [eq_comm]
/-- What the program's CheckRefute comes to. -/
theorem chk_ev (n : Int) (l : List S26) (r : List S55) : Ev (fun q => difference_CheckRefute.f q n l r) (decide (errV n l = 0) && (decide (1 ≤ r.length ∧ r.length ≤ 40) && okUses (arcsF 0 l) r)) := by
  have key : ∀ b : Bool, errV n l = 0 → b = decide (¬ (1 ≤ r.length ∧ r.length ≤ 40)) → Ev (fun q => difference_CheckRefute.j0 q l r b) (decide (1 ≤ r.length ∧ r.length ≤ 40) && okUses (arcsF 0 l) r) := by
    intro b h hb
    obtain ⟨h0, h12, h40, hv⟩ := errV_zero h
    have hgA := arcsF_good h0 h12 l 0 hv
    have hl := arcsF_len 0 l
    by_cases hr : 1 ≤ r.length ∧ r.length ≤ 40
    · have hbf : b = false := by rw [hb]; simpa using hr
      have hd : decide (1 ≤ r.length ∧ r.length ≤ 40) = true := decide_eq_true hr
      rw [hbf, hd, Bool.true_and]
      refine Ev.step (f := fun q => (difference_arcs.f q l).bind fun t498 => (difference_CheckRefute.l0 q t498 ([] : List (S71)) 0 r (r.length : Int) 0)) (fun q => by rw [difference_CheckRefute.j0, if_neg (by simp)]) ?_
      refine Ev.bind (arcs_ev l (by omega)) ?_
      have := chk_l0 (L := arcsF 0 l) (by omega) hgA hr.1 hr.2 r [] [] 0 rfl rfl (by simp)
      have he : okUses (arcsF 0 l) r = (match gather (arcsF 0 l) r with
          | none => false
          | some l' => finB ([] ++ l') (0 + total l')) := by
        unfold okUses
        cases hgt : gather (arcsF 0 l) r with
        | none => rfl
        | some l' =>
          have hlen := (gather_mem hgt).2
          cases l' with
          | nil => simp at hlen; omega
          | cons a l' =>
            simp only [List.nil_append, Int.zero_add]
            exact (follows_end l' a).symm
      rw [he]
      exact this
    · have hbt : b = true := by rw [hb]; exact decide_eq_true hr
      have hd : decide (1 ≤ r.length ∧ r.length ≤ 40) = false := decide_eq_false hr
      rw [hbt, hd, Bool.false_and]
      exact Ev.step (f := fun _ => some false) (fun q => by rw [difference_CheckRefute.j0, if_pos rfl]) (Ev.now _)
  unfold difference_CheckRefute.f
  refine Ev.bind (valid_ev n l) ?_
  by_cases h : errV n l = 0
  · have hd : decide (errV n l = 0) = true := decide_eq_true h
    rw [hd, Bool.true_and]
    refine Ev.ite_pos h ?_
    by_cases h1 : (r.length : Int) = 0
    · exact Ev.ite_pos h1 (key true h (by symm; apply decide_eq_true; omega))
    · exact Ev.ite_neg h1 (key _ h (by rw [decide_eq_decide]; omega))
  · have hd : decide (errV n l = 0) = false := decide_eq_false h
    rw [hd, Bool.false_and]
    exact Ev.ite_neg h (Ev.step (f := fun _ => some false) (fun q => by rw [difference_CheckRefute.j0, if_pos rfl]) (Ev.now _))
theorem isU_ne {u : S55} {a : S71} : (!(a.f0.f0 == u.f0) || (!(a.f0.f1 == u.f1))) = !isU u a := by
  unfold isU
  cases (a.f0.f0 == u.f0) <;> cases (a.f0.f1 == u.f1) <;> rfl
theorem r_scan {L : List S71} (hL : L.length ≤ 1000) {r : List S55} (u : S55) (i : Nat) (hi : i < r.length) (hr : r.length ≤ 1000) (hru : rd_T55 r (i : Int) = u) (s a m : Int) : ∀ (rest pre : List S71), L = pre ++ rest → (∀ b ∈ rest, isU u b = false) →
    Ev (fun q => scarfjointref03_CheckRefute.l1 q r (L.map to79) s a m (i : Int) false (pre.length : Int)) false
  | [], pre, h, hno => by
    refine Ev.step (f := fun q => scarfjointref03_CheckRefute.j3 q r (L.map to79) s a m (i : Int) false (pre.length : Int) false) (fun q => ?_) (Ev.step (f := fun _ => some false) (fun q => ?_) (Ev.now _))
    · rw [scarfjointref03_CheckRefute.l1, if_neg (by rw [h]; simp)]
    · rw [scarfjointref03_CheckRefute.j3, if_neg (by simp), if_neg (by simp)]
  | x :: rest, pre, h, hno => by
    have hlen : pre.length < L.length := by rw [h]; simp
    have hw : wrap64 ((pre.length : Int) + 1) = ((pre ++ [x]).length : Int) := by rw [w64 (by omega)]; simp
    have hlm : (L.map to79).length = L.length := List.length_map _
    have e0 : (to79 x).f0 = x.f0 := rfl
    have ih := r_scan hL u i hi hr hru s a m rest (pre ++ [x]) (by rw [h]; simp) (fun b hb => hno b (by simp [hb]))
    refine Ev.step (f := fun q => scarfjointref03_CheckRefute.j3 q r (L.map to79) s a m (i : Int) false (pre.length : Int) true) (fun q => ?_) (Ev.step (fun q => ?_) ih)
    · rw [scarfjointref03_CheckRefute.l1, hlm, if_pos (by omega)]
      rfl
    · rw [scarfjointref03_CheckRefute.j3, if_pos rfl, if_pos (by omega), hlm, if_pos (by omega), if_pos (by omega), if_pos (by omega), rdT79_at h, e0, hru, isU_ne, if_pos (by rw [hno x (by simp)]; rfl), hw]
/-- The arc is found: on to the next use. -/
theorem r_found {L : List S71} (hL : L.length ≤ 1000) {r : List S55} (hr : r.length ≤ 1000) (i : Nat) (hi : i < r.length) (s a m : Int) {R : Bool} (h : Ev (fun q => scarfjointref03_CheckRefute.l0 q r (L.map to79) s a m ((i + 1 : Nat) : Int)) R) (kk : Int) :
    Ev (fun q => scarfjointref03_CheckRefute.l1 q r (L.map to79) s a m (i : Int) true kk) R := by
  have hw : wrap64 ((i : Int) + 1) = ((i + 1 : Nat) : Int) := by rw [w64 (by omega)]; omega
  refine Ev.step (f := fun q => scarfjointref03_CheckRefute.j3 q r (L.map to79) s a m (i : Int) true kk false) (fun q => ?_) (Ev.step (fun q => ?_) h)
  · rw [scarfjointref03_CheckRefute.l1]
    split <;> rfl
  · rw [scarfjointref03_CheckRefute.j3, if_neg (by simp), if_pos rfl, hw]
theorem r_l1 {L : List S71} (hL : L.length ≤ 1000) (hu : uniq L) {N : Nat} (hg : good N L) {r : List S55} (hr : r.length ≤ 1000) (u : S55) (i : Nat) (hi : i < r.length) (hru : rd_T55 r (i : Int) = u) (s a m : Int) (hm : -1000000000 ≤ m ∧ m ≤ 1000000000) {R : S71 → Bool}
    (next : ∀ x ∈ L, (i = 0 ∨ x.f1 = a) → Ev (fun q => scarfjointref03_CheckRefute.l0 q r (L.map to79) (if i = 0 then x.f1 else s) x.f2 (m + x.f3) ((i + 1 : Nat) : Int)) (R x)) : ∀ (rest pre : List S71), L = pre ++ rest →
    Ev (fun q => scarfjointref03_CheckRefute.l1 q r (L.map to79) s a m (i : Int) false (pre.length : Int)) (match rest.find? (isU u) with
      | none => false
      | some x => if i = 0 ∨ x.f1 = a then R x else false)
  | [], pre, h => by
    refine Ev.step (f := fun q => scarfjointref03_CheckRefute.j3 q r (L.map to79) s a m (i : Int) false (pre.length : Int) false) (fun q => ?_) (Ev.step (f := fun _ => some false) (fun q => ?_) (Ev.now _))
    · rw [scarfjointref03_CheckRefute.l1, if_neg (by rw [h]; simp)]
    · rw [scarfjointref03_CheckRefute.j3, if_neg (by simp), if_neg (by simp)]
  | x :: rest, pre, h => by
    have hlen : pre.length < L.length := by rw [h]; simp
    have hw : wrap64 ((pre.length : Int) + 1) = ((pre ++ [x]).length : Int) := by rw [w64 (by omega)]; simp
    have hlm : (L.map to79).length = L.length := List.length_map _
    have e0 : (to79 x).f0 = x.f0 := rfl
    have e1 : (to79 x).f1 = x.f1 := rfl
    have e2 : (to79 x).f2 = x.f2 := rfl
    have e3 : (to79 x).f3 = x.f3 := rfl
    have hmem : x ∈ L := by rw [h]; simp
    have hga := hg x hmem
    unfold goodA at hga
    have hws : wrap64 (m + x.f3) = m + x.f3 := w64 (by omega)
    have hj : ∀ q, scarfjointref03_CheckRefute.l1 (q + 1) r (L.map to79) s a m (i : Int) false (pre.length : Int) = scarfjointref03_CheckRefute.j3 q r (L.map to79) s a m (i : Int) false (pre.length : Int) true := fun q => by
      rw [scarfjointref03_CheckRefute.l1, hlm, if_pos (by omega)]
      rfl
    by_cases hx : isU u x = true
    · rw [List.find?_cons_of_pos hx]
      have hno : ∀ b ∈ rest, isU u b = false := by
        intro b hb
        cases hbu : isU u b with
        | false => rfl
        | true =>
          have hp : uniq (x :: rest) := List.Pairwise.sublist (by rw [h]; exact List.sublist_append_right _ _) hu
          exact absurd ((isU_eq.1 hx).trans (isU_eq.1 hbu).symm) ((List.pairwise_cons.1 hp).1 b hb)
      by_cases h0 : i = 0
      · have hn := next x hmem (.inl h0)
        rw [if_pos h0] at hn
        simp only [if_pos (show i = 0 ∨ x.f1 = a from .inl h0)]
        refine Ev.step hj (Ev.step (fun q => ?_) (r_found hL hr i hi _ _ _ hn ((pre ++ [x]).length : Int)))
        rw [scarfjointref03_CheckRefute.j3, if_pos rfl, if_pos (by omega), hlm, if_pos (by omega), if_pos (by omega), if_pos (by omega), rdT79_at h, e0, e1, e2, e3, hru, isU_ne, if_neg (by rw [hx]; simp), if_pos (by omega), hws, hw, beq_self_eq_true]
      · by_cases ha : x.f1 = a
        · have hn := next x hmem (.inr ha)
          rw [if_neg h0] at hn
          simp only [if_pos (show i = 0 ∨ x.f1 = a from .inr ha)]
          refine Ev.step hj (Ev.step (fun q => ?_) (r_found hL hr i hi _ _ _ hn ((pre ++ [x]).length : Int)))
          rw [scarfjointref03_CheckRefute.j3, if_pos rfl, if_pos (by omega), hlm, if_pos (by omega), if_pos (by omega), if_pos (by omega), rdT79_at h, e0, e1, e2, e3, hru, isU_ne, if_neg (by rw [hx]; simp), if_neg (by omega), hws, hw, beq_iff_eq.2 ha]
        · simp only [if_neg (show ¬ (i = 0 ∨ x.f1 = a) from fun h => h.elim h0 ha)]
          refine Ev.step hj (Ev.step (fun q => ?_) (r_scan hL u i hi hr hru s x.f2 (m + x.f3) rest (pre ++ [x]) (by rw [h]; simp) hno))
          rw [scarfjointref03_CheckRefute.j3, if_pos rfl, if_pos (by omega), hlm, if_pos (by omega), if_pos (by omega), if_pos (by omega), rdT79_at h, e0, e1, e2, e3, hru, isU_ne, if_neg (by rw [hx]; simp), if_neg (by omega), hws, hw, beq_eq_false_iff_ne.2 ha]
    · have ih := r_l1 hL hu hg hr u i hi hru s a m hm next rest (pre ++ [x]) (by rw [h]; simp)
      rw [List.find?_cons_of_neg hx]
      have hxf : isU u x = false := by simpa using hx
      refine Ev.step hj (Ev.step (fun q => ?_) ih)
      rw [scarfjointref03_CheckRefute.j3, if_pos rfl, if_pos (by omega), hlm, if_pos (by omega), if_pos (by omega), if_pos (by omega), rdT79_at h, e0, hru, isU_ne, if_pos (by rw [hxf]; rfl), hw]
/-- The reference's checks, use by use. -/
def refS (L : List S71) : Bool → Int → Int → Int → List S55 → Bool
  | _, s, a, m, [] => decide (a = s) && decide (m < 0)
  | first, s, a, m, u :: rest => match look L u with
    | none => false
    | some x => if first = true then refS L false x.f1 x.f2 (m + x.f3) rest else (if x.f1 = a then refS L false s x.f2 (m + x.f3) rest else false)
theorem r_l0 {L : List S71} (hL : L.length ≤ 1000) (hu : uniq L) {N : Nat} (hg : good N L) {r : List S55} (hr : r.length ≤ 40) : ∀ (rest pre : List S55) (s a m : Int), r = pre ++ rest → (-(3000000 * pre.length : Int) ≤ m ∧ m ≤ 3000000 * pre.length) →
    Ev (fun q => scarfjointref03_CheckRefute.l0 q r (L.map to79) s a m (pre.length : Int)) (refS L (decide (pre.length = 0)) s a m rest)
  | [], pre, s, a, m, h, hm => by
    refine Ev.step (f := fun _ => some (refS L (decide (pre.length = 0)) s a m [])) (fun q => ?_) (Ev.now _)
    rw [scarfjointref03_CheckRefute.l0, if_neg (by rw [h]; simp)]
    unfold refS
    by_cases ha : a = s
    · rw [if_pos ha]; simp [ha]
    · rw [if_neg ha]; simp [ha]
  | u :: rest, pre, s, a, m, h, hm => by
    have hlen : pre.length < r.length := by rw [h]; simp
    have hrd : rd_T55 r (pre.length : Int) = u := by rw [h]; simp [rd_T55]
    have hpl : (pre ++ [u]).length = pre.length + 1 := by simp
    have h1 := r_l1 hL hu hg (r := r) (by omega) u pre.length hlen hrd s a m (by omega) (R := fun x => refS L false (if pre.length = 0 then x.f1 else s) x.f2 (m + x.f3) rest) (fun x hx hc => by
      have hga := hg x hx
      unfold goodA at hga
      have := r_l0 hL hu hg hr rest (pre ++ [u]) (if pre.length = 0 then x.f1 else s) x.f2 (m + x.f3) (by rw [h]; simp) (by rw [hpl]; omega)
      rw [hpl] at this
      exact this) L [] rfl
    have he : refS L (decide (pre.length = 0)) s a m (u :: rest) = (match L.find? (isU u) with
        | none => false
        | some x => if pre.length = 0 ∨ x.f1 = a then refS L false (if pre.length = 0 then x.f1 else s) x.f2 (m + x.f3) rest else false) := by
      rw [refS]
      show (match L.find? (isU u) with | none => _ | some x => _) = _
      cases L.find? (isU u) with
      | none => rfl
      | some x =>
        by_cases hp : pre.length = 0
        · simp [hp]
        · simp [hp]
    rw [he]
    refine Ev.step (fun q => ?_) h1
    rw [scarfjointref03_CheckRefute.l0, if_pos (by omega)]
    rfl
theorem refS_gather (L : List S71) : ∀ (rest : List S55) (s a m : Int), refS L false s a m rest = (match gather L rest with
    | none => false
    | some l => follows a l && (decide (endOf a l = s) && decide (m + total l < 0)))
  | [], s, a, m => by
    show (decide (a = s) && decide (m < 0)) = (true && (decide (a = s) && decide (m + 0 < 0)))
    rw [Int.add_zero, Bool.true_and]
  | u :: rest, s, a, m => by
    rw [refS, gather]
    cases look L u with
    | none => rfl
    | some x =>
      simp only [Option.bind_some]
      rw [if_neg (by simp), refS_gather L rest s x.f2 (m + x.f3)]
      cases gather L rest with
      | none => simp
      | some l =>
        simp only [Option.map_some, follows, endOf, total]
        by_cases hx : x.f1 = a
        · subst hx
          rw [if_pos rfl, decide_eq_true (rfl : x.f1 = x.f1), Bool.true_and, Int.add_assoc]
          congr
        · simp [hx]
theorem refS_ok (L : List S71) {r : List S55} (hr : r ≠ []) (s a : Int) : refS L true s a 0 r = okUses L r := by
  cases r with
  | nil => exact absurd rfl hr
  | cons u rest =>
    unfold okUses
    rw [refS, gather]
    cases look L u with
    | none => rfl
    | some x =>
      simp only [Option.bind_some]
      rw [if_pos trivial, refS_gather]
      cases gather L rest with
      | none => rfl
      | some l =>
        simp [okList, total]
        congr
/-- What the reference's CheckRefute comes to. -/
theorem Chk_ev (n : Int) (l : List S26) (r : List S55) : Ev (fun q => scarfjointref03_CheckRefute.f q n l r) (decide (errV n l = 0) && (decide (1 ≤ r.length ∧ r.length ≤ 40) && okUses (arcsF 0 l) r)) := by
  have key : ∀ b : Bool, errV n l = 0 → b = decide (¬ (1 ≤ r.length ∧ r.length ≤ 40)) → Ev (fun q => scarfjointref03_CheckRefute.j0 q l r b) (decide (1 ≤ r.length ∧ r.length ≤ 40) && okUses (arcsF 0 l) r) := by
    intro b h hb
    obtain ⟨h0, h12, h40, hv⟩ := errV_zero h
    have hgA := arcsF_good h0 h12 l 0 hv
    have hl := arcsF_len 0 l
    by_cases hr : 1 ≤ r.length ∧ r.length ≤ 40
    · have hbf : b = false := by rw [hb]; simpa using hr
      have hd : decide (1 ≤ r.length ∧ r.length ≤ 40) = true := decide_eq_true hr
      rw [hbf, hd, Bool.true_and]
      refine Ev.step (f := fun q => (scarfjointref03_arcs.f q l).bind fun t465 => (scarfjointref03_CheckRefute.l0 q r t465 0 0 0 0)) (fun q => by rw [scarfjointref03_CheckRefute.j0, if_neg (by simp)]) ?_
      refine Ev.bind (Arcs_ev l (by omega)) ?_
      have := r_l0 (L := arcsF 0 l) (by omega) (arcsF_uniq l 0) hgA hr.2 r [] 0 0 0 rfl (by simp)
      rw [← refS_ok (arcsF 0 l) (by intro h9; rw [h9] at hr; simp at hr) 0 0]
      exact this
    · have hbt : b = true := by rw [hb]; exact decide_eq_true hr
      have hd : decide (1 ≤ r.length ∧ r.length ≤ 40) = false := decide_eq_false hr
      rw [hbt, hd, Bool.false_and]
      exact Ev.step (f := fun _ => some false) (fun q => by rw [scarfjointref03_CheckRefute.j0, if_pos rfl]) (Ev.now _)
  unfold scarfjointref03_CheckRefute.f
  refine Ev.bind (Valid_ev n l) ?_
  by_cases h : errV n l = 0
  · have hd : decide (errV n l = 0) = true := decide_eq_true h
    rw [hd, Bool.true_and]
    refine Ev.ite_pos h ?_
    by_cases h1 : (r.length : Int) < 1
    · exact Ev.ite_pos h1 (key true h (by symm; apply decide_eq_true; omega))
    · exact Ev.ite_neg h1 (key _ h (by rw [decide_eq_decide]; omega))
  · have hd : decide (errV n l = 0) = false := decide_eq_false h
    rw [hd, Bool.false_and]
    exact Ev.ite_neg h (Ev.step (f := fun _ => some false) (fun q => by rw [scarfjointref03_CheckRefute.j0, if_pos rfl]) (Ev.now _))

/-! ### Accepted lists -/
theorem walk_of {L : List S71} : ∀ (l : List S71) (at_ : Int), (∀ a ∈ l, a ∈ L) → follows at_ l = true → IsWalk (L.map toA) at_.toNat (l.map toA) (endOf at_ l).toNat
  | [], at_, _, _ => rfl
  | a :: l, at_, hm, hf => by
    unfold follows at hf
    rw [Bool.and_eq_true, decide_eq_true_eq] at hf
    exact ⟨List.mem_map_of_mem (hm a (by simp)), by rw [← hf.1]; rfl, walk_of l a.f2 (fun b hb => hm b (by simp [hb])) hf.2⟩
theorem total_wsum : ∀ l : List S71, total l = wsum (l.map toA)
  | [] => rfl
  | a :: l => by
    show a.f3 + total l = a.f3 + wsum (l.map toA)
    rw [total_wsum l]
theorem ok_infeas {L : List S71} {r : List S55} (h : okUses L r = true) : ¬ Feas (L.map toA) := by
  unfold okUses at h
  cases hg : gather L r with
  | none => rw [hg] at h; cases h
  | some l =>
    rw [hg] at h
    cases l with
    | nil => cases h
    | cons a l =>
      simp only [okList, Bool.and_eq_true, decide_eq_true_eq] at h
      obtain ⟨h1, h2, h3⟩ := h
      have hm := (gather_mem hg).1
      have hw := walk_of (a :: l) a.f1 hm (by simp [follows, h1])
      have he : endOf a.f1 (a :: l) = a.f1 := h2
      rw [he] at hw
      intro hf
      have := feas_closed hf _ _ hw
      rw [← total_wsum] at this
      omega
/-- What is read out of the exact tables is a walk to the start that gains. -/
theorem recon_spec {N : Nat} {L : List S71} (hg : good N L) : ∀ (r : Nat), r ≤ 50 → ∀ (out : List S55) (start at_ sum : Int), 0 ≤ start → 0 ≤ at_ → exactT (L.map toA) r at_.toNat start.toNat < far → sum + exactT (L.map toA) r at_.toNat start.toNat < 0 →
    ∃ l : List S71, recon (L.map toA) L r out start at_ sum = out ++ l.map (·.f0) ∧ (∀ a ∈ l, a ∈ L) ∧ follows at_ l = true ∧ endOf at_ l = start ∧ sum + total l < 0 ∧ l.length = r
  | 0, _, out, start, at_, sum, h0, h1, h2, h3 => by
    have hd : at_.toNat = start.toNat := by
      apply Classical.byContradiction
      intro hne
      simp [exactT, diag, hne] at h2
    have hz : exactT (L.map toA) 0 at_.toNat start.toNat = 0 := by simp [exactT, diag, hd]
    rw [hz] at h3
    exact ⟨[], by simp [recon], fun a ha => (by cases ha), rfl, by show at_ = start; omega, by simpa [total] using h3, rfl⟩
  | r + 1, hr, out, start, at_, sum, h0, h1, h2, h3 => by
    have hns : ¬ start < 0 := by omega
    have hex : ∃ a ∈ L, fits (exactT (L.map toA) r) start at_ sum a = true := by
      rcases (exact_spec (good_small hg) (r + 1) (by omega) at_.toNat start.toNat).1 with h | ⟨w, hw, hlen, he⟩
      · omega
      · cases w with
        | nil => simp at hlen
        | cons b w =>
          obtain ⟨hb, hbs, hw⟩ := hw
          obtain ⟨a, ha, rfl⟩ := List.mem_map.1 hb
          have hga := hg a ha
          unfold goodA at hga
          have hl : w.length = r := by simpa using hlen
          have h4 := (exact_spec (good_small hg) r (by omega) (toA a).t start.toNat).2 w hw hl
          have h5 := wsum_small (good_small hg) w _ _ hw
          have h6 : (toA a).t = a.f2.toNat := rfl
          have h7 : (toA a).s = a.f1.toNat := rfl
          have h8 : wsum (toA a :: w) = a.f3 + wsum w := rfl
          rw [h6] at h4
          rw [h7] at hbs
          have hfs : fstOf start a = start := by unfold fstOf; rw [if_neg hns]
          refine ⟨a, ha, ?_⟩
          unfold fits
          simp only [Bool.and_eq_true, Bool.or_eq_true, decide_eq_true_eq, hfs]
          refine ⟨.inr (by omega), ?_, by omega⟩
          unfold far
          omega
    obtain ⟨a0, ha0, hfit0⟩ := hex
    cases hf : L.find? (fits (exactT (L.map toA) r) start at_ sum) with
    | none => exact absurd hfit0 (by simpa using List.find?_eq_none.1 hf a0 ha0)
    | some a =>
      have ha := List.mem_of_find?_eq_some hf
      have hfit := List.find?_some hf
      have hga := hg a ha
      unfold goodA at hga
      have hfs : fstOf start a = start := by unfold fstOf; rw [if_neg hns]
      unfold fits at hfit
      simp only [Bool.and_eq_true, Bool.or_eq_true, decide_eq_true_eq, hfs] at hfit
      obtain ⟨g1, g2, g3⟩ := hfit
      have g1' : a.f1 = at_ := g1.resolve_left hns
      obtain ⟨l, e1, e2, e3, e4, e5, e6⟩ := recon_spec hg r (by omega) (out ++ [a.f0]) start a.f2 (sum + a.f3) h0 (by omega) g2 g3
      refine ⟨a :: l, ?_, ?_, ?_, ?_, ?_, by simp [e6]⟩
      · rw [recon, hf]
        simp only [hfs]
        rw [e1]
        simp
      · intro b hb
        rcases List.mem_cons.1 hb with rfl | hb
        · exact ha
        · exact e2 b hb
      · simp [follows, g1', e3]
      · exact e4
      · simp only [total]; omega
theorem ref_ok {N K : Nat} (hN : N ≤ 13) {L : List S71} (hu : uniq L) (hg : good N L) (hK : K ≤ N) (hK1 : 1 ≤ K) (hfn : firstNeg (L.map toA) N K) : okUses L (refL (L.map toA) L K) = true ∧ (refL (L.map toA) L K).length = K := by
  obtain ⟨r, rfl⟩ : ∃ r, K = r + 1 := ⟨K - 1, by omega⟩
  obtain ⟨i, hi, hneg⟩ := hfn.1
  have hex : ∃ a ∈ L, fits (exactT (L.map toA) r) (-1) 0 0 a = true := by
    rcases (exact_spec (good_small hg) (r + 1) (by omega) i i).1 with h | ⟨w, hw, hlen, he⟩
    · unfold far at h; omega
    · cases w with
      | nil => simp at hlen
      | cons b w =>
        obtain ⟨hb, hbs, hw⟩ := hw
        obtain ⟨a, ha, rfl⟩ := List.mem_map.1 hb
        have hga := hg a ha
        unfold goodA at hga
        have hl : w.length = r := by simpa using hlen
        have h4 := (exact_spec (good_small hg) r (by omega) (toA a).t i).2 w hw hl
        have h5 := wsum_small (good_small hg) w _ _ hw
        have h6 : (toA a).t = a.f2.toNat := rfl
        have h7 : (toA a).s = a.f1.toNat := rfl
        have h8 : wsum (toA a :: w) = a.f3 + wsum w := rfl
        rw [h6] at h4
        rw [h7] at hbs
        have hfs : fstOf (-1) a = a.f1 := by unfold fstOf; rw [if_pos (by omega)]
        refine ⟨a, ha, ?_⟩
        unfold fits
        simp only [Bool.and_eq_true, Bool.or_eq_true, decide_eq_true_eq, hfs]
        rw [hbs]
        refine ⟨.inl (by omega), ?_, by omega⟩
        unfold far
        omega
  obtain ⟨a0, ha0, hfit0⟩ := hex
  cases hf : L.find? (fits (exactT (L.map toA) r) (-1) 0 0) with
  | none => exact absurd hfit0 (by simpa using List.find?_eq_none.1 hf a0 ha0)
  | some a =>
    have ha := List.mem_of_find?_eq_some hf
    have hfit := List.find?_some hf
    have hga := hg a ha
    unfold goodA at hga
    have hfs : fstOf (-1) a = a.f1 := by unfold fstOf; rw [if_pos (by omega)]
    unfold fits at hfit
    simp only [Bool.and_eq_true, Bool.or_eq_true, decide_eq_true_eq, hfs] at hfit
    obtain ⟨_, g2, g3⟩ := hfit
    obtain ⟨l, e1, e2, e3, e4, e5, e6⟩ := recon_spec hg r (by omega) ([] ++ [a.f0]) a.f1 a.f2 (0 + a.f3) (by omega) (by omega) g2 g3
    have he : refL (L.map toA) L (r + 1) = (a :: l).map (·.f0) := by
      unfold refL
      rw [recon, hf]
      simp only [hfs]
      rw [e1]
      simp
    rw [he]
    refine ⟨?_, by simp [e6]⟩
    unfold okUses
    rw [gather_of hu (a :: l) (fun b hb => by
      rcases List.mem_cons.1 hb with rfl | hb
      · exact ha
      · exact e2 b hb)]
    simp only [okList, Bool.and_eq_true, decide_eq_true_eq]
    refine ⟨e3, e4, ?_⟩
    simp only [total]
    omega
theorem solve_loop {M : Nat} (hM : M ≤ 12) (D : Nat → Int) (hD : ∀ i, -100000000 ≤ D i ∧ D i ≤ 100000000) : ∀ (m i : Nat), i + m = M →
    Ev (fun q => difference_Solve.l0 q (tab (M + 1) D) (tab i (fun j => D (j + 1) - D 0)) (tab M (fun j => D (j + 1))) (M : Int) (i : Int)) (tab M (fun j => D (j + 1) - D 0), 0)
  | 0, i, hi => by
    obtain rfl : i = M := by omega
    refine Ev.step (f := fun _ => some (tab i (fun j => D (j + 1) - D 0), 0)) (fun q => ?_) (Ev.now _)
    rw [difference_Solve.l0, if_neg (by omega)]
  | m + 1, i, hi => by
    have ih := solve_loop hM D hD m (i + 1) (by omega)
    rw [← tab_snoc i] at ih
    have hw : wrap64 ((i : Int) + 1) = ((i + 1 : Nat) : Int) := by rw [w64 (by omega)]; omega
    have h1 := hD (i + 1)
    have h0 := hD 0
    have hws : wrap64 (D (i + 1) - D 0) = D (i + 1) - D 0 := w64 (by omega)
    have hin : (i : Int).toNat = i := by omega
    refine Ev.step (fun q => ?_) ih
    rw [difference_Solve.l0, tab_len, tab_len, tab_len, if_pos (by omega), if_pos (by omega), if_pos (by omega), if_pos (by omega), if_pos (by omega), tab_rd (by omega) (by omega), tab_rd (by omega) (by omega), hin, hw]
    simp only [Int.toNat_zero]
    rw [hws]
theorem tab_drop (M : Nat) (D : Nat → Int) : (tab (M + 1) D).drop 1 = tab M (fun j => D (j + 1)) := by
  apply List.ext_getElem
  · simp [tab]
  · intro i h1 h2
    simp [tab]
theorem best_bound {l : List Arc} (hs : small l) (k : Nat) (hk : k ≤ 20) (i : Nat) : -100000000 ≤ best l (fun _ => 0) k i ∧ best l (fun _ => 0) k i ≤ 100000000 := by
  obtain ⟨w, j, hw, hlen, he⟩ := best_eq (l := l) (init := fun _ => 0) k i
  have := wsum_small hs w i j hw
  omega
/-- The standard solution. -/
def solL (A : List Arc) (M : Nat) : List Int := tab M (fun j => best A (fun _ => 0) (M + 1) (j + 1) - best A (fun _ => 0) (M + 1) 0)
open Classical in
/-- The answer of Solve. -/
noncomputable def solR (n : Int) (l : List S26) : List Int × Int := if errV n l = 0 then (if Feas ((arcsF 0 l).map toA) then (solL ((arcsF 0 l).map toA) n.toNat, 0) else ([], 10)) else ([], errV n l)
theorem solve_ev (n : Int) (l : List S26) : Ev (fun q => difference_Solve.f q n l) (solR n l) := by
  unfold difference_Solve.f solR
  refine Ev.bind (valid_ev n l) ?_
  by_cases h : errV n l = 0
  · rw [if_pos h]
    refine Ev.ite_pos h ?_
    obtain ⟨h0, h12, h40, hv⟩ := errV_zero h
    have hgA := arcsF_good h0 h12 l 0 hv
    have hl := arcsF_len 0 l
    refine Ev.bind (arcs_ev l (by omega)) ?_
    by_cases hf : Feas ((arcsF 0 l).map toA)
    · rw [if_pos hf]
      refine Ev.bind (dist_ev h0 h12 hgA (by omega) (R := (_, true)) ⟨fun _ => rfl, fun hnf => absurd hf hnf⟩) ?_
      refine Ev.ite_pos rfl (Ev.ite_pos (by rw [tab_len]; omega) ?_)
      refine Ev.some_bind ?_
      simp only
      rw [tab_drop, tab_len]
      exact solve_loop (by omega) _ (best_bound (good_small hgA) _ (by omega)) n.toNat 0 (by omega)
    · rw [if_neg hf]
      refine Ev.bind (dist_ev h0 h12 hgA (by omega) (R := ([], false)) ⟨fun h2 => absurd h2 hf, fun _ => rfl⟩) ?_
      exact Ev.ite_neg (by simp) (Ev.now _)
  · rw [if_neg h]
    exact Ev.ite_neg h (Ev.now _)
theorem clone_use {l : List S55} (hl : l.length ≤ 45) : api_Use.f l = some l := by
  unfold api_Use.f
  simp only [Option.bind_some, List.length_nil, List.nil_append]
  rw [if_pos (by omega)]
theorem check_law (n : Int) (l : List S26) (r : List S55) : Ev (fun q => scarfjointlaw03_DifferenceCheck.f q n l r) true := by
  have hwake : Ev (fun q => scarfjointlaw03_DifferenceCheck.j0 q n l r true) true := Ev.step (f := fun q => (scarfjointlaw03_awake.f q).bind fun t => some t) (fun q => by rw [scarfjointlaw03_DifferenceCheck.j0, if_pos rfl]) awake_some
  unfold scarfjointlaw03_DifferenceCheck.f
  refine Ev.bind awake_ev ?_
  refine Ev.ite_pos rfl ?_
  by_cases hl : (l.length : Int) > 45
  · exact Ev.ite_pos hl hwake
  · refine Ev.ite_neg hl ?_
    by_cases hr : (r.length : Int) > 45
    · rw [decide_eq_true hr]; exact hwake
    · rw [decide_eq_false hr]
      have hc := chk_ev n l r
      have hC := Chk_ev n l r
      have hS := solve_ev n l
      refine Ev.step (f := fun q => (api_Test_14.f l).bind fun t550 => ((api_Use.f r).bind fun t553 => ((difference_CheckRefute.f q n t550 t553).bind fun t556 => ((scarfjointref03_CheckRefute.f q n l r).bind fun t557 => (if (t556 != t557) = true then (some false) else ((difference_Solve.f q n l).bind fun bt558 => (if t556 = true then (some (bt558.2 == 10)) else (some true)))))))) (fun q => ?_) ?_
      · rw [scarfjointlaw03_DifferenceCheck.j0, if_neg (by simp)]
      · refine Ev.const_bind (clone_test (by omega)) ?_
        refine Ev.const_bind (clone_use (by omega)) ?_
        refine Ev.bind hc ?_
        refine Ev.bind hC ?_
        refine Ev.ite_neg (by simp) ?_
        refine Ev.bind hS ?_
        by_cases hb : (decide (errV n l = 0) && (decide (1 ≤ r.length ∧ r.length ≤ 40) && okUses (arcsF 0 l) r)) = true
        · rw [hb]
          refine Ev.ite_pos rfl ?_
          rw [Bool.and_eq_true, Bool.and_eq_true] at hb
          have h := of_decide_eq_true hb.1
          have hnf := ok_infeas hb.2.2
          unfold solR
          rw [if_pos h, if_neg hnf]
          exact Ev.now true
        · exact Ev.ite_neg hb (Ev.now _)
end Go.Proofs.Yteebkkdbkkibmaa.Pure
