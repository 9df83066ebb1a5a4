/- Functions of this claim and what their calls compute, written by wip/tools/mp.py, a variant of the kit printer. Conditions: each theorem has its own. -/
import Derived.Test.YteebkkdbkkibmaaPr0
import Derived.Test.YteebkkdbkkibmaaPr14
import Derived.Test.YteebkkdbkkibmaaPr17
namespace Go.Proofs.Yteebkkdbkkibmaa.Pr
open Go.RowKit Go.Proofs.YteebkkdbkkibmaaW.PrintWords Go.Proofs.YteebkkdbkkibmaaW.PrintLast Go.Proofs.YteebkkdbkkibmaaW.PrintMore
attribute [local go_sem] max2_int min2_int max_two min_two max_three min_three max_four min_four   -- for this text's walks alone
set_option linter.unusedVariables false
set_option linter.unusedSimpArgs false

/-! ### scarfjointref03_Solve: function 29 -/
mutual
def scarfjointref03_Solve.l0 : Nat → Int → List (List Int) → List Int → Int → Option (List Int × Int)
 | 0,_,_,_,_ => none
 | k + 1,x0,x7,x9,x10 => if x10 ≤ x0 then (scarfjointref03_Solve.l1 k x0 x7 x9 x10 0 0) else (scarfjointref03_Solve.l2 k x0 x9 ([] : List Int) 1)
def scarfjointref03_Solve.l1 : Nat → Int → List (List Int) → List Int → Int → Int → Int → Option (List Int × Int)
 | 0,_,_,_,_,_,_ => none
 | k + 1,x0,x7,x9,x10,x11,x12 => if x12 ≤ x0 then (if 0 ≤ x10 then (if x10 < (x7.length : Int) then (if 0 ≤ x12 then (if x12 < ((rd_L5 x7 x10).length : Int) then (scarfjointref03_Solve.l1 k x0 x7 x9 x10 (mn x11 (rd (rd_L5 x7 x10) x12)) (wrap64 (x12 + 1))) else (none)) else (none)) else (none)) else (none)) else (if x9.length < 17592186044416 then (scarfjointref03_Solve.l0 k x0 x7 (x9 ++ [x11]) (wrap64 (x10 + 1))) else (none))
def scarfjointref03_Solve.l2 : Nat → Int → List Int → List Int → Int → Option (List Int × Int)
 | 0,_,_,_,_ => none
 | k + 1,x0,x9,x13,x14 => if x14 ≤ x0 then (if 0 ≤ x14 then (if x14 < (x9.length : Int) then (if 0 < (x9.length : Int) then (if x13.length < 17592186044416 then (scarfjointref03_Solve.l2 k x0 x9 (x13 ++ [wrap64 ((rd x9 x14) - (rd x9 0))]) (wrap64 (x14 + 1))) else (none)) else (none)) else (none)) else (none)) else (some (x13,0))
end
def scarfjointref03_Solve.f (k : Nat) (a0 : Int) (l1 : List (S26)) : Option (List Int × Int):=(scarfjointref03_Valid.f k a0 l1).bind fun t492=>(if t492 = 0 then ((scarfjointref03_distances.f k a0 l1).bind fun bt493=>(if bt493.2 = true then (scarfjointref03_Solve.l0 k a0 bt493.1 ([] : List Int) 0) else (some (([] : List Int),10)))) else (some (([] : List Int),t492)))
theorem scarfjointref03_Solve.mono_l : ∀ k,(∀ y0 y1 y2 y3,LeO (scarfjointref03_Solve.l0 k y0 y1 y2 y3) (scarfjointref03_Solve.l0 (k + 1) y0 y1 y2 y3)) ∧ (∀ y0 y1 y2 y3 y4 y5,LeO (scarfjointref03_Solve.l1 k y0 y1 y2 y3 y4 y5) (scarfjointref03_Solve.l1 (k + 1) y0 y1 y2 y3 y4 y5)) ∧ (∀ y0 y1 y2 y3,LeO (scarfjointref03_Solve.l2 k y0 y1 y2 y3) (scarfjointref03_Solve.l2 (k + 1) y0 y1 y2 y3))
 | 0 => ⟨fun _ _ _ _ r h => by simp [scarfjointref03_Solve.l0] at h,fun _ _ _ _ _ _ r h => by simp [scarfjointref03_Solve.l1] at h,fun _ _ _ _ r h => by simp [scarfjointref03_Solve.l2] at h⟩
 | k + 1 => by
  obtain ⟨ih0,ih1,ih2⟩:=scarfjointref03_Solve.mono_l k
  refine ⟨?_,?_,?_⟩
  ·intro y0 y1 y2 y3
   unfold scarfjointref03_Solve.l0
   repeat' first
   | (with_reducible exact ih0 _ _ _ _)
   | (with_reducible exact ih1 _ _ _ _ _ _)
   | (with_reducible exact ih2 _ _ _ _)
   | (with_reducible exact scarfjointref03_Valid.mono _ _ _)
   | (with_reducible exact scarfjointref03_distances.mono _ _ _)
   | (with_reducible exact LeO.refl _)
   | (with_reducible exact LeO.none _)
   | (with_reducible refine LeO.ite ?_ ?_)
   | (with_reducible refine LeO.bind ?_ (fun _ => ?_))
   | exact ih0 _ _ _ _
   | exact ih1 _ _ _ _ _ _
   | exact ih2 _ _ _ _
   | exact scarfjointref03_Valid.mono _ _ _
   | exact scarfjointref03_distances.mono _ _ _
   | exact LeO.none _
   | refine LeO.ite ?_ ?_
   | refine LeO.bind ?_ (fun _ => ?_)
  ·intro y0 y1 y2 y3 y4 y5
   unfold scarfjointref03_Solve.l1
   repeat' first
   | (with_reducible exact ih0 _ _ _ _)
   | (with_reducible exact ih1 _ _ _ _ _ _)
   | (with_reducible exact ih2 _ _ _ _)
   | (with_reducible exact scarfjointref03_Valid.mono _ _ _)
   | (with_reducible exact scarfjointref03_distances.mono _ _ _)
   | (with_reducible exact LeO.refl _)
   | (with_reducible exact LeO.none _)
   | (with_reducible refine LeO.ite ?_ ?_)
   | (with_reducible refine LeO.bind ?_ (fun _ => ?_))
   | exact ih0 _ _ _ _
   | exact ih1 _ _ _ _ _ _
   | exact ih2 _ _ _ _
   | exact scarfjointref03_Valid.mono _ _ _
   | exact scarfjointref03_distances.mono _ _ _
   | exact LeO.none _
   | refine LeO.ite ?_ ?_
   | refine LeO.bind ?_ (fun _ => ?_)
  ·intro y0 y1 y2 y3
   unfold scarfjointref03_Solve.l2
   repeat' first
   | (with_reducible exact ih0 _ _ _ _)
   | (with_reducible exact ih1 _ _ _ _ _ _)
   | (with_reducible exact ih2 _ _ _ _)
   | (with_reducible exact scarfjointref03_Valid.mono _ _ _)
   | (with_reducible exact scarfjointref03_distances.mono _ _ _)
   | (with_reducible exact LeO.refl _)
   | (with_reducible exact LeO.none _)
   | (with_reducible refine LeO.ite ?_ ?_)
   | (with_reducible refine LeO.bind ?_ (fun _ => ?_))
   | exact ih0 _ _ _ _
   | exact ih1 _ _ _ _ _ _
   | exact ih2 _ _ _ _
   | exact scarfjointref03_Valid.mono _ _ _
   | exact scarfjointref03_distances.mono _ _ _
   | exact LeO.none _
   | refine LeO.ite ?_ ?_
   | refine LeO.bind ?_ (fun _ => ?_)
theorem scarfjointref03_Solve.mono : ∀ a0 a1 k,LeO (scarfjointref03_Solve.f k a0 a1) (scarfjointref03_Solve.f (k + 1) a0 a1):=by
 intro a0 a1 k
 obtain ⟨ih0,ih1,ih2⟩:=scarfjointref03_Solve.mono_l k
 unfold scarfjointref03_Solve.f
 repeat' first
   | (with_reducible exact ih0 _ _ _ _)
   | (with_reducible exact ih1 _ _ _ _ _ _)
   | (with_reducible exact ih2 _ _ _ _)
   | (with_reducible exact scarfjointref03_Valid.mono _ _ _)
   | (with_reducible exact scarfjointref03_distances.mono _ _ _)
   | (with_reducible exact LeO.refl _)
   | (with_reducible exact LeO.none _)
   | (with_reducible refine LeO.ite ?_ ?_)
   | (with_reducible refine LeO.bind ?_ (fun _ => ?_))
   | exact ih0 _ _ _ _
   | exact ih1 _ _ _ _ _ _
   | exact ih2 _ _ _ _
   | exact scarfjointref03_Valid.mono _ _ _
   | exact scarfjointref03_distances.mono _ _ _
   | exact LeO.none _
   | refine LeO.ite ?_ ?_
   | refine LeO.bind ?_ (fun _ => ?_)
def scarfjointref03_Solve.T21 : Bool × List (List Nat × List Nat):=(true,[([],[]),([],[]),([],[]),([1,2],[1,2]),([3],[3]),([],[]),([5],[5]),([6],[6]),([4,7],[4,7]),([8],[8]),([0,9],[0,9]),([10,10,0,1,2,3,4,5,6,7,8,9,10],[0,10])])
def scarfjointref03_Solve.B21 : List Nat:=[0,0,0,6,14,0,32,96,254,510,1023,2047]
theorem scarfjointref03_Solve.tab21 : rtab .any (opsOf Try.f29 21) = scarfjointref03_Solve.T21:=by kernel_rfl
theorem scarfjointref03_Solve.bits21 : waitsOk scarfjointref03_Solve.T21.2 scarfjointref03_Solve.B21 = true:=by kernel_rfl
set_option maxHeartbeats 8000000 in
set_option maxRecDepth 100000 in
theorem scarfjointref03_Solve.calls (k : Nat) (a0 : Int) (A1 : Option Addr) (c1 : Nat) (l1 : List (S26)) (r1 : List Int) (r2 : Int) (w : World) (hr1 : Kd.C k26 w A1 l1.length l1) (hc1 : l1.length ≤ c1) (h : scarfjointref03_Solve.f k a0 l1 = some (r1,r2)) :
  Calls Try.prog 29 #[.int .i64 a0,.slice A1 l1.length c1] w fun e w'=>∃ v0_ : Value,e = .returned (.tuple #[v0_,.int .i64 r2]) ∧ Kd.R (Kd.int .i64) 3 w' w.heap.size (fun _=>True) v0_ r1 ∧ Below w.heap.size w w':=by
 have HR1:=Aside0.mk hr1
 have HC1:=Aside0.mk hc1
 clear hr1 hc1
 have HB:=Aside0.mk (Below.refl w.heap.size w)
 have H : ((scarfjointref03_Valid.f k a0 l1).bind fun t492=>(if t492 = 0 then ((scarfjointref03_distances.f k a0 l1).bind fun bt493=>(if bt493.2 = true then (scarfjointref03_Solve.l0 k a0 bt493.1 ([] : List Int) 0) else (some (([] : List Int),10)))) else (some (([] : List Int),t492)))) = some (r1,r2):=h
 clear h
 replace H:=Option.bind_eq_some_iff.mp H
 obtain ⟨t492,A30,H⟩:=H
 replace H : (if t492 = 0 then ((scarfjointref03_distances.f k a0 l1).bind fun bt493=>(if bt493.2 = true then (scarfjointref03_Solve.l0 k a0 bt493.1 ([] : List Int) 0) else (some (([] : List Int),10)))) else (some (([] : List Int),t492))) = some (r1,r2):=H
 have A3:=Aside0.mk A30
 clear A30
 by_cases c4 : t492 = 0
 ·rw [if_pos c4] at H
  have c4b0 : (t492 == 0) = true:=beq_iff_eq.mpr c4
  have c4b1 : (t492 != 0) = false:=bne_eq_false_iff_eq.mpr c4
  clear c4
  replace H:=Option.bind_eq_some_iff.mp H
  obtain ⟨⟨t493,t494⟩,A50,H⟩:=H
  replace H : (if t494 = true then (scarfjointref03_Solve.l0 k a0 t493 ([] : List Int) 0) else (some (([] : List Int),10))) = some (r1,r2):=H
  have A5:=Aside0.mk A50
  clear A50
  by_cases c6 : t494 = true
  ·subst c6
   have H1 : (scarfjointref03_Solve.l0 k a0 t493 ([] : List Int) 0) = some (r1,r2):=by rw [if_pos rfl] at H;exact H
   clear H
   have H:=H1
   clear H1
   have H':=Aside0.mk H
   clear H
   go_enter Try.func29,Try.ntmps29
   go_wp2_with (first|((with_reducible refine gate_callee (f:=31) rfl ?_);refine goesL_ (some 17) rfl rfl Try.func31 (by kernel_rfl) rfl #[.int .i64 a0,.slice A1 l1.length c1] rfl (by (try simp only [List.map_toArray,List.map_cons,List.map_nil]);first|done|rfl|(simp only [List.length_drop,List.length_take];rfl)) ?_;(with_reducible refine (scarfjointref03_Valid.calls k a0 _ _ l1 t492 _ ?side1 ?side2 A3.out).mono ?_);(case side1=>repeat (first|exact HR1.out|(with_reducible refine Kd.C_alloc ?_ _)|(with_reducible refine Kd.C_drewN ?_ _)|(with_reducible refine Kd.C_drew ?_)));(case side2=>exact HC1.out);rintro e w7 ⟨rfl,hb⟩;refine ⟨_,rfl,?_⟩;have n0_:=Aside0.mk (below_step (by repeat (first|(with_reducible first|exact HB.out|apply below_alloc|apply pw_below_drewN|apply below_drew1)|exact HB.out)) hb);clear HB;have HB:=n0_;clear n0_;(try clear hb);(try clear hb2);(try clear hk);(try clear hi))|((with_reducible refine gate_callee (f:=44) rfl ?_);refine goesL_ (some 24) rfl rfl Try.func44 (by kernel_rfl) rfl #[.int .i64 a0,.slice A1 l1.length c1] rfl (by (try simp only [List.map_toArray,List.map_cons,List.map_nil]);first|done|rfl|(simp only [List.length_drop,List.length_take];rfl)) ?_;(with_reducible refine (scarfjointref03_distances.calls k a0 _ _ l1 t493 true _ ?side1 ?side2 A5.out).mono ?_);(case side1=>repeat (first|exact (Kd.C_below HR1.out HB.out)|(with_reducible refine Kd.C_alloc ?_ _)|(with_reducible refine Kd.C_drewN ?_ _)|(with_reducible refine Kd.C_drew ?_)));(case side2=>exact HC1.out);rintro e w8 ⟨v495,rfl,ho0,hb⟩;refine ⟨_,rfl,?_⟩;have n0_:=Aside0.mk (Kd.S_lower ho0 (below_size (by repeat (first|(with_reducible first|exact HB.out|apply below_alloc|apply pw_below_drewN|apply below_drew1)|exact HB.out))));have n1_:=Aside0.mk (below_step (by repeat (first|(with_reducible first|exact HB.out|apply below_alloc|apply pw_below_drewN|apply below_drew1)|exact HB.out)) hb);clear HB;have HO496:=n0_;have HB:=n1_;clear n0_ n1_;(try clear hb);(try clear hb2);(try clear hk);(try clear hi);(try clear ho0)))
   go_loopg [9,10] k (fun kq v9 v10 w'=>∃ (x9_1 : List Int) (x10_1 : Int),v10 = .int .i64 x10_1 ∧ Aside0 (scarfjointref03_Solve.l0 kq a0 t493 x9_1 x10_1 = some (r1,r2)) ∧ Aside0 (kq ≤ k) ∧ Aside0 (Kd.S (Kd.slice 3 (Kd.int .i64)) 36 w' w.heap.size (fun k_=>some k_ ≠ (v9 : Value).ownBlock) v495 t493) ∧ Aside0 (Kd.R (Kd.int .i64) 3 w' w.heap.size (fun _=>True) v9 x9_1) ∧ Aside0 (Below w.heap.size w w'))
   case atStart=>exact ⟨(([] : List Int)),(0),(by first|rfl|(simp;done)|(simp [*];done)),H',⟨Nat.le_refl _⟩,⟨by (with_reducible repeat (first|apply Kd.S_alloc|apply Kd.S_drewN|apply Kd.S_drew));exact Kd.S_mono HO496.out (fun _ hk=>(by simp [Value.ownBlock]))⟩,⟨by first|exact Kd.R_nil _ _ _ _ _|exact Kd.N_nil _ _ _ _ _|exact Kd.V_nil _ _ _ _ _|exact Kd.Q_nil _ _ _ _ _|exact Kd.S_nil _ _ _ _ _⟩,⟨by repeat (first|(with_reducible first|exact HB.out|apply below_alloc|apply pw_below_drewN|apply below_drew1)|exact HB.out)⟩⟩
   case round =>
    clear H'
    try clear c1
    try clear c2
    try clear p2
    try clear c3
    try clear c4
    try clear c4b0
    try clear c4b1
    try clear c6
    obtain ⟨x9_1,x10_1,rfl,HA,HK1,HO_7,HO_9,HB⟩:=hrel
    cases gk with
    | zero => exact absurd HA.out (by simp [scarfjointref03_Solve.l0])
    | succ k1 =>
     have H:=HA.out
     clear HA
     simp only [scarfjointref03_Solve.l0] at H
     by_cases c9 : x10_1 ≤ a0
     ·rw [if_pos c9] at H
      have c9b0 : decide (x10_1 ≤ a0) = true:=decide_eq_true c9
      clear c9
      have H':=Aside0.mk H
      clear H
      go_wp2
      go_loopg [11,12] k1 (fun kq v11 v12 w'=>∃ (x11_2 : Int) (x12_2 : Int),v11 = .int .i64 x11_2 ∧ v12 = .int .i64 x12_2 ∧ Aside0 (scarfjointref03_Solve.l1 kq a0 t493 x9_1 x10_1 x11_2 x12_2 = some (r1,r2)) ∧ Aside0 (kq ≤ k1) ∧ Aside0 (Kd.S (Kd.slice 3 (Kd.int .i64)) 36 w' w.heap.size (fun k_=>some k_ ≠ (u9 : Value).ownBlock) v495 t493) ∧ Aside0 (Kd.R (Kd.int .i64) 3 w' w.heap.size (fun _=>True) u9 x9_1) ∧ Aside0 (Below w.heap.size w w'))
      case atStart=>exact ⟨(0),(0),(by first|rfl|(simp;done)|(simp [*];done)),(by first|rfl|(simp;done)|(simp [*];done)),H',⟨Nat.le_refl _⟩,⟨by (with_reducible repeat (first|apply Kd.S_alloc|apply Kd.S_drewN|apply Kd.S_drew));exact HO_7.out⟩,⟨by (with_reducible repeat (first|apply Kd.R_alloc|apply Kd.R_drewN|apply Kd.R_drew));exact HO_9.out⟩,⟨by repeat (first|(with_reducible first|exact HB.out|apply below_alloc|apply pw_below_drewN|apply below_drew1)|exact HB.out)⟩⟩
      case round =>
       clear H'
       try clear c1
       try clear c2
       try clear p2
       try clear c3
       try clear c4
       try clear c4b0
       try clear c4b1
       try clear c6
       try clear c9
       try clear c9b0
       try clear p2
       obtain ⟨x11_2,x12_2,rfl,rfl,HA,HK2,HO_7,HO_9,HB⟩:=hrel
       cases gk with
       | zero => exact absurd HA.out (by simp [scarfjointref03_Solve.l1])
       | succ k2 =>
        have H:=HA.out
        clear HA
        simp only [scarfjointref03_Solve.l1] at H
        by_cases c10 : x12_2 ≤ a0
        ·rw [if_pos c10] at H
         have c10b0 : decide (x12_2 ≤ a0) = true:=decide_eq_true c10
         clear c10
         by_cases c11 : 0 ≤ x10_1
         ·rw [if_pos c11] at H
          have c11b0 : decide (0 ≤ x10_1) = true:=decide_eq_true c11
          clear c11
          by_cases c12 : x10_1 < (t493.length : Int)
          ·rw [if_pos c12] at H
           have c12b0 : decide (x10_1 < (t493.length : Int)) = true:=decide_eq_true c12
           clear c12
           by_cases c13 : 0 ≤ x12_2
           ·rw [if_pos c13] at H
            have c13b0 : decide (0 ≤ x12_2) = true:=decide_eq_true c13
            clear c13
            by_cases c14 : x12_2 < ((rd_L5 t493 x10_1).length : Int)
            ·rw [if_pos c14] at H
             have c14b0 : decide (x12_2 < ((rd_L5 t493 x10_1).length : Int)) = true:=decide_eq_true c14
             clear c14
             obtain ⟨ji15,hji15⟩ : ∃ j_ : Int,(mn x11_2 (rd (rd_L5 t493 x10_1) x12_2)) = j_:=⟨_,rfl⟩
             replace H : (scarfjointref03_Solve.l1 k2 a0 t493 x9_1 x10_1 ji15 (wrap64 (x12_2 + 1))) = some (r1,r2):=by first|(rw [hji15] at H;exact H)|(simp only [hji15] at H ⊢;exact H)
             have hji15_ : (if (rd (rd_L5 t493 x10_1) x12_2) < x11_2 then (rd (rd_L5 t493 x10_1) x12_2) else x11_2) = ji15:=hji15
             have H':=Aside0.mk H
             clear H
             obtain ⟨Ao16,co16,eo16⟩:=Kd.S_slice HO_7.out
             subst eo16
             have p497 : 0 ≤ (x10_1 : Int):=of_decide_eq_true (by first|(with_reducible assumption)|assumption)
             have q497 : x10_1 < (t493.length : Int):=of_decide_eq_true (by first|(with_reducible assumption)|assumption)
             obtain ⟨ad497,A497_0,c497_0,e497,hx497_0,hl497_0,hi497_0⟩:=at_L5 (Kd.S_reads' HO_7.out).2.2 x10_1 p497 q497
             cases e497
             obtain ⟨ce497,hce497,hMe497,hcc497⟩:=Kd.S_get HO_7.out [] x10_1 p497 (by first|exact q497|exact of_decide_eq_true (by first|(with_reducible assumption)|assumption)|(have e_:=(Kd.S_reads' HO_7.out).1;omega))
             obtain ⟨ve497_0,rfl,ge497_0⟩:=hMe497
             have hv497_0:=hcc497 0 _ rfl
             rw [Nat.add_zero,show ((Kd.slice 3 (Kd.int .i64))).sz = 1 from rfl,Nat.mul_one] at hv497_0
             replace hv497_0:=Option.some.inj (hv497_0.symm.trans hx497_0)
             rw [hv497_0] at ge497_0
             have HL497_0:=Aside0.mk (show Kd.R (Kd.int .i64) 3 _ _ _ _ (rd_L5 t493 x10_1) from ge497_0)
             clear hv497_0 ge497_0
             clear hcc497 hce497
             have HR497_0:=Aside0.mk hi497_0
             have HC497_0:=Aside0.mk hl497_0
             clear hi497_0 hl497_0
             replace p497:=eq_true p497
             replace q497:=eq_true q497
             have p498 : 0 ≤ (x12_2 : Int):=of_decide_eq_true (by first|(with_reducible assumption)|assumption)
             have q498 : x12_2 < ((rd_L5 t493 x10_1).length : Int):=of_decide_eq_true (by first|(with_reducible assumption)|assumption)
             obtain ⟨ad498,e498,hx498_0⟩:=Kd.at_int (by repeat (first|(with_reducible exact HR497_0.out)|(with_reducible refine Kd.C_alloc ?_ _)|(with_reducible refine Kd.C_drewN ?_ _)|(with_reducible refine Kd.C_drew ?_)|exact HR497_0.out)) x12_2 p498 q498
             cases e498
             replace p498:=eq_true p498
             replace q498:=eq_true q498
             go_wp2
             go_roundg k2
             case measure=>have:=HK1.out;have:=HK2.out;omega
             case rel=>exact ⟨(ji15),(wrap64 (x12_2 + 1)),(by first|rfl|(simp;done)|(simp only [← hji15] <;> (first|rfl|simp))|(simp [*];done)),(by first|rfl|(simp;done)|(simp [*];done)),H',⟨by have:=HK1.out;have:=HK2.out;omega⟩,⟨by (with_reducible repeat (first|apply Kd.S_alloc|apply Kd.S_drewN|apply Kd.S_drew));exact HO_7.out⟩,⟨by (with_reducible repeat (first|apply Kd.R_alloc|apply Kd.R_drewN|apply Kd.R_drew));exact HO_9.out⟩,⟨by repeat (first|(with_reducible first|exact HB.out|apply below_alloc|apply pw_below_drewN|apply below_drew1)|exact HB.out)⟩⟩
            ·rw [if_neg c14] at H
             exact absurd H (by simp)
           ·rw [if_neg c13] at H
            exact absurd H (by simp)
          ·rw [if_neg c12] at H
           exact absurd H (by simp)
         ·rw [if_neg c11] at H
          exact absurd H (by simp)
        ·rw [if_neg c10] at H
         have c10b0 : decide (x12_2 ≤ a0) = false:=decide_eq_false c10
         clear c10
         by_cases c17 : x9_1.length < 17592186044416
         ·rw [if_pos c17] at H
          have LMc17:=Aside0.mk c17
          clear c17
          obtain ⟨y499,hy499⟩ : ∃ y_ : List Int,y_ = (x9_1 ++ [x11_2]):=⟨_,rfl⟩
          replace H : (scarfjointref03_Solve.l0 k2 a0 t493 y499 (wrap64 (x10_1 + 1))) = some (r1,r2):=by first|(rw [hy499];with_reducible exact H)|(have H2_:=(Option.bind_some _ _).symm.trans H;rw [hy499];with_reducible exact H2_)|(have H2_:=(Option.bind_some _ _).symm.trans H;with_reducible exact H2_)|with_reducible exact H|(rw [hy499];exact H)|exact H
          have Ny499:=Aside0.mk hy499
          clear hy499
          have H':=Aside0.mk H
          clear H
          go_wp2_with (first|((with_reducible refine gate_builtin (b:=.append) (xs:=#[.tmp 48,.tmp 50]) rfl ?_);at_builtin;refine Kd.R_append (Kd.int .i64) (w0:=w) w.heap.size rfl (.tmp 48) (.tmp 50) 36 3 (.int .i64 0) 8 rfl Try.underlying36 info3 rfl (by decide) (by omega) u9 x9_1 x11_2 [.int .i64 x11_2] (fun _=>True) (fun _=>False) rfl rfl ?aP (fun _ hk=>hk.elim) ?aF ?aO ?aB ?aS ?aL ?_;(case aP=>exact rfl);(case aB=>exact (by repeat (first|(with_reducible first|exact HB.out|apply below_alloc|apply pw_below_drewN|apply below_drew1)|exact HB.out)));(case aF=>exact (fun _ _=>trivial));(case aO=>exact (by (with_reducible repeat (first|apply Kd.R_alloc|apply Kd.R_drewN|apply Kd.R_drew));exact HO_9.out));(case aS=>exact (below_size (by repeat (first|(with_reducible first|exact HB.out|apply below_alloc|apply pw_below_drewN|apply below_drew1)|exact HB.out))));(case aL=>have:=LMc17.out;omega);intro v500 w18 ho hb hg hat;rw [← Ny499.out] at ho;have n0_:=Aside0.mk (Kd.S_after (ok:=(fun _=>True)) (by (with_reducible repeat (first|apply Kd.S_alloc|apply Kd.S_drewN|apply Kd.S_drew));exact Kd.S_mono HO_7.out (fun _ hk=>⟨trivial,hk⟩)) hg hat);have n1_:=Aside0.mk (hb);have n2_:=Aside0.mk (ho);clear HO_7;clear HB;clear HO_9;have HO_7:=n0_;have HB:=n1_;have HO501:=n2_;clear n0_ n1_ n2_;clear ho hb hg hat))
          go_roundg k2
          case measure=>have:=HK1.out;have:=HK2.out;omega
          case rel=>exact ⟨(y499),(wrap64 (x10_1 + 1)),(by first|rfl|(simp;done)|(simp [*];done)),H',⟨by have:=HK1.out;have:=HK2.out;omega⟩,⟨by (with_reducible repeat (first|apply Kd.S_alloc|apply Kd.S_drewN|apply Kd.S_drew));exact Kd.S_mono HO_7.out (fun _ hk=>hk.2)⟩,⟨by (with_reducible repeat (first|apply Kd.R_alloc|apply Kd.R_drewN|apply Kd.R_drew));exact HO501.out⟩,⟨by repeat (first|(with_reducible first|exact HB.out|apply below_alloc|apply pw_below_drewN|apply below_drew1)|exact HB.out)⟩⟩
         ·rw [if_neg c17] at H
          exact absurd H (by simp)
     ·rw [if_neg c9] at H
      have c9b0 : decide (x10_1 ≤ a0) = false:=decide_eq_false c9
      clear c9
      have H':=Aside0.mk H
      clear H
      go_wp2
      go_loopg [13,14] k1 (fun kq v13 v14 w'=>∃ (x13_2 : List Int) (x14_2 : Int),v14 = .int .i64 x14_2 ∧ Aside0 (scarfjointref03_Solve.l2 kq a0 x9_1 x13_2 x14_2 = some (r1,r2)) ∧ Aside0 (kq ≤ k1) ∧ Aside0 (Kd.R (Kd.int .i64) 3 w' w.heap.size (fun k_=>some k_ ≠ (v13 : Value).ownBlock) u9 x9_1) ∧ Aside0 (Kd.R (Kd.int .i64) 3 w' w.heap.size (fun k_=>some k_ ≠ (u9 : Value).ownBlock) v13 x13_2) ∧ Aside0 (Below w.heap.size w w'))
      case atStart=>exact ⟨(([] : List Int)),(1),(by first|rfl|(simp;done)|(simp [*];done)),H',⟨Nat.le_refl _⟩,⟨by (with_reducible repeat (first|apply Kd.R_alloc|apply Kd.R_drewN|apply Kd.R_drew));exact Kd.R_mono HO_9.out (fun _ hk=>(by simp [Value.ownBlock]))⟩,⟨by first|exact Kd.R_nil _ _ _ _ _|exact Kd.N_nil _ _ _ _ _|exact Kd.V_nil _ _ _ _ _|exact Kd.Q_nil _ _ _ _ _|exact Kd.S_nil _ _ _ _ _⟩,⟨by repeat (first|(with_reducible first|exact HB.out|apply below_alloc|apply pw_below_drewN|apply below_drew1)|exact HB.out)⟩⟩
      case round =>
       clear H'
       try clear c1
       try clear c2
       try clear p2
       try clear c3
       try clear c4
       try clear c4b0
       try clear c4b1
       try clear p4
       try clear q4
       try clear hx4
       try clear c6
       try clear p6
       try clear c9
       try clear c9b0
       try clear c10
       try clear c10b0
       try clear c11
       try clear c11b0
       try clear c12
       try clear c12b0
       try clear c13
       try clear c13b0
       try clear c14
       try clear c14b0
       try clear c17
       try clear hx497_0
       try clear hx498_0
       try clear p2
       try clear p497
       try clear p498
       try clear q497
       try clear q498
       obtain ⟨x13_2,x14_2,rfl,HA,HK2,HO_9,HO_13,HB⟩:=hrel
       cases gk with
       | zero => exact absurd HA.out (by simp [scarfjointref03_Solve.l2])
       | succ k2 =>
        have H:=HA.out
        clear HA
        simp only [scarfjointref03_Solve.l2] at H
        by_cases c19 : x14_2 ≤ a0
        ·rw [if_pos c19] at H
         have c19b0 : decide (x14_2 ≤ a0) = true:=decide_eq_true c19
         clear c19
         by_cases c20 : 0 ≤ x14_2
         ·rw [if_pos c20] at H
          have c20b0 : decide (0 ≤ x14_2) = true:=decide_eq_true c20
          clear c20
          by_cases c21 : x14_2 < (x9_1.length : Int)
          ·rw [if_pos c21] at H
           have c21b0 : decide (x14_2 < (x9_1.length : Int)) = true:=decide_eq_true c21
           clear c21
           by_cases c22 : 0 < (x9_1.length : Int)
           ·rw [if_pos c22] at H
            have c22b0 : decide (0 < (x9_1.length : Int)) = true:=decide_eq_true c22
            have c22b1 : decide (0 < x9_1.length) = true:=decide_eq_true (by omega)
            clear c22
            by_cases c23 : x13_2.length < 17592186044416
            ·rw [if_pos c23] at H
             have LMc23:=Aside0.mk c23
             clear c23
             obtain ⟨y504,hy504⟩ : ∃ y_ : List Int,y_ = (x13_2 ++ [wrap64 ((rd x9_1 x14_2) - (rd x9_1 0))]):=⟨_,rfl⟩
             replace H : (scarfjointref03_Solve.l2 k2 a0 x9_1 y504 (wrap64 (x14_2 + 1))) = some (r1,r2):=by first|(rw [hy504];with_reducible exact H)|(have H2_:=(Option.bind_some _ _).symm.trans H;rw [hy504];with_reducible exact H2_)|(have H2_:=(Option.bind_some _ _).symm.trans H;with_reducible exact H2_)|with_reducible exact H|(rw [hy504];exact H)|exact H
             have Ny504:=Aside0.mk hy504
             clear hy504
             have H':=Aside0.mk H
             clear H
             try go_wp2
             have n0_:=Aside0.mk (Kd.R_drew HO_9.out)
             have n1_:=Aside0.mk (Kd.R_drew HO_13.out)
             have n2_:=Aside0.mk (below_drew1 HB.out)
             clear HO_9
             clear HO_13
             clear HB
             have HO_9:=n0_
             have HO_13:=n1_
             have HB:=n2_
             clear n0_ n1_ n2_
             obtain ⟨Ao25,co25,eo25⟩:=Kd.R_slice HO_9.out
             (first|subst eo25|(injection eo25 with f1_ f2_ f3_;have f4_:=f1_.symm;have f5_:=f3_.symm;clear f1_ f2_ f3_;subst f4_;subst f5_))
             have p502 : 0 ≤ (x14_2 : Int):=of_decide_eq_true (by first|(with_reducible assumption)|assumption)
             have q502 : x14_2 < (x9_1.length : Int):=of_decide_eq_true (by first|(with_reducible assumption)|assumption)
             obtain ⟨ad502,e502,hx502_0⟩:=Kd.at_int (Kd.R_reads' HO_9.out).2.2 x14_2 p502 q502
             cases e502
             replace p502:=eq_true p502
             replace q502:=eq_true q502
             have p503 : 0 ≤ (0 : Int):=(by omega)
             have q503 : 0 < (x9_1.length : Int):=of_decide_eq_true (by first|(with_reducible assumption)|assumption)
             obtain ⟨ad503,e503,hx503_0⟩:=Kd.at_int (Kd.R_reads' HO_9.out).2.2 0 p503 q503
             obtain rfl : ad502 = ad503:=(by injection e503)
             have qi503 : (0 < x9_1.length) = True:=eq_true (by omega)
             (try rw [show ((0 : Int)).toNat = 0 from rfl] at hx503_0)
             (try rw [Addr.add_zero'] at hx503_0)
             replace p503:=eq_true p503
             replace q503:=eq_true q503
             refine start_ (n:=12) (S:=fun w'=>w'.cell? (ad502.add (x14_2).toNat) = some (.int .i64 (rd x9_1 x14_2)) ∧ w'.cell? ad502 = some (.int .i64 (rd x9_1 0))) (ds:=[9,10]) #[false,false,false,false,false,false,false,false,false,false,false,false] (by kernel_rfl) rfl rfl ⟨hx502_0,hx503_0⟩ (fun hHeld=>?_);refine with_tabW scarfjointref03_Solve.tab21 scarfjointref03_Solve.bits21 (fun HT_ HW_=>?_)
             generalize wr.drew = w24 at HO_9 HO_13 HB hx502_0 hx503_0 hHeld ⊢
             refine pure_ (i:=0) (N:=some 57) (v:=?_) (a':=?_) #[true,false,false,false,false,false,false,false,false,false,false,false] rfl rfl (any_of HT_.out (by kernel_rfl)) (fun _ _ _ h=>h) (Or.inl ⟨by rfl,?_⟩) ?_ ?_
             rotate_left
             ·intro w'
              go_simp
              with_reducible rfl
             rotate_left
             ·simp only [Act.put,List.setIfInBounds_toArray,List.set_cons_zero,List.set_cons_succ,i64_w,i32_w]
              rfl
             refine pure_ (i:=1) (N:=some 58) (v:=?_) (a':=?_) #[true,true,false,false,false,false,false,false,false,false,false,false] rfl rfl (any_of HT_.out (by kernel_rfl)) (fun _ _ _ h=>h) (Or.inl ⟨by rfl,?_⟩) ?_ ?_
             rotate_left
             ·intro w'
              go_simp
              with_reducible rfl
             rotate_left
             ·simp only [Act.put,List.setIfInBounds_toArray,List.set_cons_zero,List.set_cons_succ,i64_w,i32_w]
              rfl
             refine pure_ (i:=2) (N:=some 59) (v:=?_) (a':=?_) #[true,true,true,false,false,false,false,false,false,false,false,false] rfl rfl (any_of HT_.out (by kernel_rfl)) (fun _ _ _ h=>h) (Or.inl ⟨by rfl,?_⟩) ?_ ?_
             rotate_left
             ·intro w'
              go_simp
              with_reducible rfl
             rotate_left
             ·simp only [Act.put,List.setIfInBounds_toArray,List.set_cons_zero,List.set_cons_succ,i64_w,i32_w]
              rfl
             refine pure_ (i:=3) (N:=some 60) (v:=?_) (a':=?_) #[true,true,true,true,false,false,false,false,false,false,false,false] rfl rfl (any_of HT_.out (by kernel_rfl)) (fun _ _ _ h=>h) (Or.inl ⟨by rfl,?_⟩) ?_ ?_
             rotate_left
             ·intro w'
              go_simp
              with_reducible rfl
             rotate_left
             ·simp only [Act.put,List.setIfInBounds_toArray,List.set_cons_zero,List.set_cons_succ,i64_w,i32_w]
              rfl
             refine pure_ (i:=5) (N:=some 62) (v:=?_) (a':=?_) #[true,true,true,true,false,true,false,false,false,false,false,false] rfl rfl (any_of HT_.out (by kernel_rfl)) (fun _ _ _ h=>h) (Or.inl ⟨by rfl,?_⟩) ?_ ?_
             rotate_left
             ·intro w'
              go_simp
              with_reducible rfl
             rotate_left
             ·simp only [Act.put,List.setIfInBounds_toArray,List.set_cons_zero,List.set_cons_succ,i64_w,i32_w]
              rfl
             refine pure_ (i:=6) (N:=some 63) (v:=?_) (a':=?_) #[true,true,true,true,false,true,true,false,false,false,false,false] rfl rfl (any_of HT_.out (by kernel_rfl)) (fun _ _ _ h=>h) (Or.inl ⟨by rfl,?_⟩) ?_ ?_
             rotate_left
             ·intro w'
              go_simp
              with_reducible rfl
             rotate_left
             ·simp only [Act.put,List.setIfInBounds_toArray,List.set_cons_zero,List.set_cons_succ,i64_w,i32_w]
              rfl
             refine take_ (i:=4) (N:=some 61) (v:=?_) (a':=?_) #[true,true,true,true,true,true,true,false,false,false,false,false] rfl rfl (take_ofW HT_.out HW_.out (by kernel_rfl)) (fun _ _ _ h=>h) (Or.inl ⟨by rfl,?_⟩) hHeld ?_ ?_
             rotate_left
             ·rintro w' ⟨s0,s1⟩
              go_simp
              with_reducible rfl
             rotate_left
             ·simp only [Act.put,List.setIfInBounds_toArray,List.set_cons_zero,List.set_cons_succ,i64_w,i32_w]
              rfl
             refine take_ (i:=7) (N:=some 64) (v:=?_) (a':=?_) #[true,true,true,true,true,true,true,true,false,false,false,false] rfl rfl (take_ofW HT_.out HW_.out (by kernel_rfl)) (fun _ _ _ h=>h) (Or.inl ⟨by rfl,?_⟩) hHeld ?_ ?_
             rotate_left
             ·rintro w' ⟨s0,s1⟩
              go_simp
              with_reducible rfl
             rotate_left
             ·simp only [Act.put,List.setIfInBounds_toArray,List.set_cons_zero,List.set_cons_succ,i64_w,i32_w]
              rfl
             refine pure_ (i:=8) (N:=some 65) (v:=?_) (a':=?_) #[true,true,true,true,true,true,true,true,true,false,false,false] rfl rfl (any_of HT_.out (by kernel_rfl)) (fun _ _ _ h=>h) (Or.inl ⟨by rfl,?_⟩) ?_ ?_
             rotate_left
             ·intro w'
              go_simp
              with_reducible rfl
             rotate_left
             ·simp only [Act.put,List.setIfInBounds_toArray,List.set_cons_zero,List.set_cons_succ,i64_w,i32_w]
              rfl
             refine last_ (i:=9) (N:=some 66) #[true,true,true,true,true,true,true,true,true,true,false,false] rfl rfl (one_of HT_.out (by kernel_rfl)) (by decide) (fun K hK=>?_)
             refine value_ (w1:=?_) (v:=?_) (by rfl) rfl ?_ ?_
             rotate_left 2
             ·go_simp
              constructor
              ·rfl
              ·rfl
             refine hK.out _ _ ?_
             clear hK K
             refine norm_ (a':=?_) ?_ ?_
             rotate_left
             ·show Act.put _ (some 66) _ = _
              simp only [Act.put,List.setIfInBounds_toArray,List.set_cons_zero,List.set_cons_succ,i64_w,i32_w]
              rfl
             refine last_ (i:=10) (N:=some 67) #[true,true,true,true,true,true,true,true,true,true,true,false] rfl rfl (one_of HT_.out (by kernel_rfl)) (by decide) (fun K hK=>?_)
             refine Kd.R_append_step (Kd.int .i64) (w0:=w) w.heap.size (by rfl) (.tmp 57) (.tmp 66) 36 3 (.int .i64 0) 8 rfl Try.underlying36 info3 rfl (by decide) (by omega) u13 x13_2 (wrap64 ((rd x9_1 x14_2) - (rd x9_1 0))) [.int .i64 (wrap64 ((rd x9_1 x14_2) - (rd x9_1 0)))] (fun k_=>some k_ ≠ (.slice (some ad502) x9_1.length co25 : Value).ownBlock) (fun _=>False) rfl rfl ?aP (fun _ hk=>hk.elim) ?aF ?aO ?aB ?aS ?aL ?_
             (case aP=>exact rfl)
             (case aB=>exact (by repeat (first|(with_reducible first|exact HB.out|apply below_alloc|apply pw_below_drewN|apply below_drew1)|exact HB.out)))
             (case aF=>exact (fun k_ hk=>Kd.fresh' (Kd.R_lt (by (with_reducible repeat (first|apply Kd.R_alloc|apply Kd.R_drewN|apply Kd.R_drew));exact HO_9.out)) k_ hk))
             (case aO=>exact (by (with_reducible repeat (first|apply Kd.R_alloc|apply Kd.R_drewN|apply Kd.R_drew));exact HO_13.out))
             (case aS=>exact (below_size (by repeat (first|(with_reducible first|exact HB.out|apply below_alloc|apply pw_below_drewN|apply below_drew1)|exact HB.out))))
             (case aL=>have:=LMc23.out;omega)
             intro v505 w26 ho hb hg hat
             rw [← Ny504.out] at ho
             have n0_:=Aside0.mk (Kd.R_after (ok:=(fun _=>True)) (by (with_reducible repeat (first|apply Kd.R_alloc|apply Kd.R_drewN|apply Kd.R_drew));exact Kd.R_mono HO_9.out (fun _ hk=>⟨trivial,hk⟩)) hg hat)
             have n1_:=Aside0.mk (hb)
             have n2_:=Aside0.mk (ho)
             clear HO_9
             clear HB
             clear HO_13
             have HO_9:=n0_
             have HB:=n1_
             have HO506:=n2_
             clear n0_ n1_ n2_
             clear ho hb hg hat
             refine hK.out _ _ ?_
             clear hK K
             refine norm_ (a':=?_) ?_ ?_
             rotate_left
             ·show Act.put _ (some 67) _ = _
              simp only [Act.put,List.setIfInBounds_toArray,List.set_cons_zero,List.set_cons_succ,i64_w,i32_w]
              rfl
             refine pure_ (i:=11) (N:=some 13) (v:=?_) (a':=?_) #[true,true,true,true,true,true,true,true,true,true,true,true] rfl rfl (any_of HT_.out (by kernel_rfl)) (fun _ _ _ h=>h) (Or.inl ⟨by rfl,?_⟩) ?_ ?_
             rotate_left
             ·intro w'
              go_simp
              with_reducible rfl
             rotate_left
             ·simp only [Act.put,List.setIfInBounds_toArray,List.set_cons_zero,List.set_cons_succ,i64_w,i32_w]
              rfl
             refine done_ (done_of HT_.out (by kernel_rfl)) ?_
             try go_wp2
             go_roundg k2
             case measure=>have:=HK1.out;have:=HK2.out;omega
             case rel=>exact ⟨(y504),(wrap64 (x14_2 + 1)),(by first|rfl|(simp;done)|(simp [*];done)),H',⟨by have:=HK1.out;have:=HK2.out;omega⟩,⟨by (with_reducible repeat (first|apply Kd.R_alloc|apply Kd.R_drewN|apply Kd.R_drew));exact Kd.R_mono HO_9.out (fun _ hk=>hk.2)⟩,⟨by (with_reducible repeat (first|apply Kd.R_alloc|apply Kd.R_drewN|apply Kd.R_drew));exact HO506.out⟩,⟨by repeat (first|(with_reducible first|exact HB.out|apply below_alloc|apply pw_below_drewN|apply below_drew1)|exact HB.out)⟩⟩
            ·rw [if_neg c23] at H
             exact absurd H (by simp)
           ·rw [if_neg c22] at H
            exact absurd H (by simp)
          ·rw [if_neg c21] at H
           exact absurd H (by simp)
         ·rw [if_neg c20] at H
          exact absurd H (by simp)
        ·rw [if_neg c19] at H
         have c19b0 : decide (x14_2 ≤ a0) = false:=decide_eq_false c19
         clear c19
         simp only [Option.some.injEq,Prod.mk.injEq] at H
         obtain ⟨rfl,rfl⟩:=H
         go_wp2
         go_ret2
         exact ⟨_,by first|rfl|(simp [errW_none,errW_some] <;> rfl)|(simp [*,errW_none,errW_some] <;> rfl),by (with_reducible repeat (first|apply Kd.R_alloc|apply Kd.R_drewN|apply Kd.R_drew));exact Kd.R_mono HO_13.out (fun _ hk=>trivial),by repeat (first|(with_reducible first|exact HB.out|apply below_alloc|apply pw_below_drewN|apply below_drew1)|exact HB.out)⟩
  ·replace c6:=Bool.eq_false_iff.mpr c6
   subst c6
   have H1 : (some (([] : List Int),10)) = some (r1,r2):=by rw [if_neg (show ¬ (false = true) by decide)] at H;exact H
   clear H
   have H:=H1
   clear H1
   simp only [Option.some.injEq,Prod.mk.injEq] at H
   obtain ⟨rfl,rfl⟩:=H
   go_enter Try.func29,Try.ntmps29
   go_wp2_with (first|((with_reducible refine gate_callee (f:=31) rfl ?_);refine goesL_ (some 17) rfl rfl Try.func31 (by kernel_rfl) rfl #[.int .i64 a0,.slice A1 l1.length c1] rfl (by (try simp only [List.map_toArray,List.map_cons,List.map_nil]);first|done|rfl|(simp only [List.length_drop,List.length_take];rfl)) ?_;(with_reducible refine (scarfjointref03_Valid.calls k a0 _ _ l1 t492 _ ?side1 ?side2 A3.out).mono ?_);(case side1=>repeat (first|exact HR1.out|(with_reducible refine Kd.C_alloc ?_ _)|(with_reducible refine Kd.C_drewN ?_ _)|(with_reducible refine Kd.C_drew ?_)));(case side2=>exact HC1.out);rintro e w27 ⟨rfl,hb⟩;refine ⟨_,rfl,?_⟩;have n0_:=Aside0.mk (below_step (by repeat (first|(with_reducible first|exact HB.out|apply below_alloc|apply pw_below_drewN|apply below_drew1)|exact HB.out)) hb);clear HB;have HB:=n0_;clear n0_;(try clear hb);(try clear hb2);(try clear hk);(try clear hi))|((with_reducible refine gate_callee (f:=44) rfl ?_);refine goesL_ (some 24) rfl rfl Try.func44 (by kernel_rfl) rfl #[.int .i64 a0,.slice A1 l1.length c1] rfl (by (try simp only [List.map_toArray,List.map_cons,List.map_nil]);first|done|rfl|(simp only [List.length_drop,List.length_take];rfl)) ?_;(with_reducible refine (scarfjointref03_distances.calls k a0 _ _ l1 t493 false _ ?side1 ?side2 A5.out).mono ?_);(case side1=>repeat (first|exact (Kd.C_below HR1.out HB.out)|(with_reducible refine Kd.C_alloc ?_ _)|(with_reducible refine Kd.C_drewN ?_ _)|(with_reducible refine Kd.C_drew ?_)));(case side2=>exact HC1.out);rintro e w28 ⟨v495,rfl,ho0,hb⟩;refine ⟨_,rfl,?_⟩;have n0_:=Aside0.mk (Kd.S_lower ho0 (below_size (by repeat (first|(with_reducible first|exact HB.out|apply below_alloc|apply pw_below_drewN|apply below_drew1)|exact HB.out))));have n1_:=Aside0.mk (below_step (by repeat (first|(with_reducible first|exact HB.out|apply below_alloc|apply pw_below_drewN|apply below_drew1)|exact HB.out)) hb);clear HB;have HO496:=n0_;have HB:=n1_;clear n0_ n1_;(try clear hb);(try clear hb2);(try clear hk);(try clear hi);(try clear ho0)))
   go_ret2
   exact ⟨_,by first|rfl|(simp [errW_none,errW_some] <;> rfl)|(simp [*,errW_none,errW_some] <;> rfl),by first|exact Kd.R_nil _ _ _ _ _|exact Kd.N_nil _ _ _ _ _|exact Kd.V_nil _ _ _ _ _|exact Kd.Q_nil _ _ _ _ _|exact Kd.S_nil _ _ _ _ _,by repeat (first|(with_reducible first|exact HB.out|apply below_alloc|apply pw_below_drewN|apply below_drew1)|exact HB.out)⟩
 ·rw [if_neg c4] at H
  have c4b0 : (t492 == 0) = false:=beq_eq_false_iff_ne.mpr c4
  have c4b1 : (t492 != 0) = true:=bne_iff_ne.mpr c4
  simp only [Option.some.injEq,Prod.mk.injEq] at H
  obtain ⟨rfl,rfl⟩:=H
  go_enter Try.func29,Try.ntmps29
  go_wp2_with (first|((with_reducible refine gate_callee (f:=31) rfl ?_);refine goesL_ (some 17) rfl rfl Try.func31 (by kernel_rfl) rfl #[.int .i64 a0,.slice A1 l1.length c1] rfl (by (try simp only [List.map_toArray,List.map_cons,List.map_nil]);first|done|rfl|(simp only [List.length_drop,List.length_take];rfl)) ?_;(with_reducible refine (scarfjointref03_Valid.calls k a0 _ _ l1 t492 _ ?side1 ?side2 A3.out).mono ?_);(case side1=>repeat (first|exact HR1.out|(with_reducible refine Kd.C_alloc ?_ _)|(with_reducible refine Kd.C_drewN ?_ _)|(with_reducible refine Kd.C_drew ?_)));(case side2=>exact HC1.out);rintro e w29 ⟨rfl,hb⟩;refine ⟨_,rfl,?_⟩;have n0_:=Aside0.mk (below_step (by repeat (first|(with_reducible first|exact HB.out|apply below_alloc|apply pw_below_drewN|apply below_drew1)|exact HB.out)) hb);clear HB;have HB:=n0_;clear n0_;(try clear hb);(try clear hb2);(try clear hk);(try clear hi)))
  go_ret2
  exact ⟨_,by first|rfl|(simp [errW_none,errW_some] <;> rfl)|(simp [*,errW_none,errW_some] <;> rfl),by first|exact Kd.R_nil _ _ _ _ _|exact Kd.N_nil _ _ _ _ _|exact Kd.V_nil _ _ _ _ _|exact Kd.Q_nil _ _ _ _ _|exact Kd.S_nil _ _ _ _ _,by repeat (first|(with_reducible first|exact HB.out|apply below_alloc|apply pw_below_drewN|apply below_drew1)|exact HB.out)⟩

end Go.Proofs.Yteebkkdbkkibmaa.Pr
