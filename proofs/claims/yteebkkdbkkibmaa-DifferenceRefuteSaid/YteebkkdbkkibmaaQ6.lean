/- Functions of this claim and what their calls compute, written by wip/tools/mp.py, a variant of the kit printer. Conditions: each theorem has its own. -/
import Derived.Test.YteebkkdbkkibmaaPr0
import Derived.Test.YteebkkdbkkibmaaPr13
import Derived.Test.YteebkkdbkkibmaaQ5
import Derived.Test.YteebkkdbkkibmaaPr11
import Derived.Test.YteebkkdbkkibmaaPr12
import Derived.Test.YteebkkdbkkibmaaPr23
namespace Go.Proofs.Yteebkkdbkkibmaa.Pr
open Go.RowKit Go.Proofs.YteebkkdbkkibmaaW.PrintWords Go.Proofs.YteebkkdbkkibmaaW.PrintLast Go.Proofs.YteebkkdbkkibmaaW.PrintMore
attribute [local go_sem] max2_int min2_int max_two min_two max_three min_three max_four min_four   -- for this text's walks alone
set_option linter.unusedVariables false
set_option linter.unusedSimpArgs false

/-! ### scarfjointlaw03_DifferenceRefute: function 7 -/
def scarfjointlaw03_DifferenceRefute.j0 : Nat → Int → List (S26) → Bool → Option (Bool)
 | 0,_,_,_ => none
 | k + 1,x0,x1,x15 => if x15 = true then ((scarfjointlaw03_awake.f k).bind fun t514 => (some t514)) else ((api_Test_14.f x1).bind fun t515 => ((difference_Refute.f k x0 t515).bind fun bt518 => ((scarfjointref03_Refute.f k x0 x1).bind fun bt522 => ((scarfjointref03_SameUses.f k bt518.1 bt522.1).bind fun t526 => (if t526 = true then (if bt518.2 = bt522.2 then (if bt518.2 = 0 then ((difference_CheckRefute.f k x0 x1 bt518.1).bind fun t527 => (some t527)) else (some true)) else (some false)) else (some false))))))
def scarfjointlaw03_DifferenceRefute.f (k : Nat) (a0 : Int) (l1 : List (S26)) : Option (Bool):=(scarfjointlaw03_awake.f k).bind fun t513=>(if t513 = true then (scarfjointlaw03_DifferenceRefute.j0 k a0 l1 (decide ((l1.length : Int) > 45))) else (scarfjointlaw03_DifferenceRefute.j0 k a0 l1 true))
theorem scarfjointlaw03_DifferenceRefute.mono_l : ∀ k,(∀ y0 y1 y2,LeO (scarfjointlaw03_DifferenceRefute.j0 k y0 y1 y2) (scarfjointlaw03_DifferenceRefute.j0 (k + 1) y0 y1 y2))
 | 0 => fun _ _ _ r h => by simp [scarfjointlaw03_DifferenceRefute.j0] at h
 | k + 1 => by
  have ih0:=scarfjointlaw03_DifferenceRefute.mono_l k
  ·intro y0 y1 y2
   unfold scarfjointlaw03_DifferenceRefute.j0
   repeat' first
   | (with_reducible exact ih0 _ _ _)
   | (with_reducible exact difference_CheckRefute.mono _ _ _ _)
   | (with_reducible exact difference_Refute.mono _ _ _)
   | (with_reducible exact scarfjointlaw03_awake.mono _)
   | (with_reducible exact scarfjointref03_Refute.mono _ _ _)
   | (with_reducible exact scarfjointref03_SameUses.mono _ _ _)
   | (with_reducible exact LeO.refl _)
   | (with_reducible exact LeO.none _)
   | (with_reducible refine LeO.ite ?_ ?_)
   | (with_reducible refine LeO.bind ?_ (fun _ => ?_))
   | exact ih0 _ _ _
   | exact difference_CheckRefute.mono _ _ _ _
   | exact difference_Refute.mono _ _ _
   | exact scarfjointlaw03_awake.mono _
   | exact scarfjointref03_Refute.mono _ _ _
   | exact scarfjointref03_SameUses.mono _ _ _
   | exact LeO.none _
   | refine LeO.ite ?_ ?_
   | refine LeO.bind ?_ (fun _ => ?_)
theorem scarfjointlaw03_DifferenceRefute.mono : ∀ a0 a1 k,LeO (scarfjointlaw03_DifferenceRefute.f k a0 a1) (scarfjointlaw03_DifferenceRefute.f (k + 1) a0 a1):=by
 intro a0 a1 k
 have ih0:=scarfjointlaw03_DifferenceRefute.mono_l k
 unfold scarfjointlaw03_DifferenceRefute.f
 repeat' first
   | (with_reducible exact ih0 _ _ _)
   | (with_reducible exact difference_CheckRefute.mono _ _ _ _)
   | (with_reducible exact difference_Refute.mono _ _ _)
   | (with_reducible exact scarfjointlaw03_awake.mono _)
   | (with_reducible exact scarfjointref03_Refute.mono _ _ _)
   | (with_reducible exact scarfjointref03_SameUses.mono _ _ _)
   | (with_reducible exact LeO.refl _)
   | (with_reducible exact LeO.none _)
   | (with_reducible refine LeO.ite ?_ ?_)
   | (with_reducible refine LeO.bind ?_ (fun _ => ?_))
   | exact ih0 _ _ _
   | exact difference_CheckRefute.mono _ _ _ _
   | exact difference_Refute.mono _ _ _
   | exact scarfjointlaw03_awake.mono _
   | exact scarfjointref03_Refute.mono _ _ _
   | exact scarfjointref03_SameUses.mono _ _ _
   | exact LeO.none _
   | refine LeO.ite ?_ ?_
   | refine LeO.bind ?_ (fun _ => ?_)
set_option maxHeartbeats 8000000 in
set_option maxRecDepth 100000 in
theorem scarfjointlaw03_DifferenceRefute.calls (k : Nat) (a0 : Int) (A1 : Option Addr) (c1 : Nat) (l1 : List (S26)) (r : Bool) (w : World) (hr1 : Kd.C k26 w A1 l1.length l1) (hc1 : l1.length ≤ c1) (h : scarfjointlaw03_DifferenceRefute.f k a0 l1 = some r) :
  Calls Try.prog 7 #[.int .i64 a0,.slice A1 l1.length c1] w fun e w'=>e = .returned (.bool r) ∧ Below w.heap.size w w':=by
 have HR1:=Aside0.mk hr1
 have HC1:=Aside0.mk hc1
 clear hr1 hc1
 have HB:=Aside0.mk (Below.refl w.heap.size w)
 have H : ((scarfjointlaw03_awake.f k).bind fun t513=>(if t513 = true then (scarfjointlaw03_DifferenceRefute.j0 k a0 l1 (decide ((l1.length : Int) > 45))) else (scarfjointlaw03_DifferenceRefute.j0 k a0 l1 true))) = some r:=h
 clear h
 have HC3:=Aside0.mk H
 clear H
 go_enter Try.func7,Try.ntmps7
 go_upto_region 1 with (fail)
 go_cut [15] (fun v15 wc=>∃ (kq : Nat) (x15_2 : Bool),v15 = .bool x15_2 ∧ Aside0 (scarfjointlaw03_DifferenceRefute.j0 kq a0 l1 x15_2 = some r) ∧ Aside0 (kq ≤ k) ∧ Aside0 (Below w.heap.size w wc))
 case first =>
  have H:=HC3.out
  clear HC3
  replace H:=Option.bind_eq_some_iff.mp H
  obtain ⟨t513,A40,H⟩:=H
  replace H : (if t513 = true then (scarfjointlaw03_DifferenceRefute.j0 k a0 l1 (decide ((l1.length : Int) > 45))) else (scarfjointlaw03_DifferenceRefute.j0 k a0 l1 true)) = some r:=H
  have A4:=Aside0.mk A40
  clear A40
  by_cases c5 : t513 = true
  ·subst c5
   have H1 : (scarfjointlaw03_DifferenceRefute.j0 k a0 l1 (decide ((l1.length : Int) > 45))) = some r:=by rw [if_pos rfl] at H;exact H
   clear H
   have H:=H1
   clear H1
   have H':=Aside0.mk H
   clear H
   go_wp2_with (first|((with_reducible refine gate_callee (f:=12) rfl ?_);refine goesL_ (some 9) rfl rfl Try.func12 (by kernel_rfl) rfl #[] rfl (by (try simp only [List.map_toArray,List.map_cons,List.map_nil]);first|done|rfl|(simp only [List.length_drop,List.length_take];rfl)) ?_;(with_reducible refine (scarfjointlaw03_awake.calls k  true _ A4.out).mono ?_);rintro e w6 ⟨rfl,hb⟩;refine ⟨_,rfl,?_⟩;have n0_:=Aside0.mk (below_step (by repeat (first|(with_reducible first|exact HB.out|apply below_alloc|apply pw_below_drewN|apply below_drew1)|exact HB.out)) hb);clear HB;have HB:=n0_;clear n0_;(try clear hb);(try clear hb2);(try clear hk);(try clear hi)))
   go_meet
   case rel=>exact ⟨_,(decide ((l1.length : Int) > 45)),(by first|rfl|(simp;done)|(simp [*];done)),H',⟨by first|omega|exact Nat.le_refl _⟩,⟨by repeat (first|(with_reducible first|exact HB.out|apply below_alloc|apply pw_below_drewN|apply below_drew1)|exact HB.out)⟩⟩
  ·replace c5:=Bool.eq_false_iff.mpr c5
   subst c5
   have H1 : (scarfjointlaw03_DifferenceRefute.j0 k a0 l1 true) = some r:=by rw [if_neg (show ¬ (false = true) by decide)] at H;exact H
   clear H
   have H:=H1
   clear H1
   have H':=Aside0.mk H
   clear H
   go_wp2_with (first|((with_reducible refine gate_callee (f:=12) rfl ?_);refine goesL_ (some 9) rfl rfl Try.func12 (by kernel_rfl) rfl #[] rfl (by (try simp only [List.map_toArray,List.map_cons,List.map_nil]);first|done|rfl|(simp only [List.length_drop,List.length_take];rfl)) ?_;(with_reducible refine (scarfjointlaw03_awake.calls k  false _ A4.out).mono ?_);rintro e w7 ⟨rfl,hb⟩;refine ⟨_,rfl,?_⟩;have n0_:=Aside0.mk (below_step (by repeat (first|(with_reducible first|exact HB.out|apply below_alloc|apply pw_below_drewN|apply below_drew1)|exact HB.out)) hb);clear HB;have HB:=n0_;clear n0_;(try clear hb);(try clear hb2);(try clear hk);(try clear hi)))
   go_meet
   case rel=>exact ⟨_,(true),(by first|rfl|(simp;done)|(simp [*];done)),H',⟨by first|omega|exact Nat.le_refl _⟩,⟨by repeat (first|(with_reducible first|exact HB.out|apply below_alloc|apply pw_below_drewN|apply below_drew1)|exact HB.out)⟩⟩
 case rest =>
  clear HC3
  try clear c1
  try clear p2
  try clear c5
  try clear c7
  obtain ⟨kq,x15_2,rfl,HA,HJ2,HB⟩:=hcut
  cases kq with
  | zero => exact absurd HA.out (by simp [scarfjointlaw03_DifferenceRefute.j0])
  | succ kj2 =>
   have H:=HA.out
   clear HA
   simp only [scarfjointlaw03_DifferenceRefute.j0] at H
   by_cases c8 : x15_2 = true
   ·subst c8
    have H1 : ((scarfjointlaw03_awake.f kj2).bind fun t514=>(some t514)) = some r:=by rw [if_pos rfl] at H;exact H
    clear H
    have H:=H1
    clear H1
    replace H:=Option.bind_eq_some_iff.mp H
    obtain ⟨t514,A90,H⟩:=H
    replace H : (some t514) = some r:=H
    have A9:=Aside0.mk A90
    clear A90
    obtain rfl:=Option.some.inj H
    go_wp2_with (first|((with_reducible refine gate_callee (f:=12) rfl ?_);refine goesL_ (some 16) rfl rfl Try.func12 (by kernel_rfl) rfl #[] rfl (by (try simp only [List.map_toArray,List.map_cons,List.map_nil]);first|done|rfl|(simp only [List.length_drop,List.length_take];rfl)) ?_;(with_reducible refine (scarfjointlaw03_awake.calls kj2  t514 _ A9.out).mono ?_);rintro e w10 ⟨rfl,hb⟩;refine ⟨_,rfl,?_⟩;have n0_:=Aside0.mk (below_step (by repeat (first|(with_reducible first|exact HB.out|apply below_alloc|apply pw_below_drewN|apply below_drew1)|exact HB.out)) hb);clear HB;have HB:=n0_;clear n0_;(try clear hb);(try clear hb2);(try clear hk);(try clear hi)))
    go_ret
    exact ⟨by first|rfl|(simp [errW_none,errW_some] <;> rfl)|(simp [*,errW_none,errW_some] <;> rfl),by repeat (first|(with_reducible first|exact HB.out|apply below_alloc|apply pw_below_drewN|apply below_drew1)|exact HB.out)⟩
   ·replace c8:=Bool.eq_false_iff.mpr c8
    subst c8
    have H1 : ((api_Test_14.f l1).bind fun t515=>((difference_Refute.f kj2 a0 t515).bind fun bt518=>((scarfjointref03_Refute.f kj2 a0 l1).bind fun bt522=>((scarfjointref03_SameUses.f kj2 bt518.1 bt522.1).bind fun t526=>(if t526 = true then (if bt518.2 = bt522.2 then (if bt518.2 = 0 then ((difference_CheckRefute.f kj2 a0 l1 bt518.1).bind fun t527=>(some t527)) else (some true)) else (some false)) else (some false)))))) = some r:=by rw [if_neg (show ¬ (false = true) by decide)] at H;exact H
    clear H
    have H:=H1
    clear H1
    replace H:=Option.bind_eq_some_iff.mp H
    obtain ⟨t515,A110,H⟩:=H
    replace H : ((difference_Refute.f kj2 a0 t515).bind fun bt518=>((scarfjointref03_Refute.f kj2 a0 l1).bind fun bt522=>((scarfjointref03_SameUses.f kj2 bt518.1 bt522.1).bind fun t526=>(if t526 = true then (if bt518.2 = bt522.2 then (if bt518.2 = 0 then ((difference_CheckRefute.f kj2 a0 l1 bt518.1).bind fun t527=>(some t527)) else (some true)) else (some false)) else (some false))))) = some r:=H
    have A11:=Aside0.mk A110
    clear A110
    replace H:=Option.bind_eq_some_iff.mp H
    obtain ⟨⟨t518,t519⟩,A120,H⟩:=H
    replace H : ((scarfjointref03_Refute.f kj2 a0 l1).bind fun bt522=>((scarfjointref03_SameUses.f kj2 t518 bt522.1).bind fun t526=>(if t526 = true then (if t519 = bt522.2 then (if t519 = 0 then ((difference_CheckRefute.f kj2 a0 l1 t518).bind fun t527=>(some t527)) else (some true)) else (some false)) else (some false)))) = some r:=H
    have A12:=Aside0.mk A120
    clear A120
    replace H:=Option.bind_eq_some_iff.mp H
    obtain ⟨⟨t522,t523⟩,A130,H⟩:=H
    replace H : ((scarfjointref03_SameUses.f kj2 t518 t522).bind fun t526=>(if t526 = true then (if t519 = t523 then (if t519 = 0 then ((difference_CheckRefute.f kj2 a0 l1 t518).bind fun t527=>(some t527)) else (some true)) else (some false)) else (some false))) = some r:=H
    have A13:=Aside0.mk A130
    clear A130
    replace H:=Option.bind_eq_some_iff.mp H
    obtain ⟨t526,A140,H⟩:=H
    replace H : (if t526 = true then (if t519 = t523 then (if t519 = 0 then ((difference_CheckRefute.f kj2 a0 l1 t518).bind fun t527=>(some t527)) else (some true)) else (some false)) else (some false)) = some r:=H
    have A14:=Aside0.mk A140
    clear A140
    by_cases c15 : t526 = true
    ·subst c15
     have H1 : (if t519 = t523 then (if t519 = 0 then ((difference_CheckRefute.f kj2 a0 l1 t518).bind fun t527=>(some t527)) else (some true)) else (some false)) = some r:=by rw [if_pos rfl] at H;exact H
     clear H
     have H:=H1
     clear H1
     by_cases c16 : t519 = t523
     ·rw [if_pos c16] at H
      have c16b0 : (t519 == t523) = true:=beq_iff_eq.mpr c16
      have c16b1 : (t519 != t523) = false:=bne_eq_false_iff_eq.mpr c16
      clear c16
      by_cases c17 : t519 = 0
      ·rw [if_pos c17] at H
       have c17b0 : (t519 == 0) = true:=beq_iff_eq.mpr c17
       have c17b1 : (t519 != 0) = false:=bne_eq_false_iff_eq.mpr c17
       clear c17
       replace H:=Option.bind_eq_some_iff.mp H
       obtain ⟨t527,A180,H⟩:=H
       replace H : (some t527) = some r:=H
       have A18:=Aside0.mk A180
       clear A180
       obtain rfl:=Option.some.inj H
       go_wp2_with (first|((with_reducible refine gate_callee (f:=14) rfl ?_);refine goesL_ (some 20) rfl rfl Try.func14 (by kernel_rfl) rfl #[.slice A1 l1.length c1] rfl (by (try simp only [List.map_toArray,List.map_cons,List.map_nil]);first|done|rfl|(simp only [List.length_drop,List.length_take];rfl)) ?_;(with_reducible refine (api_Test_14.calls _ _ l1 t515 _ ?side1 ?side2 A11.out).mono ?_);(case side1=>repeat (first|exact (Kd.C_below HR1.out HB.out)|(with_reducible refine Kd.C_alloc ?_ _)|(with_reducible refine Kd.C_drewN ?_ _)|(with_reducible refine Kd.C_drew ?_)));(case side2=>exact HC1.out);rintro e w19 ⟨v516,rfl,ho0,hb⟩;refine ⟨_,rfl,?_⟩;have n0_:=Aside0.mk (Kd.R_lower ho0 (below_size (by repeat (first|(with_reducible first|exact HB.out|apply below_alloc|apply pw_below_drewN|apply below_drew1)|exact HB.out))));have n1_:=Aside0.mk (below_step (by repeat (first|(with_reducible first|exact HB.out|apply below_alloc|apply pw_below_drewN|apply below_drew1)|exact HB.out)) hb);clear HB;have HO517:=n0_;have HB:=n1_;clear n0_ n1_;(try clear hb);(try clear hb2);(try clear hk);(try clear hi);(try clear ho0);obtain ⟨Ao20,co20,eo20⟩:=Kd.R_slice HO517.out;subst eo20)|((with_reducible refine gate_callee (f:=18) rfl ?_);refine goesL_ (some 21) rfl rfl Try.func18 (by kernel_rfl) rfl #[.int .i64 a0,.slice Ao20 t515.length co20] rfl (by (try simp only [List.map_toArray,List.map_cons,List.map_nil]);first|done|rfl|(simp only [List.length_drop,List.length_take];rfl)) ?_;(with_reducible refine (difference_Refute.calls kj2 a0 _ _ t515 t518 t519 _ ?side1 ?side2 A12.out).mono ?_);(case side1=>repeat (first|exact (Kd.R_reads' HO517.out).2.2|(with_reducible refine Kd.C_alloc ?_ _)|(with_reducible refine Kd.C_drewN ?_ _)|(with_reducible refine Kd.C_drew ?_)));(case side2=>exact (Kd.R_reads' HO517.out).2.1);rintro e w21 ⟨v520,rfl,ho0,hb⟩;refine ⟨_,rfl,?_⟩;have n0_:=Aside0.mk (Kd.R_below (by (with_reducible repeat (first|apply Kd.R_alloc|apply Kd.R_drewN|apply Kd.R_drew));exact HO517.out) hb);have n1_:=Aside0.mk (Kd.R_lower ho0 (below_size (by repeat (first|(with_reducible first|exact HB.out|apply below_alloc|apply pw_below_drewN|apply below_drew1)|exact HB.out))));have n2_:=Aside0.mk (below_step (by repeat (first|(with_reducible first|exact HB.out|apply below_alloc|apply pw_below_drewN|apply below_drew1)|exact HB.out)) hb);clear HO517;clear HB;have HO517:=n0_;have HO521:=n1_;have HB:=n2_;clear n0_ n1_ n2_;(try clear hb);(try clear hb2);(try clear hk);(try clear hi);(try clear ho0))|((with_reducible refine gate_callee (f:=23) rfl ?_);refine goesL_ (some 27) rfl rfl Try.func23 (by kernel_rfl) rfl #[.int .i64 a0,.slice A1 l1.length c1] rfl (by (try simp only [List.map_toArray,List.map_cons,List.map_nil]);first|done|rfl|(simp only [List.length_drop,List.length_take];rfl)) ?_;(with_reducible refine (scarfjointref03_Refute.calls kj2 a0 _ _ l1 t522 t523 _ ?side1 ?side2 A13.out).mono ?_);(case side1=>repeat (first|exact (Kd.C_below HR1.out HB.out)|(with_reducible refine Kd.C_alloc ?_ _)|(with_reducible refine Kd.C_drewN ?_ _)|(with_reducible refine Kd.C_drew ?_)));(case side2=>exact HC1.out);rintro e w22 ⟨v524,rfl,ho0,hb⟩;refine ⟨_,rfl,?_⟩;have n0_:=Aside0.mk (Kd.R_below (by (with_reducible repeat (first|apply Kd.R_alloc|apply Kd.R_drewN|apply Kd.R_drew));exact HO517.out) hb);have n1_:=Aside0.mk (Kd.R_elder' (by (with_reducible repeat (first|apply Kd.R_alloc|apply Kd.R_drewN|apply Kd.R_drew));exact HO521.out) (Kd.R_base ho0) hb);have n2_:=Aside0.mk (Kd.R_lower (Kd.R_new' ho0 (Kd.R_lt (by (with_reducible repeat (first|apply Kd.R_alloc|apply Kd.R_drewN|apply Kd.R_drew));exact HO521.out))) (below_size (by repeat (first|(with_reducible first|exact HB.out|apply below_alloc|apply pw_below_drewN|apply below_drew1)|exact HB.out))));have n3_:=Aside0.mk (below_step (by repeat (first|(with_reducible first|exact HB.out|apply below_alloc|apply pw_below_drewN|apply below_drew1)|exact HB.out)) hb);clear HO517;clear HO521;clear HB;have HO517:=n0_;have HO521:=n1_;have HO525:=n2_;have HB:=n3_;clear n0_ n1_ n2_ n3_;(try clear hb);(try clear hb2);(try clear hk);(try clear hi);(try clear ho0);obtain ⟨Ao23,co23,eo23⟩:=Kd.R_slice HO521.out;subst eo23;obtain ⟨Ao24,co24,eo24⟩:=Kd.R_slice HO525.out;subst eo24)|((with_reducible refine gate_callee (f:=24) rfl ?_);refine goesL_ (some 32) rfl rfl Try.func24 (by kernel_rfl) rfl #[.slice Ao23 t518.length co23,.slice Ao24 t522.length co24] rfl (by (try simp only [List.map_toArray,List.map_cons,List.map_nil]);first|done|rfl|(simp only [List.length_drop,List.length_take];rfl)) ?_;(with_reducible refine (scarfjointref03_SameUses.calls kj2 _ _ t518 _ _ t522 true _ ?side1 ?side2 ?side3 ?side4 A14.out).mono ?_);(case side1=>repeat (first|exact (Kd.R_reads' HO521.out).2.2|(with_reducible refine Kd.C_alloc ?_ _)|(with_reducible refine Kd.C_drewN ?_ _)|(with_reducible refine Kd.C_drew ?_)));(case side2=>exact (Kd.R_reads' HO521.out).2.1);(case side3=>repeat (first|exact (Kd.R_reads' HO525.out).2.2|(with_reducible refine Kd.C_alloc ?_ _)|(with_reducible refine Kd.C_drewN ?_ _)|(with_reducible refine Kd.C_drew ?_)));(case side4=>exact (Kd.R_reads' HO525.out).2.1);rintro e w' ⟨rfl,⟨nd,rfl⟩⟩;refine ⟨_,rfl,?_⟩)|(go_at_call 25;(with_reducible refine (difference_CheckRefute.calls kj2 a0 _ _ l1 _ _ t518 t527 _ ?side1 ?side2 ?side3 ?side4 A18.out).mono ?_);(case side1=>repeat (first|exact (Kd.C_below HR1.out (by repeat (first|(with_reducible first|exact HB.out|apply below_alloc|apply pw_below_drewN|apply below_drew1)|exact HB.out)))|(with_reducible refine Kd.C_alloc ?_ _)|(with_reducible refine Kd.C_drewN ?_ _)|(with_reducible refine Kd.C_drew ?_)));(case side2=>exact HC1.out);(case side3=>repeat (first|exact (Kd.R_reads' HO521.out).2.2|(with_reducible refine Kd.C_alloc ?_ _)|(with_reducible refine Kd.C_drewN ?_ _)|(with_reducible refine Kd.C_drew ?_)));(case side4=>exact (Kd.R_reads' HO521.out).2.1);rintro e w25 ⟨rfl,hb⟩;have n0_:=Aside0.mk (Kd.R_below (by (with_reducible repeat (first|apply Kd.R_alloc|apply Kd.R_drewN|apply Kd.R_drew));exact HO517.out) hb);have n1_:=Aside0.mk (Kd.R_below (by (with_reducible repeat (first|apply Kd.R_alloc|apply Kd.R_drewN|apply Kd.R_drew));exact HO521.out) hb);have n2_:=Aside0.mk (Kd.R_below (by (with_reducible repeat (first|apply Kd.R_alloc|apply Kd.R_drewN|apply Kd.R_drew));exact HO525.out) hb);have n3_:=Aside0.mk (below_step (by repeat (first|(with_reducible first|exact HB.out|apply below_alloc|apply pw_below_drewN|apply below_drew1)|exact HB.out)) hb);clear HO517;clear HO521;clear HO525;clear HB;have HO517:=n0_;have HO521:=n1_;have HO525:=n2_;have HB:=n3_;clear n0_ n1_ n2_ n3_;(try clear hb);(try clear hb2);(try clear hk);(try clear hi)))
       go_ret
       exact ⟨by first|rfl|(simp [errW_none,errW_some] <;> rfl)|(simp [*,errW_none,errW_some] <;> rfl),by repeat (first|(with_reducible first|exact HB.out|apply below_alloc|apply pw_below_drewN|apply below_drew1)|exact HB.out)⟩
      ·rw [if_neg c17] at H
       have c17b0 : (t519 == 0) = false:=beq_eq_false_iff_ne.mpr c17
       have c17b1 : (t519 != 0) = true:=bne_iff_ne.mpr c17
       obtain rfl:=Option.some.inj H
       go_wp2_with (first|((with_reducible refine gate_callee (f:=14) rfl ?_);refine goesL_ (some 20) rfl rfl Try.func14 (by kernel_rfl) rfl #[.slice A1 l1.length c1] rfl (by (try simp only [List.map_toArray,List.map_cons,List.map_nil]);first|done|rfl|(simp only [List.length_drop,List.length_take];rfl)) ?_;(with_reducible refine (api_Test_14.calls _ _ l1 t515 _ ?side1 ?side2 A11.out).mono ?_);(case side1=>repeat (first|exact (Kd.C_below HR1.out HB.out)|(with_reducible refine Kd.C_alloc ?_ _)|(with_reducible refine Kd.C_drewN ?_ _)|(with_reducible refine Kd.C_drew ?_)));(case side2=>exact HC1.out);rintro e w26 ⟨v516,rfl,ho0,hb⟩;refine ⟨_,rfl,?_⟩;have n0_:=Aside0.mk (Kd.R_lower ho0 (below_size (by repeat (first|(with_reducible first|exact HB.out|apply below_alloc|apply pw_below_drewN|apply below_drew1)|exact HB.out))));have n1_:=Aside0.mk (below_step (by repeat (first|(with_reducible first|exact HB.out|apply below_alloc|apply pw_below_drewN|apply below_drew1)|exact HB.out)) hb);clear HB;have HO517:=n0_;have HB:=n1_;clear n0_ n1_;(try clear hb);(try clear hb2);(try clear hk);(try clear hi);(try clear ho0);obtain ⟨Ao27,co27,eo27⟩:=Kd.R_slice HO517.out;subst eo27)|((with_reducible refine gate_callee (f:=18) rfl ?_);refine goesL_ (some 21) rfl rfl Try.func18 (by kernel_rfl) rfl #[.int .i64 a0,.slice Ao27 t515.length co27] rfl (by (try simp only [List.map_toArray,List.map_cons,List.map_nil]);first|done|rfl|(simp only [List.length_drop,List.length_take];rfl)) ?_;(with_reducible refine (difference_Refute.calls kj2 a0 _ _ t515 t518 t519 _ ?side1 ?side2 A12.out).mono ?_);(case side1=>repeat (first|exact (Kd.R_reads' HO517.out).2.2|(with_reducible refine Kd.C_alloc ?_ _)|(with_reducible refine Kd.C_drewN ?_ _)|(with_reducible refine Kd.C_drew ?_)));(case side2=>exact (Kd.R_reads' HO517.out).2.1);rintro e w28 ⟨v520,rfl,ho0,hb⟩;refine ⟨_,rfl,?_⟩;have n0_:=Aside0.mk (Kd.R_below (by (with_reducible repeat (first|apply Kd.R_alloc|apply Kd.R_drewN|apply Kd.R_drew));exact HO517.out) hb);have n1_:=Aside0.mk (Kd.R_lower ho0 (below_size (by repeat (first|(with_reducible first|exact HB.out|apply below_alloc|apply pw_below_drewN|apply below_drew1)|exact HB.out))));have n2_:=Aside0.mk (below_step (by repeat (first|(with_reducible first|exact HB.out|apply below_alloc|apply pw_below_drewN|apply below_drew1)|exact HB.out)) hb);clear HO517;clear HB;have HO517:=n0_;have HO521:=n1_;have HB:=n2_;clear n0_ n1_ n2_;(try clear hb);(try clear hb2);(try clear hk);(try clear hi);(try clear ho0))|((with_reducible refine gate_callee (f:=23) rfl ?_);refine goesL_ (some 27) rfl rfl Try.func23 (by kernel_rfl) rfl #[.int .i64 a0,.slice A1 l1.length c1] rfl (by (try simp only [List.map_toArray,List.map_cons,List.map_nil]);first|done|rfl|(simp only [List.length_drop,List.length_take];rfl)) ?_;(with_reducible refine (scarfjointref03_Refute.calls kj2 a0 _ _ l1 t522 t523 _ ?side1 ?side2 A13.out).mono ?_);(case side1=>repeat (first|exact (Kd.C_below HR1.out HB.out)|(with_reducible refine Kd.C_alloc ?_ _)|(with_reducible refine Kd.C_drewN ?_ _)|(with_reducible refine Kd.C_drew ?_)));(case side2=>exact HC1.out);rintro e w29 ⟨v524,rfl,ho0,hb⟩;refine ⟨_,rfl,?_⟩;have n0_:=Aside0.mk (Kd.R_below (by (with_reducible repeat (first|apply Kd.R_alloc|apply Kd.R_drewN|apply Kd.R_drew));exact HO517.out) hb);have n1_:=Aside0.mk (Kd.R_elder' (by (with_reducible repeat (first|apply Kd.R_alloc|apply Kd.R_drewN|apply Kd.R_drew));exact HO521.out) (Kd.R_base ho0) hb);have n2_:=Aside0.mk (Kd.R_lower (Kd.R_new' ho0 (Kd.R_lt (by (with_reducible repeat (first|apply Kd.R_alloc|apply Kd.R_drewN|apply Kd.R_drew));exact HO521.out))) (below_size (by repeat (first|(with_reducible first|exact HB.out|apply below_alloc|apply pw_below_drewN|apply below_drew1)|exact HB.out))));have n3_:=Aside0.mk (below_step (by repeat (first|(with_reducible first|exact HB.out|apply below_alloc|apply pw_below_drewN|apply below_drew1)|exact HB.out)) hb);clear HO517;clear HO521;clear HB;have HO517:=n0_;have HO521:=n1_;have HO525:=n2_;have HB:=n3_;clear n0_ n1_ n2_ n3_;(try clear hb);(try clear hb2);(try clear hk);(try clear hi);(try clear ho0);obtain ⟨Ao30,co30,eo30⟩:=Kd.R_slice HO521.out;subst eo30;obtain ⟨Ao31,co31,eo31⟩:=Kd.R_slice HO525.out;subst eo31)|((with_reducible refine gate_callee (f:=24) rfl ?_);refine goesL_ (some 32) rfl rfl Try.func24 (by kernel_rfl) rfl #[.slice Ao30 t518.length co30,.slice Ao31 t522.length co31] rfl (by (try simp only [List.map_toArray,List.map_cons,List.map_nil]);first|done|rfl|(simp only [List.length_drop,List.length_take];rfl)) ?_;(with_reducible refine (scarfjointref03_SameUses.calls kj2 _ _ t518 _ _ t522 true _ ?side1 ?side2 ?side3 ?side4 A14.out).mono ?_);(case side1=>repeat (first|exact (Kd.R_reads' HO521.out).2.2|(with_reducible refine Kd.C_alloc ?_ _)|(with_reducible refine Kd.C_drewN ?_ _)|(with_reducible refine Kd.C_drew ?_)));(case side2=>exact (Kd.R_reads' HO521.out).2.1);(case side3=>repeat (first|exact (Kd.R_reads' HO525.out).2.2|(with_reducible refine Kd.C_alloc ?_ _)|(with_reducible refine Kd.C_drewN ?_ _)|(with_reducible refine Kd.C_drew ?_)));(case side4=>exact (Kd.R_reads' HO525.out).2.1);rintro e w' ⟨rfl,⟨nd,rfl⟩⟩;refine ⟨_,rfl,?_⟩))
       go_ret
       exact ⟨by first|rfl|(simp [errW_none,errW_some] <;> rfl)|(simp [*,errW_none,errW_some] <;> rfl),by repeat (first|(with_reducible first|exact HB.out|apply below_alloc|apply pw_below_drewN|apply below_drew1)|exact HB.out)⟩
     ·rw [if_neg c16] at H
      have c16b0 : (t519 == t523) = false:=beq_eq_false_iff_ne.mpr c16
      have c16b1 : (t519 != t523) = true:=bne_iff_ne.mpr c16
      obtain rfl:=Option.some.inj H
      go_wp2_with (first|((with_reducible refine gate_callee (f:=14) rfl ?_);refine goesL_ (some 20) rfl rfl Try.func14 (by kernel_rfl) rfl #[.slice A1 l1.length c1] rfl (by (try simp only [List.map_toArray,List.map_cons,List.map_nil]);first|done|rfl|(simp only [List.length_drop,List.length_take];rfl)) ?_;(with_reducible refine (api_Test_14.calls _ _ l1 t515 _ ?side1 ?side2 A11.out).mono ?_);(case side1=>repeat (first|exact (Kd.C_below HR1.out HB.out)|(with_reducible refine Kd.C_alloc ?_ _)|(with_reducible refine Kd.C_drewN ?_ _)|(with_reducible refine Kd.C_drew ?_)));(case side2=>exact HC1.out);rintro e w32 ⟨v516,rfl,ho0,hb⟩;refine ⟨_,rfl,?_⟩;have n0_:=Aside0.mk (Kd.R_lower ho0 (below_size (by repeat (first|(with_reducible first|exact HB.out|apply below_alloc|apply pw_below_drewN|apply below_drew1)|exact HB.out))));have n1_:=Aside0.mk (below_step (by repeat (first|(with_reducible first|exact HB.out|apply below_alloc|apply pw_below_drewN|apply below_drew1)|exact HB.out)) hb);clear HB;have HO517:=n0_;have HB:=n1_;clear n0_ n1_;(try clear hb);(try clear hb2);(try clear hk);(try clear hi);(try clear ho0);obtain ⟨Ao33,co33,eo33⟩:=Kd.R_slice HO517.out;subst eo33)|((with_reducible refine gate_callee (f:=18) rfl ?_);refine goesL_ (some 21) rfl rfl Try.func18 (by kernel_rfl) rfl #[.int .i64 a0,.slice Ao33 t515.length co33] rfl (by (try simp only [List.map_toArray,List.map_cons,List.map_nil]);first|done|rfl|(simp only [List.length_drop,List.length_take];rfl)) ?_;(with_reducible refine (difference_Refute.calls kj2 a0 _ _ t515 t518 t519 _ ?side1 ?side2 A12.out).mono ?_);(case side1=>repeat (first|exact (Kd.R_reads' HO517.out).2.2|(with_reducible refine Kd.C_alloc ?_ _)|(with_reducible refine Kd.C_drewN ?_ _)|(with_reducible refine Kd.C_drew ?_)));(case side2=>exact (Kd.R_reads' HO517.out).2.1);rintro e w34 ⟨v520,rfl,ho0,hb⟩;refine ⟨_,rfl,?_⟩;have n0_:=Aside0.mk (Kd.R_below (by (with_reducible repeat (first|apply Kd.R_alloc|apply Kd.R_drewN|apply Kd.R_drew));exact HO517.out) hb);have n1_:=Aside0.mk (Kd.R_lower ho0 (below_size (by repeat (first|(with_reducible first|exact HB.out|apply below_alloc|apply pw_below_drewN|apply below_drew1)|exact HB.out))));have n2_:=Aside0.mk (below_step (by repeat (first|(with_reducible first|exact HB.out|apply below_alloc|apply pw_below_drewN|apply below_drew1)|exact HB.out)) hb);clear HO517;clear HB;have HO517:=n0_;have HO521:=n1_;have HB:=n2_;clear n0_ n1_ n2_;(try clear hb);(try clear hb2);(try clear hk);(try clear hi);(try clear ho0))|((with_reducible refine gate_callee (f:=23) rfl ?_);refine goesL_ (some 27) rfl rfl Try.func23 (by kernel_rfl) rfl #[.int .i64 a0,.slice A1 l1.length c1] rfl (by (try simp only [List.map_toArray,List.map_cons,List.map_nil]);first|done|rfl|(simp only [List.length_drop,List.length_take];rfl)) ?_;(with_reducible refine (scarfjointref03_Refute.calls kj2 a0 _ _ l1 t522 t523 _ ?side1 ?side2 A13.out).mono ?_);(case side1=>repeat (first|exact (Kd.C_below HR1.out HB.out)|(with_reducible refine Kd.C_alloc ?_ _)|(with_reducible refine Kd.C_drewN ?_ _)|(with_reducible refine Kd.C_drew ?_)));(case side2=>exact HC1.out);rintro e w35 ⟨v524,rfl,ho0,hb⟩;refine ⟨_,rfl,?_⟩;have n0_:=Aside0.mk (Kd.R_below (by (with_reducible repeat (first|apply Kd.R_alloc|apply Kd.R_drewN|apply Kd.R_drew));exact HO517.out) hb);have n1_:=Aside0.mk (Kd.R_elder' (by (with_reducible repeat (first|apply Kd.R_alloc|apply Kd.R_drewN|apply Kd.R_drew));exact HO521.out) (Kd.R_base ho0) hb);have n2_:=Aside0.mk (Kd.R_lower (Kd.R_new' ho0 (Kd.R_lt (by (with_reducible repeat (first|apply Kd.R_alloc|apply Kd.R_drewN|apply Kd.R_drew));exact HO521.out))) (below_size (by repeat (first|(with_reducible first|exact HB.out|apply below_alloc|apply pw_below_drewN|apply below_drew1)|exact HB.out))));have n3_:=Aside0.mk (below_step (by repeat (first|(with_reducible first|exact HB.out|apply below_alloc|apply pw_below_drewN|apply below_drew1)|exact HB.out)) hb);clear HO517;clear HO521;clear HB;have HO517:=n0_;have HO521:=n1_;have HO525:=n2_;have HB:=n3_;clear n0_ n1_ n2_ n3_;(try clear hb);(try clear hb2);(try clear hk);(try clear hi);(try clear ho0);obtain ⟨Ao36,co36,eo36⟩:=Kd.R_slice HO521.out;subst eo36;obtain ⟨Ao37,co37,eo37⟩:=Kd.R_slice HO525.out;subst eo37)|((with_reducible refine gate_callee (f:=24) rfl ?_);refine goesL_ (some 32) rfl rfl Try.func24 (by kernel_rfl) rfl #[.slice Ao36 t518.length co36,.slice Ao37 t522.length co37] rfl (by (try simp only [List.map_toArray,List.map_cons,List.map_nil]);first|done|rfl|(simp only [List.length_drop,List.length_take];rfl)) ?_;(with_reducible refine (scarfjointref03_SameUses.calls kj2 _ _ t518 _ _ t522 true _ ?side1 ?side2 ?side3 ?side4 A14.out).mono ?_);(case side1=>repeat (first|exact (Kd.R_reads' HO521.out).2.2|(with_reducible refine Kd.C_alloc ?_ _)|(with_reducible refine Kd.C_drewN ?_ _)|(with_reducible refine Kd.C_drew ?_)));(case side2=>exact (Kd.R_reads' HO521.out).2.1);(case side3=>repeat (first|exact (Kd.R_reads' HO525.out).2.2|(with_reducible refine Kd.C_alloc ?_ _)|(with_reducible refine Kd.C_drewN ?_ _)|(with_reducible refine Kd.C_drew ?_)));(case side4=>exact (Kd.R_reads' HO525.out).2.1);rintro e w' ⟨rfl,⟨nd,rfl⟩⟩;refine ⟨_,rfl,?_⟩))
      go_ret
      exact ⟨by first|rfl|(simp [errW_none,errW_some] <;> rfl)|(simp [*,errW_none,errW_some] <;> rfl),by repeat (first|(with_reducible first|exact HB.out|apply below_alloc|apply pw_below_drewN|apply below_drew1)|exact HB.out)⟩
    ·replace c15:=Bool.eq_false_iff.mpr c15
     subst c15
     have H1 : (some false) = some r:=by rw [if_neg (show ¬ (false = true) by decide)] at H;exact H
     clear H
     have H:=H1
     clear H1
     obtain rfl:=Option.some.inj H
     go_wp2_with (first|((with_reducible refine gate_callee (f:=14) rfl ?_);refine goesL_ (some 20) rfl rfl Try.func14 (by kernel_rfl) rfl #[.slice A1 l1.length c1] rfl (by (try simp only [List.map_toArray,List.map_cons,List.map_nil]);first|done|rfl|(simp only [List.length_drop,List.length_take];rfl)) ?_;(with_reducible refine (api_Test_14.calls _ _ l1 t515 _ ?side1 ?side2 A11.out).mono ?_);(case side1=>repeat (first|exact (Kd.C_below HR1.out HB.out)|(with_reducible refine Kd.C_alloc ?_ _)|(with_reducible refine Kd.C_drewN ?_ _)|(with_reducible refine Kd.C_drew ?_)));(case side2=>exact HC1.out);rintro e w38 ⟨v516,rfl,ho0,hb⟩;refine ⟨_,rfl,?_⟩;have n0_:=Aside0.mk (Kd.R_lower ho0 (below_size (by repeat (first|(with_reducible first|exact HB.out|apply below_alloc|apply pw_below_drewN|apply below_drew1)|exact HB.out))));have n1_:=Aside0.mk (below_step (by repeat (first|(with_reducible first|exact HB.out|apply below_alloc|apply pw_below_drewN|apply below_drew1)|exact HB.out)) hb);clear HB;have HO517:=n0_;have HB:=n1_;clear n0_ n1_;(try clear hb);(try clear hb2);(try clear hk);(try clear hi);(try clear ho0);obtain ⟨Ao39,co39,eo39⟩:=Kd.R_slice HO517.out;subst eo39)|((with_reducible refine gate_callee (f:=18) rfl ?_);refine goesL_ (some 21) rfl rfl Try.func18 (by kernel_rfl) rfl #[.int .i64 a0,.slice Ao39 t515.length co39] rfl (by (try simp only [List.map_toArray,List.map_cons,List.map_nil]);first|done|rfl|(simp only [List.length_drop,List.length_take];rfl)) ?_;(with_reducible refine (difference_Refute.calls kj2 a0 _ _ t515 t518 t519 _ ?side1 ?side2 A12.out).mono ?_);(case side1=>repeat (first|exact (Kd.R_reads' HO517.out).2.2|(with_reducible refine Kd.C_alloc ?_ _)|(with_reducible refine Kd.C_drewN ?_ _)|(with_reducible refine Kd.C_drew ?_)));(case side2=>exact (Kd.R_reads' HO517.out).2.1);rintro e w40 ⟨v520,rfl,ho0,hb⟩;refine ⟨_,rfl,?_⟩;have n0_:=Aside0.mk (Kd.R_below (by (with_reducible repeat (first|apply Kd.R_alloc|apply Kd.R_drewN|apply Kd.R_drew));exact HO517.out) hb);have n1_:=Aside0.mk (Kd.R_lower ho0 (below_size (by repeat (first|(with_reducible first|exact HB.out|apply below_alloc|apply pw_below_drewN|apply below_drew1)|exact HB.out))));have n2_:=Aside0.mk (below_step (by repeat (first|(with_reducible first|exact HB.out|apply below_alloc|apply pw_below_drewN|apply below_drew1)|exact HB.out)) hb);clear HO517;clear HB;have HO517:=n0_;have HO521:=n1_;have HB:=n2_;clear n0_ n1_ n2_;(try clear hb);(try clear hb2);(try clear hk);(try clear hi);(try clear ho0))|((with_reducible refine gate_callee (f:=23) rfl ?_);refine goesL_ (some 27) rfl rfl Try.func23 (by kernel_rfl) rfl #[.int .i64 a0,.slice A1 l1.length c1] rfl (by (try simp only [List.map_toArray,List.map_cons,List.map_nil]);first|done|rfl|(simp only [List.length_drop,List.length_take];rfl)) ?_;(with_reducible refine (scarfjointref03_Refute.calls kj2 a0 _ _ l1 t522 t523 _ ?side1 ?side2 A13.out).mono ?_);(case side1=>repeat (first|exact (Kd.C_below HR1.out HB.out)|(with_reducible refine Kd.C_alloc ?_ _)|(with_reducible refine Kd.C_drewN ?_ _)|(with_reducible refine Kd.C_drew ?_)));(case side2=>exact HC1.out);rintro e w41 ⟨v524,rfl,ho0,hb⟩;refine ⟨_,rfl,?_⟩;have n0_:=Aside0.mk (Kd.R_below (by (with_reducible repeat (first|apply Kd.R_alloc|apply Kd.R_drewN|apply Kd.R_drew));exact HO517.out) hb);have n1_:=Aside0.mk (Kd.R_elder' (by (with_reducible repeat (first|apply Kd.R_alloc|apply Kd.R_drewN|apply Kd.R_drew));exact HO521.out) (Kd.R_base ho0) hb);have n2_:=Aside0.mk (Kd.R_lower (Kd.R_new' ho0 (Kd.R_lt (by (with_reducible repeat (first|apply Kd.R_alloc|apply Kd.R_drewN|apply Kd.R_drew));exact HO521.out))) (below_size (by repeat (first|(with_reducible first|exact HB.out|apply below_alloc|apply pw_below_drewN|apply below_drew1)|exact HB.out))));have n3_:=Aside0.mk (below_step (by repeat (first|(with_reducible first|exact HB.out|apply below_alloc|apply pw_below_drewN|apply below_drew1)|exact HB.out)) hb);clear HO517;clear HO521;clear HB;have HO517:=n0_;have HO521:=n1_;have HO525:=n2_;have HB:=n3_;clear n0_ n1_ n2_ n3_;(try clear hb);(try clear hb2);(try clear hk);(try clear hi);(try clear ho0);obtain ⟨Ao42,co42,eo42⟩:=Kd.R_slice HO521.out;subst eo42;obtain ⟨Ao43,co43,eo43⟩:=Kd.R_slice HO525.out;subst eo43)|((with_reducible refine gate_callee (f:=24) rfl ?_);refine goesL_ (some 32) rfl rfl Try.func24 (by kernel_rfl) rfl #[.slice Ao42 t518.length co42,.slice Ao43 t522.length co43] rfl (by (try simp only [List.map_toArray,List.map_cons,List.map_nil]);first|done|rfl|(simp only [List.length_drop,List.length_take];rfl)) ?_;(with_reducible refine (scarfjointref03_SameUses.calls kj2 _ _ t518 _ _ t522 false _ ?side1 ?side2 ?side3 ?side4 A14.out).mono ?_);(case side1=>repeat (first|exact (Kd.R_reads' HO521.out).2.2|(with_reducible refine Kd.C_alloc ?_ _)|(with_reducible refine Kd.C_drewN ?_ _)|(with_reducible refine Kd.C_drew ?_)));(case side2=>exact (Kd.R_reads' HO521.out).2.1);(case side3=>repeat (first|exact (Kd.R_reads' HO525.out).2.2|(with_reducible refine Kd.C_alloc ?_ _)|(with_reducible refine Kd.C_drewN ?_ _)|(with_reducible refine Kd.C_drew ?_)));(case side4=>exact (Kd.R_reads' HO525.out).2.1);rintro e w' ⟨rfl,⟨nd,rfl⟩⟩;refine ⟨_,rfl,?_⟩))
     go_ret
     exact ⟨by first|rfl|(simp [errW_none,errW_some] <;> rfl)|(simp [*,errW_none,errW_some] <;> rfl),by repeat (first|(with_reducible first|exact HB.out|apply below_alloc|apply pw_below_drewN|apply below_drew1)|exact HB.out)⟩

end Go.Proofs.Yteebkkdbkkibmaa.Pr
