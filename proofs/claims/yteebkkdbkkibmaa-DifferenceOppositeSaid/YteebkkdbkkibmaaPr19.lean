/- Functions of this claim and what their calls compute, written by wip/tools/mp.py, a variant of the kit printer. Conditions: each theorem has its own. -/
import Derived.Test.YteebkkdbkkibmaaPr0
import Derived.Test.YteebkkdbkkibmaaPr7
import Derived.Test.YteebkkdbkkibmaaPr12
import Derived.Test.YteebkkdbkkibmaaPr13
import Derived.Test.YteebkkdbkkibmaaPr18
namespace Go.Proofs.Yteebkkdbkkibmaa.Pr
open Go.RowKit Go.Proofs.YteebkkdbkkibmaaW.PrintWords Go.Proofs.YteebkkdbkkibmaaW.PrintLast Go.Proofs.YteebkkdbkkibmaaW.PrintMore
attribute [local go_sem] max2_int min2_int max_two min_two max_three min_three max_four min_four   -- for this text's walks alone
set_option linter.unusedVariables false
set_option linter.unusedSimpArgs false

/-! ### scarfjointlaw03_DifferenceImplies: function 3 -/
def scarfjointlaw03_DifferenceImplies.j0 : Nat → Int → List (S26) → Bool → Int → Int → Int → Int → Int → Option (Bool)
 | 0,_,_,_,_,_,_,_,_ => none
 | k + 1,x0,x1,x17,x345000,x345001,x345002,x345003,x345004 => if x17 = true then ((scarfjointlaw03_awake.f k).bind fun t346 => (some t346)) else ((api_Test_14.f x1).bind fun t347 => ((difference_Implies.f k x0 t347 x345000 x345001 x345002 x345003 x345004).bind fun bt350 => ((scarfjointref03_Implies.f k x0 x1 x345000 x345001 x345002 x345003 x345004).bind fun bt352 => (if (bt350.1 == bt352.1) = true then (some (bt350.2 == bt352.2)) else (some false)))))
def scarfjointlaw03_DifferenceImplies.f (k : Nat) (a0 : Int) (l1 : List (S26)) (a2_0 : Int) (a2_1 : Int) (a2_2 : Int) (a2_3 : Int) (a2_4 : Int) : Option (Bool):=(scarfjointlaw03_awake.f k).bind fun t345=>(if t345 = true then (scarfjointlaw03_DifferenceImplies.j0 k a0 l1 (decide ((l1.length : Int) > 45)) a2_0 a2_1 a2_2 a2_3 a2_4) else (scarfjointlaw03_DifferenceImplies.j0 k a0 l1 true a2_0 a2_1 a2_2 a2_3 a2_4))
theorem scarfjointlaw03_DifferenceImplies.mono_l : ∀ k,(∀ y0 y1 y2 y3 y4 y5 y6 y7,LeO (scarfjointlaw03_DifferenceImplies.j0 k y0 y1 y2 y3 y4 y5 y6 y7) (scarfjointlaw03_DifferenceImplies.j0 (k + 1) y0 y1 y2 y3 y4 y5 y6 y7))
 | 0 => fun _ _ _ _ _ _ _ _ r h => by simp [scarfjointlaw03_DifferenceImplies.j0] at h
 | k + 1 => by
  have ih0:=scarfjointlaw03_DifferenceImplies.mono_l k
  ·intro y0 y1 y2 y3 y4 y5 y6 y7
   unfold scarfjointlaw03_DifferenceImplies.j0
   repeat' first
   | (with_reducible exact ih0 _ _ _ _ _ _ _ _)
   | (with_reducible exact difference_Implies.mono _ _ _ _ _ _ _ _)
   | (with_reducible exact scarfjointlaw03_awake.mono _)
   | (with_reducible exact scarfjointref03_Implies.mono _ _ _ _ _ _ _ _)
   | (with_reducible exact LeO.refl _)
   | (with_reducible exact LeO.none _)
   | (with_reducible refine LeO.ite ?_ ?_)
   | (with_reducible refine LeO.bind ?_ (fun _ => ?_))
   | exact ih0 _ _ _ _ _ _ _ _
   | exact difference_Implies.mono _ _ _ _ _ _ _ _
   | exact scarfjointlaw03_awake.mono _
   | exact scarfjointref03_Implies.mono _ _ _ _ _ _ _ _
   | exact LeO.none _
   | refine LeO.ite ?_ ?_
   | refine LeO.bind ?_ (fun _ => ?_)
theorem scarfjointlaw03_DifferenceImplies.mono : ∀ a0 a1 a2 a3 a4 a5 a6 k,LeO (scarfjointlaw03_DifferenceImplies.f k a0 a1 a2 a3 a4 a5 a6) (scarfjointlaw03_DifferenceImplies.f (k + 1) a0 a1 a2 a3 a4 a5 a6):=by
 intro a0 a1 a2 a3 a4 a5 a6 k
 have ih0:=scarfjointlaw03_DifferenceImplies.mono_l k
 unfold scarfjointlaw03_DifferenceImplies.f
 repeat' first
   | (with_reducible exact ih0 _ _ _ _ _ _ _ _)
   | (with_reducible exact difference_Implies.mono _ _ _ _ _ _ _ _)
   | (with_reducible exact scarfjointlaw03_awake.mono _)
   | (with_reducible exact scarfjointref03_Implies.mono _ _ _ _ _ _ _ _)
   | (with_reducible exact LeO.refl _)
   | (with_reducible exact LeO.none _)
   | (with_reducible refine LeO.ite ?_ ?_)
   | (with_reducible refine LeO.bind ?_ (fun _ => ?_))
   | exact ih0 _ _ _ _ _ _ _ _
   | exact difference_Implies.mono _ _ _ _ _ _ _ _
   | exact scarfjointlaw03_awake.mono _
   | exact scarfjointref03_Implies.mono _ _ _ _ _ _ _ _
   | exact LeO.none _
   | refine LeO.ite ?_ ?_
   | refine LeO.bind ?_ (fun _ => ?_)
def scarfjointlaw03_DifferenceImplies.T3 : Bool × List (List Nat × List Nat):=(true,[([],[]),([],[]),([1],[1]),([],[]),([0,2,3,2],[0,2,3]),([4],[4]),([5],[5]),([5],[5]),([6,4,0,1,2,3,4,5,6],[6]),([7,8,0,1,2,3,4,5,6,7,8],[7])])
def scarfjointlaw03_DifferenceImplies.B3 : List Nat:=[0,0,2,0,15,31,63,63,127,511]
theorem scarfjointlaw03_DifferenceImplies.tab3 : rtab .any (opsOf Try.f3 3) = scarfjointlaw03_DifferenceImplies.T3:=by kernel_rfl
theorem scarfjointlaw03_DifferenceImplies.bits3 : waitsOk scarfjointlaw03_DifferenceImplies.T3.2 scarfjointlaw03_DifferenceImplies.B3 = true:=by kernel_rfl
set_option maxHeartbeats 8000000 in
set_option maxRecDepth 100000 in
theorem scarfjointlaw03_DifferenceImplies.calls (k : Nat) (a0 : Int) (A1 : Option Addr) (c1 : Nat) (l1 : List (S26)) (a2_0 : Int) (a2_1 : Int) (a2_2 : Int) (a2_3 : Int) (a2_4 : Int) (r : Bool) (w : World) (hr1 : Kd.C k26 w A1 l1.length l1) (hc1 : l1.length ≤ c1) (h : scarfjointlaw03_DifferenceImplies.f k a0 l1 a2_0 a2_1 a2_2 a2_3 a2_4 = some r) :
  Calls Try.prog 3 #[.int .i64 a0,.slice A1 l1.length c1,.agg #[.int .i64 a2_0,.int .i64 a2_1,.int .i64 a2_2,.int .i64 a2_3,.int .i64 a2_4]] w fun e w'=>e = .returned (.bool r) ∧ Below w.heap.size w w':=by
 have hu26:=Try.underlying26
 have HR1:=Aside0.mk hr1
 have HC1:=Aside0.mk hc1
 clear hr1 hc1
 have HB:=Aside0.mk (Below.refl w.heap.size w)
 have H : ((scarfjointlaw03_awake.f k).bind fun t345=>(if t345 = true then (scarfjointlaw03_DifferenceImplies.j0 k a0 l1 (decide ((l1.length : Int) > 45)) a2_0 a2_1 a2_2 a2_3 a2_4) else (scarfjointlaw03_DifferenceImplies.j0 k a0 l1 true a2_0 a2_1 a2_2 a2_3 a2_4))) = some r:=h
 clear h
 have HC4:=Aside0.mk H
 clear H
 go_enter Try.func3,Try.ntmps3
 go_upto_region 1 with (first|((with_reducible refine gate_dst (N:=5) rfl ?_);(try (refine gate_guard (by rfl) ?_;dsimp only));refine box_event ?hg (N:=5) ?hd (cs:=#[.int .i64 a2_0,.int .i64 a2_1,.int .i64 a2_2,.int .i64 a2_3,.int .i64 a2_4]) (t:=26) ?hr ?_;(case hd=>rfl);(case hg=>rfl);(case hr=>first|(go_simp;done)|(go_simp;rfl));intro gb344 hg w5 hbox hb;have n0_:=Aside0.mk (below_step (by repeat (first|(with_reducible first|exact HB.out|apply below_alloc|apply pw_below_drewN|apply below_drew1)|exact HB.out)) hb);have n1_:=Aside0.mk (hbox);have n2_:=Aside0.mk ((by rw [hg];exact (below_size (by repeat (first|(with_reducible first|exact HB.out|apply below_alloc|apply pw_below_drewN|apply below_drew1)|exact HB.out))) : w.heap.size ≤ gb344));have n3_:=Aside0.mk ((by rw [hg];exact (below_size (by repeat (first|(with_reducible first|exact HB.out|apply below_alloc|apply pw_below_drewN|apply below_drew1)|exact HB.out))) : w.heap.size ≤ gb344));clear HB;have HB:=n0_;have BK344:=n1_;have GW344:=n2_;have GE344:=n3_;clear n0_ n1_ n2_ n3_;clear hb hbox hg))
 (try simp only [Act.put,List.setIfInBounds_toArray,List.set_cons_zero,List.set_cons_succ])
 go_cut [17] (fun v17 wc=>∃ (kq : Nat) (x17_3 : Bool),v17 = .bool x17_3 ∧ Aside0 (scarfjointlaw03_DifferenceImplies.j0 kq a0 l1 x17_3 a2_0 a2_1 a2_2 a2_3 a2_4 = some r) ∧ Aside0 (kq ≤ k) ∧ Aside0 (wc.heap[gb344]? = some (.cells #[.int .i64 a2_0,.int .i64 a2_1,.int .i64 a2_2,.int .i64 a2_3,.int .i64 a2_4] 26 (0,0))) ∧ Aside0 (Below w.heap.size w wc))
 case first =>
  have H:=HC4.out
  clear HC4
  replace H:=Option.bind_eq_some_iff.mp H
  obtain ⟨t345,A60,H⟩:=H
  replace H : (if t345 = true then (scarfjointlaw03_DifferenceImplies.j0 k a0 l1 (decide ((l1.length : Int) > 45)) a2_0 a2_1 a2_2 a2_3 a2_4) else (scarfjointlaw03_DifferenceImplies.j0 k a0 l1 true a2_0 a2_1 a2_2 a2_3 a2_4)) = some r:=H
  have A6:=Aside0.mk A60
  clear A60
  by_cases c7 : t345 = true
  ·subst c7
   have H1 : (scarfjointlaw03_DifferenceImplies.j0 k a0 l1 (decide ((l1.length : Int) > 45)) a2_0 a2_1 a2_2 a2_3 a2_4) = some r:=by rw [if_pos rfl] at H;exact H
   clear H
   have H:=H1
   clear H1
   have H':=Aside0.mk H
   clear H
   go_wp2_with (first|((with_reducible refine gate_callee (f:=12) rfl ?_);refine goesL_ (some 11) rfl rfl Try.func12 (by kernel_rfl) rfl #[] rfl (by (try simp only [List.map_toArray,List.map_cons,List.map_nil]);first|done|rfl|(simp only [List.length_drop,List.length_take];rfl)) ?_;(with_reducible refine (scarfjointlaw03_awake.calls k  true _ A6.out).mono ?_);rintro e w8 ⟨rfl,hb⟩;refine ⟨_,rfl,?_⟩;have n0_:=Aside0.mk (blk_below (g:=gb344) (o:=.cells #[.int .i64 a2_0,.int .i64 a2_1,.int .i64 a2_2,.int .i64 a2_3,.int .i64 a2_4] 26 (0,0)) (by (with_reducible repeat (first|refine blk_drewN ?_ _|refine blk_drew ?_|refine blk_alloc ?_ _));exact BK344.out) hb);have n1_:=Aside0.mk (below_step (by repeat (first|(with_reducible first|exact HB.out|apply below_alloc|apply pw_below_drewN|apply below_drew1|refine below_set ?_ GE344.out)|exact HB.out)) hb);clear BK344;clear HB;have BK344:=n0_;have HB:=n1_;clear n0_ n1_;(try clear hb);(try clear hb2);(try clear hk);(try clear hi)))
   go_meet
   case rel=>exact ⟨_,(decide ((l1.length : Int) > 45)),(by first|rfl|(simp;done)|(simp [*];done)),H',⟨by first|omega|exact Nat.le_refl _⟩,⟨by (with_reducible repeat (first|refine blk_drewN ?_ _|refine blk_drew ?_|refine blk_alloc ?_ _));exact BK344.out⟩,⟨by repeat (first|(with_reducible first|exact HB.out|apply below_alloc|apply pw_below_drewN|apply below_drew1|refine below_set ?_ GE344.out)|exact HB.out)⟩⟩
  ·replace c7:=Bool.eq_false_iff.mpr c7
   subst c7
   have H1 : (scarfjointlaw03_DifferenceImplies.j0 k a0 l1 true a2_0 a2_1 a2_2 a2_3 a2_4) = some r:=by rw [if_neg (show ¬ (false = true) by decide)] at H;exact H
   clear H
   have H:=H1
   clear H1
   have H':=Aside0.mk H
   clear H
   go_wp2_with (first|((with_reducible refine gate_callee (f:=12) rfl ?_);refine goesL_ (some 11) rfl rfl Try.func12 (by kernel_rfl) rfl #[] rfl (by (try simp only [List.map_toArray,List.map_cons,List.map_nil]);first|done|rfl|(simp only [List.length_drop,List.length_take];rfl)) ?_;(with_reducible refine (scarfjointlaw03_awake.calls k  false _ A6.out).mono ?_);rintro e w9 ⟨rfl,hb⟩;refine ⟨_,rfl,?_⟩;have n0_:=Aside0.mk (blk_below (g:=gb344) (o:=.cells #[.int .i64 a2_0,.int .i64 a2_1,.int .i64 a2_2,.int .i64 a2_3,.int .i64 a2_4] 26 (0,0)) (by (with_reducible repeat (first|refine blk_drewN ?_ _|refine blk_drew ?_|refine blk_alloc ?_ _));exact BK344.out) hb);have n1_:=Aside0.mk (below_step (by repeat (first|(with_reducible first|exact HB.out|apply below_alloc|apply pw_below_drewN|apply below_drew1|refine below_set ?_ GE344.out)|exact HB.out)) hb);clear BK344;clear HB;have BK344:=n0_;have HB:=n1_;clear n0_ n1_;(try clear hb);(try clear hb2);(try clear hk);(try clear hi)))
   go_meet
   case rel=>exact ⟨_,(true),(by first|rfl|(simp;done)|(simp [*];done)),H',⟨by first|omega|exact Nat.le_refl _⟩,⟨by (with_reducible repeat (first|refine blk_drewN ?_ _|refine blk_drew ?_|refine blk_alloc ?_ _));exact BK344.out⟩,⟨by repeat (first|(with_reducible first|exact HB.out|apply below_alloc|apply pw_below_drewN|apply below_drew1|refine below_set ?_ GE344.out)|exact HB.out)⟩⟩
 case rest =>
  clear HC4
  try clear c1
  try clear p2
  try clear c3
  try clear c7
  obtain ⟨kq,x17_3,rfl,HA,HJ3,BK344,HB⟩:=hcut
  cases kq with
  | zero => exact absurd HA.out (by simp [scarfjointlaw03_DifferenceImplies.j0])
  | succ kj3 =>
   have H:=HA.out
   clear HA
   simp only [scarfjointlaw03_DifferenceImplies.j0] at H
   by_cases c10 : x17_3 = true
   ·subst c10
    have H1 : ((scarfjointlaw03_awake.f kj3).bind fun t346=>(some t346)) = some r:=by rw [if_pos rfl] at H;exact H
    clear H
    have H:=H1
    clear H1
    replace H:=Option.bind_eq_some_iff.mp H
    obtain ⟨t346,A110,H⟩:=H
    replace H : (some t346) = some r:=H
    have A11:=Aside0.mk A110
    clear A110
    obtain rfl:=Option.some.inj H
    go_wp2_with (first|((with_reducible refine gate_callee (f:=12) rfl ?_);refine goesL_ (some 18) rfl rfl Try.func12 (by kernel_rfl) rfl #[] rfl (by (try simp only [List.map_toArray,List.map_cons,List.map_nil]);first|done|rfl|(simp only [List.length_drop,List.length_take];rfl)) ?_;(with_reducible refine (scarfjointlaw03_awake.calls kj3  t346 _ A11.out).mono ?_);rintro e w12 ⟨rfl,hb⟩;refine ⟨_,rfl,?_⟩;have n0_:=Aside0.mk (blk_below (g:=gb344) (o:=.cells #[.int .i64 a2_0,.int .i64 a2_1,.int .i64 a2_2,.int .i64 a2_3,.int .i64 a2_4] 26 (0,0)) (by (with_reducible repeat (first|refine blk_drewN ?_ _|refine blk_drew ?_|refine blk_alloc ?_ _));exact BK344.out) hb);have n1_:=Aside0.mk (below_step (by repeat (first|(with_reducible first|exact HB.out|apply below_alloc|apply pw_below_drewN|apply below_drew1|refine below_set ?_ GE344.out)|exact HB.out)) hb);clear BK344;clear HB;have BK344:=n0_;have HB:=n1_;clear n0_ n1_;(try clear hb);(try clear hb2);(try clear hk);(try clear hi)))
    go_ret
    exact ⟨by first|rfl|(simp [errW_none,errW_some] <;> rfl)|(simp [*,errW_none,errW_some] <;> rfl),by repeat (first|(with_reducible first|exact HB.out|apply below_alloc|apply pw_below_drewN|apply below_drew1|refine below_set ?_ GE344.out)|exact HB.out)⟩
   ·replace c10:=Bool.eq_false_iff.mpr c10
    subst c10
    have H1 : ((api_Test_14.f l1).bind fun t347=>((difference_Implies.f kj3 a0 t347 a2_0 a2_1 a2_2 a2_3 a2_4).bind fun bt350=>((scarfjointref03_Implies.f kj3 a0 l1 a2_0 a2_1 a2_2 a2_3 a2_4).bind fun bt352=>(if (bt350.1 == bt352.1) = true then (some (bt350.2 == bt352.2)) else (some false))))) = some r:=by rw [if_neg (show ¬ (false = true) by decide)] at H;exact H
    clear H
    have H:=H1
    clear H1
    replace H:=Option.bind_eq_some_iff.mp H
    obtain ⟨t347,A130,H⟩:=H
    replace H : ((difference_Implies.f kj3 a0 t347 a2_0 a2_1 a2_2 a2_3 a2_4).bind fun bt350=>((scarfjointref03_Implies.f kj3 a0 l1 a2_0 a2_1 a2_2 a2_3 a2_4).bind fun bt352=>(if (bt350.1 == bt352.1) = true then (some (bt350.2 == bt352.2)) else (some false)))) = some r:=H
    have A13:=Aside0.mk A130
    clear A130
    replace H:=Option.bind_eq_some_iff.mp H
    obtain ⟨⟨t350,t351⟩,A140,H⟩:=H
    replace H : ((scarfjointref03_Implies.f kj3 a0 l1 a2_0 a2_1 a2_2 a2_3 a2_4).bind fun bt352=>(if (t350 == bt352.1) = true then (some (t351 == bt352.2)) else (some false))) = some r:=H
    have A14:=Aside0.mk A140
    clear A140
    replace H:=Option.bind_eq_some_iff.mp H
    obtain ⟨⟨t352,t353⟩,A150,H⟩:=H
    replace H : (if (t350 == t352) = true then (some (t351 == t353)) else (some false)) = some r:=H
    have A15:=Aside0.mk A150
    clear A150
    by_cases c16 : (t350 == t352) = true
    ·rw [if_pos c16] at H
     have c16b0 : (t350 == t352) = true:=c16
     (try (have c16b1 : decide (t350 = t352) = true:=by simpa using c16))
     (try (have c16b2 : (t350 == t352) = true:=by simpa using c16))
     clear c16
     obtain rfl:=Option.some.inj H
     try go_wp2
     have n0_:=Aside0.mk (blk_drew BK344.out)
     have n1_:=Aside0.mk (below_drew1 HB.out)
     clear BK344
     clear HB
     have BK344:=n0_
     have HB:=n1_
     clear n0_ n1_
     refine start_ (n:=10) (S:=fun w'=>w'.cell? ⟨gb344,0,none⟩ = some (.int .i64 a2_0) ∧ w'.cell? ⟨gb344,1,none⟩ = some (.int .i64 a2_1) ∧ w'.cell? ⟨gb344,2,none⟩ = some (.int .i64 a2_2) ∧ w'.cell? ⟨gb344,3,none⟩ = some (.int .i64 a2_3) ∧ w'.cell? ⟨gb344,4,none⟩ = some (.int .i64 a2_4)) (ds:=[]) #[false,false,false,false,false,false,false,false,false,false] (by kernel_rfl) rfl rfl ⟨(blk_cell BK344.out 0).trans rfl,(blk_cell BK344.out 1).trans rfl,(blk_cell BK344.out 2).trans rfl,(blk_cell BK344.out 3).trans rfl,(blk_cell BK344.out 4).trans rfl⟩ (fun hHeld=>?_);refine with_tabW scarfjointlaw03_DifferenceImplies.tab3 scarfjointlaw03_DifferenceImplies.bits3 (fun HT_ HW_=>?_)
     generalize wc.drew = w17 at BK344 HB hHeld ⊢
     refine pure_ (i:=0) (N:=some 20) (v:=?_) (a':=?_) #[true,false,false,false,false,false,false,false,false,false] rfl rfl (any_of HT_.out (by kernel_rfl)) (fun _ _ _ h=>h) (Or.inl ⟨by rfl,?_⟩) ?_ ?_
     rotate_left
     ·intro w'
      go_simp
      with_reducible rfl
     rotate_left
     ·simp only [Act.put,List.setIfInBounds_toArray,List.set_cons_zero,List.set_cons_succ,i64_w,i32_w]
      rfl
     refine pure_ (i:=1) (N:=some 21) (v:=?_) (a':=?_) #[true,true,false,false,false,false,false,false,false,false] rfl rfl (any_of HT_.out (by kernel_rfl)) (fun _ _ _ h=>h) (Or.inl ⟨by rfl,?_⟩) ?_ ?_
     rotate_left
     ·intro w'
      go_simp
      with_reducible rfl
     rotate_left
     ·simp only [Act.put,List.setIfInBounds_toArray,List.set_cons_zero,List.set_cons_succ,i64_w,i32_w]
      rfl
     refine take_ (i:=3) (N:=some 23) (v:=?_) (a':=?_) #[true,true,false,true,false,false,false,false,false,false] rfl rfl (take_ofW HT_.out HW_.out (by kernel_rfl)) (fun _ _ _ h=>h) (Or.inl ⟨by rfl,?_⟩) hHeld ?_ ?_
     rotate_left
     ·rintro w' ⟨s0,s1,s2,s3,s4⟩
      go_simp
      with_reducible rfl
     rotate_left
     ·simp only [Act.put,List.setIfInBounds_toArray,List.set_cons_zero,List.set_cons_succ,i64_w,i32_w]
      rfl
     refine one_ (i:=2) (N:=some 22) #[true,true,true,true,false,false,false,false,false,false] rfl rfl (one_of HT_.out (by kernel_rfl)) (by decide) (fun K hK=>?_)
     refine goes_ Try.func14 (by kernel_rfl) rfl #[.slice A1 l1.length c1] (by rfl) rfl rfl (by (try simp only [List.map_toArray,List.map_cons,List.map_nil]);first|done|rfl|(simp only [List.length_drop,List.length_take];rfl)) ?_
     with_reducible refine (api_Test_14.calls _ _ l1 t347 _ ?side1 ?side2 A13.out).mono ?_
     (case side1=>repeat (first|exact (Kd.C_below HR1.out HB.out)|(with_reducible refine Kd.C_alloc ?_ _)|(with_reducible refine Kd.C_drewN ?_ _)|(with_reducible refine Kd.C_drew ?_)))
     (case side2=>exact HC1.out)
     rintro e w18 ⟨v348,rfl,ho0,hb⟩
     refine ⟨_,rfl,?_⟩
     have n0_:=Aside0.mk (Kd.R_lower (Kd.R_newB ho0 (g:=gb344) (o:=.cells #[.int .i64 a2_0,.int .i64 a2_1,.int .i64 a2_2,.int .i64 a2_3,.int .i64 a2_4] 26 (0,0)) (by (with_reducible repeat (first|refine blk_drewN ?_ _|refine blk_drew ?_|refine blk_alloc ?_ _));exact BK344.out)) (below_size (by repeat (first|(with_reducible first|exact HB.out|apply below_alloc|apply pw_below_drewN|apply below_drew1|refine below_set ?_ GE344.out)|exact HB.out))))
     have n1_:=Aside0.mk (blk_below (g:=gb344) (o:=.cells #[.int .i64 a2_0,.int .i64 a2_1,.int .i64 a2_2,.int .i64 a2_3,.int .i64 a2_4] 26 (0,0)) (by (with_reducible repeat (first|refine blk_drewN ?_ _|refine blk_drew ?_|refine blk_alloc ?_ _));exact BK344.out) hb)
     have n2_:=Aside0.mk (below_step (by repeat (first|(with_reducible first|exact HB.out|apply below_alloc|apply pw_below_drewN|apply below_drew1|refine below_set ?_ GE344.out)|exact HB.out)) hb)
     clear BK344
     clear HB
     have HO349:=n0_
     have BK344:=n1_
     have HB:=n2_
     clear n0_ n1_ n2_
     (try clear hb)
     (try clear hb2)
     (try clear hk)
     (try clear hi)
     (try clear ho0)
     obtain ⟨Ao19,co19,eo19⟩:=Kd.R_slice HO349.out
     (first|subst eo19|(injection eo19 with f1_ f2_ f3_;have f4_:=f1_.symm;have f5_:=f3_.symm;clear f1_ f2_ f3_;subst f4_;subst f5_))
     refine hK.out _ _ ⟨(blk_cell BK344.out 0).trans rfl,(blk_cell BK344.out 1).trans rfl,(blk_cell BK344.out 2).trans rfl,(blk_cell BK344.out 3).trans rfl,(blk_cell BK344.out 4).trans rfl⟩ (fun hHeld=>?_)
     clear hK K
     refine norm_ (a':=?_) ?_ ?_
     rotate_left
     ·show Act.put _ (some 22) _ = _
      simp only [Act.put,List.setIfInBounds_toArray,List.set_cons_zero,List.set_cons_succ,i64_w,i32_w]
      rfl
     refine one_ (i:=4) (N:=some 24) #[true,true,true,true,true,false,false,false,false,false] rfl rfl (one_of HT_.out (by kernel_rfl)) (by decide) (fun K hK=>?_)
     refine goes_ Try.func13 (by kernel_rfl) rfl #[.int .i64 a0,.slice Ao19 t347.length co19,.agg #[.int .i64 a2_0,.int .i64 a2_1,.int .i64 a2_2,.int .i64 a2_3,.int .i64 a2_4]] (by rfl) rfl rfl (by (try simp only [List.map_toArray,List.map_cons,List.map_nil]);first|done|rfl|(simp only [List.length_drop,List.length_take];rfl)) ?_
     with_reducible refine (difference_Implies.calls kj3 a0 _ _ t347 a2_0 a2_1 a2_2 a2_3 a2_4 t350 t351 _ ?side1 ?side2 A14.out).mono ?_
     (case side1=>repeat (first|exact (Kd.R_reads' HO349.out).2.2|(with_reducible refine Kd.C_alloc ?_ _)|(with_reducible refine Kd.C_drewN ?_ _)|(with_reducible refine Kd.C_drew ?_)))
     (case side2=>exact (Kd.R_reads' HO349.out).2.1)
     rintro e w20 ⟨rfl,hb⟩
     refine ⟨_,rfl,?_⟩
     have n0_:=Aside0.mk (Kd.R_below (by (with_reducible repeat (first|apply Kd.R_alloc|apply Kd.R_drewN|apply Kd.R_drew));exact HO349.out) hb)
     have n1_:=Aside0.mk (blk_below (g:=gb344) (o:=.cells #[.int .i64 a2_0,.int .i64 a2_1,.int .i64 a2_2,.int .i64 a2_3,.int .i64 a2_4] 26 (0,0)) (by (with_reducible repeat (first|refine blk_drewN ?_ _|refine blk_drew ?_|refine blk_alloc ?_ _));exact BK344.out) hb)
     have n2_:=Aside0.mk (below_step (by repeat (first|(with_reducible first|exact HB.out|apply below_alloc|apply pw_below_drewN|apply below_drew1|refine below_set ?_ GE344.out)|exact HB.out)) hb)
     clear HO349
     clear BK344
     clear HB
     have HO349:=n0_
     have BK344:=n1_
     have HB:=n2_
     clear n0_ n1_ n2_
     (try clear hb)
     (try clear hb2)
     (try clear hk)
     (try clear hi)
     refine hK.out _ _ ⟨(blk_cell BK344.out 0).trans rfl,(blk_cell BK344.out 1).trans rfl,(blk_cell BK344.out 2).trans rfl,(blk_cell BK344.out 3).trans rfl,(blk_cell BK344.out 4).trans rfl⟩ (fun hHeld=>?_)
     clear hK K
     refine norm_ (a':=?_) ?_ ?_
     rotate_left
     ·show Act.put _ (some 24) _ = _
      simp only [Act.put,List.setIfInBounds_toArray,List.set_cons_zero,List.set_cons_succ,i64_w,i32_w]
      rfl
     refine pure_ (i:=5) (N:=some 19) (v:=?_) (a':=?_) #[true,true,true,true,true,true,false,false,false,false] rfl rfl (any_of HT_.out (by kernel_rfl)) (fun _ _ _ h=>h) (Or.inl ⟨by rfl,?_⟩) ?_ ?_
     rotate_left
     ·intro w'
      go_simp
      with_reducible rfl
     rotate_left
     ·simp only [Act.put,List.setIfInBounds_toArray,List.set_cons_zero,List.set_cons_succ,i64_w,i32_w]
      rfl
     refine pure_ (i:=6) (N:=some 25) (v:=?_) (a':=?_) #[true,true,true,true,true,true,true,false,false,false] rfl rfl (any_of HT_.out (by kernel_rfl)) (fun _ _ _ h=>h) (Or.inl ⟨by rfl,?_⟩) ?_ ?_
     rotate_left
     ·intro w'
      go_simp
      with_reducible rfl
     rotate_left
     ·simp only [Act.put,List.setIfInBounds_toArray,List.set_cons_zero,List.set_cons_succ,i64_w,i32_w]
      rfl
     refine pure_ (i:=7) (N:=some 26) (v:=?_) (a':=?_) #[true,true,true,true,true,true,true,true,false,false] rfl rfl (any_of HT_.out (by kernel_rfl)) (fun _ _ _ h=>h) (Or.inl ⟨by rfl,?_⟩) ?_ ?_
     rotate_left
     ·intro w'
      go_simp
      with_reducible rfl
     rotate_left
     ·simp only [Act.put,List.setIfInBounds_toArray,List.set_cons_zero,List.set_cons_succ,i64_w,i32_w]
      rfl
     refine pure_ (i:=8) (N:=some 7) (v:=?_) (a':=?_) #[true,true,true,true,true,true,true,true,true,false] rfl rfl (any_of HT_.out (by kernel_rfl)) (fun _ _ _ h=>h) (Or.inl ⟨by rfl,?_⟩) ?_ ?_
     rotate_left
     ·intro w'
      go_simp
      with_reducible rfl
     rotate_left
     ·simp only [Act.put,List.setIfInBounds_toArray,List.set_cons_zero,List.set_cons_succ,i64_w,i32_w]
      rfl
     refine pure_ (i:=9) (N:=some 8) (v:=?_) (a':=?_) #[true,true,true,true,true,true,true,true,true,true] rfl rfl (any_of HT_.out (by kernel_rfl)) (fun _ _ _ h=>h) (Or.inl ⟨by rfl,?_⟩) ?_ ?_
     rotate_left
     ·intro w'
      go_simp
      with_reducible rfl
     rotate_left
     ·simp only [Act.put,List.setIfInBounds_toArray,List.set_cons_zero,List.set_cons_succ,i64_w,i32_w]
      rfl
     refine done_ (done_of HT_.out (by kernel_rfl)) ?_
     have hcz21_0 : w20.cell? ⟨gb344,0,none⟩ = some (.int .i64 a2_0):=(blk_cell BK344.out 0).trans rfl
     have hcz21_1 : w20.cell? ⟨gb344,1,none⟩ = some (.int .i64 a2_1):=(blk_cell BK344.out 1).trans rfl
     have hcz21_2 : w20.cell? ⟨gb344,2,none⟩ = some (.int .i64 a2_2):=(blk_cell BK344.out 2).trans rfl
     have hcz21_3 : w20.cell? ⟨gb344,3,none⟩ = some (.int .i64 a2_3):=(blk_cell BK344.out 3).trans rfl
     have hcz21_4 : w20.cell? ⟨gb344,4,none⟩ = some (.int .i64 a2_4):=(blk_cell BK344.out 4).trans rfl
     have hfz21_0:=blk_frozen BK344.out 0
     have hfz21_1:=blk_frozen BK344.out 1
     have hfz21_2:=blk_frozen BK344.out 2
     have hfz21_3:=blk_frozen BK344.out 3
     have hfz21_4:=blk_frozen BK344.out 4
     try go_wp2_with (first|((with_reducible refine gate_callee (f:=15) rfl ?_);refine goesL_ (some 31) rfl rfl Try.func15 (by kernel_rfl) rfl #[.int .i64 a0,.slice A1 l1.length c1,.agg #[.int .i64 a2_0,.int .i64 a2_1,.int .i64 a2_2,.int .i64 a2_3,.int .i64 a2_4]] rfl (by (try simp only [List.map_toArray,List.map_cons,List.map_nil]);first|done|rfl|(simp only [List.length_drop,List.length_take];rfl)) ?_;(with_reducible refine (scarfjointref03_Implies.calls kj3 a0 _ _ l1 a2_0 a2_1 a2_2 a2_3 a2_4 t352 t353 _ ?side1 ?side2 A15.out).mono ?_);(case side1=>repeat (first|exact (Kd.C_below HR1.out HB.out)|(with_reducible refine Kd.C_alloc ?_ _)|(with_reducible refine Kd.C_drewN ?_ _)|(with_reducible refine Kd.C_drew ?_)));(case side2=>exact HC1.out);rintro e w22 ⟨rfl,hb⟩;refine ⟨_,rfl,?_⟩;have n0_:=Aside0.mk (Kd.R_below (by (with_reducible repeat (first|apply Kd.R_alloc|apply Kd.R_drewN|apply Kd.R_drew));exact HO349.out) hb);have n1_:=Aside0.mk (blk_below (g:=gb344) (o:=.cells #[.int .i64 a2_0,.int .i64 a2_1,.int .i64 a2_2,.int .i64 a2_3,.int .i64 a2_4] 26 (0,0)) (by (with_reducible repeat (first|refine blk_drewN ?_ _|refine blk_drew ?_|refine blk_alloc ?_ _));exact BK344.out) hb);have n2_:=Aside0.mk (below_step (by repeat (first|(with_reducible first|exact HB.out|apply below_alloc|apply pw_below_drewN|apply below_drew1|refine below_set ?_ GE344.out)|exact HB.out)) hb);clear HO349;clear BK344;clear HB;have HO349:=n0_;have BK344:=n1_;have HB:=n2_;clear n0_ n1_ n2_;(try clear hb);(try clear hb2);(try clear hk);(try clear hi)))
     go_ret
     exact ⟨by first|rfl|(simp [errW_none,errW_some] <;> rfl)|(simp [*,errW_none,errW_some] <;> rfl),by repeat (first|(with_reducible first|exact HB.out|apply below_alloc|apply pw_below_drewN|apply below_drew1|refine below_set ?_ GE344.out)|exact HB.out)⟩
    ·rw [if_neg c16] at H
     have c16b0 : (t350 == t352) = false:=by simpa using c16
     (try (have c16b1 : decide (t350 = t352) = false:=by simpa using c16))
     (try (have c16b2 : (t350 == t352) = false:=by simpa using c16))
     (try (have c16b3 : ¬ (t350 = t352):=by simpa using c16))
     clear c16
     obtain rfl:=Option.some.inj H
     try go_wp2
     have n0_:=Aside0.mk (blk_drew BK344.out)
     have n1_:=Aside0.mk (below_drew1 HB.out)
     clear BK344
     clear HB
     have BK344:=n0_
     have HB:=n1_
     clear n0_ n1_
     refine start_ (n:=10) (S:=fun w'=>w'.cell? ⟨gb344,0,none⟩ = some (.int .i64 a2_0) ∧ w'.cell? ⟨gb344,1,none⟩ = some (.int .i64 a2_1) ∧ w'.cell? ⟨gb344,2,none⟩ = some (.int .i64 a2_2) ∧ w'.cell? ⟨gb344,3,none⟩ = some (.int .i64 a2_3) ∧ w'.cell? ⟨gb344,4,none⟩ = some (.int .i64 a2_4)) (ds:=[]) #[false,false,false,false,false,false,false,false,false,false] (by kernel_rfl) rfl rfl ⟨(blk_cell BK344.out 0).trans rfl,(blk_cell BK344.out 1).trans rfl,(blk_cell BK344.out 2).trans rfl,(blk_cell BK344.out 3).trans rfl,(blk_cell BK344.out 4).trans rfl⟩ (fun hHeld=>?_);refine with_tabW scarfjointlaw03_DifferenceImplies.tab3 scarfjointlaw03_DifferenceImplies.bits3 (fun HT_ HW_=>?_)
     generalize wc.drew = w23 at BK344 HB hHeld ⊢
     refine pure_ (i:=0) (N:=some 20) (v:=?_) (a':=?_) #[true,false,false,false,false,false,false,false,false,false] rfl rfl (any_of HT_.out (by kernel_rfl)) (fun _ _ _ h=>h) (Or.inl ⟨by rfl,?_⟩) ?_ ?_
     rotate_left
     ·intro w'
      go_simp
      with_reducible rfl
     rotate_left
     ·simp only [Act.put,List.setIfInBounds_toArray,List.set_cons_zero,List.set_cons_succ,i64_w,i32_w]
      rfl
     refine pure_ (i:=1) (N:=some 21) (v:=?_) (a':=?_) #[true,true,false,false,false,false,false,false,false,false] rfl rfl (any_of HT_.out (by kernel_rfl)) (fun _ _ _ h=>h) (Or.inl ⟨by rfl,?_⟩) ?_ ?_
     rotate_left
     ·intro w'
      go_simp
      with_reducible rfl
     rotate_left
     ·simp only [Act.put,List.setIfInBounds_toArray,List.set_cons_zero,List.set_cons_succ,i64_w,i32_w]
      rfl
     refine take_ (i:=3) (N:=some 23) (v:=?_) (a':=?_) #[true,true,false,true,false,false,false,false,false,false] rfl rfl (take_ofW HT_.out HW_.out (by kernel_rfl)) (fun _ _ _ h=>h) (Or.inl ⟨by rfl,?_⟩) hHeld ?_ ?_
     rotate_left
     ·rintro w' ⟨s0,s1,s2,s3,s4⟩
      go_simp
      with_reducible rfl
     rotate_left
     ·simp only [Act.put,List.setIfInBounds_toArray,List.set_cons_zero,List.set_cons_succ,i64_w,i32_w]
      rfl
     refine one_ (i:=2) (N:=some 22) #[true,true,true,true,false,false,false,false,false,false] rfl rfl (one_of HT_.out (by kernel_rfl)) (by decide) (fun K hK=>?_)
     refine goes_ Try.func14 (by kernel_rfl) rfl #[.slice A1 l1.length c1] (by rfl) rfl rfl (by (try simp only [List.map_toArray,List.map_cons,List.map_nil]);first|done|rfl|(simp only [List.length_drop,List.length_take];rfl)) ?_
     with_reducible refine (api_Test_14.calls _ _ l1 t347 _ ?side1 ?side2 A13.out).mono ?_
     (case side1=>repeat (first|exact (Kd.C_below HR1.out HB.out)|(with_reducible refine Kd.C_alloc ?_ _)|(with_reducible refine Kd.C_drewN ?_ _)|(with_reducible refine Kd.C_drew ?_)))
     (case side2=>exact HC1.out)
     rintro e w24 ⟨v348,rfl,ho0,hb⟩
     refine ⟨_,rfl,?_⟩
     have n0_:=Aside0.mk (Kd.R_lower (Kd.R_newB ho0 (g:=gb344) (o:=.cells #[.int .i64 a2_0,.int .i64 a2_1,.int .i64 a2_2,.int .i64 a2_3,.int .i64 a2_4] 26 (0,0)) (by (with_reducible repeat (first|refine blk_drewN ?_ _|refine blk_drew ?_|refine blk_alloc ?_ _));exact BK344.out)) (below_size (by repeat (first|(with_reducible first|exact HB.out|apply below_alloc|apply pw_below_drewN|apply below_drew1|refine below_set ?_ GE344.out)|exact HB.out))))
     have n1_:=Aside0.mk (blk_below (g:=gb344) (o:=.cells #[.int .i64 a2_0,.int .i64 a2_1,.int .i64 a2_2,.int .i64 a2_3,.int .i64 a2_4] 26 (0,0)) (by (with_reducible repeat (first|refine blk_drewN ?_ _|refine blk_drew ?_|refine blk_alloc ?_ _));exact BK344.out) hb)
     have n2_:=Aside0.mk (below_step (by repeat (first|(with_reducible first|exact HB.out|apply below_alloc|apply pw_below_drewN|apply below_drew1|refine below_set ?_ GE344.out)|exact HB.out)) hb)
     clear BK344
     clear HB
     have HO349:=n0_
     have BK344:=n1_
     have HB:=n2_
     clear n0_ n1_ n2_
     (try clear hb)
     (try clear hb2)
     (try clear hk)
     (try clear hi)
     (try clear ho0)
     obtain ⟨Ao25,co25,eo25⟩:=Kd.R_slice HO349.out
     (first|subst eo25|(injection eo25 with f1_ f2_ f3_;have f4_:=f1_.symm;have f5_:=f3_.symm;clear f1_ f2_ f3_;subst f4_;subst f5_))
     refine hK.out _ _ ⟨(blk_cell BK344.out 0).trans rfl,(blk_cell BK344.out 1).trans rfl,(blk_cell BK344.out 2).trans rfl,(blk_cell BK344.out 3).trans rfl,(blk_cell BK344.out 4).trans rfl⟩ (fun hHeld=>?_)
     clear hK K
     refine norm_ (a':=?_) ?_ ?_
     rotate_left
     ·show Act.put _ (some 22) _ = _
      simp only [Act.put,List.setIfInBounds_toArray,List.set_cons_zero,List.set_cons_succ,i64_w,i32_w]
      rfl
     refine one_ (i:=4) (N:=some 24) #[true,true,true,true,true,false,false,false,false,false] rfl rfl (one_of HT_.out (by kernel_rfl)) (by decide) (fun K hK=>?_)
     refine goes_ Try.func13 (by kernel_rfl) rfl #[.int .i64 a0,.slice Ao25 t347.length co25,.agg #[.int .i64 a2_0,.int .i64 a2_1,.int .i64 a2_2,.int .i64 a2_3,.int .i64 a2_4]] (by rfl) rfl rfl (by (try simp only [List.map_toArray,List.map_cons,List.map_nil]);first|done|rfl|(simp only [List.length_drop,List.length_take];rfl)) ?_
     with_reducible refine (difference_Implies.calls kj3 a0 _ _ t347 a2_0 a2_1 a2_2 a2_3 a2_4 t350 t351 _ ?side1 ?side2 A14.out).mono ?_
     (case side1=>repeat (first|exact (Kd.R_reads' HO349.out).2.2|(with_reducible refine Kd.C_alloc ?_ _)|(with_reducible refine Kd.C_drewN ?_ _)|(with_reducible refine Kd.C_drew ?_)))
     (case side2=>exact (Kd.R_reads' HO349.out).2.1)
     rintro e w26 ⟨rfl,hb⟩
     refine ⟨_,rfl,?_⟩
     have n0_:=Aside0.mk (Kd.R_below (by (with_reducible repeat (first|apply Kd.R_alloc|apply Kd.R_drewN|apply Kd.R_drew));exact HO349.out) hb)
     have n1_:=Aside0.mk (blk_below (g:=gb344) (o:=.cells #[.int .i64 a2_0,.int .i64 a2_1,.int .i64 a2_2,.int .i64 a2_3,.int .i64 a2_4] 26 (0,0)) (by (with_reducible repeat (first|refine blk_drewN ?_ _|refine blk_drew ?_|refine blk_alloc ?_ _));exact BK344.out) hb)
     have n2_:=Aside0.mk (below_step (by repeat (first|(with_reducible first|exact HB.out|apply below_alloc|apply pw_below_drewN|apply below_drew1|refine below_set ?_ GE344.out)|exact HB.out)) hb)
     clear HO349
     clear BK344
     clear HB
     have HO349:=n0_
     have BK344:=n1_
     have HB:=n2_
     clear n0_ n1_ n2_
     (try clear hb)
     (try clear hb2)
     (try clear hk)
     (try clear hi)
     refine hK.out _ _ ⟨(blk_cell BK344.out 0).trans rfl,(blk_cell BK344.out 1).trans rfl,(blk_cell BK344.out 2).trans rfl,(blk_cell BK344.out 3).trans rfl,(blk_cell BK344.out 4).trans rfl⟩ (fun hHeld=>?_)
     clear hK K
     refine norm_ (a':=?_) ?_ ?_
     rotate_left
     ·show Act.put _ (some 24) _ = _
      simp only [Act.put,List.setIfInBounds_toArray,List.set_cons_zero,List.set_cons_succ,i64_w,i32_w]
      rfl
     refine pure_ (i:=5) (N:=some 19) (v:=?_) (a':=?_) #[true,true,true,true,true,true,false,false,false,false] rfl rfl (any_of HT_.out (by kernel_rfl)) (fun _ _ _ h=>h) (Or.inl ⟨by rfl,?_⟩) ?_ ?_
     rotate_left
     ·intro w'
      go_simp
      with_reducible rfl
     rotate_left
     ·simp only [Act.put,List.setIfInBounds_toArray,List.set_cons_zero,List.set_cons_succ,i64_w,i32_w]
      rfl
     refine pure_ (i:=6) (N:=some 25) (v:=?_) (a':=?_) #[true,true,true,true,true,true,true,false,false,false] rfl rfl (any_of HT_.out (by kernel_rfl)) (fun _ _ _ h=>h) (Or.inl ⟨by rfl,?_⟩) ?_ ?_
     rotate_left
     ·intro w'
      go_simp
      with_reducible rfl
     rotate_left
     ·simp only [Act.put,List.setIfInBounds_toArray,List.set_cons_zero,List.set_cons_succ,i64_w,i32_w]
      rfl
     refine pure_ (i:=7) (N:=some 26) (v:=?_) (a':=?_) #[true,true,true,true,true,true,true,true,false,false] rfl rfl (any_of HT_.out (by kernel_rfl)) (fun _ _ _ h=>h) (Or.inl ⟨by rfl,?_⟩) ?_ ?_
     rotate_left
     ·intro w'
      go_simp
      with_reducible rfl
     rotate_left
     ·simp only [Act.put,List.setIfInBounds_toArray,List.set_cons_zero,List.set_cons_succ,i64_w,i32_w]
      rfl
     refine pure_ (i:=8) (N:=some 7) (v:=?_) (a':=?_) #[true,true,true,true,true,true,true,true,true,false] rfl rfl (any_of HT_.out (by kernel_rfl)) (fun _ _ _ h=>h) (Or.inl ⟨by rfl,?_⟩) ?_ ?_
     rotate_left
     ·intro w'
      go_simp
      with_reducible rfl
     rotate_left
     ·simp only [Act.put,List.setIfInBounds_toArray,List.set_cons_zero,List.set_cons_succ,i64_w,i32_w]
      rfl
     refine pure_ (i:=9) (N:=some 8) (v:=?_) (a':=?_) #[true,true,true,true,true,true,true,true,true,true] rfl rfl (any_of HT_.out (by kernel_rfl)) (fun _ _ _ h=>h) (Or.inl ⟨by rfl,?_⟩) ?_ ?_
     rotate_left
     ·intro w'
      go_simp
      with_reducible rfl
     rotate_left
     ·simp only [Act.put,List.setIfInBounds_toArray,List.set_cons_zero,List.set_cons_succ,i64_w,i32_w]
      rfl
     refine done_ (done_of HT_.out (by kernel_rfl)) ?_
     have hcz27_0 : w26.cell? ⟨gb344,0,none⟩ = some (.int .i64 a2_0):=(blk_cell BK344.out 0).trans rfl
     have hcz27_1 : w26.cell? ⟨gb344,1,none⟩ = some (.int .i64 a2_1):=(blk_cell BK344.out 1).trans rfl
     have hcz27_2 : w26.cell? ⟨gb344,2,none⟩ = some (.int .i64 a2_2):=(blk_cell BK344.out 2).trans rfl
     have hcz27_3 : w26.cell? ⟨gb344,3,none⟩ = some (.int .i64 a2_3):=(blk_cell BK344.out 3).trans rfl
     have hcz27_4 : w26.cell? ⟨gb344,4,none⟩ = some (.int .i64 a2_4):=(blk_cell BK344.out 4).trans rfl
     have hfz27_0:=blk_frozen BK344.out 0
     have hfz27_1:=blk_frozen BK344.out 1
     have hfz27_2:=blk_frozen BK344.out 2
     have hfz27_3:=blk_frozen BK344.out 3
     have hfz27_4:=blk_frozen BK344.out 4
     try go_wp2_with (first|((with_reducible refine gate_callee (f:=15) rfl ?_);refine goesL_ (some 31) rfl rfl Try.func15 (by kernel_rfl) rfl #[.int .i64 a0,.slice A1 l1.length c1,.agg #[.int .i64 a2_0,.int .i64 a2_1,.int .i64 a2_2,.int .i64 a2_3,.int .i64 a2_4]] rfl (by (try simp only [List.map_toArray,List.map_cons,List.map_nil]);first|done|rfl|(simp only [List.length_drop,List.length_take];rfl)) ?_;(with_reducible refine (scarfjointref03_Implies.calls kj3 a0 _ _ l1 a2_0 a2_1 a2_2 a2_3 a2_4 t352 t353 _ ?side1 ?side2 A15.out).mono ?_);(case side1=>repeat (first|exact (Kd.C_below HR1.out HB.out)|(with_reducible refine Kd.C_alloc ?_ _)|(with_reducible refine Kd.C_drewN ?_ _)|(with_reducible refine Kd.C_drew ?_)));(case side2=>exact HC1.out);rintro e w28 ⟨rfl,hb⟩;refine ⟨_,rfl,?_⟩;have n0_:=Aside0.mk (Kd.R_below (by (with_reducible repeat (first|apply Kd.R_alloc|apply Kd.R_drewN|apply Kd.R_drew));exact HO349.out) hb);have n1_:=Aside0.mk (blk_below (g:=gb344) (o:=.cells #[.int .i64 a2_0,.int .i64 a2_1,.int .i64 a2_2,.int .i64 a2_3,.int .i64 a2_4] 26 (0,0)) (by (with_reducible repeat (first|refine blk_drewN ?_ _|refine blk_drew ?_|refine blk_alloc ?_ _));exact BK344.out) hb);have n2_:=Aside0.mk (below_step (by repeat (first|(with_reducible first|exact HB.out|apply below_alloc|apply pw_below_drewN|apply below_drew1|refine below_set ?_ GE344.out)|exact HB.out)) hb);clear HO349;clear BK344;clear HB;have HO349:=n0_;have BK344:=n1_;have HB:=n2_;clear n0_ n1_ n2_;(try clear hb);(try clear hb2);(try clear hk);(try clear hi)))
     go_ret
     exact ⟨by first|rfl|(simp [errW_none,errW_some] <;> rfl)|(simp [*,errW_none,errW_some] <;> rfl),by repeat (first|(with_reducible first|exact HB.out|apply below_alloc|apply pw_below_drewN|apply below_drew1|refine below_set ?_ GE344.out)|exact HB.out)⟩

/-! ### scarfjointref03_remainder: function 50 -/
def scarfjointref03_remainder.f (a0 : Int) (a1 : Int) : Option (Int):=if a1 = 0 then (none) else (some (Int.tmod (wrap64 ((Int.tmod a0 a1) + a1)) a1))
set_option maxHeartbeats 8000000 in
set_option maxRecDepth 100000 in
theorem scarfjointref03_remainder.calls (a0 : Int) (a1 : Int) (r : Int) (w : World) (h : scarfjointref03_remainder.f a0 a1 = some r) :
  Calls Try.prog 50 #[.int .i64 a0,.int .i64 a1] w fun e w'=>e = .returned (.int .i64 r) ∧ Drawn0 w w':=by
 have H : (if a1 = 0 then (none) else (some (Int.tmod (wrap64 ((Int.tmod a0 a1) + a1)) a1))) = some r:=h
 clear h
 by_cases c3 : a1 = 0
 ·rw [if_pos c3] at H
  exact absurd H (by simp)
 ·rw [if_neg c3] at H
  have c3b0 : (a1 == 0) = false:=beq_eq_false_iff_ne.mpr c3
  have c3b1 : (a1 != 0) = true:=bne_iff_ne.mpr c3
  obtain rfl:=Option.some.inj H
  go_enter Try.func50,Try.ntmps50
  go_wp2
  go_ret
  exact ⟨by first|rfl|(simp;done)|(simp [*];done),by repeat (first|exact Drawn0.refl _|apply Drawn0.step)⟩

-- NOT PRINTED: function 19 (scarfjointref03_Made)

-- NOT PRINTED: function 16 (scarfjointlaw03_few)

-- NOT PRINTED: function 4 (scarfjointlaw03_DifferenceEither)

-- NOT PRINTED: function 5 (scarfjointlaw03_DifferenceOpposite)

end Go.Proofs.Yteebkkdbkkibmaa.Pr
