/- Functions of this claim and what their calls compute, written by wip/tools/mp.py, a variant of the kit printer. Conditions: each theorem has its own. -/
import Derived.Test.YteebkkdbkkibmaaPr0
import Derived.Test.YteebkkdbkkibmaaPr5
namespace Go.Proofs.Yteebkkdbkkibmaa.Pr
open Go.RowKit Go.Proofs.YteebkkdbkkibmaaW.PrintWords Go.Proofs.YteebkkdbkkibmaaW.PrintLast Go.Proofs.YteebkkdbkkibmaaW.PrintMore
attribute [local go_sem] max2_int min2_int max_two min_two max_three min_three max_four min_four   -- for this text's walks alone
set_option linter.unusedVariables false
set_option linter.unusedSimpArgs false

/-! ### difference_implied: function 42 -/
def difference_implied.f (k : Nat) (a0 : Int) (l1 : List (S71)) (a2_0 : Int) (a2_1 : Int) (a2_2 : Int) (a2_3 : Int) (a2_4 : Int) : Option (Bool):=(difference_arc_64.f l1).bind fun t132=>((some (([(⟨(⟨0,0⟩ : S55),a2_3,a2_2,wrap64 ((wrap64 (-a2_4)) - 1)⟩ : S71)] : List (S71)) : List (S71))).bind fun y135=>(if t132.length + y135.length < 3518437208883 then ((difference_distances.f k a0 (t132 ++ y135)).bind fun bt141=>(some (!bt141.2))) else (none)))
theorem difference_implied.mono : ∀ a0 a1 a2 a3 a4 a5 a6 k,LeO (difference_implied.f k a0 a1 a2 a3 a4 a5 a6) (difference_implied.f (k + 1) a0 a1 a2 a3 a4 a5 a6):=by
 intro a0 a1 a2 a3 a4 a5 a6 k
 unfold difference_implied.f
 repeat' first
   | (with_reducible exact difference_distances.mono _ _ _)
   | (with_reducible exact LeO.refl _)
   | (with_reducible exact LeO.none _)
   | (with_reducible refine LeO.ite ?_ ?_)
   | (with_reducible refine LeO.bind ?_ (fun _ => ?_))
   | exact difference_distances.mono _ _ _
   | exact LeO.none _
   | refine LeO.ite ?_ ?_
   | refine LeO.bind ?_ (fun _ => ?_)
def difference_implied.T1 : Bool × List (List Nat × List Nat):=(true,[([],[]),([],[]),([1],[1]),([],[]),([3],[3]),([],[]),([5],[5]),([],[]),([7],[7]),([8],[8]),([9],[9]),([4,6,10],[4,6,10]),([11],[11]),([2,12,2],[2,12]),([0,13,13],[0,13]),([14],[14]),([15],[15]),([15],[15]),([16,14,0,1,2,3,4,5,6,7,8,9,10,11,12,13,14,15,16],[16]),([17,18,0,1,2,3,4,5,6,7,8,9,10,11,12,13,14,15,16,17,18],[17])])
def difference_implied.B1 : List Nat:=[0,0,2,0,8,0,32,0,128,384,896,2040,4088,8190,16383,32767,65535,65535,131071,524287]
theorem difference_implied.tab1 : rtab .any (opsOf Try.f42 1) = difference_implied.T1:=by kernel_rfl
theorem difference_implied.bits1 : waitsOk difference_implied.T1.2 difference_implied.B1 = true:=by kernel_rfl
set_option maxHeartbeats 8000000 in
set_option maxRecDepth 100000 in
theorem difference_implied.calls (k : Nat) (a0 : Int) (A1 : Option Addr) (c1 : Nat) (l1 : List (S71)) (a2_0 : Int) (a2_1 : Int) (a2_2 : Int) (a2_3 : Int) (a2_4 : Int) (r : Bool) (w : World) (hr1 : Kd.C k71 w A1 l1.length l1) (hc1 : l1.length ≤ c1) (h : difference_implied.f k a0 l1 a2_0 a2_1 a2_2 a2_3 a2_4 = some r) :
  Calls Try.prog 42 #[.int .i64 a0,.slice A1 l1.length c1,.agg #[.int .i64 a2_0,.int .i64 a2_1,.int .i64 a2_2,.int .i64 a2_3,.int .i64 a2_4]] w fun e w'=>e = .returned (.bool r) ∧ Below w.heap.size w w':=by
 have hu71:=Try.underlying71
 have HR1:=Aside0.mk hr1
 have HC1:=Aside0.mk hc1
 clear hr1 hc1
 have HB:=Aside0.mk (Below.refl w.heap.size w)
 have H : ((difference_arc_64.f l1).bind fun t132=>((some (([(⟨(⟨0,0⟩ : S55),a2_3,a2_2,wrap64 ((wrap64 (-a2_4)) - 1)⟩ : S71)] : List (S71)) : List (S71))).bind fun y135=>(if t132.length + y135.length < 3518437208883 then ((difference_distances.f k a0 (t132 ++ y135)).bind fun bt141=>(some (!bt141.2))) else (none)))) = some r:=h
 clear h
 replace H:=Option.bind_eq_some_iff.mp H
 obtain ⟨t132,A40,H⟩:=H
 replace H : ((some (([(⟨(⟨0,0⟩ : S55),a2_3,a2_2,wrap64 ((wrap64 (-a2_4)) - 1)⟩ : S71)] : List (S71)) : List (S71))).bind fun y135=>(if t132.length + y135.length < 3518437208883 then ((difference_distances.f k a0 (t132 ++ y135)).bind fun bt141=>(some (!bt141.2))) else (none))) = some r:=H
 have A4:=Aside0.mk A40
 clear A40
 obtain ⟨y135,hy135⟩ : ∃ y_ : List (S71),y_ = (([(⟨(⟨0,0⟩ : S55),a2_3,a2_2,wrap64 ((wrap64 (-a2_4)) - 1)⟩ : S71)] : List (S71))):=⟨_,rfl⟩
 replace H : (if t132.length + y135.length < 3518437208883 then ((difference_distances.f k a0 (t132 ++ y135)).bind fun bt141=>(some (!bt141.2))) else (none)) = some r:=by first|(rw [hy135];with_reducible exact H)|(have H2_:=(Option.bind_some _ _).symm.trans H;rw [hy135];with_reducible exact H2_)|(have H2_:=(Option.bind_some _ _).symm.trans H;with_reducible exact H2_)|with_reducible exact H|(rw [hy135];exact H)|exact H
 have Ny135:=Aside0.mk hy135
 clear hy135
 by_cases c5 : t132.length + y135.length < 3518437208883
 ·rw [if_pos c5] at H
  have LMc5:=Aside0.mk c5
  clear c5
  obtain ⟨y138,hy138⟩ : ∃ y_ : List (S71),y_ = (t132 ++ y135):=⟨_,rfl⟩
  replace H : ((difference_distances.f k a0 y138).bind fun bt141=>(some (!bt141.2))) = some r:=by first|(rw [hy138];with_reducible exact H)|(have H2_:=(Option.bind_some _ _).symm.trans H;rw [hy138];with_reducible exact H2_)|(have H2_:=(Option.bind_some _ _).symm.trans H;with_reducible exact H2_)|with_reducible exact H|(rw [hy138];exact H)|exact H
  have Ny138:=Aside0.mk hy138
  clear hy138
  replace H:=Option.bind_eq_some_iff.mp H
  obtain ⟨⟨t141,t142⟩,A60,H⟩:=H
  replace H : (some (!t142)) = some r:=H
  have A6:=Aside0.mk A60
  clear A60
  obtain rfl:=Option.some.inj H
  go_enter Try.func42,Try.ntmps42
  try go_wp2_with (first|((with_reducible refine gate_dst (N:=5) rfl ?_);refine box_event ?hg (N:=5) ?hd (cs:=#[.int .i64 a2_0,.int .i64 a2_1,.int .i64 a2_2,.int .i64 a2_3,.int .i64 a2_4]) (t:=71) ?hr ?_;(case hd=>rfl);(case hg=>rfl);(case hr=>first|(go_simp;done)|(go_simp;rfl));intro gb131 hg w7 hbox hb;have n0_:=Aside0.mk (below_step (by repeat (first|(with_reducible first|exact HB.out|apply below_alloc|apply pw_below_drewN|apply below_drew1)|exact HB.out)) hb);have n1_:=Aside0.mk (hbox);have n2_:=Aside0.mk ((by rw [hg];exact (below_size (by repeat (first|(with_reducible first|exact HB.out|apply below_alloc|apply pw_below_drewN|apply below_drew1)|exact HB.out))) : w.heap.size ≤ gb131));have n3_:=Aside0.mk ((by rw [hg];exact (below_size (by repeat (first|(with_reducible first|exact HB.out|apply below_alloc|apply pw_below_drewN|apply below_drew1)|exact HB.out))) : w.heap.size ≤ gb131));clear HB;have HB:=n0_;have BK131:=n1_;have GW131:=n2_;have GE131:=n3_;clear n0_ n1_ n2_ n3_;clear hb hbox hg))
  have n0_:=Aside0.mk (blk_drew BK131.out)
  have n1_:=Aside0.mk (below_drew1 HB.out)
  clear BK131
  clear HB
  have BK131:=n0_
  have HB:=n1_
  clear n0_ n1_
  refine start_ (n:=20) (S:=fun w'=>w'.cell? ⟨gb131,0,none⟩ = some (.int .i64 a2_0) ∧ w'.cell? ⟨gb131,1,none⟩ = some (.int .i64 a2_1) ∧ w'.cell? ⟨gb131,2,none⟩ = some (.int .i64 a2_2) ∧ w'.cell? ⟨gb131,3,none⟩ = some (.int .i64 a2_3) ∧ w'.cell? ⟨gb131,4,none⟩ = some (.int .i64 a2_4)) (ds:=[]) #[false,false,false,false,false,false,false,false,false,false,false,false,false,false,false,false,false,false,false,false] (by kernel_rfl) rfl rfl ⟨(blk_cell BK131.out 0).trans rfl,(blk_cell BK131.out 1).trans rfl,(blk_cell BK131.out 2).trans rfl,(blk_cell BK131.out 3).trans rfl,(blk_cell BK131.out 4).trans rfl⟩ (fun hHeld=>?_);refine with_tabW difference_implied.tab1 difference_implied.bits1 (fun HT_ HW_=>?_)
  generalize w7.drew = w8 at BK131 HB hHeld ⊢
  refine pure_ (i:=0) (N:=some 10) (v:=?_) (a':=?_) #[true,false,false,false,false,false,false,false,false,false,false,false,false,false,false,false,false,false,false,false] rfl rfl (any_of HT_.out (by kernel_rfl)) (fun _ _ _ h=>h) (Or.inl ⟨by rfl,?_⟩) ?_ ?_
  rotate_left
  ·intro w'
   go_simp
   with_reducible rfl
  rotate_left
  ·simp only [Act.put,List.setIfInBounds_toArray,List.set_cons_zero,List.set_cons_succ,i64_w,i32_w]
   rfl
  refine pure_ (i:=1) (N:=some 11) (v:=?_) (a':=?_) #[true,true,false,false,false,false,false,false,false,false,false,false,false,false,false,false,false,false,false,false] rfl rfl (any_of HT_.out (by kernel_rfl)) (fun _ _ _ h=>h) (Or.inl ⟨by rfl,?_⟩) ?_ ?_
  rotate_left
  ·intro w'
   go_simp
   with_reducible rfl
  rotate_left
  ·simp only [Act.put,List.setIfInBounds_toArray,List.set_cons_zero,List.set_cons_succ,i64_w,i32_w]
   rfl
  refine pure_ (i:=3) (N:=some 13) (v:=?_) (a':=?_) #[true,true,false,true,false,false,false,false,false,false,false,false,false,false,false,false,false,false,false,false] rfl rfl (any_of HT_.out (by kernel_rfl)) (fun _ _ _ h=>h) (Or.inl ⟨by rfl,?_⟩) ?_ ?_
  rotate_left
  ·intro w'
   go_simp
   with_reducible rfl
  rotate_left
  ·simp only [Act.put,List.setIfInBounds_toArray,List.set_cons_zero,List.set_cons_succ,i64_w,i32_w]
   rfl
  refine pure_ (i:=5) (N:=some 15) (v:=?_) (a':=?_) #[true,true,false,true,false,true,false,false,false,false,false,false,false,false,false,false,false,false,false,false] rfl rfl (any_of HT_.out (by kernel_rfl)) (fun _ _ _ h=>h) (Or.inl ⟨by rfl,?_⟩) ?_ ?_
  rotate_left
  ·intro w'
   go_simp
   with_reducible rfl
  rotate_left
  ·simp only [Act.put,List.setIfInBounds_toArray,List.set_cons_zero,List.set_cons_succ,i64_w,i32_w]
   rfl
  refine pure_ (i:=7) (N:=some 17) (v:=?_) (a':=?_) #[true,true,false,true,false,true,false,true,false,false,false,false,false,false,false,false,false,false,false,false] rfl rfl (any_of HT_.out (by kernel_rfl)) (fun _ _ _ h=>h) (Or.inl ⟨by rfl,?_⟩) ?_ ?_
  rotate_left
  ·intro w'
   go_simp
   with_reducible rfl
  rotate_left
  ·simp only [Act.put,List.setIfInBounds_toArray,List.set_cons_zero,List.set_cons_succ,i64_w,i32_w]
   rfl
  refine take_ (i:=4) (N:=some 14) (v:=?_) (a':=?_) #[true,true,false,true,true,true,false,true,false,false,false,false,false,false,false,false,false,false,false,false] rfl rfl (take_ofW HT_.out HW_.out (by kernel_rfl)) (fun _ _ _ h=>h) (Or.inl ⟨by rfl,?_⟩) hHeld ?_ ?_
  rotate_left
  ·rintro w' ⟨s0,s1,s2,s3,s4⟩
   go_simp
   with_reducible rfl
  rotate_left
  ·simp only [Act.put,List.setIfInBounds_toArray,List.set_cons_zero,List.set_cons_succ,i64_w,i32_w]
   rfl
  refine take_ (i:=6) (N:=some 16) (v:=?_) (a':=?_) #[true,true,false,true,true,true,true,true,false,false,false,false,false,false,false,false,false,false,false,false] rfl rfl (take_ofW HT_.out HW_.out (by kernel_rfl)) (fun _ _ _ h=>h) (Or.inl ⟨by rfl,?_⟩) hHeld ?_ ?_
  rotate_left
  ·rintro w' ⟨s0,s1,s2,s3,s4⟩
   go_simp
   with_reducible rfl
  rotate_left
  ·simp only [Act.put,List.setIfInBounds_toArray,List.set_cons_zero,List.set_cons_succ,i64_w,i32_w]
   rfl
  refine take_ (i:=8) (N:=some 18) (v:=?_) (a':=?_) #[true,true,false,true,true,true,true,true,true,false,false,false,false,false,false,false,false,false,false,false] rfl rfl (take_ofW HT_.out HW_.out (by kernel_rfl)) (fun _ _ _ h=>h) (Or.inl ⟨by rfl,?_⟩) hHeld ?_ ?_
  rotate_left
  ·rintro w' ⟨s0,s1,s2,s3,s4⟩
   go_simp
   with_reducible rfl
  rotate_left
  ·simp only [Act.put,List.setIfInBounds_toArray,List.set_cons_zero,List.set_cons_succ,i64_w,i32_w]
   rfl
  refine pure_ (i:=9) (N:=some 19) (v:=?_) (a':=?_) #[true,true,false,true,true,true,true,true,true,true,false,false,false,false,false,false,false,false,false,false] rfl rfl (any_of HT_.out (by kernel_rfl)) (fun _ _ _ h=>h) (Or.inl ⟨by rfl,?_⟩) ?_ ?_
  rotate_left
  ·intro w'
   go_simp
   with_reducible rfl
  rotate_left
  ·simp only [Act.put,List.setIfInBounds_toArray,List.set_cons_zero,List.set_cons_succ,i64_w,i32_w]
   rfl
  refine pure_ (i:=10) (N:=some 20) (v:=?_) (a':=?_) #[true,true,false,true,true,true,true,true,true,true,true,false,false,false,false,false,false,false,false,false] rfl rfl (any_of HT_.out (by kernel_rfl)) (fun _ _ _ h=>h) (Or.inl ⟨by rfl,?_⟩) ?_ ?_
  rotate_left
  ·intro w'
   go_simp
   with_reducible rfl
  rotate_left
  ·simp only [Act.put,List.setIfInBounds_toArray,List.set_cons_zero,List.set_cons_succ,i64_w,i32_w]
   rfl
  refine pure_ (i:=11) (N:=some 21) (v:=?_) (a':=?_) #[true,true,false,true,true,true,true,true,true,true,true,true,false,false,false,false,false,false,false,false] rfl rfl (any_of HT_.out (by kernel_rfl)) (fun _ _ _ h=>h) (Or.inl ⟨by rfl,?_⟩) ?_ ?_
  rotate_left
  ·intro w'
   go_simp
   with_reducible rfl
  rotate_left
  ·simp only [Act.put,List.setIfInBounds_toArray,List.set_cons_zero,List.set_cons_succ,i64_w,i32_w]
   rfl
  refine join_ (σ:=Value × Value) 7 #[true,true,true,true,true,true,true,true,true,true,true,true,true,false,false,false,false,false,false,false] (fun s_=>[(12,s_.1),(22,s_.2)]) (fun s_ w'=>(w'.cell? ⟨gb131,0,none⟩ = some (.int .i64 a2_0) ∧ w'.cell? ⟨gb131,1,none⟩ = some (.int .i64 a2_1) ∧ w'.cell? ⟨gb131,2,none⟩ = some (.int .i64 a2_2) ∧ w'.cell? ⟨gb131,3,none⟩ = some (.int .i64 a2_3) ∧ w'.cell? ⟨gb131,4,none⟩ = some (.int .i64 a2_4)) ∧ (Kd.R k71 71 w' w.heap.size (fun k_=>some k_ ≠ (s_.2 : Value).ownBlock ∧ k_ ≠ gb131) s_.1 t132) ∧ (Kd.R k71 71 w' w.heap.size (fun k_=>some k_ ≠ (s_.1 : Value).ownBlock ∧ k_ ≠ gb131) s_.2 y135) ∧ (w'.heap[gb131]? = some (.cells #[.int .i64 a2_0,.int .i64 a2_1,.int .i64 a2_2,.int .i64 a2_3,.int .i64 a2_4] 71 (0,0))) ∧ (Below w.heap.size w w')) ?_ ?_
  rotate_left
  ·intro hCont
   refine two_ (i:=2) (j:=12) (Ni:=some 12) (Nj:=some 22) #[true,true,true,true,true,true,true,true,true,true,true,true,false,false,false,false,false,false,false,false] #[true,true,false,true,true,true,true,true,true,true,true,true,true,false,false,false,false,false,false,false] rfl rfl rfl rfl (two_of HT_.out (by kernel_rfl)) (by decide) (by decide) (fun K hK=>?_) (fun K hK=>?_)
   ·skip
    refine goes_ Try.func64 (by kernel_rfl) rfl #[.slice A1 l1.length c1] (by rfl) rfl rfl (by (try simp only [List.map_toArray,List.map_cons,List.map_nil]);first|done|rfl|(simp only [List.length_drop,List.length_take];rfl)) ?_
    with_reducible refine (difference_arc_64.calls _ _ l1 t132 _ ?side1 ?side2 A4.out).mono ?_
    (case side1=>repeat (first|exact (Kd.C_below HR1.out HB.out)|(with_reducible refine Kd.C_alloc ?_ _)|(with_reducible refine Kd.C_drewN ?_ _)|(with_reducible refine Kd.C_drew ?_)))
    (case side2=>exact HC1.out)
    rintro e w9 ⟨v133,rfl,ho0,hb⟩
    refine ⟨_,rfl,?_⟩
    have n0_:=Aside0.mk (Kd.R_lower (Kd.R_newB ho0 (g:=gb131) (o:=.cells #[.int .i64 a2_0,.int .i64 a2_1,.int .i64 a2_2,.int .i64 a2_3,.int .i64 a2_4] 71 (0,0)) (by (with_reducible repeat (first|refine blk_drewN ?_ _|refine blk_drew ?_|refine blk_alloc ?_ _));exact BK131.out)) (below_size (by repeat (first|(with_reducible first|exact HB.out|apply below_alloc|apply pw_below_drewN|apply below_drew1|refine below_set ?_ GE131.out)|exact HB.out))))
    have n1_:=Aside0.mk (blk_below (g:=gb131) (o:=.cells #[.int .i64 a2_0,.int .i64 a2_1,.int .i64 a2_2,.int .i64 a2_3,.int .i64 a2_4] 71 (0,0)) (by (with_reducible repeat (first|refine blk_drewN ?_ _|refine blk_drew ?_|refine blk_alloc ?_ _));exact BK131.out) hb)
    have n2_:=Aside0.mk (below_step (by repeat (first|(with_reducible first|exact HB.out|apply below_alloc|apply pw_below_drewN|apply below_drew1|refine below_set ?_ GE131.out)|exact HB.out)) hb)
    clear BK131
    clear HB
    have HO134:=n0_
    have BK131:=n1_
    have HB:=n2_
    clear n0_ n1_ n2_
    (try clear hb)
    (try clear hb2)
    (try clear hk)
    (try clear hi)
    (try clear ho0)
    refine hK.out _ _ ⟨(blk_cell BK131.out 0).trans rfl,(blk_cell BK131.out 1).trans rfl,(blk_cell BK131.out 2).trans rfl,(blk_cell BK131.out 3).trans rfl,(blk_cell BK131.out 4).trans rfl⟩ (fun hHeld=>?_)
    clear hK K
    refine norm_ (a':=?_) ?_ ?_
    rotate_left
    ·show Act.put _ (some 12) _ = _
     simp only [Act.put,List.setIfInBounds_toArray,List.set_cons_zero,List.set_cons_succ,i64_w,i32_w]
     rfl
    refine one_ (i:=12) (N:=some 22) #[true,true,true,true,true,true,true,true,true,true,true,true,true,false,false,false,false,false,false,false] rfl rfl (one_of HT_.out (by kernel_rfl)) (by decide) (fun K hK=>?_)
    refine Kd.R_lit_step k71 _ 71 ?hg (N:=22) ?hd (xs:=([(⟨(⟨0,0⟩ : S55),a2_3,a2_2,wrap64 ((wrap64 (-a2_4)) - 1)⟩ : S71)] : List (S71))) (inner:=[.int .i64 0,.int .i64 0,.int .i64 a2_3,.int .i64 a2_2,.int .i64 (wrap64 ((wrap64 (-a2_4)) - 1))]) (ok:=fun _=>True) (okp:=fun _=>True) ?hr ?hp (fun _ hk=>hk) trivial (Below.refl _ _) (Nat.le_refl _) (by simp) ?_;(case hd=>rfl);(case hg=>rfl);(case hr=>first|(go_simp;done)|(go_simp;rfl));(case hp=>exact (Reps.c5 (show Kd.M k71 _ _ _ (⟨(⟨0,0⟩ : S55),a2_3,a2_2,wrap64 ((wrap64 (-a2_4)) - 1)⟩ : S71) [.int .i64 0,.int .i64 0,.int .i64 a2_3,.int .i64 a2_2,.int .i64 (wrap64 ((wrap64 (-a2_4)) - 1))] from (k71_mkM _ _ _ (⟨(⟨0,0⟩ : S55),a2_3,a2_2,wrap64 ((wrap64 (-a2_4)) - 1)⟩ : S71) )) (Reps.none _ _)))
    intro v136 w10 ho11 hb hg_ hnew_
    clear hg_ hnew_
    (first|rw [← Ny135.out] at ho11|(simp only [Int.reduceToNat] at ho11;rw [← Ny135.out] at ho11))
    have n0_:=Aside0.mk (Kd.R_elder' (by (with_reducible repeat (first|apply Kd.R_alloc|apply Kd.R_drewN|apply Kd.R_drew));exact HO134.out) (Kd.R_base ho11) hb)
    have n1_:=Aside0.mk (Kd.R_lower (Kd.R_newB (Kd.R_new' ho11 (Kd.R_lt (by (with_reducible repeat (first|apply Kd.R_alloc|apply Kd.R_drewN|apply Kd.R_drew));exact HO134.out))) (g:=gb131) (o:=.cells #[.int .i64 a2_0,.int .i64 a2_1,.int .i64 a2_2,.int .i64 a2_3,.int .i64 a2_4] 71 (0,0)) (by (with_reducible repeat (first|refine blk_drewN ?_ _|refine blk_drew ?_|refine blk_alloc ?_ _));exact BK131.out)) (below_size (by repeat (first|(with_reducible first|exact HB.out|apply below_alloc|apply pw_below_drewN|apply below_drew1|refine below_set ?_ GE131.out)|exact HB.out))))
    have n2_:=Aside0.mk (blk_below (g:=gb131) (o:=.cells #[.int .i64 a2_0,.int .i64 a2_1,.int .i64 a2_2,.int .i64 a2_3,.int .i64 a2_4] 71 (0,0)) (by (with_reducible repeat (first|refine blk_drewN ?_ _|refine blk_drew ?_|refine blk_alloc ?_ _));exact BK131.out) hb)
    have n3_:=Aside0.mk (below_step (by repeat (first|(with_reducible first|exact HB.out|apply below_alloc|apply pw_below_drewN|apply below_drew1|refine below_set ?_ GE131.out)|exact HB.out)) hb)
    clear HO134
    clear BK131
    clear HB
    have HO134:=n0_
    have HO137:=n1_
    have BK131:=n2_
    have HB:=n3_
    clear n0_ n1_ n2_ n3_
    clear hb ho11
    refine hK.out _ _ ⟨(blk_cell BK131.out 0).trans rfl,(blk_cell BK131.out 1).trans rfl,(blk_cell BK131.out 2).trans rfl,(blk_cell BK131.out 3).trans rfl,(blk_cell BK131.out 4).trans rfl⟩ (fun hHeld=>?_)
    clear hK K
    refine norm_ (a':=?_) ?_ ?_
    rotate_left
    ·show Act.put _ (some 22) _ = _
     simp only [Act.put,List.setIfInBounds_toArray,List.set_cons_zero,List.set_cons_succ,i64_w,i32_w]
     rfl
    exact norm_ (by simp only [putAll,Act.put,List.setIfInBounds_toArray,List.set_cons_zero,List.set_cons_succ]) (hCont (v133,v136) _ ⟨hHeld,(by (with_reducible repeat (first|apply Kd.R_alloc|apply Kd.R_drewN|apply Kd.R_drew));exact Kd.R_mono HO134.out (fun _ hk=>⟨hk.2,hk.1.2⟩)),(by (with_reducible repeat (first|apply Kd.R_alloc|apply Kd.R_drewN|apply Kd.R_drew));exact Kd.R_mono HO137.out (fun _ hk=>⟨hk.1.2,hk.2⟩)),(by (with_reducible repeat (first|refine blk_drewN ?_ _|refine blk_drew ?_|refine blk_alloc ?_ _));exact BK131.out),(by repeat (first|(with_reducible first|exact HB.out|apply below_alloc|apply pw_below_drewN|apply below_drew1|refine below_set ?_ GE131.out)|exact HB.out))⟩)
   ·skip
    refine Kd.R_lit_step k71 _ 71 ?hg (N:=22) ?hd (xs:=([(⟨(⟨0,0⟩ : S55),a2_3,a2_2,wrap64 ((wrap64 (-a2_4)) - 1)⟩ : S71)] : List (S71))) (inner:=[.int .i64 0,.int .i64 0,.int .i64 a2_3,.int .i64 a2_2,.int .i64 (wrap64 ((wrap64 (-a2_4)) - 1))]) (ok:=fun _=>True) (okp:=fun _=>True) ?hr ?hp (fun _ hk=>hk) trivial (Below.refl _ _) (Nat.le_refl _) (by simp) ?_;(case hd=>rfl);(case hg=>rfl);(case hr=>first|(go_simp;done)|(go_simp;rfl));(case hp=>exact (Reps.c5 (show Kd.M k71 _ _ _ (⟨(⟨0,0⟩ : S55),a2_3,a2_2,wrap64 ((wrap64 (-a2_4)) - 1)⟩ : S71) [.int .i64 0,.int .i64 0,.int .i64 a2_3,.int .i64 a2_2,.int .i64 (wrap64 ((wrap64 (-a2_4)) - 1))] from (k71_mkM _ _ _ (⟨(⟨0,0⟩ : S55),a2_3,a2_2,wrap64 ((wrap64 (-a2_4)) - 1)⟩ : S71) )) (Reps.none _ _)))
    intro v136 w9 ho10 hb hg_ hnew_
    clear hg_ hnew_
    (first|rw [← Ny135.out] at ho10|(simp only [Int.reduceToNat] at ho10;rw [← Ny135.out] at ho10))
    have n0_:=Aside0.mk (Kd.R_lower (Kd.R_newB ho10 (g:=gb131) (o:=.cells #[.int .i64 a2_0,.int .i64 a2_1,.int .i64 a2_2,.int .i64 a2_3,.int .i64 a2_4] 71 (0,0)) (by (with_reducible repeat (first|refine blk_drewN ?_ _|refine blk_drew ?_|refine blk_alloc ?_ _));exact BK131.out)) (below_size (by repeat (first|(with_reducible first|exact HB.out|apply below_alloc|apply pw_below_drewN|apply below_drew1|refine below_set ?_ GE131.out)|exact HB.out))))
    have n1_:=Aside0.mk (blk_below (g:=gb131) (o:=.cells #[.int .i64 a2_0,.int .i64 a2_1,.int .i64 a2_2,.int .i64 a2_3,.int .i64 a2_4] 71 (0,0)) (by (with_reducible repeat (first|refine blk_drewN ?_ _|refine blk_drew ?_|refine blk_alloc ?_ _));exact BK131.out) hb)
    have n2_:=Aside0.mk (below_step (by repeat (first|(with_reducible first|exact HB.out|apply below_alloc|apply pw_below_drewN|apply below_drew1|refine below_set ?_ GE131.out)|exact HB.out)) hb)
    clear BK131
    clear HB
    have HO137:=n0_
    have BK131:=n1_
    have HB:=n2_
    clear n0_ n1_ n2_
    clear hb ho10
    refine hK.out _ _ ⟨(blk_cell BK131.out 0).trans rfl,(blk_cell BK131.out 1).trans rfl,(blk_cell BK131.out 2).trans rfl,(blk_cell BK131.out 3).trans rfl,(blk_cell BK131.out 4).trans rfl⟩ (fun hHeld=>?_)
    clear hK K
    refine norm_ (a':=?_) ?_ ?_
    rotate_left
    ·show Act.put _ (some 22) _ = _
     simp only [Act.put,List.setIfInBounds_toArray,List.set_cons_zero,List.set_cons_succ,i64_w,i32_w]
     rfl
    refine one_ (i:=2) (N:=some 12) #[true,true,true,true,true,true,true,true,true,true,true,true,true,false,false,false,false,false,false,false] rfl rfl (one_of HT_.out (by kernel_rfl)) (by decide) (fun K hK=>?_)
    refine goes_ Try.func64 (by kernel_rfl) rfl #[.slice A1 l1.length c1] (by rfl) rfl rfl (by (try simp only [List.map_toArray,List.map_cons,List.map_nil]);first|done|rfl|(simp only [List.length_drop,List.length_take];rfl)) ?_
    with_reducible refine (difference_arc_64.calls _ _ l1 t132 _ ?side1 ?side2 A4.out).mono ?_
    (case side1=>repeat (first|exact (Kd.C_below HR1.out HB.out)|(with_reducible refine Kd.C_alloc ?_ _)|(with_reducible refine Kd.C_drewN ?_ _)|(with_reducible refine Kd.C_drew ?_)))
    (case side2=>exact HC1.out)
    rintro e w11 ⟨v133,rfl,ho0,hb⟩
    refine ⟨_,rfl,?_⟩
    have n0_:=Aside0.mk (Kd.R_elder' (by (with_reducible repeat (first|apply Kd.R_alloc|apply Kd.R_drewN|apply Kd.R_drew));exact HO137.out) (Kd.R_base ho0) hb)
    have n1_:=Aside0.mk (Kd.R_lower (Kd.R_newB (Kd.R_new' ho0 (Kd.R_lt (by (with_reducible repeat (first|apply Kd.R_alloc|apply Kd.R_drewN|apply Kd.R_drew));exact HO137.out))) (g:=gb131) (o:=.cells #[.int .i64 a2_0,.int .i64 a2_1,.int .i64 a2_2,.int .i64 a2_3,.int .i64 a2_4] 71 (0,0)) (by (with_reducible repeat (first|refine blk_drewN ?_ _|refine blk_drew ?_|refine blk_alloc ?_ _));exact BK131.out)) (below_size (by repeat (first|(with_reducible first|exact HB.out|apply below_alloc|apply pw_below_drewN|apply below_drew1|refine below_set ?_ GE131.out)|exact HB.out))))
    have n2_:=Aside0.mk (blk_below (g:=gb131) (o:=.cells #[.int .i64 a2_0,.int .i64 a2_1,.int .i64 a2_2,.int .i64 a2_3,.int .i64 a2_4] 71 (0,0)) (by (with_reducible repeat (first|refine blk_drewN ?_ _|refine blk_drew ?_|refine blk_alloc ?_ _));exact BK131.out) hb)
    have n3_:=Aside0.mk (below_step (by repeat (first|(with_reducible first|exact HB.out|apply below_alloc|apply pw_below_drewN|apply below_drew1|refine below_set ?_ GE131.out)|exact HB.out)) hb)
    clear HO137
    clear BK131
    clear HB
    have HO137:=n0_
    have HO134:=n1_
    have BK131:=n2_
    have HB:=n3_
    clear n0_ n1_ n2_ n3_
    (try clear hb)
    (try clear hb2)
    (try clear hk)
    (try clear hi)
    (try clear ho0)
    refine hK.out _ _ ⟨(blk_cell BK131.out 0).trans rfl,(blk_cell BK131.out 1).trans rfl,(blk_cell BK131.out 2).trans rfl,(blk_cell BK131.out 3).trans rfl,(blk_cell BK131.out 4).trans rfl⟩ (fun hHeld=>?_)
    clear hK K
    refine norm_ (a':=?_) ?_ ?_
    rotate_left
    ·show Act.put _ (some 12) _ = _
     simp only [Act.put,List.setIfInBounds_toArray,List.set_cons_zero,List.set_cons_succ,i64_w,i32_w]
     rfl
    exact norm_ (by simp only [putAll,Act.put,List.setIfInBounds_toArray,List.set_cons_zero,List.set_cons_succ]) (hCont (v133,v136) _ ⟨hHeld,(by (with_reducible repeat (first|apply Kd.R_alloc|apply Kd.R_drewN|apply Kd.R_drew));exact Kd.R_mono HO134.out (fun _ hk=>⟨hk.1.2,hk.2⟩)),(by (with_reducible repeat (first|apply Kd.R_alloc|apply Kd.R_drewN|apply Kd.R_drew));exact Kd.R_mono HO137.out (fun _ hk=>⟨hk.2,hk.1.2⟩)),(by (with_reducible repeat (first|refine blk_drewN ?_ _|refine blk_drew ?_|refine blk_alloc ?_ _));exact BK131.out),(by repeat (first|(with_reducible first|exact HB.out|apply below_alloc|apply pw_below_drewN|apply below_drew1|refine below_set ?_ GE131.out)|exact HB.out))⟩)
  rintro ⟨v133,v136⟩ w12 ⟨hS_,h0_,h1_,h2_,h3_⟩
  have n0_ : Aside0 (Kd.R k71 71 w12 w.heap.size (fun k_=>some k_ ≠ (v136 : Value).ownBlock ∧ k_ ≠ gb131) v133 t132):=⟨h0_⟩
  have n1_ : Aside0 (Kd.R k71 71 w12 w.heap.size (fun k_=>some k_ ≠ (v133 : Value).ownBlock ∧ k_ ≠ gb131) v136 y135):=⟨h1_⟩
  have n2_ : Aside0 (w12.heap[gb131]? = some (.cells #[.int .i64 a2_0,.int .i64 a2_1,.int .i64 a2_2,.int .i64 a2_3,.int .i64 a2_4] 71 (0,0))):=⟨h2_⟩
  have n3_ : Aside0 (Below w.heap.size w w12):=⟨h3_⟩
  clear BK131
  clear HB
  clear h0_ h1_ h2_ h3_
  have HO134:=n0_
  have HO137:=n1_
  have BK131:=n2_
  have HB:=n3_
  clear n0_ n1_ n2_ n3_
  have hHeld : w12.cell? ⟨gb131,0,none⟩ = some (.int .i64 a2_0) ∧ w12.cell? ⟨gb131,1,none⟩ = some (.int .i64 a2_1) ∧ w12.cell? ⟨gb131,2,none⟩ = some (.int .i64 a2_2) ∧ w12.cell? ⟨gb131,3,none⟩ = some (.int .i64 a2_3) ∧ w12.cell? ⟨gb131,4,none⟩ = some (.int .i64 a2_4):=hS_
  obtain ⟨Ao14,co14,eo14⟩:=Kd.R_slice HO137.out
  (first|subst eo14|(injection eo14 with f1_ f2_ f3_;have f4_:=f1_.symm;have f5_:=f3_.symm;clear f1_ f2_ f3_;subst f4_;subst f5_))
  refine norm_ (a':=?_) ?_ ?_
  rotate_left
  ·simp only [putAll,Act.put,List.setIfInBounds_toArray,List.set_cons_zero,List.set_cons_succ]
   rfl
  refine one_ (i:=13) (N:=some 23) #[true,true,true,true,true,true,true,true,true,true,true,true,true,true,false,false,false,false,false,false] rfl rfl (one_of HT_.out (by kernel_rfl)) (by decide) (fun K hK=>?_)
  refine Kd.R_append_rows_step k71 (w0:=w) w.heap.size (by rfl) (.tmp 12) (.tmp 22) 68 71 (.agg #[(.int .i64 0),(.int .i64 0),(.int .i64 0),(.int .i64 0),(.int .i64 0)]) 40 rfl Try.underlying68 info71 rfl (by decide) (by omega) v133 t132 y135 _ _ _ (fun k_=>some k_ ≠ (.slice Ao14 y135.length co14 : Value).ownBlock ∧ k_ ≠ gb131) (fun _=>False) rfl rfl ?aO ?aR (fun _ _ h=>h) (fun _ h=>h.elim) ?aF ?aB ?aS ?aL ?_
  (case aR=>repeat (first|exact (Kd.R_reads' HO137.out).2.2|(with_reducible refine Kd.C_alloc ?_ _)|(with_reducible refine Kd.C_drewN ?_ _)|(with_reducible refine Kd.C_drew ?_)))
  (case aB=>exact (by repeat (first|(with_reducible first|exact HB.out|apply below_alloc|apply pw_below_drewN|apply below_drew1|refine below_set ?_ GE131.out)|exact HB.out)))
  (case aF=>exact (fun k_ hk=>⟨Kd.fresh' (Kd.R_lt (by (with_reducible repeat (first|apply Kd.R_alloc|apply Kd.R_drewN|apply Kd.R_drew));exact HO137.out)) k_ hk,Kd.freshB (g:=gb131) (o:=.cells #[.int .i64 a2_0,.int .i64 a2_1,.int .i64 a2_2,.int .i64 a2_3,.int .i64 a2_4] 71 (0,0)) (by (with_reducible repeat (first|refine blk_drewN ?_ _|refine blk_drew ?_|refine blk_alloc ?_ _));exact BK131.out) k_ hk⟩))
  (case aO=>exact (by (with_reducible repeat (first|apply Kd.R_alloc|apply Kd.R_drewN|apply Kd.R_drew));exact HO134.out))
  (case aS=>exact (below_size (by repeat (first|(with_reducible first|exact HB.out|apply below_alloc|apply pw_below_drewN|apply below_drew1|refine below_set ?_ GE131.out)|exact HB.out))))
  (case aL=>have:=LMc5.out;omega)
  intro v139 w13 ho hb hg hat
  rw [← Ny138.out] at ho
  have n0_:=Aside0.mk (blk_grown (g:=gb131) (o:=.cells #[.int .i64 a2_0,.int .i64 a2_1,.int .i64 a2_2,.int .i64 a2_3,.int .i64 a2_4] 71 (0,0)) (by (with_reducible repeat (first|refine blk_drewN ?_ _|refine blk_drew ?_|refine blk_alloc ?_ _));exact BK131.out) hg (Kd.R_away HO134.out (fun _ hk=>hk.2)))
  have n1_:=Aside0.mk (Kd.R_after (ok:=(fun k_=>k_ ≠ gb131)) (by (with_reducible repeat (first|apply Kd.R_alloc|apply Kd.R_drewN|apply Kd.R_drew));exact Kd.R_mono HO137.out (fun _ hk=>⟨hk.2,hk.1⟩)) hg hat)
  have n2_:=Aside0.mk (hb)
  have n3_:=Aside0.mk (ho)
  clear BK131
  clear HO137
  clear HB
  clear HO134
  have BK131:=n0_
  have HO137:=n1_
  have HB:=n2_
  have HO140:=n3_
  clear n0_ n1_ n2_ n3_
  clear ho hb hg hat
  obtain ⟨Ao15,co15,eo15⟩:=Kd.R_slice HO140.out
  (first|subst eo15|(injection eo15 with f1_ f2_ f3_;have f4_:=f1_.symm;have f5_:=f3_.symm;clear f1_ f2_ f3_;subst f4_;subst f5_))
  refine hK.out _ _ ⟨(blk_cell BK131.out 0).trans rfl,(blk_cell BK131.out 1).trans rfl,(blk_cell BK131.out 2).trans rfl,(blk_cell BK131.out 3).trans rfl,(blk_cell BK131.out 4).trans rfl⟩ (fun hHeld=>?_)
  clear hK K
  refine norm_ (a':=?_) ?_ ?_
  rotate_left
  ·show Act.put _ (some 23) _ = _
   simp only [Act.put,List.setIfInBounds_toArray,List.set_cons_zero,List.set_cons_succ,i64_w,i32_w]
   rfl
  refine one_ (i:=14) (N:=some 24) #[true,true,true,true,true,true,true,true,true,true,true,true,true,true,true,false,false,false,false,false] rfl rfl (one_of HT_.out (by kernel_rfl)) (by decide) (fun K hK=>?_)
  refine goes_ Try.func46 (by kernel_rfl) rfl #[.int .i64 a0,.slice Ao15 y138.length co15] (by rfl) rfl rfl (by (try simp only [List.map_toArray,List.map_cons,List.map_nil]);first|done|rfl|(simp only [List.length_drop,List.length_take];rfl)) ?_
  with_reducible refine (difference_distances.calls k a0 _ _ y138 t141 t142 _ ?side1 ?side2 A6.out).mono ?_
  (case side1=>repeat (first|exact (Kd.R_reads' HO140.out).2.2|(with_reducible refine Kd.C_alloc ?_ _)|(with_reducible refine Kd.C_drewN ?_ _)|(with_reducible refine Kd.C_drew ?_)))
  (case side2=>exact (Kd.R_reads' HO140.out).2.1)
  rintro e w16 ⟨v143,rfl,ho0,hb⟩
  refine ⟨_,rfl,?_⟩
  have n0_:=Aside0.mk (Kd.R_below (by (with_reducible repeat (first|apply Kd.R_alloc|apply Kd.R_drewN|apply Kd.R_drew));exact HO137.out) hb)
  have n1_:=Aside0.mk (Kd.R_below (by (with_reducible repeat (first|apply Kd.R_alloc|apply Kd.R_drewN|apply Kd.R_drew));exact HO140.out) hb)
  have n2_:=Aside0.mk (Kd.R_lower ho0 (below_size (by repeat (first|(with_reducible first|exact HB.out|apply below_alloc|apply pw_below_drewN|apply below_drew1|refine below_set ?_ GE131.out)|exact HB.out))))
  have n3_:=Aside0.mk (blk_below (g:=gb131) (o:=.cells #[.int .i64 a2_0,.int .i64 a2_1,.int .i64 a2_2,.int .i64 a2_3,.int .i64 a2_4] 71 (0,0)) (by (with_reducible repeat (first|refine blk_drewN ?_ _|refine blk_drew ?_|refine blk_alloc ?_ _));exact BK131.out) hb)
  have n4_:=Aside0.mk (below_step (by repeat (first|(with_reducible first|exact HB.out|apply below_alloc|apply pw_below_drewN|apply below_drew1|refine below_set ?_ GE131.out)|exact HB.out)) hb)
  clear HO137
  clear HO140
  clear BK131
  clear HB
  have HO137:=n0_
  have HO140:=n1_
  have HO144:=n2_
  have BK131:=n3_
  have HB:=n4_
  clear n0_ n1_ n2_ n3_ n4_
  (try clear hb)
  (try clear hb2)
  (try clear hk)
  (try clear hi)
  (try clear ho0)
  refine hK.out _ _ ⟨(blk_cell BK131.out 0).trans rfl,(blk_cell BK131.out 1).trans rfl,(blk_cell BK131.out 2).trans rfl,(blk_cell BK131.out 3).trans rfl,(blk_cell BK131.out 4).trans rfl⟩ (fun hHeld=>?_)
  clear hK K
  refine norm_ (a':=?_) ?_ ?_
  rotate_left
  ·show Act.put _ (some 24) _ = _
   simp only [Act.put,List.setIfInBounds_toArray,List.set_cons_zero,List.set_cons_succ,i64_w,i32_w]
   rfl
  refine pure_ (i:=15) (N:=some 9) (v:=?_) (a':=?_) #[true,true,true,true,true,true,true,true,true,true,true,true,true,true,true,true,false,false,false,false] rfl rfl (any_of HT_.out (by kernel_rfl)) (fun _ _ _ h=>h) (Or.inl ⟨by rfl,?_⟩) ?_ ?_
  rotate_left
  ·intro w'
   go_simp
   with_reducible rfl
  rotate_left
  ·simp only [Act.put,List.setIfInBounds_toArray,List.set_cons_zero,List.set_cons_succ,i64_w,i32_w]
   rfl
  refine pure_ (i:=16) (N:=some 25) (v:=?_) (a':=?_) #[true,true,true,true,true,true,true,true,true,true,true,true,true,true,true,true,true,false,false,false] rfl rfl (any_of HT_.out (by kernel_rfl)) (fun _ _ _ h=>h) (Or.inl ⟨by rfl,?_⟩) ?_ ?_
  rotate_left
  ·intro w'
   go_simp
   with_reducible rfl
  rotate_left
  ·simp only [Act.put,List.setIfInBounds_toArray,List.set_cons_zero,List.set_cons_succ,i64_w,i32_w]
   rfl
  refine pure_ (i:=17) (N:=some 26) (v:=?_) (a':=?_) #[true,true,true,true,true,true,true,true,true,true,true,true,true,true,true,true,true,true,false,false] rfl rfl (any_of HT_.out (by kernel_rfl)) (fun _ _ _ h=>h) (Or.inl ⟨by rfl,?_⟩) ?_ ?_
  rotate_left
  ·intro w'
   go_simp
   with_reducible rfl
  rotate_left
  ·simp only [Act.put,List.setIfInBounds_toArray,List.set_cons_zero,List.set_cons_succ,i64_w,i32_w]
   rfl
  refine pure_ (i:=18) (N:=some 7) (v:=?_) (a':=?_) #[true,true,true,true,true,true,true,true,true,true,true,true,true,true,true,true,true,true,true,false] rfl rfl (any_of HT_.out (by kernel_rfl)) (fun _ _ _ h=>h) (Or.inl ⟨by rfl,?_⟩) ?_ ?_
  rotate_left
  ·intro w'
   go_simp
   with_reducible rfl
  rotate_left
  ·simp only [Act.put,List.setIfInBounds_toArray,List.set_cons_zero,List.set_cons_succ,i64_w,i32_w]
   rfl
  refine pure_ (i:=19) (N:=some 8) (v:=?_) (a':=?_) #[true,true,true,true,true,true,true,true,true,true,true,true,true,true,true,true,true,true,true,true] rfl rfl (any_of HT_.out (by kernel_rfl)) (fun _ _ _ h=>h) (Or.inl ⟨by rfl,?_⟩) ?_ ?_
  rotate_left
  ·intro w'
   go_simp
   with_reducible rfl
  rotate_left
  ·simp only [Act.put,List.setIfInBounds_toArray,List.set_cons_zero,List.set_cons_succ,i64_w,i32_w]
   rfl
  refine done_ (done_of HT_.out (by kernel_rfl)) ?_
  try go_wp2
  go_ret
  exact ⟨by first|rfl|(simp [errW_none,errW_some] <;> rfl)|(simp [*,errW_none,errW_some] <;> rfl),by repeat (first|(with_reducible first|exact HB.out|apply below_alloc|apply pw_below_drewN|apply below_drew1|refine below_set ?_ GE131.out)|exact HB.out)⟩
 ·rw [if_neg c5] at H
  exact absurd H (by simp)

end Go.Proofs.Yteebkkdbkkibmaa.Pr
