/- Part 4 of what the law CanonCompare rests on: this project's own texts (Se, Pr9, Va, Ta), merged and without what is not used. Conditions: each theorem has its own. -/
import Derived.Test.YtgmomcjnldahjaaKCanonCompare1
import Derived.Test.YtgmomcjnldahjaaKCanonCompare3
import Derived.Test.YtgmomcjnldahjaaKCanonCompare2
open List renaming setIfInBounds_toArray → zzA, set_cons_zero → zzB, set_cons_succ → zzC
open Go.Proofs.YtgmomcjnldahjaaW.PrintWords renaming below_alloc → zzD, pw_below_drewN → zzE, below_drew1 → zzF
namespace Go.Proofs.Ytgmomcjnldahjaa.Pr
open Go.RowKit Go.Proofs.YtgmomcjnldahjaaW.PrintWords Go.Proofs.YtgmomcjnldahjaaW.PrintLast Go.Proofs.YtgmomcjnldahjaaW.PrintMore
attribute [local go_sem] max2_int min2_int max_two min_two max_three min_three max_four min_four
set_option linter.unusedVariables false
set_option linter.unusedSimpArgs false
mutual
def scarfjointref09_twins.j0 : Nat → Int → Int → Bool → List Int → List (S34) → Option (Bool)
 | 0,_,_,_,_,_ => none
 | k + 1,x1,x2,x42,x333000,x333001 => if x42 = true then (some false) else (scarfjointref09_twins.l0 k x1 x2 0 x333000 x333001)
def scarfjointref09_twins.l0 : Nat → Int → Int → Int → List Int → List (S34) → Option (Bool)
 | 0,_,_,_,_,_ => none
 | k + 1,x1,x2,x7,x333000,x333001 => if x7 < (x333000.length : Int) then (if x7 = x1 then (scarfjointref09_twins.l0 k x1 x2 (wrap64 (x7 + 1)) x333000 x333001) else (if x7 = x2 then (scarfjointref09_twins.l0 k x1 x2 (wrap64 (x7 + 1)) x333000 x333001) else ((scarfjointref09_types.f k x333000 x333001 x1 x7).bind fun t349 => ((scarfjointref09_types.f k x333000 x333001 x2 x7).bind fun t352 => ((scarfjointref09_CompareLists.f k t349 t352).bind fun t355 => (if t355 = 0 then ((scarfjointref09_types.f k x333000 x333001 x7 x1).bind fun t356 => ((scarfjointref09_types.f k x333000 x333001 x7 x2).bind fun t359 => ((scarfjointref09_CompareLists.f k t356 t359).bind fun t362 => (if t362 = 0 then (scarfjointref09_twins.l0 k x1 x2 (wrap64 (x7 + 1)) x333000 x333001) else (some false))))) else (some false))))))) else (some true)
end
def scarfjointref09_twins.f (k : Nat) (l0_0 : List Int) (l0_1 : List (S34)) (a1 : Int) (a2 : Int) : Option (Bool):=if 0 ≤ a1 then (if a1 < (l0_0.length : Int) then (if 0 ≤ a2 then (if a2 < (l0_0.length : Int) then (if (rd l0_0 a1) = (rd l0_0 a2) then ((scarfjointref09_types.f k l0_0 l0_1 a1 a1).bind fun t335=>((scarfjointref09_types.f k l0_0 l0_1 a2 a2).bind fun t338=>((scarfjointref09_CompareLists.f k t335 t338).bind fun t341=>(if t341 = 0 then ((scarfjointref09_types.f k l0_0 l0_1 a1 a2).bind fun t342=>((scarfjointref09_types.f k l0_0 l0_1 a2 a1).bind fun t345=>((scarfjointref09_CompareLists.f k t342 t345).bind fun t348=>(scarfjointref09_twins.j0 k a1 a2 (t348 != 0) l0_0 l0_1)))) else (scarfjointref09_twins.j0 k a1 a2 true l0_0 l0_1))))) else (scarfjointref09_twins.j0 k a1 a2 true l0_0 l0_1)) else (none)) else (none)) else (none)) else (none)
def scarfjointref09_twins.T1 : Bool × List (List Nat × List Nat):=(true,[([],[]),([0],[0]),([],[]),([1,2],[1,2]),([3],[3]),([],[]),([5],[5]),([],[]),([6,7],[6,7]),([8],[8]),([4,9],[4,9]),([10],[10]),([11],[11]),([11],[11]),([11],[11]),([12,13,14,11,11],[11,12,13,14]),([11],[11]),([11],[11]),([11],[11]),([16,17,18,15,11],[11,16,17,18]),([15,19,19,11],[11,15,19]),([20,11],[11,20]),([11,21],[11,21]),([22,20],[22]),([23],[23]),([23],[23]),([23],[23]),([24,25,26,23,23],[23,24,25,26]),([23],[23]),([23],[23]),([23],[23]),([28,29,30,27,23],[23,28,29,30]),([27,31,31,23],[23,27,31]),([32,23],[23,32]),([23,33],[23,33])])
def scarfjointref09_twins.B1 : List Nat:=[0,1,0,7,15,0,32,0,224,480,1023,2047,4095,4095,4095,32767,4095,4095,4095,524287,1048575,2097151,4194303,8388607,16777215,16777215,16777215,134217727,16777215,16777215,16777215,2147483647,4294967295,8589934591,17179869183]
theorem scarfjointref09_twins.tab1 : rtab .any (opsOf Try.f91 1) = scarfjointref09_twins.T1:=by kernel_rfl
theorem scarfjointref09_twins.bits1 : waitsOk scarfjointref09_twins.T1.2 scarfjointref09_twins.B1 = true:=by kernel_rfl
def scarfjointref09_twins.T6 : Bool × List (List Nat × List Nat):=(true,[([],[]),([],[]),([0,1],[0,1]),([2],[2]),([3],[3]),([3],[3]),([4,5,3],[3,4,5]),([3,6],[3,6]),([7,3],[7]),([8],[8]),([8],[8]),([8],[8]),([9,10,11,8,8],[8,9,10,11]),([8],[8]),([8],[8]),([8],[8]),([13,14,15,12,8],[8,13,14,15]),([12,16,16,8],[8,12,16]),([17,8],[8,17]),([18,17,8],[8,18]),([19],[19]),([19],[19]),([19],[19]),([20,21,22,19,19],[19,20,21,22]),([19],[19]),([19],[19]),([19],[19]),([24,25,26,23,19],[19,24,25,26]),([23,27,27,19],[19,23,27]),([28,19],[19,28]),([19,29,8],[8,19,29]),([8,30],[8,30])])
def scarfjointref09_twins.B6 : List Nat:=[0,0,3,7,15,15,63,127,255,511,511,511,4095,511,511,511,65535,131071,262143,524287,1048575,1048575,1048575,8388607,1048575,1048575,1048575,134217727,268435455,536870911,1073741823,2147483647]
theorem scarfjointref09_twins.tab6 : rtab .any (opsOf Try.f91 6) = scarfjointref09_twins.T6:=by kernel_rfl
theorem scarfjointref09_twins.bits6 : waitsOk scarfjointref09_twins.T6.2 scarfjointref09_twins.B6 = true:=by kernel_rfl
set_option maxHeartbeats 8000000 in
set_option maxRecDepth 100000 in
theorem scarfjointref09_twins.calls (k : Nat) (A0_0 : Option Addr) (c0_0 : Nat) (l0_0 : List Int) (A0_1 : Option Addr) (c0_1 : Nat) (l0_1 : List (S34)) (a1 : Int) (a2 : Int) (r : Bool) (w : World) (hr0_0 : Kd.C (Kd.int .i64) w A0_0 l0_0.length l0_0) (hc0_0 : l0_0.length ≤ c0_0) (hr0_1 : Kd.C k34 w A0_1 l0_1.length l0_1) (hc0_1 : l0_1.length ≤ c0_1) (h : scarfjointref09_twins.f k l0_0 l0_1 a1 a2 = some r) :
  Calls Try.prog 91 #[.agg #[.slice A0_0 l0_0.length c0_0,.slice A0_1 l0_1.length c0_1],.int .i64 a1,.int .i64 a2] w fun e w'=>e = .returned (.bool r) ∧ Below w.heap.size w w':=by
 have hu30:=Try.underlying30
 have HR0_0:=Aside0.mk hr0_0
 have HC0_0:=Aside0.mk hc0_0
 clear hr0_0 hc0_0
 have HR0_1:=Aside0.mk hr0_1
 have HC0_1:=Aside0.mk hc0_1
 clear hr0_1 hc0_1
 have HB:=Aside0.mk (Below.refl w.heap.size w)
 have H : (if 0 ≤ a1 then (if a1 < (l0_0.length : Int) then (if 0 ≤ a2 then (if a2 < (l0_0.length : Int) then (if (rd l0_0 a1) = (rd l0_0 a2) then ((scarfjointref09_types.f k l0_0 l0_1 a1 a1).bind fun t335=>((scarfjointref09_types.f k l0_0 l0_1 a2 a2).bind fun t338=>((scarfjointref09_CompareLists.f k t335 t338).bind fun t341=>(if t341 = 0 then ((scarfjointref09_types.f k l0_0 l0_1 a1 a2).bind fun t342=>((scarfjointref09_types.f k l0_0 l0_1 a2 a1).bind fun t345=>((scarfjointref09_CompareLists.f k t342 t345).bind fun t348=>(scarfjointref09_twins.j0 k a1 a2 (t348 != 0) l0_0 l0_1)))) else (scarfjointref09_twins.j0 k a1 a2 true l0_0 l0_1))))) else (scarfjointref09_twins.j0 k a1 a2 true l0_0 l0_1)) else (none)) else (none)) else (none)) else (none)) = some r:=h
 clear h
 have HC4:=Aside0.mk H
 clear H
 go_enter Try.func91,Try.ntmps91
 go_upto_region 1 with (first|((with_reducible refine gate_dst (N:=3) rfl ?_);refine box_event ?hg (N:=3) ?hd (cs:=#[.slice A0_0 l0_0.length c0_0,.slice A0_1 l0_1.length c0_1]) (t:=30) ?hr ?_;(case hd=>rfl);(case hg=>rfl);(case hr=>first|(go_simp;done)|(go_simp;rfl));intro gb332 hg w5 hbox hb;have n0_:=Aside0.mk (below_step (by repeat (first|(with_reducible first|exact HB.out|apply zzD|apply zzE|apply zzF)|exact HB.out)) hb);have n1_:=Aside0.mk (hbox);have n2_:=Aside0.mk ((by rw [hg];exact (below_size (by repeat (first|(with_reducible first|exact HB.out|apply zzD|apply zzE|apply zzF)|exact HB.out))) : w.heap.size ≤ gb332));have n3_:=Aside0.mk ((by rw [hg];exact (below_size (by repeat (first|(with_reducible first|exact HB.out|apply zzD|apply zzE|apply zzF)|exact HB.out))) : w.heap.size ≤ gb332));clear HB;have HB:=n0_;have BK332:=n1_;have GW332:=n2_;have GE332:=n3_;clear n0_ n1_ n2_ n3_;clear hb hbox hg))
 (try simp only [Act.put,zzA,zzB,zzC])
 go_cut [42] (fun v42 wc=>∃ (kq : Nat) (x42_3 : Bool),v42 = .bool x42_3 ∧ Aside0 (scarfjointref09_twins.j0 kq a1 a2 x42_3 l0_0 l0_1 = some r) ∧ Aside0 (kq ≤ k) ∧ Aside0 (wc.heap[gb332]? = some (.cells #[(.slice A0_0 l0_0.length c0_0),(.slice A0_1 l0_1.length c0_1)] 30 (0,0))) ∧ Aside0 (Below w.heap.size w wc))
 case first =>
  have H:=HC4.out
  clear HC4
  by_cases c6 : 0 ≤ a1
  ·rw [if_pos c6] at H
   have c6b0 : decide (0 ≤ a1) = true:=decide_eq_true c6
   clear c6
   (first|rw [c6b0]|(simp only [i64_w,i32_w];rw [c6b0])|skip)
   by_cases c7 : a1 < (l0_0.length : Int)
   ·rw [if_pos c7] at H
    have c7b0 : decide (a1 < (l0_0.length : Int)) = true:=decide_eq_true c7
    clear c7
    by_cases c8 : 0 ≤ a2
    ·rw [if_pos c8] at H
     have c8b0 : decide (0 ≤ a2) = true:=decide_eq_true c8
     clear c8
     by_cases c9 : a2 < (l0_0.length : Int)
     ·rw [if_pos c9] at H
      have c9b0 : decide (a2 < (l0_0.length : Int)) = true:=decide_eq_true c9
      clear c9
      by_cases c10 : (rd l0_0 a1) = (rd l0_0 a2)
      ·rw [if_pos c10] at H
       have c10b0 : ((rd l0_0 a1) == (rd l0_0 a2)) = true:=beq_iff_eq.mpr c10
       have c10b1 : ((rd l0_0 a1) != (rd l0_0 a2)) = false:=bne_eq_false_iff_eq.mpr c10
       clear c10
       replace H:=Option.bind_eq_some_iff.mp H
       obtain ⟨t335,A110,H⟩:=H
       replace H : ((scarfjointref09_types.f k l0_0 l0_1 a2 a2).bind fun t338=>((scarfjointref09_CompareLists.f k t335 t338).bind fun t341=>(if t341 = 0 then ((scarfjointref09_types.f k l0_0 l0_1 a1 a2).bind fun t342=>((scarfjointref09_types.f k l0_0 l0_1 a2 a1).bind fun t345=>((scarfjointref09_CompareLists.f k t342 t345).bind fun t348=>(scarfjointref09_twins.j0 k a1 a2 (t348 != 0) l0_0 l0_1)))) else (scarfjointref09_twins.j0 k a1 a2 true l0_0 l0_1)))) = some r:=H
       have A11:=Aside0.mk A110
       clear A110
       replace H:=Option.bind_eq_some_iff.mp H
       obtain ⟨t338,A120,H⟩:=H
       replace H : ((scarfjointref09_CompareLists.f k t335 t338).bind fun t341=>(if t341 = 0 then ((scarfjointref09_types.f k l0_0 l0_1 a1 a2).bind fun t342=>((scarfjointref09_types.f k l0_0 l0_1 a2 a1).bind fun t345=>((scarfjointref09_CompareLists.f k t342 t345).bind fun t348=>(scarfjointref09_twins.j0 k a1 a2 (t348 != 0) l0_0 l0_1)))) else (scarfjointref09_twins.j0 k a1 a2 true l0_0 l0_1))) = some r:=H
       have A12:=Aside0.mk A120
       clear A120
       replace H:=Option.bind_eq_some_iff.mp H
       obtain ⟨t341,A130,H⟩:=H
       replace H : (if t341 = 0 then ((scarfjointref09_types.f k l0_0 l0_1 a1 a2).bind fun t342=>((scarfjointref09_types.f k l0_0 l0_1 a2 a1).bind fun t345=>((scarfjointref09_CompareLists.f k t342 t345).bind fun t348=>(scarfjointref09_twins.j0 k a1 a2 (t348 != 0) l0_0 l0_1)))) else (scarfjointref09_twins.j0 k a1 a2 true l0_0 l0_1)) = some r:=H
       have A13:=Aside0.mk A130
       clear A130
       by_cases c14 : t341 = 0
       ·rw [if_pos c14] at H
        have c14b0 : (t341 == 0) = true:=beq_iff_eq.mpr c14
        have c14b1 : (t341 != 0) = false:=bne_eq_false_iff_eq.mpr c14
        clear c14
        replace H:=Option.bind_eq_some_iff.mp H
        obtain ⟨t342,A150,H⟩:=H
        replace H : ((scarfjointref09_types.f k l0_0 l0_1 a2 a1).bind fun t345=>((scarfjointref09_CompareLists.f k t342 t345).bind fun t348=>(scarfjointref09_twins.j0 k a1 a2 (t348 != 0) l0_0 l0_1))) = some r:=H
        have A15:=Aside0.mk A150
        clear A150
        replace H:=Option.bind_eq_some_iff.mp H
        obtain ⟨t345,A160,H⟩:=H
        replace H : ((scarfjointref09_CompareLists.f k t342 t345).bind fun t348=>(scarfjointref09_twins.j0 k a1 a2 (t348 != 0) l0_0 l0_1)) = some r:=H
        have A16:=Aside0.mk A160
        clear A160
        replace H:=Option.bind_eq_some_iff.mp H
        obtain ⟨t348,A170,H⟩:=H
        replace H : (scarfjointref09_twins.j0 k a1 a2 (t348 != 0) l0_0 l0_1) = some r:=H
        have A17:=Aside0.mk A170
        clear A170
        have H':=Aside0.mk H
        clear H
        try go_wp2
        have n0_:=Aside0.mk (blk_drew BK332.out)
        have n1_:=Aside0.mk (zzF HB.out)
        clear BK332
        clear HB
        have BK332:=n0_
        have HB:=n1_
        clear n0_ n1_
        have p333 : 0 ≤ (a1 : Int):=of_decide_eq_true (by first|(with_reducible assumption)|assumption)
        have q333 : a1 < (l0_0.length : Int):=of_decide_eq_true (by first|(with_reducible assumption)|assumption)
        obtain ⟨ad333,e333,hx333_0⟩:=Kd.at_int HR0_0.out a1 p333 q333
        have hw333_0:=hx333_0
        cases e333
        replace hx333_0:=(HB.out.cell (World.block_lt_of_cell? w _ hx333_0)).trans hx333_0
        replace p333:=eq_true p333
        replace q333:=eq_true q333
        have p334 : 0 ≤ (a2 : Int):=of_decide_eq_true (by first|(with_reducible assumption)|assumption)
        have q334 : a2 < (l0_0.length : Int):=of_decide_eq_true (by first|(with_reducible assumption)|assumption)
        obtain ⟨ad334,e334,hx334_0⟩:=Kd.at_int HR0_0.out a2 p334 q334
        have hw334_0:=hx334_0
        obtain rfl : ad333 = ad334:=(by injection e334)
        replace hx334_0:=(HB.out.cell (World.block_lt_of_cell? w _ hx334_0)).trans hx334_0
        replace p334:=eq_true p334
        replace q334:=eq_true q334
        refine start_ (n:=35) (S:=fun w'=>w'.cell? ⟨gb332,0,none⟩ = some (.slice (some ad333) l0_0.length c0_0) ∧ w'.cell? ⟨gb332,1,none⟩ = some (.slice A0_1 l0_1.length c0_1) ∧ w'.cell? (ad333.add (a1).toNat) = some (.int .i64 (rd l0_0 a1)) ∧ w'.cell? (ad333.add (a2).toNat) = some (.int .i64 (rd l0_0 a2))) (ds:=[]) #[false,false,false,false,false,false,false,false,false,false,false,false,false,false,false,false,false,false,false,false,false,false,false,false,false,false,false,false,false,false,false,false,false,false,false] (by kernel_rfl) rfl rfl ⟨(blk_cell BK332.out 0).trans rfl,(blk_cell BK332.out 1).trans rfl,((HB.out.cell (World.block_lt_of_cell? w _ hw333_0)).trans hw333_0),((HB.out.cell (World.block_lt_of_cell? w _ hw334_0)).trans hw334_0)⟩ (fun hHeld=>?_);refine with_tabW scarfjointref09_twins.tab1 scarfjointref09_twins.bits1 (fun HT_ HW_=>?_)
        generalize w5.drew = w18 at BK332 HB hx333_0 hx334_0 hHeld ⊢
        refine pure_ (i:=0) (N:=some 8) (v:=?_) (a':=?_) #[true,false,false,false,false,false,false,false,false,false,false,false,false,false,false,false,false,false,false,false,false,false,false,false,false,false,false,false,false,false,false,false,false,false,false] rfl rfl (any_of HT_.out (by kernel_rfl)) (fun _ _ _ h=>h) (Or.inl ⟨by rfl,?_⟩) ?_ ?_
        rotate_left
        ·intro w'
         go_simp
         with_reducible rfl
        rotate_left
        ·simp only [Act.put,zzA,zzB,zzC,i64_w,i32_w]
         rfl
        refine pure_ (i:=2) (N:=some 10) (v:=?_) (a':=?_) #[true,false,true,false,false,false,false,false,false,false,false,false,false,false,false,false,false,false,false,false,false,false,false,false,false,false,false,false,false,false,false,false,false,false,false] rfl rfl (any_of HT_.out (by kernel_rfl)) (fun _ _ _ h=>h) (Or.inl ⟨by rfl,?_⟩) ?_ ?_
        rotate_left
        ·intro w'
         go_simp
         with_reducible rfl
        rotate_left
        ·simp only [Act.put,zzA,zzB,zzC,i64_w,i32_w]
         rfl
        refine pure_ (i:=5) (N:=some 13) (v:=?_) (a':=?_) #[true,false,true,false,false,true,false,false,false,false,false,false,false,false,false,false,false,false,false,false,false,false,false,false,false,false,false,false,false,false,false,false,false,false,false] rfl rfl (any_of HT_.out (by kernel_rfl)) (fun _ _ _ h=>h) (Or.inl ⟨by rfl,?_⟩) ?_ ?_
        rotate_left
        ·intro w'
         go_simp
         with_reducible rfl
        rotate_left
        ·simp only [Act.put,zzA,zzB,zzC,i64_w,i32_w]
         rfl
        refine pure_ (i:=7) (N:=some 15) (v:=?_) (a':=?_) #[true,false,true,false,false,true,false,true,false,false,false,false,false,false,false,false,false,false,false,false,false,false,false,false,false,false,false,false,false,false,false,false,false,false,false] rfl rfl (any_of HT_.out (by kernel_rfl)) (fun _ _ _ h=>h) (Or.inl ⟨by rfl,?_⟩) ?_ ?_
        rotate_left
        ·intro w'
         go_simp
         with_reducible rfl
        rotate_left
        ·simp only [Act.put,zzA,zzB,zzC,i64_w,i32_w]
         rfl
        refine take_ (i:=1) (N:=some 9) (v:=?_) (a':=?_) #[true,true,true,false,false,true,false,true,false,false,false,false,false,false,false,false,false,false,false,false,false,false,false,false,false,false,false,false,false,false,false,false,false,false,false] rfl rfl (take_ofW HT_.out HW_.out (by kernel_rfl)) (fun _ _ _ h=>h) (Or.inl ⟨by rfl,?_⟩) hHeld ?_ ?_
        rotate_left
        ·rintro w' ⟨s0,s1,s2,s3⟩
         go_simp
         with_reducible rfl
        rotate_left
        ·simp only [Act.put,zzA,zzB,zzC,i64_w,i32_w]
         rfl
        refine pure_ (i:=3) (N:=some 11) (v:=?_) (a':=?_) #[true,true,true,true,false,true,false,true,false,false,false,false,false,false,false,false,false,false,false,false,false,false,false,false,false,false,false,false,false,false,false,false,false,false,false] rfl rfl (any_of HT_.out (by kernel_rfl)) (fun _ _ _ h=>h) (Or.inl ⟨by rfl,?_⟩) ?_ ?_
        rotate_left
        ·intro w'
         go_simp
         with_reducible rfl
        rotate_left
        ·simp only [Act.put,zzA,zzB,zzC,i64_w,i32_w]
         rfl
        refine take_ (i:=4) (N:=some 12) (v:=?_) (a':=?_) #[true,true,true,true,true,true,false,true,false,false,false,false,false,false,false,false,false,false,false,false,false,false,false,false,false,false,false,false,false,false,false,false,false,false,false] rfl rfl (take_ofW HT_.out HW_.out (by kernel_rfl)) (fun _ _ _ h=>h) (Or.inl ⟨by rfl,?_⟩) hHeld ?_ ?_
        rotate_left
        ·rintro w' ⟨s0,s1,s2,s3⟩
         go_simp
         with_reducible rfl
        rotate_left
        ·simp only [Act.put,zzA,zzB,zzC,i64_w,i32_w]
         rfl
        refine take_ (i:=6) (N:=some 14) (v:=?_) (a':=?_) #[true,true,true,true,true,true,true,true,false,false,false,false,false,false,false,false,false,false,false,false,false,false,false,false,false,false,false,false,false,false,false,false,false,false,false] rfl rfl (take_ofW HT_.out HW_.out (by kernel_rfl)) (fun _ _ _ h=>h) (Or.inl ⟨by rfl,?_⟩) hHeld ?_ ?_
        rotate_left
        ·rintro w' ⟨s0,s1,s2,s3⟩
         go_simp
         with_reducible rfl
        rotate_left
        ·simp only [Act.put,zzA,zzB,zzC,i64_w,i32_w]
         rfl
        refine pure_ (i:=8) (N:=some 16) (v:=?_) (a':=?_) #[true,true,true,true,true,true,true,true,true,false,false,false,false,false,false,false,false,false,false,false,false,false,false,false,false,false,false,false,false,false,false,false,false,false,false] rfl rfl (any_of HT_.out (by kernel_rfl)) (fun _ _ _ h=>h) (Or.inl ⟨by rfl,?_⟩) ?_ ?_
        rotate_left
        ·intro w'
         go_simp
         with_reducible rfl
        rotate_left
        ·simp only [Act.put,zzA,zzB,zzC,i64_w,i32_w]
         rfl
        refine take_ (i:=9) (N:=some 17) (v:=?_) (a':=?_) #[true,true,true,true,true,true,true,true,true,true,false,false,false,false,false,false,false,false,false,false,false,false,false,false,false,false,false,false,false,false,false,false,false,false,false] rfl rfl (take_ofW HT_.out HW_.out (by kernel_rfl)) (fun _ _ _ h=>h) (Or.inl ⟨by rfl,?_⟩) hHeld ?_ ?_
        rotate_left
        ·rintro w' ⟨s0,s1,s2,s3⟩
         go_simp
         with_reducible rfl
        rotate_left
        ·simp only [Act.put,zzA,zzB,zzC,i64_w,i32_w]
         rfl
        refine pure_ (i:=10) (N:=some 18) (v:=?_) (a':=?_) #[true,true,true,true,true,true,true,true,true,true,true,false,false,false,false,false,false,false,false,false,false,false,false,false,false,false,false,false,false,false,false,false,false,false,false] rfl rfl (any_of HT_.out (by kernel_rfl)) (fun _ _ _ h=>h) (Or.inl ⟨by rfl,?_⟩) ?_ ?_
        rotate_left
        ·intro w'
         go_simp
         with_reducible rfl
        rotate_left
        ·simp only [Act.put,zzA,zzB,zzC,i64_w,i32_w]
         rfl
        refine pure_ (i:=11) (N:=some 19) (v:=?_) (a':=?_) #[true,true,true,true,true,true,true,true,true,true,true,true,false,false,false,false,false,false,false,false,false,false,false,false,false,false,false,false,false,false,false,false,false,false,false] rfl rfl (any_of HT_.out (by kernel_rfl)) (fun _ _ _ h=>h) (Or.inl ⟨by rfl,?_⟩) ?_ ?_
        rotate_left
        ·intro w'
         go_simp
         with_reducible rfl
        rotate_left
        ·simp only [Act.put,zzA,zzB,zzC,i64_w,i32_w]
         rfl
        refine pure_ (i:=13) (N:=some 21) (v:=?_) (a':=?_) #[true,true,true,true,true,true,true,true,true,true,true,true,false,true,false,false,false,false,false,false,false,false,false,false,false,false,false,false,false,false,false,false,false,false,false] rfl rfl (any_of HT_.out (by kernel_rfl)) (fun _ _ _ h=>h) (Or.inl ⟨by rfl,?_⟩) ?_ ?_
        rotate_left
        ·intro w'
         go_simp
         with_reducible rfl
        rotate_left
        ·simp only [Act.put,zzA,zzB,zzC,i64_w,i32_w]
         rfl
        refine pure_ (i:=14) (N:=some 22) (v:=?_) (a':=?_) #[true,true,true,true,true,true,true,true,true,true,true,true,false,true,true,false,false,false,false,false,false,false,false,false,false,false,false,false,false,false,false,false,false,false,false] rfl rfl (any_of HT_.out (by kernel_rfl)) (fun _ _ _ h=>h) (Or.inl ⟨by rfl,?_⟩) ?_ ?_
        rotate_left
        ·intro w'
         go_simp
         with_reducible rfl
        rotate_left
        ·simp only [Act.put,zzA,zzB,zzC,i64_w,i32_w]
         rfl
        refine pure_ (i:=17) (N:=some 25) (v:=?_) (a':=?_) #[true,true,true,true,true,true,true,true,true,true,true,true,false,true,true,false,false,true,false,false,false,false,false,false,false,false,false,false,false,false,false,false,false,false,false] rfl rfl (any_of HT_.out (by kernel_rfl)) (fun _ _ _ h=>h) (Or.inl ⟨by rfl,?_⟩) ?_ ?_
        rotate_left
        ·intro w'
         go_simp
         with_reducible rfl
        rotate_left
        ·simp only [Act.put,zzA,zzB,zzC,i64_w,i32_w]
         rfl
        refine pure_ (i:=18) (N:=some 26) (v:=?_) (a':=?_) #[true,true,true,true,true,true,true,true,true,true,true,true,false,true,true,false,false,true,true,false,false,false,false,false,false,false,false,false,false,false,false,false,false,false,false] rfl rfl (any_of HT_.out (by kernel_rfl)) (fun _ _ _ h=>h) (Or.inl ⟨by rfl,?_⟩) ?_ ?_
        rotate_left
        ·intro w'
         go_simp
         with_reducible rfl
        rotate_left
        ·simp only [Act.put,zzA,zzB,zzC,i64_w,i32_w]
         rfl
        refine take_ (i:=12) (N:=some 20) (v:=?_) (a':=?_) #[true,true,true,true,true,true,true,true,true,true,true,true,true,true,true,false,false,true,true,false,false,false,false,false,false,false,false,false,false,false,false,false,false,false,false] rfl rfl (take_ofW HT_.out HW_.out (by kernel_rfl)) (fun _ _ _ h=>h) (Or.inl ⟨by rfl,?_⟩) hHeld ?_ ?_
        rotate_left
        ·rintro w' ⟨s0,s1,s2,s3⟩
         go_simp
         with_reducible rfl
        rotate_left
        ·simp only [Act.put,zzA,zzB,zzC,i64_w,i32_w]
         rfl
        refine take_ (i:=16) (N:=some 24) (v:=?_) (a':=?_) #[true,true,true,true,true,true,true,true,true,true,true,true,true,true,true,false,true,true,true,false,false,false,false,false,false,false,false,false,false,false,false,false,false,false,false] rfl rfl (take_ofW HT_.out HW_.out (by kernel_rfl)) (fun _ _ _ h=>h) (Or.inl ⟨by rfl,?_⟩) hHeld ?_ ?_
        rotate_left
        ·rintro w' ⟨s0,s1,s2,s3⟩
         go_simp
         with_reducible rfl
        rotate_left
        ·simp only [Act.put,zzA,zzB,zzC,i64_w,i32_w]
         rfl
        refine one_ (i:=15) (N:=some 23) #[true,true,true,true,true,true,true,true,true,true,true,true,true,true,true,true,true,true,true,false,false,false,false,false,false,false,false,false,false,false,false,false,false,false,false] rfl rfl (one_of HT_.out (by kernel_rfl)) (by decide) (fun K hK=>?_)
        refine goes_ Try.func85 (by kernel_rfl) rfl #[.agg #[.slice (some ad333) l0_0.length c0_0,.slice A0_1 l0_1.length c0_1],.int .i64 a1,.int .i64 a1] (by rfl) rfl rfl (by (try simp only [List.map_toArray,List.map_cons,List.map_nil]);first|done|rfl|(simp only [List.length_drop,List.length_take];rfl)) ?_
        with_reducible refine (scarfjointref09_types.calls k _ _ l0_0 _ _ l0_1 a1 a1 t335 _ ?side1 ?side2 ?side3 ?side4 A11.out).mono ?_
        (case side1=>repeat (first|exact (Kd.C_below HR0_0.out HB.out)|(with_reducible refine Kd.C_alloc ?_ _)|(with_reducible refine Kd.C_drewN ?_ _)|(with_reducible refine Kd.C_drew ?_)))
        (case side2=>exact HC0_0.out)
        (case side3=>repeat (first|exact (Kd.C_below HR0_1.out HB.out)|(with_reducible refine Kd.C_alloc ?_ _)|(with_reducible refine Kd.C_drewN ?_ _)|(with_reducible refine Kd.C_drew ?_)))
        (case side4=>exact HC0_1.out)
        rintro e w19 ⟨v336,rfl,ho0,hb⟩
        refine ⟨_,rfl,?_⟩
        have n0_:=Aside0.mk (Kd.R_lower ho0 (below_size (by repeat (first|(with_reducible first|exact HB.out|apply zzD|apply zzE|apply zzF|refine below_set ?_ GE332.out)|exact HB.out))))
        have n1_:=Aside0.mk (blk_below (g:=gb332) (o:=.cells #[.slice (some ad333) l0_0.length c0_0,.slice A0_1 l0_1.length c0_1] 30 (0,0)) (by (with_reducible repeat (first|refine blk_drewN ?_ _|refine blk_drew ?_|refine blk_alloc ?_ _));exact BK332.out) hb)
        have n2_:=Aside0.mk (below_step (by repeat (first|(with_reducible first|exact HB.out|apply zzD|apply zzE|apply zzF|refine below_set ?_ GE332.out)|exact HB.out)) hb)
        clear BK332
        clear HB
        have HO337:=n0_
        have BK332:=n1_
        have HB:=n2_
        clear n0_ n1_ n2_
        (try clear hb)
        (try clear hb2)
        (try clear hk)
        (try clear hi)
        (try clear ho0)
        refine hK.out _ _ ⟨(blk_cell BK332.out 0).trans rfl,(blk_cell BK332.out 1).trans rfl,((HB.out.cell (World.block_lt_of_cell? w _ hw333_0)).trans hw333_0),((HB.out.cell (World.block_lt_of_cell? w _ hw334_0)).trans hw334_0)⟩ (fun hHeld=>?_)
        clear hK K
        refine norm_ (a':=?_) ?_ ?_
        rotate_left
        ·show Act.put _ (some 23) _ = _
         simp only [Act.put,zzA,zzB,zzC,i64_w,i32_w]
         rfl
        refine one_ (i:=19) (N:=some 27) #[true,true,true,true,true,true,true,true,true,true,true,true,true,true,true,true,true,true,true,true,false,false,false,false,false,false,false,false,false,false,false,false,false,false,false] rfl rfl (one_of HT_.out (by kernel_rfl)) (by decide) (fun K hK=>?_)
        refine goes_ Try.func85 (by kernel_rfl) rfl #[.agg #[.slice (some ad333) l0_0.length c0_0,.slice A0_1 l0_1.length c0_1],.int .i64 a2,.int .i64 a2] (by rfl) rfl rfl (by (try simp only [List.map_toArray,List.map_cons,List.map_nil]);first|done|rfl|(simp only [List.length_drop,List.length_take];rfl)) ?_
        with_reducible refine (scarfjointref09_types.calls k _ _ l0_0 _ _ l0_1 a2 a2 t338 _ ?side1 ?side2 ?side3 ?side4 A12.out).mono ?_
        (case side1=>repeat (first|exact (Kd.C_below HR0_0.out HB.out)|(with_reducible refine Kd.C_alloc ?_ _)|(with_reducible refine Kd.C_drewN ?_ _)|(with_reducible refine Kd.C_drew ?_)))
        (case side2=>exact HC0_0.out)
        (case side3=>repeat (first|exact (Kd.C_below HR0_1.out HB.out)|(with_reducible refine Kd.C_alloc ?_ _)|(with_reducible refine Kd.C_drewN ?_ _)|(with_reducible refine Kd.C_drew ?_)))
        (case side4=>exact HC0_1.out)
        rintro e w20 ⟨v339,rfl,ho0,hb⟩
        refine ⟨_,rfl,?_⟩
        have n0_:=Aside0.mk (Kd.R_elder' (by (with_reducible repeat (first|apply Kd.R_alloc|apply Kd.R_drewN|apply Kd.R_drew));exact HO337.out) (Kd.R_base ho0) hb)
        have n1_:=Aside0.mk (Kd.R_lower (Kd.R_new' ho0 (Kd.R_lt (by (with_reducible repeat (first|apply Kd.R_alloc|apply Kd.R_drewN|apply Kd.R_drew));exact HO337.out))) (below_size (by repeat (first|(with_reducible first|exact HB.out|apply zzD|apply zzE|apply zzF|refine below_set ?_ GE332.out)|exact HB.out))))
        have n2_:=Aside0.mk (blk_below (g:=gb332) (o:=.cells #[.slice (some ad333) l0_0.length c0_0,.slice A0_1 l0_1.length c0_1] 30 (0,0)) (by (with_reducible repeat (first|refine blk_drewN ?_ _|refine blk_drew ?_|refine blk_alloc ?_ _));exact BK332.out) hb)
        have n3_:=Aside0.mk (below_step (by repeat (first|(with_reducible first|exact HB.out|apply zzD|apply zzE|apply zzF|refine below_set ?_ GE332.out)|exact HB.out)) hb)
        clear HO337
        clear BK332
        clear HB
        have HO337:=n0_
        have HO340:=n1_
        have BK332:=n2_
        have HB:=n3_
        clear n0_ n1_ n2_ n3_
        (try clear hb)
        (try clear hb2)
        (try clear hk)
        (try clear hi)
        (try clear ho0)
        obtain ⟨Ao21,co21,eo21⟩:=Kd.R_slice HO337.out
        (first|subst eo21|(injection eo21 with f1_ f2_ f3_;have f4_:=f1_.symm;have f5_:=f3_.symm;clear f1_ f2_ f3_;subst f4_;subst f5_))
        obtain ⟨Ao22,co22,eo22⟩:=Kd.R_slice HO340.out
        (first|subst eo22|(injection eo22 with f1_ f2_ f3_;have f4_:=f1_.symm;have f5_:=f3_.symm;clear f1_ f2_ f3_;subst f4_;subst f5_))
        refine hK.out _ _ ⟨(blk_cell BK332.out 0).trans rfl,(blk_cell BK332.out 1).trans rfl,((HB.out.cell (World.block_lt_of_cell? w _ hw333_0)).trans hw333_0),((HB.out.cell (World.block_lt_of_cell? w _ hw334_0)).trans hw334_0)⟩ (fun hHeld=>?_)
        clear hK K
        refine norm_ (a':=?_) ?_ ?_
        rotate_left
        ·show Act.put _ (some 27) _ = _
         simp only [Act.put,zzA,zzB,zzC,i64_w,i32_w]
         rfl
        refine one_ (i:=20) (N:=some 28) #[true,true,true,true,true,true,true,true,true,true,true,true,true,true,true,true,true,true,true,true,true,false,false,false,false,false,false,false,false,false,false,false,false,false,false] rfl rfl (one_of HT_.out (by kernel_rfl)) (by decide) (fun K hK=>?_)
        refine goes_ Try.func60 (by kernel_rfl) rfl #[.slice Ao21 t335.length co21,.slice Ao22 t338.length co22] (by rfl) rfl rfl (by (try simp only [List.map_toArray,List.map_cons,List.map_nil]);first|done|rfl|(simp only [List.length_drop,List.length_take];rfl)) ?_
        with_reducible refine (scarfjointref09_CompareLists.calls k _ _ t335 _ _ t338 t341 _ ?side1 ?side2 ?side3 ?side4 A13.out).mono ?_
        (case side1=>repeat (first|exact (Kd.R_reads' HO337.out).2.2|(with_reducible refine Kd.C_alloc ?_ _)|(with_reducible refine Kd.C_drewN ?_ _)|(with_reducible refine Kd.C_drew ?_)))
        (case side2=>exact (Kd.R_reads' HO337.out).2.1)
        (case side3=>repeat (first|exact (Kd.R_reads' HO340.out).2.2|(with_reducible refine Kd.C_alloc ?_ _)|(with_reducible refine Kd.C_drewN ?_ _)|(with_reducible refine Kd.C_drew ?_)))
        (case side4=>exact (Kd.R_reads' HO340.out).2.1)
        rintro e w' ⟨rfl,⟨nd,rfl⟩⟩
        refine ⟨_,rfl,?_⟩
        refine hK.out _ _ ⟨(blk_cell BK332.out 0).trans rfl,(blk_cell BK332.out 1).trans rfl,((HB.out.cell (World.block_lt_of_cell? w _ hw333_0)).trans hw333_0),((HB.out.cell (World.block_lt_of_cell? w _ hw334_0)).trans hw334_0)⟩ (fun hHeld=>?_)
        clear hK K
        refine norm_ (a':=?_) ?_ ?_
        rotate_left
        ·show Act.put _ (some 28) _ = _
         simp only [Act.put,zzA,zzB,zzC,i64_w,i32_w]
         rfl
        refine pure_ (i:=21) (N:=some 29) (v:=?_) (a':=?_) #[true,true,true,true,true,true,true,true,true,true,true,true,true,true,true,true,true,true,true,true,true,true,false,false,false,false,false,false,false,false,false,false,false,false,false] rfl rfl (any_of HT_.out (by kernel_rfl)) (fun _ _ _ h=>h) (Or.inl ⟨by rfl,?_⟩) ?_ ?_
        rotate_left
        ·intro w'
         go_simp
         with_reducible rfl
        rotate_left
        ·simp only [Act.put,zzA,zzB,zzC,i64_w,i32_w]
         rfl
        refine pure_ (i:=22) (N:=some 30) (v:=?_) (a':=?_) #[true,true,true,true,true,true,true,true,true,true,true,true,true,true,true,true,true,true,true,true,true,true,true,false,false,false,false,false,false,false,false,false,false,false,false] rfl rfl (any_of HT_.out (by kernel_rfl)) (fun _ _ _ h=>h) (Or.inl ⟨by rfl,?_⟩) ?_ ?_
        rotate_left
        ·intro w'
         go_simp
         with_reducible rfl
        rotate_left
        ·simp only [Act.put,zzA,zzB,zzC,i64_w,i32_w]
         rfl
        refine pure_ (i:=23) (N:=some 31) (v:=?_) (a':=?_) #[true,true,true,true,true,true,true,true,true,true,true,true,true,true,true,true,true,true,true,true,true,true,true,true,false,false,false,false,false,false,false,false,false,false,false] rfl rfl (any_of HT_.out (by kernel_rfl)) (fun _ _ _ h=>h) (Or.inl ⟨by rfl,?_⟩) ?_ ?_
        rotate_left
        ·intro w'
         go_simp
         with_reducible rfl
        rotate_left
        ·simp only [Act.put,zzA,zzB,zzC,i64_w,i32_w]
         rfl
        refine pure_ (i:=25) (N:=some 33) (v:=?_) (a':=?_) #[true,true,true,true,true,true,true,true,true,true,true,true,true,true,true,true,true,true,true,true,true,true,true,true,false,true,false,false,false,false,false,false,false,false,false] rfl rfl (any_of HT_.out (by kernel_rfl)) (fun _ _ _ h=>h) (Or.inl ⟨by rfl,?_⟩) ?_ ?_
        rotate_left
        ·intro w'
         go_simp
         with_reducible rfl
        rotate_left
        ·simp only [Act.put,zzA,zzB,zzC,i64_w,i32_w]
         rfl
        refine pure_ (i:=26) (N:=some 34) (v:=?_) (a':=?_) #[true,true,true,true,true,true,true,true,true,true,true,true,true,true,true,true,true,true,true,true,true,true,true,true,false,true,true,false,false,false,false,false,false,false,false] rfl rfl (any_of HT_.out (by kernel_rfl)) (fun _ _ _ h=>h) (Or.inl ⟨by rfl,?_⟩) ?_ ?_
        rotate_left
        ·intro w'
         go_simp
         with_reducible rfl
        rotate_left
        ·simp only [Act.put,zzA,zzB,zzC,i64_w,i32_w]
         rfl
        refine pure_ (i:=29) (N:=some 37) (v:=?_) (a':=?_) #[true,true,true,true,true,true,true,true,true,true,true,true,true,true,true,true,true,true,true,true,true,true,true,true,false,true,true,false,false,true,false,false,false,false,false] rfl rfl (any_of HT_.out (by kernel_rfl)) (fun _ _ _ h=>h) (Or.inl ⟨by rfl,?_⟩) ?_ ?_
        rotate_left
        ·intro w'
         go_simp
         with_reducible rfl
        rotate_left
        ·simp only [Act.put,zzA,zzB,zzC,i64_w,i32_w]
         rfl
        refine pure_ (i:=30) (N:=some 38) (v:=?_) (a':=?_) #[true,true,true,true,true,true,true,true,true,true,true,true,true,true,true,true,true,true,true,true,true,true,true,true,false,true,true,false,false,true,true,false,false,false,false] rfl rfl (any_of HT_.out (by kernel_rfl)) (fun _ _ _ h=>h) (Or.inl ⟨by rfl,?_⟩) ?_ ?_
        rotate_left
        ·intro w'
         go_simp
         with_reducible rfl
        rotate_left
        ·simp only [Act.put,zzA,zzB,zzC,i64_w,i32_w]
         rfl
        refine take_ (i:=24) (N:=some 32) (v:=?_) (a':=?_) #[true,true,true,true,true,true,true,true,true,true,true,true,true,true,true,true,true,true,true,true,true,true,true,true,true,true,true,false,false,true,true,false,false,false,false] rfl rfl (take_ofW HT_.out HW_.out (by kernel_rfl)) (fun _ _ _ h=>h) (Or.inl ⟨by rfl,?_⟩) hHeld ?_ ?_
        rotate_left
        ·rintro w' ⟨s0,s1,s2,s3⟩
         go_simp
         with_reducible rfl
        rotate_left
        ·simp only [Act.put,zzA,zzB,zzC,i64_w,i32_w]
         rfl
        refine take_ (i:=28) (N:=some 36) (v:=?_) (a':=?_) #[true,true,true,true,true,true,true,true,true,true,true,true,true,true,true,true,true,true,true,true,true,true,true,true,true,true,true,false,true,true,true,false,false,false,false] rfl rfl (take_ofW HT_.out HW_.out (by kernel_rfl)) (fun _ _ _ h=>h) (Or.inl ⟨by rfl,?_⟩) hHeld ?_ ?_
        rotate_left
        ·rintro w' ⟨s0,s1,s2,s3⟩
         go_simp
         with_reducible rfl
        rotate_left
        ·simp only [Act.put,zzA,zzB,zzC,i64_w,i32_w]
         rfl
        refine one_ (i:=27) (N:=some 35) #[true,true,true,true,true,true,true,true,true,true,true,true,true,true,true,true,true,true,true,true,true,true,true,true,true,true,true,true,true,true,true,false,false,false,false] rfl rfl (one_of HT_.out (by kernel_rfl)) (by decide) (fun K hK=>?_)
        refine goes_ Try.func85 (by kernel_rfl) rfl #[.agg #[.slice (some ad333) l0_0.length c0_0,.slice A0_1 l0_1.length c0_1],.int .i64 a1,.int .i64 a2] (by rfl) rfl rfl (by (try simp only [List.map_toArray,List.map_cons,List.map_nil]);first|done|rfl|(simp only [List.length_drop,List.length_take];rfl)) ?_
        with_reducible refine (scarfjointref09_types.calls k _ _ l0_0 _ _ l0_1 a1 a2 t342 _ ?side1 ?side2 ?side3 ?side4 A15.out).mono ?_
        (case side1=>repeat (first|exact (Kd.C_below HR0_0.out (by repeat (first|(with_reducible first|exact HB.out|apply zzD|apply zzE|apply zzF|refine below_set ?_ GE332.out)|exact HB.out)))|(with_reducible refine Kd.C_alloc ?_ _)|(with_reducible refine Kd.C_drewN ?_ _)|(with_reducible refine Kd.C_drew ?_)))
        (case side2=>exact HC0_0.out)
        (case side3=>repeat (first|exact (Kd.C_below HR0_1.out (by repeat (first|(with_reducible first|exact HB.out|apply zzD|apply zzE|apply zzF|refine below_set ?_ GE332.out)|exact HB.out)))|(with_reducible refine Kd.C_alloc ?_ _)|(with_reducible refine Kd.C_drewN ?_ _)|(with_reducible refine Kd.C_drew ?_)))
        (case side4=>exact HC0_1.out)
        rintro e w23 ⟨v343,rfl,ho0,hb⟩
        refine ⟨_,rfl,?_⟩
        have n0_:=Aside0.mk (Kd.R_elder' (by (with_reducible repeat (first|apply Kd.R_alloc|apply Kd.R_drewN|apply Kd.R_drew));exact HO337.out) (Kd.R_base ho0) hb)
        have n1_:=Aside0.mk (Kd.R_elder' (by (with_reducible repeat (first|apply Kd.R_alloc|apply Kd.R_drewN|apply Kd.R_drew));exact HO340.out) (Kd.R_base ho0) hb)
        have n2_:=Aside0.mk (Kd.R_lower (Kd.R_new' (Kd.R_new' ho0 (Kd.R_lt (by (with_reducible repeat (first|apply Kd.R_alloc|apply Kd.R_drewN|apply Kd.R_drew));exact HO337.out))) (Kd.R_lt (by (with_reducible repeat (first|apply Kd.R_alloc|apply Kd.R_drewN|apply Kd.R_drew));exact HO340.out))) (below_size (by repeat (first|(with_reducible first|exact HB.out|apply zzD|apply zzE|apply zzF|refine below_set ?_ GE332.out)|exact HB.out))))
        have n3_:=Aside0.mk (blk_below (g:=gb332) (o:=.cells #[.slice (some ad333) l0_0.length c0_0,.slice A0_1 l0_1.length c0_1] 30 (0,0)) (by (with_reducible repeat (first|refine blk_drewN ?_ _|refine blk_drew ?_|refine blk_alloc ?_ _));exact BK332.out) hb)
        have n4_:=Aside0.mk (below_step (by repeat (first|(with_reducible first|exact HB.out|apply zzD|apply zzE|apply zzF|refine below_set ?_ GE332.out)|exact HB.out)) hb)
        clear HO337
        clear HO340
        clear BK332
        clear HB
        have HO337:=n0_
        have HO340:=n1_
        have HO344:=n2_
        have BK332:=n3_
        have HB:=n4_
        clear n0_ n1_ n2_ n3_ n4_
        (try clear hb)
        (try clear hb2)
        (try clear hk)
        (try clear hi)
        (try clear ho0)
        refine hK.out _ _ ⟨(blk_cell BK332.out 0).trans rfl,(blk_cell BK332.out 1).trans rfl,((HB.out.cell (World.block_lt_of_cell? w _ hw333_0)).trans hw333_0),((HB.out.cell (World.block_lt_of_cell? w _ hw334_0)).trans hw334_0)⟩ (fun hHeld=>?_)
        clear hK K
        refine norm_ (a':=?_) ?_ ?_
        rotate_left
        ·show Act.put _ (some 35) _ = _
         simp only [Act.put,zzA,zzB,zzC,i64_w,i32_w]
         rfl
        refine one_ (i:=31) (N:=some 39) #[true,true,true,true,true,true,true,true,true,true,true,true,true,true,true,true,true,true,true,true,true,true,true,true,true,true,true,true,true,true,true,true,false,false,false] rfl rfl (one_of HT_.out (by kernel_rfl)) (by decide) (fun K hK=>?_)
        refine goes_ Try.func85 (by kernel_rfl) rfl #[.agg #[.slice (some ad333) l0_0.length c0_0,.slice A0_1 l0_1.length c0_1],.int .i64 a2,.int .i64 a1] (by rfl) rfl rfl (by (try simp only [List.map_toArray,List.map_cons,List.map_nil]);first|done|rfl|(simp only [List.length_drop,List.length_take];rfl)) ?_
        with_reducible refine (scarfjointref09_types.calls k _ _ l0_0 _ _ l0_1 a2 a1 t345 _ ?side1 ?side2 ?side3 ?side4 A16.out).mono ?_
        (case side1=>repeat (first|exact (Kd.C_below HR0_0.out HB.out)|(with_reducible refine Kd.C_alloc ?_ _)|(with_reducible refine Kd.C_drewN ?_ _)|(with_reducible refine Kd.C_drew ?_)))
        (case side2=>exact HC0_0.out)
        (case side3=>repeat (first|exact (Kd.C_below HR0_1.out HB.out)|(with_reducible refine Kd.C_alloc ?_ _)|(with_reducible refine Kd.C_drewN ?_ _)|(with_reducible refine Kd.C_drew ?_)))
        (case side4=>exact HC0_1.out)
        rintro e w24 ⟨v346,rfl,ho0,hb⟩
        refine ⟨_,rfl,?_⟩
        have n0_:=Aside0.mk (Kd.R_elder' (by (with_reducible repeat (first|apply Kd.R_alloc|apply Kd.R_drewN|apply Kd.R_drew));exact HO337.out) (Kd.R_base ho0) hb)
        have n1_:=Aside0.mk (Kd.R_elder' (by (with_reducible repeat (first|apply Kd.R_alloc|apply Kd.R_drewN|apply Kd.R_drew));exact HO340.out) (Kd.R_base ho0) hb)
        have n2_:=Aside0.mk (Kd.R_elder' (by (with_reducible repeat (first|apply Kd.R_alloc|apply Kd.R_drewN|apply Kd.R_drew));exact HO344.out) (Kd.R_base ho0) hb)
        have n3_:=Aside0.mk (Kd.R_lower (Kd.R_new' (Kd.R_new' (Kd.R_new' ho0 (Kd.R_lt (by (with_reducible repeat (first|apply Kd.R_alloc|apply Kd.R_drewN|apply Kd.R_drew));exact HO337.out))) (Kd.R_lt (by (with_reducible repeat (first|apply Kd.R_alloc|apply Kd.R_drewN|apply Kd.R_drew));exact HO340.out))) (Kd.R_lt (by (with_reducible repeat (first|apply Kd.R_alloc|apply Kd.R_drewN|apply Kd.R_drew));exact HO344.out))) (below_size (by repeat (first|(with_reducible first|exact HB.out|apply zzD|apply zzE|apply zzF|refine below_set ?_ GE332.out)|exact HB.out))))
        have n4_:=Aside0.mk (blk_below (g:=gb332) (o:=.cells #[.slice (some ad333) l0_0.length c0_0,.slice A0_1 l0_1.length c0_1] 30 (0,0)) (by (with_reducible repeat (first|refine blk_drewN ?_ _|refine blk_drew ?_|refine blk_alloc ?_ _));exact BK332.out) hb)
        have n5_:=Aside0.mk (below_step (by repeat (first|(with_reducible first|exact HB.out|apply zzD|apply zzE|apply zzF|refine below_set ?_ GE332.out)|exact HB.out)) hb)
        clear HO337
        clear HO340
        clear HO344
        clear BK332
        clear HB
        have HO337:=n0_
        have HO340:=n1_
        have HO344:=n2_
        have HO347:=n3_
        have BK332:=n4_
        have HB:=n5_
        clear n0_ n1_ n2_ n3_ n4_ n5_
        (try clear hb)
        (try clear hb2)
        (try clear hk)
        (try clear hi)
        (try clear ho0)
        obtain ⟨Ao25,co25,eo25⟩:=Kd.R_slice HO344.out
        (first|subst eo25|(injection eo25 with f1_ f2_ f3_;have f4_:=f1_.symm;have f5_:=f3_.symm;clear f1_ f2_ f3_;subst f4_;subst f5_))
        obtain ⟨Ao26,co26,eo26⟩:=Kd.R_slice HO347.out
        (first|subst eo26|(injection eo26 with f1_ f2_ f3_;have f4_:=f1_.symm;have f5_:=f3_.symm;clear f1_ f2_ f3_;subst f4_;subst f5_))
        refine hK.out _ _ ⟨(blk_cell BK332.out 0).trans rfl,(blk_cell BK332.out 1).trans rfl,((HB.out.cell (World.block_lt_of_cell? w _ hw333_0)).trans hw333_0),((HB.out.cell (World.block_lt_of_cell? w _ hw334_0)).trans hw334_0)⟩ (fun hHeld=>?_)
        clear hK K
        refine norm_ (a':=?_) ?_ ?_
        rotate_left
        ·show Act.put _ (some 39) _ = _
         simp only [Act.put,zzA,zzB,zzC,i64_w,i32_w]
         rfl
        refine one_ (i:=32) (N:=some 40) #[true,true,true,true,true,true,true,true,true,true,true,true,true,true,true,true,true,true,true,true,true,true,true,true,true,true,true,true,true,true,true,true,true,false,false] rfl rfl (one_of HT_.out (by kernel_rfl)) (by decide) (fun K hK=>?_)
        refine goes_ Try.func60 (by kernel_rfl) rfl #[.slice Ao25 t342.length co25,.slice Ao26 t345.length co26] (by rfl) rfl rfl (by (try simp only [List.map_toArray,List.map_cons,List.map_nil]);first|done|rfl|(simp only [List.length_drop,List.length_take];rfl)) ?_
        with_reducible refine (scarfjointref09_CompareLists.calls k _ _ t342 _ _ t345 t348 _ ?side1 ?side2 ?side3 ?side4 A17.out).mono ?_
        (case side1=>repeat (first|exact (Kd.R_reads' HO344.out).2.2|(with_reducible refine Kd.C_alloc ?_ _)|(with_reducible refine Kd.C_drewN ?_ _)|(with_reducible refine Kd.C_drew ?_)))
        (case side2=>exact (Kd.R_reads' HO344.out).2.1)
        (case side3=>repeat (first|exact (Kd.R_reads' HO347.out).2.2|(with_reducible refine Kd.C_alloc ?_ _)|(with_reducible refine Kd.C_drewN ?_ _)|(with_reducible refine Kd.C_drew ?_)))
        (case side4=>exact (Kd.R_reads' HO347.out).2.1)
        rintro e w' ⟨rfl,⟨nd,rfl⟩⟩
        refine ⟨_,rfl,?_⟩
        refine hK.out _ _ ⟨(blk_cell BK332.out 0).trans rfl,(blk_cell BK332.out 1).trans rfl,((HB.out.cell (World.block_lt_of_cell? w _ hw333_0)).trans hw333_0),((HB.out.cell (World.block_lt_of_cell? w _ hw334_0)).trans hw334_0)⟩ (fun hHeld=>?_)
        clear hK K
        refine norm_ (a':=?_) ?_ ?_
        rotate_left
        ·show Act.put _ (some 40) _ = _
         simp only [Act.put,zzA,zzB,zzC,i64_w,i32_w]
         rfl
        refine pure_ (i:=33) (N:=some 41) (v:=?_) (a':=?_) #[true,true,true,true,true,true,true,true,true,true,true,true,true,true,true,true,true,true,true,true,true,true,true,true,true,true,true,true,true,true,true,true,true,true,false] rfl rfl (any_of HT_.out (by kernel_rfl)) (fun _ _ _ h=>h) (Or.inl ⟨by rfl,?_⟩) ?_ ?_
        rotate_left
        ·intro w'
         go_simp
         with_reducible rfl
        rotate_left
        ·simp only [Act.put,zzA,zzB,zzC,i64_w,i32_w]
         rfl
        refine pure_ (i:=34) (N:=some 42) (v:=?_) (a':=?_) #[true,true,true,true,true,true,true,true,true,true,true,true,true,true,true,true,true,true,true,true,true,true,true,true,true,true,true,true,true,true,true,true,true,true,true] rfl rfl (any_of HT_.out (by kernel_rfl)) (fun _ _ _ h=>h) (Or.inl ⟨by rfl,?_⟩) ?_ ?_
        rotate_left
        ·intro w'
         go_simp
         with_reducible rfl
        rotate_left
        ·simp only [Act.put,zzA,zzB,zzC,i64_w,i32_w]
         rfl
        refine done_ (done_of HT_.out (by kernel_rfl)) ?_
        try go_wp2
        go_meet
        case rel=>exact ⟨_,((t348 != 0)),(by first|rfl|(simp;done)|(simp [*];done)),H',⟨by first|omega|exact Nat.le_refl _⟩,⟨by (with_reducible repeat (first|refine blk_drewN ?_ _|refine blk_drew ?_|refine blk_alloc ?_ _));exact BK332.out⟩,⟨by repeat (first|(with_reducible first|exact HB.out|apply zzD|apply zzE|apply zzF|refine below_set ?_ GE332.out)|exact HB.out)⟩⟩
       ·rw [if_neg c14] at H
        have c14b0 : (t341 == 0) = false:=beq_eq_false_iff_ne.mpr c14
        have c14b1 : (t341 != 0) = true:=bne_iff_ne.mpr c14
        have H':=Aside0.mk H
        clear H
        try go_wp2
        have n0_:=Aside0.mk (blk_drew BK332.out)
        have n1_:=Aside0.mk (zzF HB.out)
        clear BK332
        clear HB
        have BK332:=n0_
        have HB:=n1_
        clear n0_ n1_
        have p333 : 0 ≤ (a1 : Int):=of_decide_eq_true (by first|(with_reducible assumption)|assumption)
        have q333 : a1 < (l0_0.length : Int):=of_decide_eq_true (by first|(with_reducible assumption)|assumption)
        obtain ⟨ad333,e333,hx333_0⟩:=Kd.at_int HR0_0.out a1 p333 q333
        have hw333_0:=hx333_0
        cases e333
        replace hx333_0:=(HB.out.cell (World.block_lt_of_cell? w _ hx333_0)).trans hx333_0
        replace p333:=eq_true p333
        replace q333:=eq_true q333
        have p334 : 0 ≤ (a2 : Int):=of_decide_eq_true (by first|(with_reducible assumption)|assumption)
        have q334 : a2 < (l0_0.length : Int):=of_decide_eq_true (by first|(with_reducible assumption)|assumption)
        obtain ⟨ad334,e334,hx334_0⟩:=Kd.at_int HR0_0.out a2 p334 q334
        have hw334_0:=hx334_0
        obtain rfl : ad333 = ad334:=(by injection e334)
        replace hx334_0:=(HB.out.cell (World.block_lt_of_cell? w _ hx334_0)).trans hx334_0
        replace p334:=eq_true p334
        replace q334:=eq_true q334
        refine start_ (n:=35) (S:=fun w'=>w'.cell? ⟨gb332,0,none⟩ = some (.slice (some ad333) l0_0.length c0_0) ∧ w'.cell? ⟨gb332,1,none⟩ = some (.slice A0_1 l0_1.length c0_1) ∧ w'.cell? (ad333.add (a1).toNat) = some (.int .i64 (rd l0_0 a1)) ∧ w'.cell? (ad333.add (a2).toNat) = some (.int .i64 (rd l0_0 a2))) (ds:=[]) #[false,false,false,false,false,false,false,false,false,false,false,false,false,false,false,false,false,false,false,false,false,false,false,false,false,false,false,false,false,false,false,false,false,false,false] (by kernel_rfl) rfl rfl ⟨(blk_cell BK332.out 0).trans rfl,(blk_cell BK332.out 1).trans rfl,((HB.out.cell (World.block_lt_of_cell? w _ hw333_0)).trans hw333_0),((HB.out.cell (World.block_lt_of_cell? w _ hw334_0)).trans hw334_0)⟩ (fun hHeld=>?_);refine with_tabW scarfjointref09_twins.tab1 scarfjointref09_twins.bits1 (fun HT_ HW_=>?_)
        generalize w5.drew = w27 at BK332 HB hx333_0 hx334_0 hHeld ⊢
        refine pure_ (i:=0) (N:=some 8) (v:=?_) (a':=?_) #[true,false,false,false,false,false,false,false,false,false,false,false,false,false,false,false,false,false,false,false,false,false,false,false,false,false,false,false,false,false,false,false,false,false,false] rfl rfl (any_of HT_.out (by kernel_rfl)) (fun _ _ _ h=>h) (Or.inl ⟨by rfl,?_⟩) ?_ ?_
        rotate_left
        ·intro w'
         go_simp
         with_reducible rfl
        rotate_left
        ·simp only [Act.put,zzA,zzB,zzC,i64_w,i32_w]
         rfl
        refine pure_ (i:=2) (N:=some 10) (v:=?_) (a':=?_) #[true,false,true,false,false,false,false,false,false,false,false,false,false,false,false,false,false,false,false,false,false,false,false,false,false,false,false,false,false,false,false,false,false,false,false] rfl rfl (any_of HT_.out (by kernel_rfl)) (fun _ _ _ h=>h) (Or.inl ⟨by rfl,?_⟩) ?_ ?_
        rotate_left
        ·intro w'
         go_simp
         with_reducible rfl
        rotate_left
        ·simp only [Act.put,zzA,zzB,zzC,i64_w,i32_w]
         rfl
        refine pure_ (i:=5) (N:=some 13) (v:=?_) (a':=?_) #[true,false,true,false,false,true,false,false,false,false,false,false,false,false,false,false,false,false,false,false,false,false,false,false,false,false,false,false,false,false,false,false,false,false,false] rfl rfl (any_of HT_.out (by kernel_rfl)) (fun _ _ _ h=>h) (Or.inl ⟨by rfl,?_⟩) ?_ ?_
        rotate_left
        ·intro w'
         go_simp
         with_reducible rfl
        rotate_left
        ·simp only [Act.put,zzA,zzB,zzC,i64_w,i32_w]
         rfl
        refine pure_ (i:=7) (N:=some 15) (v:=?_) (a':=?_) #[true,false,true,false,false,true,false,true,false,false,false,false,false,false,false,false,false,false,false,false,false,false,false,false,false,false,false,false,false,false,false,false,false,false,false] rfl rfl (any_of HT_.out (by kernel_rfl)) (fun _ _ _ h=>h) (Or.inl ⟨by rfl,?_⟩) ?_ ?_
        rotate_left
        ·intro w'
         go_simp
         with_reducible rfl
        rotate_left
        ·simp only [Act.put,zzA,zzB,zzC,i64_w,i32_w]
         rfl
        refine take_ (i:=1) (N:=some 9) (v:=?_) (a':=?_) #[true,true,true,false,false,true,false,true,false,false,false,false,false,false,false,false,false,false,false,false,false,false,false,false,false,false,false,false,false,false,false,false,false,false,false] rfl rfl (take_ofW HT_.out HW_.out (by kernel_rfl)) (fun _ _ _ h=>h) (Or.inl ⟨by rfl,?_⟩) hHeld ?_ ?_
        rotate_left
        ·rintro w' ⟨s0,s1,s2,s3⟩
         go_simp
         with_reducible rfl
        rotate_left
        ·simp only [Act.put,zzA,zzB,zzC,i64_w,i32_w]
         rfl
        refine pure_ (i:=3) (N:=some 11) (v:=?_) (a':=?_) #[true,true,true,true,false,true,false,true,false,false,false,false,false,false,false,false,false,false,false,false,false,false,false,false,false,false,false,false,false,false,false,false,false,false,false] rfl rfl (any_of HT_.out (by kernel_rfl)) (fun _ _ _ h=>h) (Or.inl ⟨by rfl,?_⟩) ?_ ?_
        rotate_left
        ·intro w'
         go_simp
         with_reducible rfl
        rotate_left
        ·simp only [Act.put,zzA,zzB,zzC,i64_w,i32_w]
         rfl
        refine take_ (i:=4) (N:=some 12) (v:=?_) (a':=?_) #[true,true,true,true,true,true,false,true,false,false,false,false,false,false,false,false,false,false,false,false,false,false,false,false,false,false,false,false,false,false,false,false,false,false,false] rfl rfl (take_ofW HT_.out HW_.out (by kernel_rfl)) (fun _ _ _ h=>h) (Or.inl ⟨by rfl,?_⟩) hHeld ?_ ?_
        rotate_left
        ·rintro w' ⟨s0,s1,s2,s3⟩
         go_simp
         with_reducible rfl
        rotate_left
        ·simp only [Act.put,zzA,zzB,zzC,i64_w,i32_w]
         rfl
        refine take_ (i:=6) (N:=some 14) (v:=?_) (a':=?_) #[true,true,true,true,true,true,true,true,false,false,false,false,false,false,false,false,false,false,false,false,false,false,false,false,false,false,false,false,false,false,false,false,false,false,false] rfl rfl (take_ofW HT_.out HW_.out (by kernel_rfl)) (fun _ _ _ h=>h) (Or.inl ⟨by rfl,?_⟩) hHeld ?_ ?_
        rotate_left
        ·rintro w' ⟨s0,s1,s2,s3⟩
         go_simp
         with_reducible rfl
        rotate_left
        ·simp only [Act.put,zzA,zzB,zzC,i64_w,i32_w]
         rfl
        refine pure_ (i:=8) (N:=some 16) (v:=?_) (a':=?_) #[true,true,true,true,true,true,true,true,true,false,false,false,false,false,false,false,false,false,false,false,false,false,false,false,false,false,false,false,false,false,false,false,false,false,false] rfl rfl (any_of HT_.out (by kernel_rfl)) (fun _ _ _ h=>h) (Or.inl ⟨by rfl,?_⟩) ?_ ?_
        rotate_left
        ·intro w'
         go_simp
         with_reducible rfl
        rotate_left
        ·simp only [Act.put,zzA,zzB,zzC,i64_w,i32_w]
         rfl
        refine take_ (i:=9) (N:=some 17) (v:=?_) (a':=?_) #[true,true,true,true,true,true,true,true,true,true,false,false,false,false,false,false,false,false,false,false,false,false,false,false,false,false,false,false,false,false,false,false,false,false,false] rfl rfl (take_ofW HT_.out HW_.out (by kernel_rfl)) (fun _ _ _ h=>h) (Or.inl ⟨by rfl,?_⟩) hHeld ?_ ?_
        rotate_left
        ·rintro w' ⟨s0,s1,s2,s3⟩
         go_simp
         with_reducible rfl
        rotate_left
        ·simp only [Act.put,zzA,zzB,zzC,i64_w,i32_w]
         rfl
        refine pure_ (i:=10) (N:=some 18) (v:=?_) (a':=?_) #[true,true,true,true,true,true,true,true,true,true,true,false,false,false,false,false,false,false,false,false,false,false,false,false,false,false,false,false,false,false,false,false,false,false,false] rfl rfl (any_of HT_.out (by kernel_rfl)) (fun _ _ _ h=>h) (Or.inl ⟨by rfl,?_⟩) ?_ ?_
        rotate_left
        ·intro w'
         go_simp
         with_reducible rfl
        rotate_left
        ·simp only [Act.put,zzA,zzB,zzC,i64_w,i32_w]
         rfl
        refine pure_ (i:=11) (N:=some 19) (v:=?_) (a':=?_) #[true,true,true,true,true,true,true,true,true,true,true,true,false,false,false,false,false,false,false,false,false,false,false,false,false,false,false,false,false,false,false,false,false,false,false] rfl rfl (any_of HT_.out (by kernel_rfl)) (fun _ _ _ h=>h) (Or.inl ⟨by rfl,?_⟩) ?_ ?_
        rotate_left
        ·intro w'
         go_simp
         with_reducible rfl
        rotate_left
        ·simp only [Act.put,zzA,zzB,zzC,i64_w,i32_w]
         rfl
        refine pure_ (i:=13) (N:=some 21) (v:=?_) (a':=?_) #[true,true,true,true,true,true,true,true,true,true,true,true,false,true,false,false,false,false,false,false,false,false,false,false,false,false,false,false,false,false,false,false,false,false,false] rfl rfl (any_of HT_.out (by kernel_rfl)) (fun _ _ _ h=>h) (Or.inl ⟨by rfl,?_⟩) ?_ ?_
        rotate_left
        ·intro w'
         go_simp
         with_reducible rfl
        rotate_left
        ·simp only [Act.put,zzA,zzB,zzC,i64_w,i32_w]
         rfl
        refine pure_ (i:=14) (N:=some 22) (v:=?_) (a':=?_) #[true,true,true,true,true,true,true,true,true,true,true,true,false,true,true,false,false,false,false,false,false,false,false,false,false,false,false,false,false,false,false,false,false,false,false] rfl rfl (any_of HT_.out (by kernel_rfl)) (fun _ _ _ h=>h) (Or.inl ⟨by rfl,?_⟩) ?_ ?_
        rotate_left
        ·intro w'
         go_simp
         with_reducible rfl
        rotate_left
        ·simp only [Act.put,zzA,zzB,zzC,i64_w,i32_w]
         rfl
        refine pure_ (i:=17) (N:=some 25) (v:=?_) (a':=?_) #[true,true,true,true,true,true,true,true,true,true,true,true,false,true,true,false,false,true,false,false,false,false,false,false,false,false,false,false,false,false,false,false,false,false,false] rfl rfl (any_of HT_.out (by kernel_rfl)) (fun _ _ _ h=>h) (Or.inl ⟨by rfl,?_⟩) ?_ ?_
        rotate_left
        ·intro w'
         go_simp
         with_reducible rfl
        rotate_left
        ·simp only [Act.put,zzA,zzB,zzC,i64_w,i32_w]
         rfl
        refine pure_ (i:=18) (N:=some 26) (v:=?_) (a':=?_) #[true,true,true,true,true,true,true,true,true,true,true,true,false,true,true,false,false,true,true,false,false,false,false,false,false,false,false,false,false,false,false,false,false,false,false] rfl rfl (any_of HT_.out (by kernel_rfl)) (fun _ _ _ h=>h) (Or.inl ⟨by rfl,?_⟩) ?_ ?_
        rotate_left
        ·intro w'
         go_simp
         with_reducible rfl
        rotate_left
        ·simp only [Act.put,zzA,zzB,zzC,i64_w,i32_w]
         rfl
        refine take_ (i:=12) (N:=some 20) (v:=?_) (a':=?_) #[true,true,true,true,true,true,true,true,true,true,true,true,true,true,true,false,false,true,true,false,false,false,false,false,false,false,false,false,false,false,false,false,false,false,false] rfl rfl (take_ofW HT_.out HW_.out (by kernel_rfl)) (fun _ _ _ h=>h) (Or.inl ⟨by rfl,?_⟩) hHeld ?_ ?_
        rotate_left
        ·rintro w' ⟨s0,s1,s2,s3⟩
         go_simp
         with_reducible rfl
        rotate_left
        ·simp only [Act.put,zzA,zzB,zzC,i64_w,i32_w]
         rfl
        refine take_ (i:=16) (N:=some 24) (v:=?_) (a':=?_) #[true,true,true,true,true,true,true,true,true,true,true,true,true,true,true,false,true,true,true,false,false,false,false,false,false,false,false,false,false,false,false,false,false,false,false] rfl rfl (take_ofW HT_.out HW_.out (by kernel_rfl)) (fun _ _ _ h=>h) (Or.inl ⟨by rfl,?_⟩) hHeld ?_ ?_
        rotate_left
        ·rintro w' ⟨s0,s1,s2,s3⟩
         go_simp
         with_reducible rfl
        rotate_left
        ·simp only [Act.put,zzA,zzB,zzC,i64_w,i32_w]
         rfl
        refine one_ (i:=15) (N:=some 23) #[true,true,true,true,true,true,true,true,true,true,true,true,true,true,true,true,true,true,true,false,false,false,false,false,false,false,false,false,false,false,false,false,false,false,false] rfl rfl (one_of HT_.out (by kernel_rfl)) (by decide) (fun K hK=>?_)
        refine goes_ Try.func85 (by kernel_rfl) rfl #[.agg #[.slice (some ad333) l0_0.length c0_0,.slice A0_1 l0_1.length c0_1],.int .i64 a1,.int .i64 a1] (by rfl) rfl rfl (by (try simp only [List.map_toArray,List.map_cons,List.map_nil]);first|done|rfl|(simp only [List.length_drop,List.length_take];rfl)) ?_
        with_reducible refine (scarfjointref09_types.calls k _ _ l0_0 _ _ l0_1 a1 a1 t335 _ ?side1 ?side2 ?side3 ?side4 A11.out).mono ?_
        (case side1=>repeat (first|exact (Kd.C_below HR0_0.out HB.out)|(with_reducible refine Kd.C_alloc ?_ _)|(with_reducible refine Kd.C_drewN ?_ _)|(with_reducible refine Kd.C_drew ?_)))
        (case side2=>exact HC0_0.out)
        (case side3=>repeat (first|exact (Kd.C_below HR0_1.out HB.out)|(with_reducible refine Kd.C_alloc ?_ _)|(with_reducible refine Kd.C_drewN ?_ _)|(with_reducible refine Kd.C_drew ?_)))
        (case side4=>exact HC0_1.out)
        rintro e w28 ⟨v336,rfl,ho0,hb⟩
        refine ⟨_,rfl,?_⟩
        have n0_:=Aside0.mk (Kd.R_lower ho0 (below_size (by repeat (first|(with_reducible first|exact HB.out|apply zzD|apply zzE|apply zzF|refine below_set ?_ GE332.out)|exact HB.out))))
        have n1_:=Aside0.mk (blk_below (g:=gb332) (o:=.cells #[.slice (some ad333) l0_0.length c0_0,.slice A0_1 l0_1.length c0_1] 30 (0,0)) (by (with_reducible repeat (first|refine blk_drewN ?_ _|refine blk_drew ?_|refine blk_alloc ?_ _));exact BK332.out) hb)
        have n2_:=Aside0.mk (below_step (by repeat (first|(with_reducible first|exact HB.out|apply zzD|apply zzE|apply zzF|refine below_set ?_ GE332.out)|exact HB.out)) hb)
        clear BK332
        clear HB
        have HO337:=n0_
        have BK332:=n1_
        have HB:=n2_
        clear n0_ n1_ n2_
        (try clear hb)
        (try clear hb2)
        (try clear hk)
        (try clear hi)
        (try clear ho0)
        refine hK.out _ _ ⟨(blk_cell BK332.out 0).trans rfl,(blk_cell BK332.out 1).trans rfl,((HB.out.cell (World.block_lt_of_cell? w _ hw333_0)).trans hw333_0),((HB.out.cell (World.block_lt_of_cell? w _ hw334_0)).trans hw334_0)⟩ (fun hHeld=>?_)
        clear hK K
        refine norm_ (a':=?_) ?_ ?_
        rotate_left
        ·show Act.put _ (some 23) _ = _
         simp only [Act.put,zzA,zzB,zzC,i64_w,i32_w]
         rfl
        refine one_ (i:=19) (N:=some 27) #[true,true,true,true,true,true,true,true,true,true,true,true,true,true,true,true,true,true,true,true,false,false,false,false,false,false,false,false,false,false,false,false,false,false,false] rfl rfl (one_of HT_.out (by kernel_rfl)) (by decide) (fun K hK=>?_)
        refine goes_ Try.func85 (by kernel_rfl) rfl #[.agg #[.slice (some ad333) l0_0.length c0_0,.slice A0_1 l0_1.length c0_1],.int .i64 a2,.int .i64 a2] (by rfl) rfl rfl (by (try simp only [List.map_toArray,List.map_cons,List.map_nil]);first|done|rfl|(simp only [List.length_drop,List.length_take];rfl)) ?_
        with_reducible refine (scarfjointref09_types.calls k _ _ l0_0 _ _ l0_1 a2 a2 t338 _ ?side1 ?side2 ?side3 ?side4 A12.out).mono ?_
        (case side1=>repeat (first|exact (Kd.C_below HR0_0.out HB.out)|(with_reducible refine Kd.C_alloc ?_ _)|(with_reducible refine Kd.C_drewN ?_ _)|(with_reducible refine Kd.C_drew ?_)))
        (case side2=>exact HC0_0.out)
        (case side3=>repeat (first|exact (Kd.C_below HR0_1.out HB.out)|(with_reducible refine Kd.C_alloc ?_ _)|(with_reducible refine Kd.C_drewN ?_ _)|(with_reducible refine Kd.C_drew ?_)))
        (case side4=>exact HC0_1.out)
        rintro e w29 ⟨v339,rfl,ho0,hb⟩
        refine ⟨_,rfl,?_⟩
        have n0_:=Aside0.mk (Kd.R_elder' (by (with_reducible repeat (first|apply Kd.R_alloc|apply Kd.R_drewN|apply Kd.R_drew));exact HO337.out) (Kd.R_base ho0) hb)
        have n1_:=Aside0.mk (Kd.R_lower (Kd.R_new' ho0 (Kd.R_lt (by (with_reducible repeat (first|apply Kd.R_alloc|apply Kd.R_drewN|apply Kd.R_drew));exact HO337.out))) (below_size (by repeat (first|(with_reducible first|exact HB.out|apply zzD|apply zzE|apply zzF|refine below_set ?_ GE332.out)|exact HB.out))))
        have n2_:=Aside0.mk (blk_below (g:=gb332) (o:=.cells #[.slice (some ad333) l0_0.length c0_0,.slice A0_1 l0_1.length c0_1] 30 (0,0)) (by (with_reducible repeat (first|refine blk_drewN ?_ _|refine blk_drew ?_|refine blk_alloc ?_ _));exact BK332.out) hb)
        have n3_:=Aside0.mk (below_step (by repeat (first|(with_reducible first|exact HB.out|apply zzD|apply zzE|apply zzF|refine below_set ?_ GE332.out)|exact HB.out)) hb)
        clear HO337
        clear BK332
        clear HB
        have HO337:=n0_
        have HO340:=n1_
        have BK332:=n2_
        have HB:=n3_
        clear n0_ n1_ n2_ n3_
        (try clear hb)
        (try clear hb2)
        (try clear hk)
        (try clear hi)
        (try clear ho0)
        obtain ⟨Ao30,co30,eo30⟩:=Kd.R_slice HO337.out
        (first|subst eo30|(injection eo30 with f1_ f2_ f3_;have f4_:=f1_.symm;have f5_:=f3_.symm;clear f1_ f2_ f3_;subst f4_;subst f5_))
        obtain ⟨Ao31,co31,eo31⟩:=Kd.R_slice HO340.out
        (first|subst eo31|(injection eo31 with f1_ f2_ f3_;have f4_:=f1_.symm;have f5_:=f3_.symm;clear f1_ f2_ f3_;subst f4_;subst f5_))
        refine hK.out _ _ ⟨(blk_cell BK332.out 0).trans rfl,(blk_cell BK332.out 1).trans rfl,((HB.out.cell (World.block_lt_of_cell? w _ hw333_0)).trans hw333_0),((HB.out.cell (World.block_lt_of_cell? w _ hw334_0)).trans hw334_0)⟩ (fun hHeld=>?_)
        clear hK K
        refine norm_ (a':=?_) ?_ ?_
        rotate_left
        ·show Act.put _ (some 27) _ = _
         simp only [Act.put,zzA,zzB,zzC,i64_w,i32_w]
         rfl
        refine one_ (i:=20) (N:=some 28) #[true,true,true,true,true,true,true,true,true,true,true,true,true,true,true,true,true,true,true,true,true,false,false,false,false,false,false,false,false,false,false,false,false,false,false] rfl rfl (one_of HT_.out (by kernel_rfl)) (by decide) (fun K hK=>?_)
        refine goes_ Try.func60 (by kernel_rfl) rfl #[.slice Ao30 t335.length co30,.slice Ao31 t338.length co31] (by rfl) rfl rfl (by (try simp only [List.map_toArray,List.map_cons,List.map_nil]);first|done|rfl|(simp only [List.length_drop,List.length_take];rfl)) ?_
        with_reducible refine (scarfjointref09_CompareLists.calls k _ _ t335 _ _ t338 t341 _ ?side1 ?side2 ?side3 ?side4 A13.out).mono ?_
        (case side1=>repeat (first|exact (Kd.R_reads' HO337.out).2.2|(with_reducible refine Kd.C_alloc ?_ _)|(with_reducible refine Kd.C_drewN ?_ _)|(with_reducible refine Kd.C_drew ?_)))
        (case side2=>exact (Kd.R_reads' HO337.out).2.1)
        (case side3=>repeat (first|exact (Kd.R_reads' HO340.out).2.2|(with_reducible refine Kd.C_alloc ?_ _)|(with_reducible refine Kd.C_drewN ?_ _)|(with_reducible refine Kd.C_drew ?_)))
        (case side4=>exact (Kd.R_reads' HO340.out).2.1)
        rintro e w' ⟨rfl,⟨nd,rfl⟩⟩
        refine ⟨_,rfl,?_⟩
        refine hK.out _ _ ⟨(blk_cell BK332.out 0).trans rfl,(blk_cell BK332.out 1).trans rfl,((HB.out.cell (World.block_lt_of_cell? w _ hw333_0)).trans hw333_0),((HB.out.cell (World.block_lt_of_cell? w _ hw334_0)).trans hw334_0)⟩ (fun hHeld=>?_)
        clear hK K
        refine norm_ (a':=?_) ?_ ?_
        rotate_left
        ·show Act.put _ (some 28) _ = _
         simp only [Act.put,zzA,zzB,zzC,i64_w,i32_w]
         rfl
        refine pure_ (i:=21) (N:=some 29) (v:=?_) (a':=?_) #[true,true,true,true,true,true,true,true,true,true,true,true,true,true,true,true,true,true,true,true,true,true,false,false,false,false,false,false,false,false,false,false,false,false,false] rfl rfl (any_of HT_.out (by kernel_rfl)) (fun _ _ _ h=>h) (Or.inl ⟨by rfl,?_⟩) ?_ ?_
        rotate_left
        ·intro w'
         go_simp
         with_reducible rfl
        rotate_left
        ·simp only [Act.put,zzA,zzB,zzC,i64_w,i32_w]
         rfl
        refine pure_ (i:=22) (N:=some 30) (v:=?_) (a':=?_) #[true,true,true,true,true,true,true,true,true,true,true,true,true,true,true,true,true,true,true,true,true,true,true,false,false,false,false,false,false,false,false,false,false,false,false] rfl rfl (any_of HT_.out (by kernel_rfl)) (fun _ _ _ h=>h) (Or.inl ⟨by rfl,?_⟩) ?_ ?_
        rotate_left
        ·intro w'
         go_simp
         with_reducible rfl
        rotate_left
        ·simp only [Act.put,zzA,zzB,zzC,i64_w,i32_w]
         rfl
        refine pure_ (i:=23) (N:=some 31) (v:=?_) (a':=?_) #[true,true,true,true,true,true,true,true,true,true,true,true,true,true,true,true,true,true,true,true,true,true,true,true,false,false,false,false,false,false,false,false,false,false,false] rfl rfl (any_of HT_.out (by kernel_rfl)) (fun _ _ _ h=>h) (Or.inl ⟨by rfl,?_⟩) ?_ ?_
        rotate_left
        ·intro w'
         go_simp
         with_reducible rfl
        rotate_left
        ·simp only [Act.put,zzA,zzB,zzC,i64_w,i32_w]
         rfl
        refine pure_ (i:=24) (N:=some 32) (v:=undef) (a':=?_) #[true,true,true,true,true,true,true,true,true,true,true,true,true,true,true,true,true,true,true,true,true,true,true,true,true,false,false,false,false,false,false,false,false,false,false] rfl rfl (any_of HT_.out (by kernel_rfl)) (fun _ _ _ h=>h) (Or.inr ⟨by rfl,rfl⟩) ?_ ?_
        rotate_left
        ·simp only [Act.put,zzA,zzB,zzC,i64_w,i32_w]
         rfl
        refine pure_ (i:=25) (N:=some 33) (v:=undef) (a':=?_) #[true,true,true,true,true,true,true,true,true,true,true,true,true,true,true,true,true,true,true,true,true,true,true,true,true,true,false,false,false,false,false,false,false,false,false] rfl rfl (any_of HT_.out (by kernel_rfl)) (fun _ _ _ h=>h) (Or.inr ⟨by rfl,rfl⟩) ?_ ?_
        rotate_left
        ·simp only [Act.put,zzA,zzB,zzC,i64_w,i32_w]
         rfl
        refine pure_ (i:=26) (N:=some 34) (v:=undef) (a':=?_) #[true,true,true,true,true,true,true,true,true,true,true,true,true,true,true,true,true,true,true,true,true,true,true,true,true,true,true,false,false,false,false,false,false,false,false] rfl rfl (any_of HT_.out (by kernel_rfl)) (fun _ _ _ h=>h) (Or.inr ⟨by rfl,rfl⟩) ?_ ?_
        rotate_left
        ·simp only [Act.put,zzA,zzB,zzC,i64_w,i32_w]
         rfl
        refine pure_ (i:=27) (N:=some 35) (v:=undef) (a':=?_) #[true,true,true,true,true,true,true,true,true,true,true,true,true,true,true,true,true,true,true,true,true,true,true,true,true,true,true,true,false,false,false,false,false,false,false] rfl rfl (any_of HT_.out (by kernel_rfl)) (fun _ _ _ h=>h) (Or.inr ⟨by rfl,rfl⟩) ?_ ?_
        rotate_left
        ·simp only [Act.put,zzA,zzB,zzC,i64_w,i32_w]
         rfl
        refine pure_ (i:=28) (N:=some 36) (v:=undef) (a':=?_) #[true,true,true,true,true,true,true,true,true,true,true,true,true,true,true,true,true,true,true,true,true,true,true,true,true,true,true,true,true,false,false,false,false,false,false] rfl rfl (any_of HT_.out (by kernel_rfl)) (fun _ _ _ h=>h) (Or.inr ⟨by rfl,rfl⟩) ?_ ?_
        rotate_left
        ·simp only [Act.put,zzA,zzB,zzC,i64_w,i32_w]
         rfl
        refine pure_ (i:=29) (N:=some 37) (v:=undef) (a':=?_) #[true,true,true,true,true,true,true,true,true,true,true,true,true,true,true,true,true,true,true,true,true,true,true,true,true,true,true,true,true,true,false,false,false,false,false] rfl rfl (any_of HT_.out (by kernel_rfl)) (fun _ _ _ h=>h) (Or.inr ⟨by rfl,rfl⟩) ?_ ?_
        rotate_left
        ·simp only [Act.put,zzA,zzB,zzC,i64_w,i32_w]
         rfl
        refine pure_ (i:=30) (N:=some 38) (v:=undef) (a':=?_) #[true,true,true,true,true,true,true,true,true,true,true,true,true,true,true,true,true,true,true,true,true,true,true,true,true,true,true,true,true,true,true,false,false,false,false] rfl rfl (any_of HT_.out (by kernel_rfl)) (fun _ _ _ h=>h) (Or.inr ⟨by rfl,rfl⟩) ?_ ?_
        rotate_left
        ·simp only [Act.put,zzA,zzB,zzC,i64_w,i32_w]
         rfl
        refine pure_ (i:=31) (N:=some 39) (v:=undef) (a':=?_) #[true,true,true,true,true,true,true,true,true,true,true,true,true,true,true,true,true,true,true,true,true,true,true,true,true,true,true,true,true,true,true,true,false,false,false] rfl rfl (any_of HT_.out (by kernel_rfl)) (fun _ _ _ h=>h) (Or.inr ⟨by rfl,rfl⟩) ?_ ?_
        rotate_left
        ·simp only [Act.put,zzA,zzB,zzC,i64_w,i32_w]
         rfl
        refine pure_ (i:=32) (N:=some 40) (v:=undef) (a':=?_) #[true,true,true,true,true,true,true,true,true,true,true,true,true,true,true,true,true,true,true,true,true,true,true,true,true,true,true,true,true,true,true,true,true,false,false] rfl rfl (any_of HT_.out (by kernel_rfl)) (fun _ _ _ h=>h) (Or.inr ⟨by rfl,rfl⟩) ?_ ?_
        rotate_left
        ·simp only [Act.put,zzA,zzB,zzC,i64_w,i32_w]
         rfl
        refine pure_ (i:=33) (N:=some 41) (v:=undef) (a':=?_) #[true,true,true,true,true,true,true,true,true,true,true,true,true,true,true,true,true,true,true,true,true,true,true,true,true,true,true,true,true,true,true,true,true,true,false] rfl rfl (any_of HT_.out (by kernel_rfl)) (fun _ _ _ h=>h) (Or.inr ⟨by rfl,rfl⟩) ?_ ?_
        rotate_left
        ·simp only [Act.put,zzA,zzB,zzC,i64_w,i32_w]
         rfl
        refine pure_ (i:=34) (N:=some 42) (v:=?_) (a':=?_) #[true,true,true,true,true,true,true,true,true,true,true,true,true,true,true,true,true,true,true,true,true,true,true,true,true,true,true,true,true,true,true,true,true,true,true] rfl rfl (any_of HT_.out (by kernel_rfl)) (fun _ _ _ h=>h) (Or.inl ⟨by rfl,?_⟩) ?_ ?_
        rotate_left
        ·intro w'
         go_simp
         with_reducible rfl
        rotate_left
        ·simp only [Act.put,zzA,zzB,zzC,i64_w,i32_w]
         rfl
        refine done_ (done_of HT_.out (by kernel_rfl)) ?_
        try go_wp2
        go_meet
        case rel=>exact ⟨_,(true),(by first|rfl|(simp;done)|(simp [*];done)),H',⟨by first|omega|exact Nat.le_refl _⟩,⟨by (with_reducible repeat (first|refine blk_drewN ?_ _|refine blk_drew ?_|refine blk_alloc ?_ _));exact BK332.out⟩,⟨by repeat (first|(with_reducible first|exact HB.out|apply zzD|apply zzE|apply zzF|refine below_set ?_ GE332.out)|exact HB.out)⟩⟩
      ·rw [if_neg c10] at H
       have c10b0 : ((rd l0_0 a1) == (rd l0_0 a2)) = false:=beq_eq_false_iff_ne.mpr c10
       have c10b1 : ((rd l0_0 a1) != (rd l0_0 a2)) = true:=bne_iff_ne.mpr c10
       have H':=Aside0.mk H
       clear H
       try go_wp2
       have n0_:=Aside0.mk (blk_drew BK332.out)
       have n1_:=Aside0.mk (zzF HB.out)
       clear BK332
       clear HB
       have BK332:=n0_
       have HB:=n1_
       clear n0_ n1_
       have p333 : 0 ≤ (a1 : Int):=of_decide_eq_true (by first|(with_reducible assumption)|assumption)
       have q333 : a1 < (l0_0.length : Int):=of_decide_eq_true (by first|(with_reducible assumption)|assumption)
       obtain ⟨ad333,e333,hx333_0⟩:=Kd.at_int HR0_0.out a1 p333 q333
       have hw333_0:=hx333_0
       cases e333
       replace hx333_0:=(HB.out.cell (World.block_lt_of_cell? w _ hx333_0)).trans hx333_0
       replace p333:=eq_true p333
       replace q333:=eq_true q333
       have p334 : 0 ≤ (a2 : Int):=of_decide_eq_true (by first|(with_reducible assumption)|assumption)
       have q334 : a2 < (l0_0.length : Int):=of_decide_eq_true (by first|(with_reducible assumption)|assumption)
       obtain ⟨ad334,e334,hx334_0⟩:=Kd.at_int HR0_0.out a2 p334 q334
       have hw334_0:=hx334_0
       obtain rfl : ad333 = ad334:=(by injection e334)
       replace hx334_0:=(HB.out.cell (World.block_lt_of_cell? w _ hx334_0)).trans hx334_0
       replace p334:=eq_true p334
       replace q334:=eq_true q334
       refine start_ (n:=35) (S:=fun w'=>w'.cell? ⟨gb332,0,none⟩ = some (.slice (some ad333) l0_0.length c0_0) ∧ w'.cell? ⟨gb332,1,none⟩ = some (.slice A0_1 l0_1.length c0_1) ∧ w'.cell? (ad333.add (a1).toNat) = some (.int .i64 (rd l0_0 a1)) ∧ w'.cell? (ad333.add (a2).toNat) = some (.int .i64 (rd l0_0 a2))) (ds:=[]) #[false,false,false,false,false,false,false,false,false,false,false,false,false,false,false,false,false,false,false,false,false,false,false,false,false,false,false,false,false,false,false,false,false,false,false] (by kernel_rfl) rfl rfl ⟨(blk_cell BK332.out 0).trans rfl,(blk_cell BK332.out 1).trans rfl,((HB.out.cell (World.block_lt_of_cell? w _ hw333_0)).trans hw333_0),((HB.out.cell (World.block_lt_of_cell? w _ hw334_0)).trans hw334_0)⟩ (fun hHeld=>?_);refine with_tabW scarfjointref09_twins.tab1 scarfjointref09_twins.bits1 (fun HT_ HW_=>?_)
       generalize w5.drew = w32 at BK332 HB hx333_0 hx334_0 hHeld ⊢
       refine pure_ (i:=0) (N:=some 8) (v:=?_) (a':=?_) #[true,false,false,false,false,false,false,false,false,false,false,false,false,false,false,false,false,false,false,false,false,false,false,false,false,false,false,false,false,false,false,false,false,false,false] rfl rfl (any_of HT_.out (by kernel_rfl)) (fun _ _ _ h=>h) (Or.inl ⟨by rfl,?_⟩) ?_ ?_
       rotate_left
       ·intro w'
        go_simp
        with_reducible rfl
       rotate_left
       ·simp only [Act.put,zzA,zzB,zzC,i64_w,i32_w]
        rfl
       refine pure_ (i:=2) (N:=some 10) (v:=?_) (a':=?_) #[true,false,true,false,false,false,false,false,false,false,false,false,false,false,false,false,false,false,false,false,false,false,false,false,false,false,false,false,false,false,false,false,false,false,false] rfl rfl (any_of HT_.out (by kernel_rfl)) (fun _ _ _ h=>h) (Or.inl ⟨by rfl,?_⟩) ?_ ?_
       rotate_left
       ·intro w'
        go_simp
        with_reducible rfl
       rotate_left
       ·simp only [Act.put,zzA,zzB,zzC,i64_w,i32_w]
        rfl
       refine pure_ (i:=5) (N:=some 13) (v:=?_) (a':=?_) #[true,false,true,false,false,true,false,false,false,false,false,false,false,false,false,false,false,false,false,false,false,false,false,false,false,false,false,false,false,false,false,false,false,false,false] rfl rfl (any_of HT_.out (by kernel_rfl)) (fun _ _ _ h=>h) (Or.inl ⟨by rfl,?_⟩) ?_ ?_
       rotate_left
       ·intro w'
        go_simp
        with_reducible rfl
       rotate_left
       ·simp only [Act.put,zzA,zzB,zzC,i64_w,i32_w]
        rfl
       refine pure_ (i:=7) (N:=some 15) (v:=?_) (a':=?_) #[true,false,true,false,false,true,false,true,false,false,false,false,false,false,false,false,false,false,false,false,false,false,false,false,false,false,false,false,false,false,false,false,false,false,false] rfl rfl (any_of HT_.out (by kernel_rfl)) (fun _ _ _ h=>h) (Or.inl ⟨by rfl,?_⟩) ?_ ?_
       rotate_left
       ·intro w'
        go_simp
        with_reducible rfl
       rotate_left
       ·simp only [Act.put,zzA,zzB,zzC,i64_w,i32_w]
        rfl
       refine take_ (i:=1) (N:=some 9) (v:=?_) (a':=?_) #[true,true,true,false,false,true,false,true,false,false,false,false,false,false,false,false,false,false,false,false,false,false,false,false,false,false,false,false,false,false,false,false,false,false,false] rfl rfl (take_ofW HT_.out HW_.out (by kernel_rfl)) (fun _ _ _ h=>h) (Or.inl ⟨by rfl,?_⟩) hHeld ?_ ?_
       rotate_left
       ·rintro w' ⟨s0,s1,s2,s3⟩
        go_simp
        with_reducible rfl
       rotate_left
       ·simp only [Act.put,zzA,zzB,zzC,i64_w,i32_w]
        rfl
       refine pure_ (i:=3) (N:=some 11) (v:=?_) (a':=?_) #[true,true,true,true,false,true,false,true,false,false,false,false,false,false,false,false,false,false,false,false,false,false,false,false,false,false,false,false,false,false,false,false,false,false,false] rfl rfl (any_of HT_.out (by kernel_rfl)) (fun _ _ _ h=>h) (Or.inl ⟨by rfl,?_⟩) ?_ ?_
       rotate_left
       ·intro w'
        go_simp
        with_reducible rfl
       rotate_left
       ·simp only [Act.put,zzA,zzB,zzC,i64_w,i32_w]
        rfl
       refine take_ (i:=4) (N:=some 12) (v:=?_) (a':=?_) #[true,true,true,true,true,true,false,true,false,false,false,false,false,false,false,false,false,false,false,false,false,false,false,false,false,false,false,false,false,false,false,false,false,false,false] rfl rfl (take_ofW HT_.out HW_.out (by kernel_rfl)) (fun _ _ _ h=>h) (Or.inl ⟨by rfl,?_⟩) hHeld ?_ ?_
       rotate_left
       ·rintro w' ⟨s0,s1,s2,s3⟩
        go_simp
        with_reducible rfl
       rotate_left
       ·simp only [Act.put,zzA,zzB,zzC,i64_w,i32_w]
        rfl
       refine take_ (i:=6) (N:=some 14) (v:=?_) (a':=?_) #[true,true,true,true,true,true,true,true,false,false,false,false,false,false,false,false,false,false,false,false,false,false,false,false,false,false,false,false,false,false,false,false,false,false,false] rfl rfl (take_ofW HT_.out HW_.out (by kernel_rfl)) (fun _ _ _ h=>h) (Or.inl ⟨by rfl,?_⟩) hHeld ?_ ?_
       rotate_left
       ·rintro w' ⟨s0,s1,s2,s3⟩
        go_simp
        with_reducible rfl
       rotate_left
       ·simp only [Act.put,zzA,zzB,zzC,i64_w,i32_w]
        rfl
       refine pure_ (i:=8) (N:=some 16) (v:=?_) (a':=?_) #[true,true,true,true,true,true,true,true,true,false,false,false,false,false,false,false,false,false,false,false,false,false,false,false,false,false,false,false,false,false,false,false,false,false,false] rfl rfl (any_of HT_.out (by kernel_rfl)) (fun _ _ _ h=>h) (Or.inl ⟨by rfl,?_⟩) ?_ ?_
       rotate_left
       ·intro w'
        go_simp
        with_reducible rfl
       rotate_left
       ·simp only [Act.put,zzA,zzB,zzC,i64_w,i32_w]
        rfl
       refine take_ (i:=9) (N:=some 17) (v:=?_) (a':=?_) #[true,true,true,true,true,true,true,true,true,true,false,false,false,false,false,false,false,false,false,false,false,false,false,false,false,false,false,false,false,false,false,false,false,false,false] rfl rfl (take_ofW HT_.out HW_.out (by kernel_rfl)) (fun _ _ _ h=>h) (Or.inl ⟨by rfl,?_⟩) hHeld ?_ ?_
       rotate_left
       ·rintro w' ⟨s0,s1,s2,s3⟩
        go_simp
        with_reducible rfl
       rotate_left
       ·simp only [Act.put,zzA,zzB,zzC,i64_w,i32_w]
        rfl
       refine pure_ (i:=10) (N:=some 18) (v:=?_) (a':=?_) #[true,true,true,true,true,true,true,true,true,true,true,false,false,false,false,false,false,false,false,false,false,false,false,false,false,false,false,false,false,false,false,false,false,false,false] rfl rfl (any_of HT_.out (by kernel_rfl)) (fun _ _ _ h=>h) (Or.inl ⟨by rfl,?_⟩) ?_ ?_
       rotate_left
       ·intro w'
        go_simp
        with_reducible rfl
       rotate_left
       ·simp only [Act.put,zzA,zzB,zzC,i64_w,i32_w]
        rfl
       refine pure_ (i:=11) (N:=some 19) (v:=?_) (a':=?_) #[true,true,true,true,true,true,true,true,true,true,true,true,false,false,false,false,false,false,false,false,false,false,false,false,false,false,false,false,false,false,false,false,false,false,false] rfl rfl (any_of HT_.out (by kernel_rfl)) (fun _ _ _ h=>h) (Or.inl ⟨by rfl,?_⟩) ?_ ?_
       rotate_left
       ·intro w'
        go_simp
        with_reducible rfl
       rotate_left
       ·simp only [Act.put,zzA,zzB,zzC,i64_w,i32_w]
        rfl
       refine pure_ (i:=12) (N:=some 20) (v:=undef) (a':=?_) #[true,true,true,true,true,true,true,true,true,true,true,true,true,false,false,false,false,false,false,false,false,false,false,false,false,false,false,false,false,false,false,false,false,false,false] rfl rfl (any_of HT_.out (by kernel_rfl)) (fun _ _ _ h=>h) (Or.inr ⟨by rfl,rfl⟩) ?_ ?_
       rotate_left
       ·simp only [Act.put,zzA,zzB,zzC,i64_w,i32_w]
        rfl
       refine pure_ (i:=13) (N:=some 21) (v:=undef) (a':=?_) #[true,true,true,true,true,true,true,true,true,true,true,true,true,true,false,false,false,false,false,false,false,false,false,false,false,false,false,false,false,false,false,false,false,false,false] rfl rfl (any_of HT_.out (by kernel_rfl)) (fun _ _ _ h=>h) (Or.inr ⟨by rfl,rfl⟩) ?_ ?_
       rotate_left
       ·simp only [Act.put,zzA,zzB,zzC,i64_w,i32_w]
        rfl
       refine pure_ (i:=14) (N:=some 22) (v:=undef) (a':=?_) #[true,true,true,true,true,true,true,true,true,true,true,true,true,true,true,false,false,false,false,false,false,false,false,false,false,false,false,false,false,false,false,false,false,false,false] rfl rfl (any_of HT_.out (by kernel_rfl)) (fun _ _ _ h=>h) (Or.inr ⟨by rfl,rfl⟩) ?_ ?_
       rotate_left
       ·simp only [Act.put,zzA,zzB,zzC,i64_w,i32_w]
        rfl
       refine pure_ (i:=15) (N:=some 23) (v:=undef) (a':=?_) #[true,true,true,true,true,true,true,true,true,true,true,true,true,true,true,true,false,false,false,false,false,false,false,false,false,false,false,false,false,false,false,false,false,false,false] rfl rfl (any_of HT_.out (by kernel_rfl)) (fun _ _ _ h=>h) (Or.inr ⟨by rfl,rfl⟩) ?_ ?_
       rotate_left
       ·simp only [Act.put,zzA,zzB,zzC,i64_w,i32_w]
        rfl
       refine pure_ (i:=16) (N:=some 24) (v:=undef) (a':=?_) #[true,true,true,true,true,true,true,true,true,true,true,true,true,true,true,true,true,false,false,false,false,false,false,false,false,false,false,false,false,false,false,false,false,false,false] rfl rfl (any_of HT_.out (by kernel_rfl)) (fun _ _ _ h=>h) (Or.inr ⟨by rfl,rfl⟩) ?_ ?_
       rotate_left
       ·simp only [Act.put,zzA,zzB,zzC,i64_w,i32_w]
        rfl
       refine pure_ (i:=17) (N:=some 25) (v:=undef) (a':=?_) #[true,true,true,true,true,true,true,true,true,true,true,true,true,true,true,true,true,true,false,false,false,false,false,false,false,false,false,false,false,false,false,false,false,false,false] rfl rfl (any_of HT_.out (by kernel_rfl)) (fun _ _ _ h=>h) (Or.inr ⟨by rfl,rfl⟩) ?_ ?_
       rotate_left
       ·simp only [Act.put,zzA,zzB,zzC,i64_w,i32_w]
        rfl
       refine pure_ (i:=18) (N:=some 26) (v:=undef) (a':=?_) #[true,true,true,true,true,true,true,true,true,true,true,true,true,true,true,true,true,true,true,false,false,false,false,false,false,false,false,false,false,false,false,false,false,false,false] rfl rfl (any_of HT_.out (by kernel_rfl)) (fun _ _ _ h=>h) (Or.inr ⟨by rfl,rfl⟩) ?_ ?_
       rotate_left
       ·simp only [Act.put,zzA,zzB,zzC,i64_w,i32_w]
        rfl
       refine pure_ (i:=19) (N:=some 27) (v:=undef) (a':=?_) #[true,true,true,true,true,true,true,true,true,true,true,true,true,true,true,true,true,true,true,true,false,false,false,false,false,false,false,false,false,false,false,false,false,false,false] rfl rfl (any_of HT_.out (by kernel_rfl)) (fun _ _ _ h=>h) (Or.inr ⟨by rfl,rfl⟩) ?_ ?_
       rotate_left
       ·simp only [Act.put,zzA,zzB,zzC,i64_w,i32_w]
        rfl
       refine pure_ (i:=20) (N:=some 28) (v:=undef) (a':=?_) #[true,true,true,true,true,true,true,true,true,true,true,true,true,true,true,true,true,true,true,true,true,false,false,false,false,false,false,false,false,false,false,false,false,false,false] rfl rfl (any_of HT_.out (by kernel_rfl)) (fun _ _ _ h=>h) (Or.inr ⟨by rfl,rfl⟩) ?_ ?_
       rotate_left
       ·simp only [Act.put,zzA,zzB,zzC,i64_w,i32_w]
        rfl
       refine pure_ (i:=21) (N:=some 29) (v:=undef) (a':=?_) #[true,true,true,true,true,true,true,true,true,true,true,true,true,true,true,true,true,true,true,true,true,true,false,false,false,false,false,false,false,false,false,false,false,false,false] rfl rfl (any_of HT_.out (by kernel_rfl)) (fun _ _ _ h=>h) (Or.inr ⟨by rfl,rfl⟩) ?_ ?_
       rotate_left
       ·simp only [Act.put,zzA,zzB,zzC,i64_w,i32_w]
        rfl
       refine pure_ (i:=22) (N:=some 30) (v:=?_) (a':=?_) #[true,true,true,true,true,true,true,true,true,true,true,true,true,true,true,true,true,true,true,true,true,true,true,false,false,false,false,false,false,false,false,false,false,false,false] rfl rfl (any_of HT_.out (by kernel_rfl)) (fun _ _ _ h=>h) (Or.inl ⟨by rfl,?_⟩) ?_ ?_
       rotate_left
       ·intro w'
        go_simp
        with_reducible rfl
       rotate_left
       ·simp only [Act.put,zzA,zzB,zzC,i64_w,i32_w]
        rfl
       refine pure_ (i:=23) (N:=some 31) (v:=?_) (a':=?_) #[true,true,true,true,true,true,true,true,true,true,true,true,true,true,true,true,true,true,true,true,true,true,true,true,false,false,false,false,false,false,false,false,false,false,false] rfl rfl (any_of HT_.out (by kernel_rfl)) (fun _ _ _ h=>h) (Or.inl ⟨by rfl,?_⟩) ?_ ?_
       rotate_left
       ·intro w'
        go_simp
        with_reducible rfl
       rotate_left
       ·simp only [Act.put,zzA,zzB,zzC,i64_w,i32_w]
        rfl
       refine pure_ (i:=24) (N:=some 32) (v:=undef) (a':=?_) #[true,true,true,true,true,true,true,true,true,true,true,true,true,true,true,true,true,true,true,true,true,true,true,true,true,false,false,false,false,false,false,false,false,false,false] rfl rfl (any_of HT_.out (by kernel_rfl)) (fun _ _ _ h=>h) (Or.inr ⟨by rfl,rfl⟩) ?_ ?_
       rotate_left
       ·simp only [Act.put,zzA,zzB,zzC,i64_w,i32_w]
        rfl
       refine pure_ (i:=25) (N:=some 33) (v:=undef) (a':=?_) #[true,true,true,true,true,true,true,true,true,true,true,true,true,true,true,true,true,true,true,true,true,true,true,true,true,true,false,false,false,false,false,false,false,false,false] rfl rfl (any_of HT_.out (by kernel_rfl)) (fun _ _ _ h=>h) (Or.inr ⟨by rfl,rfl⟩) ?_ ?_
       rotate_left
       ·simp only [Act.put,zzA,zzB,zzC,i64_w,i32_w]
        rfl
       refine pure_ (i:=26) (N:=some 34) (v:=undef) (a':=?_) #[true,true,true,true,true,true,true,true,true,true,true,true,true,true,true,true,true,true,true,true,true,true,true,true,true,true,true,false,false,false,false,false,false,false,false] rfl rfl (any_of HT_.out (by kernel_rfl)) (fun _ _ _ h=>h) (Or.inr ⟨by rfl,rfl⟩) ?_ ?_
       rotate_left
       ·simp only [Act.put,zzA,zzB,zzC,i64_w,i32_w]
        rfl
       refine pure_ (i:=27) (N:=some 35) (v:=undef) (a':=?_) #[true,true,true,true,true,true,true,true,true,true,true,true,true,true,true,true,true,true,true,true,true,true,true,true,true,true,true,true,false,false,false,false,false,false,false] rfl rfl (any_of HT_.out (by kernel_rfl)) (fun _ _ _ h=>h) (Or.inr ⟨by rfl,rfl⟩) ?_ ?_
       rotate_left
       ·simp only [Act.put,zzA,zzB,zzC,i64_w,i32_w]
        rfl
       refine pure_ (i:=28) (N:=some 36) (v:=undef) (a':=?_) #[true,true,true,true,true,true,true,true,true,true,true,true,true,true,true,true,true,true,true,true,true,true,true,true,true,true,true,true,true,false,false,false,false,false,false] rfl rfl (any_of HT_.out (by kernel_rfl)) (fun _ _ _ h=>h) (Or.inr ⟨by rfl,rfl⟩) ?_ ?_
       rotate_left
       ·simp only [Act.put,zzA,zzB,zzC,i64_w,i32_w]
        rfl
       refine pure_ (i:=29) (N:=some 37) (v:=undef) (a':=?_) #[true,true,true,true,true,true,true,true,true,true,true,true,true,true,true,true,true,true,true,true,true,true,true,true,true,true,true,true,true,true,false,false,false,false,false] rfl rfl (any_of HT_.out (by kernel_rfl)) (fun _ _ _ h=>h) (Or.inr ⟨by rfl,rfl⟩) ?_ ?_
       rotate_left
       ·simp only [Act.put,zzA,zzB,zzC,i64_w,i32_w]
        rfl
       refine pure_ (i:=30) (N:=some 38) (v:=undef) (a':=?_) #[true,true,true,true,true,true,true,true,true,true,true,true,true,true,true,true,true,true,true,true,true,true,true,true,true,true,true,true,true,true,true,false,false,false,false] rfl rfl (any_of HT_.out (by kernel_rfl)) (fun _ _ _ h=>h) (Or.inr ⟨by rfl,rfl⟩) ?_ ?_
       rotate_left
       ·simp only [Act.put,zzA,zzB,zzC,i64_w,i32_w]
        rfl
       refine pure_ (i:=31) (N:=some 39) (v:=undef) (a':=?_) #[true,true,true,true,true,true,true,true,true,true,true,true,true,true,true,true,true,true,true,true,true,true,true,true,true,true,true,true,true,true,true,true,false,false,false] rfl rfl (any_of HT_.out (by kernel_rfl)) (fun _ _ _ h=>h) (Or.inr ⟨by rfl,rfl⟩) ?_ ?_
       rotate_left
       ·simp only [Act.put,zzA,zzB,zzC,i64_w,i32_w]
        rfl
       refine pure_ (i:=32) (N:=some 40) (v:=undef) (a':=?_) #[true,true,true,true,true,true,true,true,true,true,true,true,true,true,true,true,true,true,true,true,true,true,true,true,true,true,true,true,true,true,true,true,true,false,false] rfl rfl (any_of HT_.out (by kernel_rfl)) (fun _ _ _ h=>h) (Or.inr ⟨by rfl,rfl⟩) ?_ ?_
       rotate_left
       ·simp only [Act.put,zzA,zzB,zzC,i64_w,i32_w]
        rfl
       refine pure_ (i:=33) (N:=some 41) (v:=undef) (a':=?_) #[true,true,true,true,true,true,true,true,true,true,true,true,true,true,true,true,true,true,true,true,true,true,true,true,true,true,true,true,true,true,true,true,true,true,false] rfl rfl (any_of HT_.out (by kernel_rfl)) (fun _ _ _ h=>h) (Or.inr ⟨by rfl,rfl⟩) ?_ ?_
       rotate_left
       ·simp only [Act.put,zzA,zzB,zzC,i64_w,i32_w]
        rfl
       refine pure_ (i:=34) (N:=some 42) (v:=?_) (a':=?_) #[true,true,true,true,true,true,true,true,true,true,true,true,true,true,true,true,true,true,true,true,true,true,true,true,true,true,true,true,true,true,true,true,true,true,true] rfl rfl (any_of HT_.out (by kernel_rfl)) (fun _ _ _ h=>h) (Or.inl ⟨by rfl,?_⟩) ?_ ?_
       rotate_left
       ·intro w'
        go_simp
        with_reducible rfl
       rotate_left
       ·simp only [Act.put,zzA,zzB,zzC,i64_w,i32_w]
        rfl
       refine done_ (done_of HT_.out (by kernel_rfl)) ?_
       try go_wp2
       go_meet
       case rel=>exact ⟨_,(true),(by first|rfl|(simp;done)|(simp [*];done)),H',⟨by first|omega|exact Nat.le_refl _⟩,⟨by (with_reducible repeat (first|refine blk_drewN ?_ _|refine blk_drew ?_|refine blk_alloc ?_ _));exact BK332.out⟩,⟨by repeat (first|(with_reducible first|exact HB.out|apply zzD|apply zzE|apply zzF|refine below_set ?_ GE332.out)|exact HB.out)⟩⟩
     ·rw [if_neg c9] at H
      exact absurd H (by simp)
    ·rw [if_neg c8] at H
     exact absurd H (by simp)
   ·rw [if_neg c7] at H
    exact absurd H (by simp)
  ·rw [if_neg c6] at H
   exact absurd H (by simp)
 case rest =>
  clear HC4
  try clear c1
  try clear p2
  try clear p3
  try clear q3
  try clear hx3
  try clear c6
  try clear c7
  try clear c8
  try clear c9
  try clear c10
  try clear c10b0
  try clear c10b1
  try clear c14
  try clear c14b0
  try clear c14b1
  try clear hx333_0
  try clear hx334_0
  try clear p333
  try clear p334
  try clear q333
  try clear q334
  obtain ⟨kq,x42_3,rfl,HA,HJ3,BK332,HB⟩:=hcut
  cases kq with
  | zero => exact absurd HA.out (by simp [scarfjointref09_twins.j0])
  | succ kj3 =>
   have H:=HA.out
   clear HA
   simp only [scarfjointref09_twins.j0] at H
   by_cases c33 : x42_3 = true
   ·subst c33
    have H1 : (some false) = some r:=by rw [if_pos rfl] at H;exact H
    clear H
    have H:=H1
    clear H1
    obtain rfl:=Option.some.inj H
    go_wp2
    go_ret
    exact ⟨by first|rfl|(simp [errW_none,errW_some] <;> rfl)|(simp [*,errW_none,errW_some] <;> rfl),by repeat (first|(with_reducible first|exact HB.out|apply zzD|apply zzE|apply zzF|refine below_set ?_ GE332.out)|exact HB.out)⟩
   ·replace c33:=Bool.eq_false_iff.mpr c33
    subst c33
    have H1 : (scarfjointref09_twins.l0 kj3 a1 a2 0 l0_0 l0_1) = some r:=by rw [if_neg (show ¬ (false = true) by decide)] at H;exact H
    clear H
    have H:=H1
    clear H1
    have H':=Aside0.mk H
    clear H
    go_wp2
    go_loopg [7] kj3 (fun kq v7 w'=>∃ (x7_2 : Int),v7 = .int .i64 x7_2 ∧ Aside0 (scarfjointref09_twins.l0 kq a1 a2 x7_2 l0_0 l0_1 = some r) ∧ Aside0 (kq ≤ kj3) ∧ Aside0 (w'.heap[gb332]? = some (.cells #[(.slice A0_0 l0_0.length c0_0),(.slice A0_1 l0_1.length c0_1)] 30 (0,0))) ∧ Aside0 (Below w.heap.size w w'))
    case atStart=>exact ⟨(0),(by first|rfl|(simp;done)|(simp [*];done)),H',⟨Nat.le_refl _⟩,⟨by (with_reducible repeat (first|refine blk_drewN ?_ _|refine blk_drew ?_|refine blk_alloc ?_ _));exact BK332.out⟩,⟨by repeat (first|(with_reducible first|exact HB.out|apply zzD|apply zzE|apply zzF|refine below_set ?_ GE332.out)|exact HB.out)⟩⟩
    case round =>
     clear H'
     try clear c1
     try clear p2
     try clear c3
     try clear p3
     try clear q3
     try clear hx3
     try clear c6
     try clear c7
     try clear c8
     try clear c9
     try clear c10
     try clear c10b0
     try clear c10b1
     try clear c14
     try clear c14b0
     try clear c14b1
     try clear c33
     try clear p33
     try clear q33
     try clear hx33
     try clear hx333_0
     try clear hx334_0
     try clear p2
     try clear p3
     try clear p333
     try clear p334
     try clear q3
     try clear q333
     try clear q334
     obtain ⟨x7_2,rfl,HA,HK2,BK332,HB⟩:=hrel
     cases gk with
     | zero => exact absurd HA.out (by simp [scarfjointref09_twins.l0])
     | succ k2 =>
      have H:=HA.out
      clear HA
      simp only [scarfjointref09_twins.l0] at H
      by_cases c34 : x7_2 < (l0_0.length : Int)
      ·rw [if_pos c34] at H
       have c34b0 : decide (x7_2 < (l0_0.length : Int)) = true:=decide_eq_true c34
       clear c34
       by_cases c35 : x7_2 = a1
       ·rw [if_pos c35] at H
        have c35b0 : (x7_2 == a1) = true:=beq_iff_eq.mpr c35
        have c35b1 : (x7_2 != a1) = false:=bne_eq_false_iff_eq.mpr c35
        clear c35
        have H':=Aside0.mk H
        clear H
        have hcz36_0 : wr.cell? ⟨gb332,0,none⟩ = some (.slice A0_0 l0_0.length c0_0):=(blk_cell BK332.out 0).trans rfl
        have hcz36_1 : wr.cell? ⟨gb332,1,none⟩ = some (.slice A0_1 l0_1.length c0_1):=(blk_cell BK332.out 1).trans rfl
        have hfz36_0:=blk_frozen BK332.out 0
        have hfz36_1:=blk_frozen BK332.out 1
        try go_wp2
        have n0_:=Aside0.mk (blk_drew BK332.out)
        have n1_:=Aside0.mk (zzF HB.out)
        clear BK332
        clear HB
        have BK332:=n0_
        have HB:=n1_
        clear n0_ n1_
        refine start_ (n:=32) (S:=fun w'=>True) (ds:=[]) #[false,false,false,false,false,false,false,false,false,false,false,false,false,false,false,false,false,false,false,false,false,false,false,false,false,false,false,false,false,false,false,false] (by kernel_rfl) rfl rfl trivial (fun hHeld=>?_);refine with_tabW scarfjointref09_twins.tab6 scarfjointref09_twins.bits6 (fun HT_ HW_=>?_)
        generalize wr.drew = w37 at BK332 HB hHeld ⊢
        refine pure_ (i:=0) (N:=some 50) (v:=?_) (a':=?_) #[true,false,false,false,false,false,false,false,false,false,false,false,false,false,false,false,false,false,false,false,false,false,false,false,false,false,false,false,false,false,false,false] rfl rfl (any_of HT_.out (by kernel_rfl)) (fun _ _ _ h=>h) (Or.inl ⟨by rfl,?_⟩) ?_ ?_
        rotate_left
        ·intro w'
         go_simp
         with_reducible rfl
        rotate_left
        ·simp only [Act.put,zzA,zzB,zzC,i64_w,i32_w]
         rfl
        refine pure_ (i:=1) (N:=some 51) (v:=?_) (a':=?_) #[true,true,false,false,false,false,false,false,false,false,false,false,false,false,false,false,false,false,false,false,false,false,false,false,false,false,false,false,false,false,false,false] rfl rfl (any_of HT_.out (by kernel_rfl)) (fun _ _ _ h=>h) (Or.inl ⟨by rfl,?_⟩) ?_ ?_
        rotate_left
        ·intro w'
         go_simp
         with_reducible rfl
        rotate_left
        ·simp only [Act.put,zzA,zzB,zzC,i64_w,i32_w]
         rfl
        refine pure_ (i:=2) (N:=some 52) (v:=?_) (a':=?_) #[true,true,true,false,false,false,false,false,false,false,false,false,false,false,false,false,false,false,false,false,false,false,false,false,false,false,false,false,false,false,false,false] rfl rfl (any_of HT_.out (by kernel_rfl)) (fun _ _ _ h=>h) (Or.inl ⟨by rfl,?_⟩) ?_ ?_
        rotate_left
        ·intro w'
         go_simp
         with_reducible rfl
        rotate_left
        ·simp only [Act.put,zzA,zzB,zzC,i64_w,i32_w]
         rfl
        refine pure_ (i:=3) (N:=some 53) (v:=?_) (a':=?_) #[true,true,true,true,false,false,false,false,false,false,false,false,false,false,false,false,false,false,false,false,false,false,false,false,false,false,false,false,false,false,false,false] rfl rfl (any_of HT_.out (by kernel_rfl)) (fun _ _ _ h=>h) (Or.inl ⟨by rfl,?_⟩) ?_ ?_
        rotate_left
        ·intro w'
         go_simp
         with_reducible rfl
        rotate_left
        ·simp only [Act.put,zzA,zzB,zzC,i64_w,i32_w]
         rfl
        refine pure_ (i:=4) (N:=some 54) (v:=undef) (a':=?_) #[true,true,true,true,true,false,false,false,false,false,false,false,false,false,false,false,false,false,false,false,false,false,false,false,false,false,false,false,false,false,false,false] rfl rfl (any_of HT_.out (by kernel_rfl)) (fun _ _ _ h=>h) (Or.inr ⟨by rfl,rfl⟩) ?_ ?_
        rotate_left
        ·simp only [Act.put,zzA,zzB,zzC,i64_w,i32_w]
         rfl
        refine pure_ (i:=5) (N:=some 55) (v:=undef) (a':=?_) #[true,true,true,true,true,true,false,false,false,false,false,false,false,false,false,false,false,false,false,false,false,false,false,false,false,false,false,false,false,false,false,false] rfl rfl (any_of HT_.out (by kernel_rfl)) (fun _ _ _ h=>h) (Or.inr ⟨by rfl,rfl⟩) ?_ ?_
        rotate_left
        ·simp only [Act.put,zzA,zzB,zzC,i64_w,i32_w]
         rfl
        refine pure_ (i:=6) (N:=some 56) (v:=undef) (a':=?_) #[true,true,true,true,true,true,true,false,false,false,false,false,false,false,false,false,false,false,false,false,false,false,false,false,false,false,false,false,false,false,false,false] rfl rfl (any_of HT_.out (by kernel_rfl)) (fun _ _ _ h=>h) (Or.inr ⟨by rfl,rfl⟩) ?_ ?_
        rotate_left
        ·simp only [Act.put,zzA,zzB,zzC,i64_w,i32_w]
         rfl
        refine pure_ (i:=7) (N:=some 57) (v:=?_) (a':=?_) #[true,true,true,true,true,true,true,true,false,false,false,false,false,false,false,false,false,false,false,false,false,false,false,false,false,false,false,false,false,false,false,false] rfl rfl (any_of HT_.out (by kernel_rfl)) (fun _ _ _ h=>h) (Or.inl ⟨by rfl,?_⟩) ?_ ?_
        rotate_left
        ·intro w'
         go_simp
         with_reducible rfl
        rotate_left
        ·simp only [Act.put,zzA,zzB,zzC,i64_w,i32_w]
         rfl
        refine pure_ (i:=8) (N:=some 58) (v:=?_) (a':=?_) #[true,true,true,true,true,true,true,true,true,false,false,false,false,false,false,false,false,false,false,false,false,false,false,false,false,false,false,false,false,false,false,false] rfl rfl (any_of HT_.out (by kernel_rfl)) (fun _ _ _ h=>h) (Or.inl ⟨by rfl,?_⟩) ?_ ?_
        rotate_left
        ·intro w'
         go_simp
         with_reducible rfl
        rotate_left
        ·simp only [Act.put,zzA,zzB,zzC,i64_w,i32_w]
         rfl
        refine pure_ (i:=9) (N:=some 59) (v:=undef) (a':=?_) #[true,true,true,true,true,true,true,true,true,true,false,false,false,false,false,false,false,false,false,false,false,false,false,false,false,false,false,false,false,false,false,false] rfl rfl (any_of HT_.out (by kernel_rfl)) (fun _ _ _ h=>h) (Or.inr ⟨by rfl,rfl⟩) ?_ ?_
        rotate_left
        ·simp only [Act.put,zzA,zzB,zzC,i64_w,i32_w]
         rfl
        refine pure_ (i:=10) (N:=some 60) (v:=undef) (a':=?_) #[true,true,true,true,true,true,true,true,true,true,true,false,false,false,false,false,false,false,false,false,false,false,false,false,false,false,false,false,false,false,false,false] rfl rfl (any_of HT_.out (by kernel_rfl)) (fun _ _ _ h=>h) (Or.inr ⟨by rfl,rfl⟩) ?_ ?_
        rotate_left
        ·simp only [Act.put,zzA,zzB,zzC,i64_w,i32_w]
         rfl
        refine pure_ (i:=11) (N:=some 61) (v:=undef) (a':=?_) #[true,true,true,true,true,true,true,true,true,true,true,true,false,false,false,false,false,false,false,false,false,false,false,false,false,false,false,false,false,false,false,false] rfl rfl (any_of HT_.out (by kernel_rfl)) (fun _ _ _ h=>h) (Or.inr ⟨by rfl,rfl⟩) ?_ ?_
        rotate_left
        ·simp only [Act.put,zzA,zzB,zzC,i64_w,i32_w]
         rfl
        refine pure_ (i:=12) (N:=some 62) (v:=undef) (a':=?_) #[true,true,true,true,true,true,true,true,true,true,true,true,true,false,false,false,false,false,false,false,false,false,false,false,false,false,false,false,false,false,false,false] rfl rfl (any_of HT_.out (by kernel_rfl)) (fun _ _ _ h=>h) (Or.inr ⟨by rfl,rfl⟩) ?_ ?_
        rotate_left
        ·simp only [Act.put,zzA,zzB,zzC,i64_w,i32_w]
         rfl
        refine pure_ (i:=13) (N:=some 63) (v:=undef) (a':=?_) #[true,true,true,true,true,true,true,true,true,true,true,true,true,true,false,false,false,false,false,false,false,false,false,false,false,false,false,false,false,false,false,false] rfl rfl (any_of HT_.out (by kernel_rfl)) (fun _ _ _ h=>h) (Or.inr ⟨by rfl,rfl⟩) ?_ ?_
        rotate_left
        ·simp only [Act.put,zzA,zzB,zzC,i64_w,i32_w]
         rfl
        refine pure_ (i:=14) (N:=some 64) (v:=undef) (a':=?_) #[true,true,true,true,true,true,true,true,true,true,true,true,true,true,true,false,false,false,false,false,false,false,false,false,false,false,false,false,false,false,false,false] rfl rfl (any_of HT_.out (by kernel_rfl)) (fun _ _ _ h=>h) (Or.inr ⟨by rfl,rfl⟩) ?_ ?_
        rotate_left
        ·simp only [Act.put,zzA,zzB,zzC,i64_w,i32_w]
         rfl
        refine pure_ (i:=15) (N:=some 65) (v:=undef) (a':=?_) #[true,true,true,true,true,true,true,true,true,true,true,true,true,true,true,true,false,false,false,false,false,false,false,false,false,false,false,false,false,false,false,false] rfl rfl (any_of HT_.out (by kernel_rfl)) (fun _ _ _ h=>h) (Or.inr ⟨by rfl,rfl⟩) ?_ ?_
        rotate_left
        ·simp only [Act.put,zzA,zzB,zzC,i64_w,i32_w]
         rfl
        refine pure_ (i:=16) (N:=some 66) (v:=undef) (a':=?_) #[true,true,true,true,true,true,true,true,true,true,true,true,true,true,true,true,true,false,false,false,false,false,false,false,false,false,false,false,false,false,false,false] rfl rfl (any_of HT_.out (by kernel_rfl)) (fun _ _ _ h=>h) (Or.inr ⟨by rfl,rfl⟩) ?_ ?_
        rotate_left
        ·simp only [Act.put,zzA,zzB,zzC,i64_w,i32_w]
         rfl
        refine pure_ (i:=17) (N:=some 67) (v:=undef) (a':=?_) #[true,true,true,true,true,true,true,true,true,true,true,true,true,true,true,true,true,true,false,false,false,false,false,false,false,false,false,false,false,false,false,false] rfl rfl (any_of HT_.out (by kernel_rfl)) (fun _ _ _ h=>h) (Or.inr ⟨by rfl,rfl⟩) ?_ ?_
        rotate_left
        ·simp only [Act.put,zzA,zzB,zzC,i64_w,i32_w]
         rfl
        refine pure_ (i:=18) (N:=some 68) (v:=undef) (a':=?_) #[true,true,true,true,true,true,true,true,true,true,true,true,true,true,true,true,true,true,true,false,false,false,false,false,false,false,false,false,false,false,false,false] rfl rfl (any_of HT_.out (by kernel_rfl)) (fun _ _ _ h=>h) (Or.inr ⟨by rfl,rfl⟩) ?_ ?_
        rotate_left
        ·simp only [Act.put,zzA,zzB,zzC,i64_w,i32_w]
         rfl
        refine pure_ (i:=19) (N:=some 69) (v:=undef) (a':=?_) #[true,true,true,true,true,true,true,true,true,true,true,true,true,true,true,true,true,true,true,true,false,false,false,false,false,false,false,false,false,false,false,false] rfl rfl (any_of HT_.out (by kernel_rfl)) (fun _ _ _ h=>h) (Or.inr ⟨by rfl,rfl⟩) ?_ ?_
        rotate_left
        ·simp only [Act.put,zzA,zzB,zzC,i64_w,i32_w]
         rfl
        refine pure_ (i:=20) (N:=some 70) (v:=undef) (a':=?_) #[true,true,true,true,true,true,true,true,true,true,true,true,true,true,true,true,true,true,true,true,true,false,false,false,false,false,false,false,false,false,false,false] rfl rfl (any_of HT_.out (by kernel_rfl)) (fun _ _ _ h=>h) (Or.inr ⟨by rfl,rfl⟩) ?_ ?_
        rotate_left
        ·simp only [Act.put,zzA,zzB,zzC,i64_w,i32_w]
         rfl
        refine pure_ (i:=21) (N:=some 71) (v:=undef) (a':=?_) #[true,true,true,true,true,true,true,true,true,true,true,true,true,true,true,true,true,true,true,true,true,true,false,false,false,false,false,false,false,false,false,false] rfl rfl (any_of HT_.out (by kernel_rfl)) (fun _ _ _ h=>h) (Or.inr ⟨by rfl,rfl⟩) ?_ ?_
        rotate_left
        ·simp only [Act.put,zzA,zzB,zzC,i64_w,i32_w]
         rfl
        refine pure_ (i:=22) (N:=some 72) (v:=undef) (a':=?_) #[true,true,true,true,true,true,true,true,true,true,true,true,true,true,true,true,true,true,true,true,true,true,true,false,false,false,false,false,false,false,false,false] rfl rfl (any_of HT_.out (by kernel_rfl)) (fun _ _ _ h=>h) (Or.inr ⟨by rfl,rfl⟩) ?_ ?_
        rotate_left
        ·simp only [Act.put,zzA,zzB,zzC,i64_w,i32_w]
         rfl
        refine pure_ (i:=23) (N:=some 73) (v:=undef) (a':=?_) #[true,true,true,true,true,true,true,true,true,true,true,true,true,true,true,true,true,true,true,true,true,true,true,true,false,false,false,false,false,false,false,false] rfl rfl (any_of HT_.out (by kernel_rfl)) (fun _ _ _ h=>h) (Or.inr ⟨by rfl,rfl⟩) ?_ ?_
        rotate_left
        ·simp only [Act.put,zzA,zzB,zzC,i64_w,i32_w]
         rfl
        refine pure_ (i:=24) (N:=some 74) (v:=undef) (a':=?_) #[true,true,true,true,true,true,true,true,true,true,true,true,true,true,true,true,true,true,true,true,true,true,true,true,true,false,false,false,false,false,false,false] rfl rfl (any_of HT_.out (by kernel_rfl)) (fun _ _ _ h=>h) (Or.inr ⟨by rfl,rfl⟩) ?_ ?_
        rotate_left
        ·simp only [Act.put,zzA,zzB,zzC,i64_w,i32_w]
         rfl
        refine pure_ (i:=25) (N:=some 75) (v:=undef) (a':=?_) #[true,true,true,true,true,true,true,true,true,true,true,true,true,true,true,true,true,true,true,true,true,true,true,true,true,true,false,false,false,false,false,false] rfl rfl (any_of HT_.out (by kernel_rfl)) (fun _ _ _ h=>h) (Or.inr ⟨by rfl,rfl⟩) ?_ ?_
        rotate_left
        ·simp only [Act.put,zzA,zzB,zzC,i64_w,i32_w]
         rfl
        refine pure_ (i:=26) (N:=some 76) (v:=undef) (a':=?_) #[true,true,true,true,true,true,true,true,true,true,true,true,true,true,true,true,true,true,true,true,true,true,true,true,true,true,true,false,false,false,false,false] rfl rfl (any_of HT_.out (by kernel_rfl)) (fun _ _ _ h=>h) (Or.inr ⟨by rfl,rfl⟩) ?_ ?_
        rotate_left
        ·simp only [Act.put,zzA,zzB,zzC,i64_w,i32_w]
         rfl
        refine pure_ (i:=27) (N:=some 77) (v:=undef) (a':=?_) #[true,true,true,true,true,true,true,true,true,true,true,true,true,true,true,true,true,true,true,true,true,true,true,true,true,true,true,true,false,false,false,false] rfl rfl (any_of HT_.out (by kernel_rfl)) (fun _ _ _ h=>h) (Or.inr ⟨by rfl,rfl⟩) ?_ ?_
        rotate_left
        ·simp only [Act.put,zzA,zzB,zzC,i64_w,i32_w]
         rfl
        refine pure_ (i:=28) (N:=some 78) (v:=undef) (a':=?_) #[true,true,true,true,true,true,true,true,true,true,true,true,true,true,true,true,true,true,true,true,true,true,true,true,true,true,true,true,true,false,false,false] rfl rfl (any_of HT_.out (by kernel_rfl)) (fun _ _ _ h=>h) (Or.inr ⟨by rfl,rfl⟩) ?_ ?_
        rotate_left
        ·simp only [Act.put,zzA,zzB,zzC,i64_w,i32_w]
         rfl
        refine pure_ (i:=29) (N:=some 79) (v:=undef) (a':=?_) #[true,true,true,true,true,true,true,true,true,true,true,true,true,true,true,true,true,true,true,true,true,true,true,true,true,true,true,true,true,true,false,false] rfl rfl (any_of HT_.out (by kernel_rfl)) (fun _ _ _ h=>h) (Or.inr ⟨by rfl,rfl⟩) ?_ ?_
        rotate_left
        ·simp only [Act.put,zzA,zzB,zzC,i64_w,i32_w]
         rfl
        refine pure_ (i:=30) (N:=some 80) (v:=undef) (a':=?_) #[true,true,true,true,true,true,true,true,true,true,true,true,true,true,true,true,true,true,true,true,true,true,true,true,true,true,true,true,true,true,true,false] rfl rfl (any_of HT_.out (by kernel_rfl)) (fun _ _ _ h=>h) (Or.inr ⟨by rfl,rfl⟩) ?_ ?_
        rotate_left
        ·simp only [Act.put,zzA,zzB,zzC,i64_w,i32_w]
         rfl
        refine pure_ (i:=31) (N:=some 81) (v:=?_) (a':=?_) #[true,true,true,true,true,true,true,true,true,true,true,true,true,true,true,true,true,true,true,true,true,true,true,true,true,true,true,true,true,true,true,true] rfl rfl (any_of HT_.out (by kernel_rfl)) (fun _ _ _ h=>h) (Or.inl ⟨by rfl,?_⟩) ?_ ?_
        rotate_left
        ·intro w'
         go_simp
         with_reducible rfl
        rotate_left
        ·simp only [Act.put,zzA,zzB,zzC,i64_w,i32_w]
         rfl
        refine done_ (done_of HT_.out (by kernel_rfl)) ?_
        try go_wp2
        go_roundg k2
        case measure=>have:=HJ3.out;have:=HK2.out;omega
        case rel=>exact ⟨(wrap64 (x7_2 + 1)),(by first|rfl|(simp;done)|(simp [*];done)),H',⟨by have:=HJ3.out;have:=HK2.out;omega⟩,⟨by (with_reducible repeat (first|refine blk_drewN ?_ _|refine blk_drew ?_|refine blk_alloc ?_ _));exact BK332.out⟩,⟨by repeat (first|(with_reducible first|exact HB.out|apply zzD|apply zzE|apply zzF|refine below_set ?_ GE332.out)|exact HB.out)⟩⟩
       ·rw [if_neg c35] at H
        have c35b0 : (x7_2 == a1) = false:=beq_eq_false_iff_ne.mpr c35
        have c35b1 : (x7_2 != a1) = true:=bne_iff_ne.mpr c35
        by_cases c38 : x7_2 = a2
        ·rw [if_pos c38] at H
         have c38b0 : (x7_2 == a2) = true:=beq_iff_eq.mpr c38
         have c38b1 : (x7_2 != a2) = false:=bne_eq_false_iff_eq.mpr c38
         clear c38
         have H':=Aside0.mk H
         clear H
         have hcz39_0 : wr.cell? ⟨gb332,0,none⟩ = some (.slice A0_0 l0_0.length c0_0):=(blk_cell BK332.out 0).trans rfl
         have hcz39_1 : wr.cell? ⟨gb332,1,none⟩ = some (.slice A0_1 l0_1.length c0_1):=(blk_cell BK332.out 1).trans rfl
         have hfz39_0:=blk_frozen BK332.out 0
         have hfz39_1:=blk_frozen BK332.out 1
         try go_wp2
         have n0_:=Aside0.mk (blk_drew BK332.out)
         have n1_:=Aside0.mk (zzF HB.out)
         clear BK332
         clear HB
         have BK332:=n0_
         have HB:=n1_
         clear n0_ n1_
         refine start_ (n:=32) (S:=fun w'=>True) (ds:=[]) #[false,false,false,false,false,false,false,false,false,false,false,false,false,false,false,false,false,false,false,false,false,false,false,false,false,false,false,false,false,false,false,false] (by kernel_rfl) rfl rfl trivial (fun hHeld=>?_);refine with_tabW scarfjointref09_twins.tab6 scarfjointref09_twins.bits6 (fun HT_ HW_=>?_)
         generalize wr.drew = w40 at BK332 HB hHeld ⊢
         refine pure_ (i:=0) (N:=some 50) (v:=?_) (a':=?_) #[true,false,false,false,false,false,false,false,false,false,false,false,false,false,false,false,false,false,false,false,false,false,false,false,false,false,false,false,false,false,false,false] rfl rfl (any_of HT_.out (by kernel_rfl)) (fun _ _ _ h=>h) (Or.inl ⟨by rfl,?_⟩) ?_ ?_
         rotate_left
         ·intro w'
          go_simp
          with_reducible rfl
         rotate_left
         ·simp only [Act.put,zzA,zzB,zzC,i64_w,i32_w]
          rfl
         refine pure_ (i:=1) (N:=some 51) (v:=?_) (a':=?_) #[true,true,false,false,false,false,false,false,false,false,false,false,false,false,false,false,false,false,false,false,false,false,false,false,false,false,false,false,false,false,false,false] rfl rfl (any_of HT_.out (by kernel_rfl)) (fun _ _ _ h=>h) (Or.inl ⟨by rfl,?_⟩) ?_ ?_
         rotate_left
         ·intro w'
          go_simp
          with_reducible rfl
         rotate_left
         ·simp only [Act.put,zzA,zzB,zzC,i64_w,i32_w]
          rfl
         refine pure_ (i:=2) (N:=some 52) (v:=?_) (a':=?_) #[true,true,true,false,false,false,false,false,false,false,false,false,false,false,false,false,false,false,false,false,false,false,false,false,false,false,false,false,false,false,false,false] rfl rfl (any_of HT_.out (by kernel_rfl)) (fun _ _ _ h=>h) (Or.inl ⟨by rfl,?_⟩) ?_ ?_
         rotate_left
         ·intro w'
          go_simp
          with_reducible rfl
         rotate_left
         ·simp only [Act.put,zzA,zzB,zzC,i64_w,i32_w]
          rfl
         refine pure_ (i:=3) (N:=some 53) (v:=?_) (a':=?_) #[true,true,true,true,false,false,false,false,false,false,false,false,false,false,false,false,false,false,false,false,false,false,false,false,false,false,false,false,false,false,false,false] rfl rfl (any_of HT_.out (by kernel_rfl)) (fun _ _ _ h=>h) (Or.inl ⟨by rfl,?_⟩) ?_ ?_
         rotate_left
         ·intro w'
          go_simp
          with_reducible rfl
         rotate_left
         ·simp only [Act.put,zzA,zzB,zzC,i64_w,i32_w]
          rfl
         refine pure_ (i:=4) (N:=some 54) (v:=?_) (a':=?_) #[true,true,true,true,true,false,false,false,false,false,false,false,false,false,false,false,false,false,false,false,false,false,false,false,false,false,false,false,false,false,false,false] rfl rfl (any_of HT_.out (by kernel_rfl)) (fun _ _ _ h=>h) (Or.inl ⟨by rfl,?_⟩) ?_ ?_
         rotate_left
         ·intro w'
          go_simp
          with_reducible rfl
         rotate_left
         ·simp only [Act.put,zzA,zzB,zzC,i64_w,i32_w]
          rfl
         refine pure_ (i:=5) (N:=some 55) (v:=?_) (a':=?_) #[true,true,true,true,true,true,false,false,false,false,false,false,false,false,false,false,false,false,false,false,false,false,false,false,false,false,false,false,false,false,false,false] rfl rfl (any_of HT_.out (by kernel_rfl)) (fun _ _ _ h=>h) (Or.inl ⟨by rfl,?_⟩) ?_ ?_
         rotate_left
         ·intro w'
          go_simp
          with_reducible rfl
         rotate_left
         ·simp only [Act.put,zzA,zzB,zzC,i64_w,i32_w]
          rfl
         refine pure_ (i:=6) (N:=some 56) (v:=?_) (a':=?_) #[true,true,true,true,true,true,true,false,false,false,false,false,false,false,false,false,false,false,false,false,false,false,false,false,false,false,false,false,false,false,false,false] rfl rfl (any_of HT_.out (by kernel_rfl)) (fun _ _ _ h=>h) (Or.inl ⟨by rfl,?_⟩) ?_ ?_
         rotate_left
         ·intro w'
          go_simp
          with_reducible rfl
         rotate_left
         ·simp only [Act.put,zzA,zzB,zzC,i64_w,i32_w]
          rfl
         refine pure_ (i:=7) (N:=some 57) (v:=?_) (a':=?_) #[true,true,true,true,true,true,true,true,false,false,false,false,false,false,false,false,false,false,false,false,false,false,false,false,false,false,false,false,false,false,false,false] rfl rfl (any_of HT_.out (by kernel_rfl)) (fun _ _ _ h=>h) (Or.inl ⟨by rfl,?_⟩) ?_ ?_
         rotate_left
         ·intro w'
          go_simp
          with_reducible rfl
         rotate_left
         ·simp only [Act.put,zzA,zzB,zzC,i64_w,i32_w]
          rfl
         refine pure_ (i:=8) (N:=some 58) (v:=?_) (a':=?_) #[true,true,true,true,true,true,true,true,true,false,false,false,false,false,false,false,false,false,false,false,false,false,false,false,false,false,false,false,false,false,false,false] rfl rfl (any_of HT_.out (by kernel_rfl)) (fun _ _ _ h=>h) (Or.inl ⟨by rfl,?_⟩) ?_ ?_
         rotate_left
         ·intro w'
          go_simp
          with_reducible rfl
         rotate_left
         ·simp only [Act.put,zzA,zzB,zzC,i64_w,i32_w]
          rfl
         refine pure_ (i:=9) (N:=some 59) (v:=undef) (a':=?_) #[true,true,true,true,true,true,true,true,true,true,false,false,false,false,false,false,false,false,false,false,false,false,false,false,false,false,false,false,false,false,false,false] rfl rfl (any_of HT_.out (by kernel_rfl)) (fun _ _ _ h=>h) (Or.inr ⟨by rfl,rfl⟩) ?_ ?_
         rotate_left
         ·simp only [Act.put,zzA,zzB,zzC,i64_w,i32_w]
          rfl
         refine pure_ (i:=10) (N:=some 60) (v:=undef) (a':=?_) #[true,true,true,true,true,true,true,true,true,true,true,false,false,false,false,false,false,false,false,false,false,false,false,false,false,false,false,false,false,false,false,false] rfl rfl (any_of HT_.out (by kernel_rfl)) (fun _ _ _ h=>h) (Or.inr ⟨by rfl,rfl⟩) ?_ ?_
         rotate_left
         ·simp only [Act.put,zzA,zzB,zzC,i64_w,i32_w]
          rfl
         refine pure_ (i:=11) (N:=some 61) (v:=undef) (a':=?_) #[true,true,true,true,true,true,true,true,true,true,true,true,false,false,false,false,false,false,false,false,false,false,false,false,false,false,false,false,false,false,false,false] rfl rfl (any_of HT_.out (by kernel_rfl)) (fun _ _ _ h=>h) (Or.inr ⟨by rfl,rfl⟩) ?_ ?_
         rotate_left
         ·simp only [Act.put,zzA,zzB,zzC,i64_w,i32_w]
          rfl
         refine pure_ (i:=12) (N:=some 62) (v:=undef) (a':=?_) #[true,true,true,true,true,true,true,true,true,true,true,true,true,false,false,false,false,false,false,false,false,false,false,false,false,false,false,false,false,false,false,false] rfl rfl (any_of HT_.out (by kernel_rfl)) (fun _ _ _ h=>h) (Or.inr ⟨by rfl,rfl⟩) ?_ ?_
         rotate_left
         ·simp only [Act.put,zzA,zzB,zzC,i64_w,i32_w]
          rfl
         refine pure_ (i:=13) (N:=some 63) (v:=undef) (a':=?_) #[true,true,true,true,true,true,true,true,true,true,true,true,true,true,false,false,false,false,false,false,false,false,false,false,false,false,false,false,false,false,false,false] rfl rfl (any_of HT_.out (by kernel_rfl)) (fun _ _ _ h=>h) (Or.inr ⟨by rfl,rfl⟩) ?_ ?_
         rotate_left
         ·simp only [Act.put,zzA,zzB,zzC,i64_w,i32_w]
          rfl
         refine pure_ (i:=14) (N:=some 64) (v:=undef) (a':=?_) #[true,true,true,true,true,true,true,true,true,true,true,true,true,true,true,false,false,false,false,false,false,false,false,false,false,false,false,false,false,false,false,false] rfl rfl (any_of HT_.out (by kernel_rfl)) (fun _ _ _ h=>h) (Or.inr ⟨by rfl,rfl⟩) ?_ ?_
         rotate_left
         ·simp only [Act.put,zzA,zzB,zzC,i64_w,i32_w]
          rfl
         refine pure_ (i:=15) (N:=some 65) (v:=undef) (a':=?_) #[true,true,true,true,true,true,true,true,true,true,true,true,true,true,true,true,false,false,false,false,false,false,false,false,false,false,false,false,false,false,false,false] rfl rfl (any_of HT_.out (by kernel_rfl)) (fun _ _ _ h=>h) (Or.inr ⟨by rfl,rfl⟩) ?_ ?_
         rotate_left
         ·simp only [Act.put,zzA,zzB,zzC,i64_w,i32_w]
          rfl
         refine pure_ (i:=16) (N:=some 66) (v:=undef) (a':=?_) #[true,true,true,true,true,true,true,true,true,true,true,true,true,true,true,true,true,false,false,false,false,false,false,false,false,false,false,false,false,false,false,false] rfl rfl (any_of HT_.out (by kernel_rfl)) (fun _ _ _ h=>h) (Or.inr ⟨by rfl,rfl⟩) ?_ ?_
         rotate_left
         ·simp only [Act.put,zzA,zzB,zzC,i64_w,i32_w]
          rfl
         refine pure_ (i:=17) (N:=some 67) (v:=undef) (a':=?_) #[true,true,true,true,true,true,true,true,true,true,true,true,true,true,true,true,true,true,false,false,false,false,false,false,false,false,false,false,false,false,false,false] rfl rfl (any_of HT_.out (by kernel_rfl)) (fun _ _ _ h=>h) (Or.inr ⟨by rfl,rfl⟩) ?_ ?_
         rotate_left
         ·simp only [Act.put,zzA,zzB,zzC,i64_w,i32_w]
          rfl
         refine pure_ (i:=18) (N:=some 68) (v:=undef) (a':=?_) #[true,true,true,true,true,true,true,true,true,true,true,true,true,true,true,true,true,true,true,false,false,false,false,false,false,false,false,false,false,false,false,false] rfl rfl (any_of HT_.out (by kernel_rfl)) (fun _ _ _ h=>h) (Or.inr ⟨by rfl,rfl⟩) ?_ ?_
         rotate_left
         ·simp only [Act.put,zzA,zzB,zzC,i64_w,i32_w]
          rfl
         refine pure_ (i:=19) (N:=some 69) (v:=undef) (a':=?_) #[true,true,true,true,true,true,true,true,true,true,true,true,true,true,true,true,true,true,true,true,false,false,false,false,false,false,false,false,false,false,false,false] rfl rfl (any_of HT_.out (by kernel_rfl)) (fun _ _ _ h=>h) (Or.inr ⟨by rfl,rfl⟩) ?_ ?_
         rotate_left
         ·simp only [Act.put,zzA,zzB,zzC,i64_w,i32_w]
          rfl
         refine pure_ (i:=20) (N:=some 70) (v:=undef) (a':=?_) #[true,true,true,true,true,true,true,true,true,true,true,true,true,true,true,true,true,true,true,true,true,false,false,false,false,false,false,false,false,false,false,false] rfl rfl (any_of HT_.out (by kernel_rfl)) (fun _ _ _ h=>h) (Or.inr ⟨by rfl,rfl⟩) ?_ ?_
         rotate_left
         ·simp only [Act.put,zzA,zzB,zzC,i64_w,i32_w]
          rfl
         refine pure_ (i:=21) (N:=some 71) (v:=undef) (a':=?_) #[true,true,true,true,true,true,true,true,true,true,true,true,true,true,true,true,true,true,true,true,true,true,false,false,false,false,false,false,false,false,false,false] rfl rfl (any_of HT_.out (by kernel_rfl)) (fun _ _ _ h=>h) (Or.inr ⟨by rfl,rfl⟩) ?_ ?_
         rotate_left
         ·simp only [Act.put,zzA,zzB,zzC,i64_w,i32_w]
          rfl
         refine pure_ (i:=22) (N:=some 72) (v:=undef) (a':=?_) #[true,true,true,true,true,true,true,true,true,true,true,true,true,true,true,true,true,true,true,true,true,true,true,false,false,false,false,false,false,false,false,false] rfl rfl (any_of HT_.out (by kernel_rfl)) (fun _ _ _ h=>h) (Or.inr ⟨by rfl,rfl⟩) ?_ ?_
         rotate_left
         ·simp only [Act.put,zzA,zzB,zzC,i64_w,i32_w]
          rfl
         refine pure_ (i:=23) (N:=some 73) (v:=undef) (a':=?_) #[true,true,true,true,true,true,true,true,true,true,true,true,true,true,true,true,true,true,true,true,true,true,true,true,false,false,false,false,false,false,false,false] rfl rfl (any_of HT_.out (by kernel_rfl)) (fun _ _ _ h=>h) (Or.inr ⟨by rfl,rfl⟩) ?_ ?_
         rotate_left
         ·simp only [Act.put,zzA,zzB,zzC,i64_w,i32_w]
          rfl
         refine pure_ (i:=24) (N:=some 74) (v:=undef) (a':=?_) #[true,true,true,true,true,true,true,true,true,true,true,true,true,true,true,true,true,true,true,true,true,true,true,true,true,false,false,false,false,false,false,false] rfl rfl (any_of HT_.out (by kernel_rfl)) (fun _ _ _ h=>h) (Or.inr ⟨by rfl,rfl⟩) ?_ ?_
         rotate_left
         ·simp only [Act.put,zzA,zzB,zzC,i64_w,i32_w]
          rfl
         refine pure_ (i:=25) (N:=some 75) (v:=undef) (a':=?_) #[true,true,true,true,true,true,true,true,true,true,true,true,true,true,true,true,true,true,true,true,true,true,true,true,true,true,false,false,false,false,false,false] rfl rfl (any_of HT_.out (by kernel_rfl)) (fun _ _ _ h=>h) (Or.inr ⟨by rfl,rfl⟩) ?_ ?_
         rotate_left
         ·simp only [Act.put,zzA,zzB,zzC,i64_w,i32_w]
          rfl
         refine pure_ (i:=26) (N:=some 76) (v:=undef) (a':=?_) #[true,true,true,true,true,true,true,true,true,true,true,true,true,true,true,true,true,true,true,true,true,true,true,true,true,true,true,false,false,false,false,false] rfl rfl (any_of HT_.out (by kernel_rfl)) (fun _ _ _ h=>h) (Or.inr ⟨by rfl,rfl⟩) ?_ ?_
         rotate_left
         ·simp only [Act.put,zzA,zzB,zzC,i64_w,i32_w]
          rfl
         refine pure_ (i:=27) (N:=some 77) (v:=undef) (a':=?_) #[true,true,true,true,true,true,true,true,true,true,true,true,true,true,true,true,true,true,true,true,true,true,true,true,true,true,true,true,false,false,false,false] rfl rfl (any_of HT_.out (by kernel_rfl)) (fun _ _ _ h=>h) (Or.inr ⟨by rfl,rfl⟩) ?_ ?_
         rotate_left
         ·simp only [Act.put,zzA,zzB,zzC,i64_w,i32_w]
          rfl
         refine pure_ (i:=28) (N:=some 78) (v:=undef) (a':=?_) #[true,true,true,true,true,true,true,true,true,true,true,true,true,true,true,true,true,true,true,true,true,true,true,true,true,true,true,true,true,false,false,false] rfl rfl (any_of HT_.out (by kernel_rfl)) (fun _ _ _ h=>h) (Or.inr ⟨by rfl,rfl⟩) ?_ ?_
         rotate_left
         ·simp only [Act.put,zzA,zzB,zzC,i64_w,i32_w]
          rfl
         refine pure_ (i:=29) (N:=some 79) (v:=undef) (a':=?_) #[true,true,true,true,true,true,true,true,true,true,true,true,true,true,true,true,true,true,true,true,true,true,true,true,true,true,true,true,true,true,false,false] rfl rfl (any_of HT_.out (by kernel_rfl)) (fun _ _ _ h=>h) (Or.inr ⟨by rfl,rfl⟩) ?_ ?_
         rotate_left
         ·simp only [Act.put,zzA,zzB,zzC,i64_w,i32_w]
          rfl
         refine pure_ (i:=30) (N:=some 80) (v:=undef) (a':=?_) #[true,true,true,true,true,true,true,true,true,true,true,true,true,true,true,true,true,true,true,true,true,true,true,true,true,true,true,true,true,true,true,false] rfl rfl (any_of HT_.out (by kernel_rfl)) (fun _ _ _ h=>h) (Or.inr ⟨by rfl,rfl⟩) ?_ ?_
         rotate_left
         ·simp only [Act.put,zzA,zzB,zzC,i64_w,i32_w]
          rfl
         refine pure_ (i:=31) (N:=some 81) (v:=?_) (a':=?_) #[true,true,true,true,true,true,true,true,true,true,true,true,true,true,true,true,true,true,true,true,true,true,true,true,true,true,true,true,true,true,true,true] rfl rfl (any_of HT_.out (by kernel_rfl)) (fun _ _ _ h=>h) (Or.inl ⟨by rfl,?_⟩) ?_ ?_
         rotate_left
         ·intro w'
          go_simp
          with_reducible rfl
         rotate_left
         ·simp only [Act.put,zzA,zzB,zzC,i64_w,i32_w]
          rfl
         refine done_ (done_of HT_.out (by kernel_rfl)) ?_
         try go_wp2
         go_roundg k2
         case measure=>have:=HJ3.out;have:=HK2.out;omega
         case rel=>exact ⟨(wrap64 (x7_2 + 1)),(by first|rfl|(simp;done)|(simp [*];done)),H',⟨by have:=HJ3.out;have:=HK2.out;omega⟩,⟨by (with_reducible repeat (first|refine blk_drewN ?_ _|refine blk_drew ?_|refine blk_alloc ?_ _));exact BK332.out⟩,⟨by repeat (first|(with_reducible first|exact HB.out|apply zzD|apply zzE|apply zzF|refine below_set ?_ GE332.out)|exact HB.out)⟩⟩
        ·rw [if_neg c38] at H
         have c38b0 : (x7_2 == a2) = false:=beq_eq_false_iff_ne.mpr c38
         have c38b1 : (x7_2 != a2) = true:=bne_iff_ne.mpr c38
         replace H:=Option.bind_eq_some_iff.mp H
         obtain ⟨t349,A410,H⟩:=H
         replace H : ((scarfjointref09_types.f k2 l0_0 l0_1 a2 x7_2).bind fun t352=>((scarfjointref09_CompareLists.f k2 t349 t352).bind fun t355=>(if t355 = 0 then ((scarfjointref09_types.f k2 l0_0 l0_1 x7_2 a1).bind fun t356=>((scarfjointref09_types.f k2 l0_0 l0_1 x7_2 a2).bind fun t359=>((scarfjointref09_CompareLists.f k2 t356 t359).bind fun t362=>(if t362 = 0 then (scarfjointref09_twins.l0 k2 a1 a2 (wrap64 (x7_2 + 1)) l0_0 l0_1) else (some false))))) else (some false)))) = some r:=H
         have A41:=Aside0.mk A410
         clear A410
         replace H:=Option.bind_eq_some_iff.mp H
         obtain ⟨t352,A420,H⟩:=H
         replace H : ((scarfjointref09_CompareLists.f k2 t349 t352).bind fun t355=>(if t355 = 0 then ((scarfjointref09_types.f k2 l0_0 l0_1 x7_2 a1).bind fun t356=>((scarfjointref09_types.f k2 l0_0 l0_1 x7_2 a2).bind fun t359=>((scarfjointref09_CompareLists.f k2 t356 t359).bind fun t362=>(if t362 = 0 then (scarfjointref09_twins.l0 k2 a1 a2 (wrap64 (x7_2 + 1)) l0_0 l0_1) else (some false))))) else (some false))) = some r:=H
         have A42:=Aside0.mk A420
         clear A420
         replace H:=Option.bind_eq_some_iff.mp H
         obtain ⟨t355,A430,H⟩:=H
         replace H : (if t355 = 0 then ((scarfjointref09_types.f k2 l0_0 l0_1 x7_2 a1).bind fun t356=>((scarfjointref09_types.f k2 l0_0 l0_1 x7_2 a2).bind fun t359=>((scarfjointref09_CompareLists.f k2 t356 t359).bind fun t362=>(if t362 = 0 then (scarfjointref09_twins.l0 k2 a1 a2 (wrap64 (x7_2 + 1)) l0_0 l0_1) else (some false))))) else (some false)) = some r:=H
         have A43:=Aside0.mk A430
         clear A430
         by_cases c44 : t355 = 0
         ·rw [if_pos c44] at H
          have c44b0 : (t355 == 0) = true:=beq_iff_eq.mpr c44
          have c44b1 : (t355 != 0) = false:=bne_eq_false_iff_eq.mpr c44
          clear c44
          replace H:=Option.bind_eq_some_iff.mp H
          obtain ⟨t356,A450,H⟩:=H
          replace H : ((scarfjointref09_types.f k2 l0_0 l0_1 x7_2 a2).bind fun t359=>((scarfjointref09_CompareLists.f k2 t356 t359).bind fun t362=>(if t362 = 0 then (scarfjointref09_twins.l0 k2 a1 a2 (wrap64 (x7_2 + 1)) l0_0 l0_1) else (some false)))) = some r:=H
          have A45:=Aside0.mk A450
          clear A450
          replace H:=Option.bind_eq_some_iff.mp H
          obtain ⟨t359,A460,H⟩:=H
          replace H : ((scarfjointref09_CompareLists.f k2 t356 t359).bind fun t362=>(if t362 = 0 then (scarfjointref09_twins.l0 k2 a1 a2 (wrap64 (x7_2 + 1)) l0_0 l0_1) else (some false))) = some r:=H
          have A46:=Aside0.mk A460
          clear A460
          replace H:=Option.bind_eq_some_iff.mp H
          obtain ⟨t362,A470,H⟩:=H
          replace H : (if t362 = 0 then (scarfjointref09_twins.l0 k2 a1 a2 (wrap64 (x7_2 + 1)) l0_0 l0_1) else (some false)) = some r:=H
          have A47:=Aside0.mk A470
          clear A470
          by_cases c48 : t362 = 0
          ·rw [if_pos c48] at H
           have c48b0 : (t362 == 0) = true:=beq_iff_eq.mpr c48
           have c48b1 : (t362 != 0) = false:=bne_eq_false_iff_eq.mpr c48
           clear c48
           have H':=Aside0.mk H
           clear H
           have hcz49_0 : wr.cell? ⟨gb332,0,none⟩ = some (.slice A0_0 l0_0.length c0_0):=(blk_cell BK332.out 0).trans rfl
           have hcz49_1 : wr.cell? ⟨gb332,1,none⟩ = some (.slice A0_1 l0_1.length c0_1):=(blk_cell BK332.out 1).trans rfl
           have hfz49_0:=blk_frozen BK332.out 0
           have hfz49_1:=blk_frozen BK332.out 1
           try go_wp2
           have n0_:=Aside0.mk (blk_drew BK332.out)
           have n1_:=Aside0.mk (zzF HB.out)
           clear BK332
           clear HB
           have BK332:=n0_
           have HB:=n1_
           clear n0_ n1_
           refine start_ (n:=32) (S:=fun w'=>w'.cell? ⟨gb332,0,none⟩ = some (.slice A0_0 l0_0.length c0_0) ∧ w'.cell? ⟨gb332,1,none⟩ = some (.slice A0_1 l0_1.length c0_1)) (ds:=[]) #[false,false,false,false,false,false,false,false,false,false,false,false,false,false,false,false,false,false,false,false,false,false,false,false,false,false,false,false,false,false,false,false] (by kernel_rfl) rfl rfl ⟨(blk_cell BK332.out 0).trans rfl,(blk_cell BK332.out 1).trans rfl⟩ (fun hHeld=>?_);refine with_tabW scarfjointref09_twins.tab6 scarfjointref09_twins.bits6 (fun HT_ HW_=>?_)
           generalize wr.drew = w50 at BK332 HB hHeld ⊢
           refine pure_ (i:=0) (N:=some 50) (v:=?_) (a':=?_) #[true,false,false,false,false,false,false,false,false,false,false,false,false,false,false,false,false,false,false,false,false,false,false,false,false,false,false,false,false,false,false,false] rfl rfl (any_of HT_.out (by kernel_rfl)) (fun _ _ _ h=>h) (Or.inl ⟨by rfl,?_⟩) ?_ ?_
           rotate_left
           ·intro w'
            go_simp
            with_reducible rfl
           rotate_left
           ·simp only [Act.put,zzA,zzB,zzC,i64_w,i32_w]
            rfl
           refine pure_ (i:=1) (N:=some 51) (v:=?_) (a':=?_) #[true,true,false,false,false,false,false,false,false,false,false,false,false,false,false,false,false,false,false,false,false,false,false,false,false,false,false,false,false,false,false,false] rfl rfl (any_of HT_.out (by kernel_rfl)) (fun _ _ _ h=>h) (Or.inl ⟨by rfl,?_⟩) ?_ ?_
           rotate_left
           ·intro w'
            go_simp
            with_reducible rfl
           rotate_left
           ·simp only [Act.put,zzA,zzB,zzC,i64_w,i32_w]
            rfl
           refine pure_ (i:=2) (N:=some 52) (v:=?_) (a':=?_) #[true,true,true,false,false,false,false,false,false,false,false,false,false,false,false,false,false,false,false,false,false,false,false,false,false,false,false,false,false,false,false,false] rfl rfl (any_of HT_.out (by kernel_rfl)) (fun _ _ _ h=>h) (Or.inl ⟨by rfl,?_⟩) ?_ ?_
           rotate_left
           ·intro w'
            go_simp
            with_reducible rfl
           rotate_left
           ·simp only [Act.put,zzA,zzB,zzC,i64_w,i32_w]
            rfl
           refine pure_ (i:=3) (N:=some 53) (v:=?_) (a':=?_) #[true,true,true,true,false,false,false,false,false,false,false,false,false,false,false,false,false,false,false,false,false,false,false,false,false,false,false,false,false,false,false,false] rfl rfl (any_of HT_.out (by kernel_rfl)) (fun _ _ _ h=>h) (Or.inl ⟨by rfl,?_⟩) ?_ ?_
           rotate_left
           ·intro w'
            go_simp
            with_reducible rfl
           rotate_left
           ·simp only [Act.put,zzA,zzB,zzC,i64_w,i32_w]
            rfl
           refine pure_ (i:=4) (N:=some 54) (v:=?_) (a':=?_) #[true,true,true,true,true,false,false,false,false,false,false,false,false,false,false,false,false,false,false,false,false,false,false,false,false,false,false,false,false,false,false,false] rfl rfl (any_of HT_.out (by kernel_rfl)) (fun _ _ _ h=>h) (Or.inl ⟨by rfl,?_⟩) ?_ ?_
           rotate_left
           ·intro w'
            go_simp
            with_reducible rfl
           rotate_left
           ·simp only [Act.put,zzA,zzB,zzC,i64_w,i32_w]
            rfl
           refine pure_ (i:=5) (N:=some 55) (v:=?_) (a':=?_) #[true,true,true,true,true,true,false,false,false,false,false,false,false,false,false,false,false,false,false,false,false,false,false,false,false,false,false,false,false,false,false,false] rfl rfl (any_of HT_.out (by kernel_rfl)) (fun _ _ _ h=>h) (Or.inl ⟨by rfl,?_⟩) ?_ ?_
           rotate_left
           ·intro w'
            go_simp
            with_reducible rfl
           rotate_left
           ·simp only [Act.put,zzA,zzB,zzC,i64_w,i32_w]
            rfl
           refine pure_ (i:=6) (N:=some 56) (v:=?_) (a':=?_) #[true,true,true,true,true,true,true,false,false,false,false,false,false,false,false,false,false,false,false,false,false,false,false,false,false,false,false,false,false,false,false,false] rfl rfl (any_of HT_.out (by kernel_rfl)) (fun _ _ _ h=>h) (Or.inl ⟨by rfl,?_⟩) ?_ ?_
           rotate_left
           ·intro w'
            go_simp
            with_reducible rfl
           rotate_left
           ·simp only [Act.put,zzA,zzB,zzC,i64_w,i32_w]
            rfl
           refine pure_ (i:=7) (N:=some 57) (v:=?_) (a':=?_) #[true,true,true,true,true,true,true,true,false,false,false,false,false,false,false,false,false,false,false,false,false,false,false,false,false,false,false,false,false,false,false,false] rfl rfl (any_of HT_.out (by kernel_rfl)) (fun _ _ _ h=>h) (Or.inl ⟨by rfl,?_⟩) ?_ ?_
           rotate_left
           ·intro w'
            go_simp
            with_reducible rfl
           rotate_left
           ·simp only [Act.put,zzA,zzB,zzC,i64_w,i32_w]
            rfl
           refine pure_ (i:=8) (N:=some 58) (v:=?_) (a':=?_) #[true,true,true,true,true,true,true,true,true,false,false,false,false,false,false,false,false,false,false,false,false,false,false,false,false,false,false,false,false,false,false,false] rfl rfl (any_of HT_.out (by kernel_rfl)) (fun _ _ _ h=>h) (Or.inl ⟨by rfl,?_⟩) ?_ ?_
           rotate_left
           ·intro w'
            go_simp
            with_reducible rfl
           rotate_left
           ·simp only [Act.put,zzA,zzB,zzC,i64_w,i32_w]
            rfl
           refine pure_ (i:=10) (N:=some 60) (v:=?_) (a':=?_) #[true,true,true,true,true,true,true,true,true,false,true,false,false,false,false,false,false,false,false,false,false,false,false,false,false,false,false,false,false,false,false,false] rfl rfl (any_of HT_.out (by kernel_rfl)) (fun _ _ _ h=>h) (Or.inl ⟨by rfl,?_⟩) ?_ ?_
           rotate_left
           ·intro w'
            go_simp
            with_reducible rfl
           rotate_left
           ·simp only [Act.put,zzA,zzB,zzC,i64_w,i32_w]
            rfl
           refine pure_ (i:=11) (N:=some 61) (v:=?_) (a':=?_) #[true,true,true,true,true,true,true,true,true,false,true,true,false,false,false,false,false,false,false,false,false,false,false,false,false,false,false,false,false,false,false,false] rfl rfl (any_of HT_.out (by kernel_rfl)) (fun _ _ _ h=>h) (Or.inl ⟨by rfl,?_⟩) ?_ ?_
           rotate_left
           ·intro w'
            go_simp
            with_reducible rfl
           rotate_left
           ·simp only [Act.put,zzA,zzB,zzC,i64_w,i32_w]
            rfl
           refine pure_ (i:=14) (N:=some 64) (v:=?_) (a':=?_) #[true,true,true,true,true,true,true,true,true,false,true,true,false,false,true,false,false,false,false,false,false,false,false,false,false,false,false,false,false,false,false,false] rfl rfl (any_of HT_.out (by kernel_rfl)) (fun _ _ _ h=>h) (Or.inl ⟨by rfl,?_⟩) ?_ ?_
           rotate_left
           ·intro w'
            go_simp
            with_reducible rfl
           rotate_left
           ·simp only [Act.put,zzA,zzB,zzC,i64_w,i32_w]
            rfl
           refine pure_ (i:=15) (N:=some 65) (v:=?_) (a':=?_) #[true,true,true,true,true,true,true,true,true,false,true,true,false,false,true,true,false,false,false,false,false,false,false,false,false,false,false,false,false,false,false,false] rfl rfl (any_of HT_.out (by kernel_rfl)) (fun _ _ _ h=>h) (Or.inl ⟨by rfl,?_⟩) ?_ ?_
           rotate_left
           ·intro w'
            go_simp
            with_reducible rfl
           rotate_left
           ·simp only [Act.put,zzA,zzB,zzC,i64_w,i32_w]
            rfl
           refine take_ (i:=9) (N:=some 59) (v:=?_) (a':=?_) #[true,true,true,true,true,true,true,true,true,true,true,true,false,false,true,true,false,false,false,false,false,false,false,false,false,false,false,false,false,false,false,false] rfl rfl (take_ofW HT_.out HW_.out (by kernel_rfl)) (fun _ _ _ h=>h) (Or.inl ⟨by rfl,?_⟩) hHeld ?_ ?_
           rotate_left
           ·rintro w' ⟨s0,s1⟩
            go_simp
            with_reducible rfl
           rotate_left
           ·simp only [Act.put,zzA,zzB,zzC,i64_w,i32_w]
            rfl
           refine take_ (i:=13) (N:=some 63) (v:=?_) (a':=?_) #[true,true,true,true,true,true,true,true,true,true,true,true,false,true,true,true,false,false,false,false,false,false,false,false,false,false,false,false,false,false,false,false] rfl rfl (take_ofW HT_.out HW_.out (by kernel_rfl)) (fun _ _ _ h=>h) (Or.inl ⟨by rfl,?_⟩) hHeld ?_ ?_
           rotate_left
           ·rintro w' ⟨s0,s1⟩
            go_simp
            with_reducible rfl
           rotate_left
           ·simp only [Act.put,zzA,zzB,zzC,i64_w,i32_w]
            rfl
           refine one_ (i:=12) (N:=some 62) #[true,true,true,true,true,true,true,true,true,true,true,true,true,true,true,true,false,false,false,false,false,false,false,false,false,false,false,false,false,false,false,false] rfl rfl (one_of HT_.out (by kernel_rfl)) (by decide) (fun K hK=>?_)
           refine goes_ Try.func85 (by kernel_rfl) rfl #[.agg #[.slice A0_0 l0_0.length c0_0,.slice A0_1 l0_1.length c0_1],.int .i64 a1,.int .i64 x7_2] (by rfl) rfl rfl (by (try simp only [List.map_toArray,List.map_cons,List.map_nil]);first|done|rfl|(simp only [List.length_drop,List.length_take];rfl)) ?_
           with_reducible refine (scarfjointref09_types.calls k2 _ _ l0_0 _ _ l0_1 a1 x7_2 t349 _ ?side1 ?side2 ?side3 ?side4 A41.out).mono ?_
           (case side1=>repeat (first|exact (Kd.C_below HR0_0.out HB.out)|(with_reducible refine Kd.C_alloc ?_ _)|(with_reducible refine Kd.C_drewN ?_ _)|(with_reducible refine Kd.C_drew ?_)))
           (case side2=>exact HC0_0.out)
           (case side3=>repeat (first|exact (Kd.C_below HR0_1.out HB.out)|(with_reducible refine Kd.C_alloc ?_ _)|(with_reducible refine Kd.C_drewN ?_ _)|(with_reducible refine Kd.C_drew ?_)))
           (case side4=>exact HC0_1.out)
           rintro e w51 ⟨v350,rfl,ho0,hb⟩
           refine ⟨_,rfl,?_⟩
           have n0_:=Aside0.mk (Kd.R_lower ho0 (below_size (by repeat (first|(with_reducible first|exact HB.out|apply zzD|apply zzE|apply zzF|refine below_set ?_ GE332.out)|exact HB.out))))
           have n1_:=Aside0.mk (blk_below (g:=gb332) (o:=.cells #[.slice A0_0 l0_0.length c0_0,.slice A0_1 l0_1.length c0_1] 30 (0,0)) (by (with_reducible repeat (first|refine blk_drewN ?_ _|refine blk_drew ?_|refine blk_alloc ?_ _));exact BK332.out) hb)
           have n2_:=Aside0.mk (below_step (by repeat (first|(with_reducible first|exact HB.out|apply zzD|apply zzE|apply zzF|refine below_set ?_ GE332.out)|exact HB.out)) hb)
           clear BK332
           clear HB
           have HO351:=n0_
           have BK332:=n1_
           have HB:=n2_
           clear n0_ n1_ n2_
           (try clear hb)
           (try clear hb2)
           (try clear hk)
           (try clear hi)
           (try clear ho0)
           refine hK.out _ _ ⟨(blk_cell BK332.out 0).trans rfl,(blk_cell BK332.out 1).trans rfl⟩ (fun hHeld=>?_)
           clear hK K
           refine norm_ (a':=?_) ?_ ?_
           rotate_left
           ·show Act.put _ (some 62) _ = _
            simp only [Act.put,zzA,zzB,zzC,i64_w,i32_w]
            rfl
           refine one_ (i:=16) (N:=some 66) #[true,true,true,true,true,true,true,true,true,true,true,true,true,true,true,true,true,false,false,false,false,false,false,false,false,false,false,false,false,false,false,false] rfl rfl (one_of HT_.out (by kernel_rfl)) (by decide) (fun K hK=>?_)
           refine goes_ Try.func85 (by kernel_rfl) rfl #[.agg #[.slice A0_0 l0_0.length c0_0,.slice A0_1 l0_1.length c0_1],.int .i64 a2,.int .i64 x7_2] (by rfl) rfl rfl (by (try simp only [List.map_toArray,List.map_cons,List.map_nil]);first|done|rfl|(simp only [List.length_drop,List.length_take];rfl)) ?_
           with_reducible refine (scarfjointref09_types.calls k2 _ _ l0_0 _ _ l0_1 a2 x7_2 t352 _ ?side1 ?side2 ?side3 ?side4 A42.out).mono ?_
           (case side1=>repeat (first|exact (Kd.C_below HR0_0.out HB.out)|(with_reducible refine Kd.C_alloc ?_ _)|(with_reducible refine Kd.C_drewN ?_ _)|(with_reducible refine Kd.C_drew ?_)))
           (case side2=>exact HC0_0.out)
           (case side3=>repeat (first|exact (Kd.C_below HR0_1.out HB.out)|(with_reducible refine Kd.C_alloc ?_ _)|(with_reducible refine Kd.C_drewN ?_ _)|(with_reducible refine Kd.C_drew ?_)))
           (case side4=>exact HC0_1.out)
           rintro e w52 ⟨v353,rfl,ho0,hb⟩
           refine ⟨_,rfl,?_⟩
           have n0_:=Aside0.mk (Kd.R_elder' (by (with_reducible repeat (first|apply Kd.R_alloc|apply Kd.R_drewN|apply Kd.R_drew));exact HO351.out) (Kd.R_base ho0) hb)
           have n1_:=Aside0.mk (Kd.R_lower (Kd.R_new' ho0 (Kd.R_lt (by (with_reducible repeat (first|apply Kd.R_alloc|apply Kd.R_drewN|apply Kd.R_drew));exact HO351.out))) (below_size (by repeat (first|(with_reducible first|exact HB.out|apply zzD|apply zzE|apply zzF|refine below_set ?_ GE332.out)|exact HB.out))))
           have n2_:=Aside0.mk (blk_below (g:=gb332) (o:=.cells #[.slice A0_0 l0_0.length c0_0,.slice A0_1 l0_1.length c0_1] 30 (0,0)) (by (with_reducible repeat (first|refine blk_drewN ?_ _|refine blk_drew ?_|refine blk_alloc ?_ _));exact BK332.out) hb)
           have n3_:=Aside0.mk (below_step (by repeat (first|(with_reducible first|exact HB.out|apply zzD|apply zzE|apply zzF|refine below_set ?_ GE332.out)|exact HB.out)) hb)
           clear HO351
           clear BK332
           clear HB
           have HO351:=n0_
           have HO354:=n1_
           have BK332:=n2_
           have HB:=n3_
           clear n0_ n1_ n2_ n3_
           (try clear hb)
           (try clear hb2)
           (try clear hk)
           (try clear hi)
           (try clear ho0)
           obtain ⟨Ao53,co53,eo53⟩:=Kd.R_slice HO351.out
           (first|subst eo53|(injection eo53 with f1_ f2_ f3_;have f4_:=f1_.symm;have f5_:=f3_.symm;clear f1_ f2_ f3_;subst f4_;subst f5_))
           obtain ⟨Ao54,co54,eo54⟩:=Kd.R_slice HO354.out
           (first|subst eo54|(injection eo54 with f1_ f2_ f3_;have f4_:=f1_.symm;have f5_:=f3_.symm;clear f1_ f2_ f3_;subst f4_;subst f5_))
           refine hK.out _ _ ⟨(blk_cell BK332.out 0).trans rfl,(blk_cell BK332.out 1).trans rfl⟩ (fun hHeld=>?_)
           clear hK K
           refine norm_ (a':=?_) ?_ ?_
           rotate_left
           ·show Act.put _ (some 66) _ = _
            simp only [Act.put,zzA,zzB,zzC,i64_w,i32_w]
            rfl
           refine one_ (i:=17) (N:=some 67) #[true,true,true,true,true,true,true,true,true,true,true,true,true,true,true,true,true,true,false,false,false,false,false,false,false,false,false,false,false,false,false,false] rfl rfl (one_of HT_.out (by kernel_rfl)) (by decide) (fun K hK=>?_)
           refine goes_ Try.func60 (by kernel_rfl) rfl #[.slice Ao53 t349.length co53,.slice Ao54 t352.length co54] (by rfl) rfl rfl (by (try simp only [List.map_toArray,List.map_cons,List.map_nil]);first|done|rfl|(simp only [List.length_drop,List.length_take];rfl)) ?_
           with_reducible refine (scarfjointref09_CompareLists.calls k2 _ _ t349 _ _ t352 t355 _ ?side1 ?side2 ?side3 ?side4 A43.out).mono ?_
           (case side1=>repeat (first|exact (Kd.R_reads' HO351.out).2.2|(with_reducible refine Kd.C_alloc ?_ _)|(with_reducible refine Kd.C_drewN ?_ _)|(with_reducible refine Kd.C_drew ?_)))
           (case side2=>exact (Kd.R_reads' HO351.out).2.1)
           (case side3=>repeat (first|exact (Kd.R_reads' HO354.out).2.2|(with_reducible refine Kd.C_alloc ?_ _)|(with_reducible refine Kd.C_drewN ?_ _)|(with_reducible refine Kd.C_drew ?_)))
           (case side4=>exact (Kd.R_reads' HO354.out).2.1)
           rintro e w' ⟨rfl,⟨nd,rfl⟩⟩
           refine ⟨_,rfl,?_⟩
           refine hK.out _ _ ⟨(blk_cell BK332.out 0).trans rfl,(blk_cell BK332.out 1).trans rfl⟩ (fun hHeld=>?_)
           clear hK K
           refine norm_ (a':=?_) ?_ ?_
           rotate_left
           ·show Act.put _ (some 67) _ = _
            simp only [Act.put,zzA,zzB,zzC,i64_w,i32_w]
            rfl
           refine pure_ (i:=18) (N:=some 68) (v:=?_) (a':=?_) #[true,true,true,true,true,true,true,true,true,true,true,true,true,true,true,true,true,true,true,false,false,false,false,false,false,false,false,false,false,false,false,false] rfl rfl (any_of HT_.out (by kernel_rfl)) (fun _ _ _ h=>h) (Or.inl ⟨by rfl,?_⟩) ?_ ?_
           rotate_left
           ·intro w'
            go_simp
            with_reducible rfl
           rotate_left
           ·simp only [Act.put,zzA,zzB,zzC,i64_w,i32_w]
            rfl
           refine pure_ (i:=19) (N:=some 69) (v:=?_) (a':=?_) #[true,true,true,true,true,true,true,true,true,true,true,true,true,true,true,true,true,true,true,true,false,false,false,false,false,false,false,false,false,false,false,false] rfl rfl (any_of HT_.out (by kernel_rfl)) (fun _ _ _ h=>h) (Or.inl ⟨by rfl,?_⟩) ?_ ?_
           rotate_left
           ·intro w'
            go_simp
            with_reducible rfl
           rotate_left
           ·simp only [Act.put,zzA,zzB,zzC,i64_w,i32_w]
            rfl
           refine pure_ (i:=21) (N:=some 71) (v:=?_) (a':=?_) #[true,true,true,true,true,true,true,true,true,true,true,true,true,true,true,true,true,true,true,true,false,true,false,false,false,false,false,false,false,false,false,false] rfl rfl (any_of HT_.out (by kernel_rfl)) (fun _ _ _ h=>h) (Or.inl ⟨by rfl,?_⟩) ?_ ?_
           rotate_left
           ·intro w'
            go_simp
            with_reducible rfl
           rotate_left
           ·simp only [Act.put,zzA,zzB,zzC,i64_w,i32_w]
            rfl
           refine pure_ (i:=22) (N:=some 72) (v:=?_) (a':=?_) #[true,true,true,true,true,true,true,true,true,true,true,true,true,true,true,true,true,true,true,true,false,true,true,false,false,false,false,false,false,false,false,false] rfl rfl (any_of HT_.out (by kernel_rfl)) (fun _ _ _ h=>h) (Or.inl ⟨by rfl,?_⟩) ?_ ?_
           rotate_left
           ·intro w'
            go_simp
            with_reducible rfl
           rotate_left
           ·simp only [Act.put,zzA,zzB,zzC,i64_w,i32_w]
            rfl
           refine pure_ (i:=25) (N:=some 75) (v:=?_) (a':=?_) #[true,true,true,true,true,true,true,true,true,true,true,true,true,true,true,true,true,true,true,true,false,true,true,false,false,true,false,false,false,false,false,false] rfl rfl (any_of HT_.out (by kernel_rfl)) (fun _ _ _ h=>h) (Or.inl ⟨by rfl,?_⟩) ?_ ?_
           rotate_left
           ·intro w'
            go_simp
            with_reducible rfl
           rotate_left
           ·simp only [Act.put,zzA,zzB,zzC,i64_w,i32_w]
            rfl
           refine pure_ (i:=26) (N:=some 76) (v:=?_) (a':=?_) #[true,true,true,true,true,true,true,true,true,true,true,true,true,true,true,true,true,true,true,true,false,true,true,false,false,true,true,false,false,false,false,false] rfl rfl (any_of HT_.out (by kernel_rfl)) (fun _ _ _ h=>h) (Or.inl ⟨by rfl,?_⟩) ?_ ?_
           rotate_left
           ·intro w'
            go_simp
            with_reducible rfl
           rotate_left
           ·simp only [Act.put,zzA,zzB,zzC,i64_w,i32_w]
            rfl
           refine take_ (i:=20) (N:=some 70) (v:=?_) (a':=?_) #[true,true,true,true,true,true,true,true,true,true,true,true,true,true,true,true,true,true,true,true,true,true,true,false,false,true,true,false,false,false,false,false] rfl rfl (take_ofW HT_.out HW_.out (by kernel_rfl)) (fun _ _ _ h=>h) (Or.inl ⟨by rfl,?_⟩) hHeld ?_ ?_
           rotate_left
           ·rintro w' ⟨s0,s1⟩
            go_simp
            with_reducible rfl
           rotate_left
           ·simp only [Act.put,zzA,zzB,zzC,i64_w,i32_w]
            rfl
           refine take_ (i:=24) (N:=some 74) (v:=?_) (a':=?_) #[true,true,true,true,true,true,true,true,true,true,true,true,true,true,true,true,true,true,true,true,true,true,true,false,true,true,true,false,false,false,false,false] rfl rfl (take_ofW HT_.out HW_.out (by kernel_rfl)) (fun _ _ _ h=>h) (Or.inl ⟨by rfl,?_⟩) hHeld ?_ ?_
           rotate_left
           ·rintro w' ⟨s0,s1⟩
            go_simp
            with_reducible rfl
           rotate_left
           ·simp only [Act.put,zzA,zzB,zzC,i64_w,i32_w]
            rfl
           refine one_ (i:=23) (N:=some 73) #[true,true,true,true,true,true,true,true,true,true,true,true,true,true,true,true,true,true,true,true,true,true,true,true,true,true,true,false,false,false,false,false] rfl rfl (one_of HT_.out (by kernel_rfl)) (by decide) (fun K hK=>?_)
           refine goes_ Try.func85 (by kernel_rfl) rfl #[.agg #[.slice A0_0 l0_0.length c0_0,.slice A0_1 l0_1.length c0_1],.int .i64 x7_2,.int .i64 a1] (by rfl) rfl rfl (by (try simp only [List.map_toArray,List.map_cons,List.map_nil]);first|done|rfl|(simp only [List.length_drop,List.length_take];rfl)) ?_
           with_reducible refine (scarfjointref09_types.calls k2 _ _ l0_0 _ _ l0_1 x7_2 a1 t356 _ ?side1 ?side2 ?side3 ?side4 A45.out).mono ?_
           (case side1=>repeat (first|exact (Kd.C_below HR0_0.out (by repeat (first|(with_reducible first|exact HB.out|apply zzD|apply zzE|apply zzF|refine below_set ?_ GE332.out)|exact HB.out)))|(with_reducible refine Kd.C_alloc ?_ _)|(with_reducible refine Kd.C_drewN ?_ _)|(with_reducible refine Kd.C_drew ?_)))
           (case side2=>exact HC0_0.out)
           (case side3=>repeat (first|exact (Kd.C_below HR0_1.out (by repeat (first|(with_reducible first|exact HB.out|apply zzD|apply zzE|apply zzF|refine below_set ?_ GE332.out)|exact HB.out)))|(with_reducible refine Kd.C_alloc ?_ _)|(with_reducible refine Kd.C_drewN ?_ _)|(with_reducible refine Kd.C_drew ?_)))
           (case side4=>exact HC0_1.out)
           rintro e w55 ⟨v357,rfl,ho0,hb⟩
           refine ⟨_,rfl,?_⟩
           have n0_:=Aside0.mk (Kd.R_elder' (by (with_reducible repeat (first|apply Kd.R_alloc|apply Kd.R_drewN|apply Kd.R_drew));exact HO351.out) (Kd.R_base ho0) hb)
           have n1_:=Aside0.mk (Kd.R_elder' (by (with_reducible repeat (first|apply Kd.R_alloc|apply Kd.R_drewN|apply Kd.R_drew));exact HO354.out) (Kd.R_base ho0) hb)
           have n2_:=Aside0.mk (Kd.R_lower (Kd.R_new' (Kd.R_new' ho0 (Kd.R_lt (by (with_reducible repeat (first|apply Kd.R_alloc|apply Kd.R_drewN|apply Kd.R_drew));exact HO351.out))) (Kd.R_lt (by (with_reducible repeat (first|apply Kd.R_alloc|apply Kd.R_drewN|apply Kd.R_drew));exact HO354.out))) (below_size (by repeat (first|(with_reducible first|exact HB.out|apply zzD|apply zzE|apply zzF|refine below_set ?_ GE332.out)|exact HB.out))))
           have n3_:=Aside0.mk (blk_below (g:=gb332) (o:=.cells #[.slice A0_0 l0_0.length c0_0,.slice A0_1 l0_1.length c0_1] 30 (0,0)) (by (with_reducible repeat (first|refine blk_drewN ?_ _|refine blk_drew ?_|refine blk_alloc ?_ _));exact BK332.out) hb)
           have n4_:=Aside0.mk (below_step (by repeat (first|(with_reducible first|exact HB.out|apply zzD|apply zzE|apply zzF|refine below_set ?_ GE332.out)|exact HB.out)) hb)
           clear HO351
           clear HO354
           clear BK332
           clear HB
           have HO351:=n0_
           have HO354:=n1_
           have HO358:=n2_
           have BK332:=n3_
           have HB:=n4_
           clear n0_ n1_ n2_ n3_ n4_
           (try clear hb)
           (try clear hb2)
           (try clear hk)
           (try clear hi)
           (try clear ho0)
           refine hK.out _ _ ⟨(blk_cell BK332.out 0).trans rfl,(blk_cell BK332.out 1).trans rfl⟩ (fun hHeld=>?_)
           clear hK K
           refine norm_ (a':=?_) ?_ ?_
           rotate_left
           ·show Act.put _ (some 73) _ = _
            simp only [Act.put,zzA,zzB,zzC,i64_w,i32_w]
            rfl
           refine one_ (i:=27) (N:=some 77) #[true,true,true,true,true,true,true,true,true,true,true,true,true,true,true,true,true,true,true,true,true,true,true,true,true,true,true,true,false,false,false,false] rfl rfl (one_of HT_.out (by kernel_rfl)) (by decide) (fun K hK=>?_)
           refine goes_ Try.func85 (by kernel_rfl) rfl #[.agg #[.slice A0_0 l0_0.length c0_0,.slice A0_1 l0_1.length c0_1],.int .i64 x7_2,.int .i64 a2] (by rfl) rfl rfl (by (try simp only [List.map_toArray,List.map_cons,List.map_nil]);first|done|rfl|(simp only [List.length_drop,List.length_take];rfl)) ?_
           with_reducible refine (scarfjointref09_types.calls k2 _ _ l0_0 _ _ l0_1 x7_2 a2 t359 _ ?side1 ?side2 ?side3 ?side4 A46.out).mono ?_
           (case side1=>repeat (first|exact (Kd.C_below HR0_0.out HB.out)|(with_reducible refine Kd.C_alloc ?_ _)|(with_reducible refine Kd.C_drewN ?_ _)|(with_reducible refine Kd.C_drew ?_)))
           (case side2=>exact HC0_0.out)
           (case side3=>repeat (first|exact (Kd.C_below HR0_1.out HB.out)|(with_reducible refine Kd.C_alloc ?_ _)|(with_reducible refine Kd.C_drewN ?_ _)|(with_reducible refine Kd.C_drew ?_)))
           (case side4=>exact HC0_1.out)
           rintro e w56 ⟨v360,rfl,ho0,hb⟩
           refine ⟨_,rfl,?_⟩
           have n0_:=Aside0.mk (Kd.R_elder' (by (with_reducible repeat (first|apply Kd.R_alloc|apply Kd.R_drewN|apply Kd.R_drew));exact HO351.out) (Kd.R_base ho0) hb)
           have n1_:=Aside0.mk (Kd.R_elder' (by (with_reducible repeat (first|apply Kd.R_alloc|apply Kd.R_drewN|apply Kd.R_drew));exact HO354.out) (Kd.R_base ho0) hb)
           have n2_:=Aside0.mk (Kd.R_elder' (by (with_reducible repeat (first|apply Kd.R_alloc|apply Kd.R_drewN|apply Kd.R_drew));exact HO358.out) (Kd.R_base ho0) hb)
           have n3_:=Aside0.mk (Kd.R_lower (Kd.R_new' (Kd.R_new' (Kd.R_new' ho0 (Kd.R_lt (by (with_reducible repeat (first|apply Kd.R_alloc|apply Kd.R_drewN|apply Kd.R_drew));exact HO351.out))) (Kd.R_lt (by (with_reducible repeat (first|apply Kd.R_alloc|apply Kd.R_drewN|apply Kd.R_drew));exact HO354.out))) (Kd.R_lt (by (with_reducible repeat (first|apply Kd.R_alloc|apply Kd.R_drewN|apply Kd.R_drew));exact HO358.out))) (below_size (by repeat (first|(with_reducible first|exact HB.out|apply zzD|apply zzE|apply zzF|refine below_set ?_ GE332.out)|exact HB.out))))
           have n4_:=Aside0.mk (blk_below (g:=gb332) (o:=.cells #[.slice A0_0 l0_0.length c0_0,.slice A0_1 l0_1.length c0_1] 30 (0,0)) (by (with_reducible repeat (first|refine blk_drewN ?_ _|refine blk_drew ?_|refine blk_alloc ?_ _));exact BK332.out) hb)
           have n5_:=Aside0.mk (below_step (by repeat (first|(with_reducible first|exact HB.out|apply zzD|apply zzE|apply zzF|refine below_set ?_ GE332.out)|exact HB.out)) hb)
           clear HO351
           clear HO354
           clear HO358
           clear BK332
           clear HB
           have HO351:=n0_
           have HO354:=n1_
           have HO358:=n2_
           have HO361:=n3_
           have BK332:=n4_
           have HB:=n5_
           clear n0_ n1_ n2_ n3_ n4_ n5_
           (try clear hb)
           (try clear hb2)
           (try clear hk)
           (try clear hi)
           (try clear ho0)
           obtain ⟨Ao57,co57,eo57⟩:=Kd.R_slice HO358.out
           (first|subst eo57|(injection eo57 with f1_ f2_ f3_;have f4_:=f1_.symm;have f5_:=f3_.symm;clear f1_ f2_ f3_;subst f4_;subst f5_))
           obtain ⟨Ao58,co58,eo58⟩:=Kd.R_slice HO361.out
           (first|subst eo58|(injection eo58 with f1_ f2_ f3_;have f4_:=f1_.symm;have f5_:=f3_.symm;clear f1_ f2_ f3_;subst f4_;subst f5_))
           refine hK.out _ _ ⟨(blk_cell BK332.out 0).trans rfl,(blk_cell BK332.out 1).trans rfl⟩ (fun hHeld=>?_)
           clear hK K
           refine norm_ (a':=?_) ?_ ?_
           rotate_left
           ·show Act.put _ (some 77) _ = _
            simp only [Act.put,zzA,zzB,zzC,i64_w,i32_w]
            rfl
           refine one_ (i:=28) (N:=some 78) #[true,true,true,true,true,true,true,true,true,true,true,true,true,true,true,true,true,true,true,true,true,true,true,true,true,true,true,true,true,false,false,false] rfl rfl (one_of HT_.out (by kernel_rfl)) (by decide) (fun K hK=>?_)
           refine goes_ Try.func60 (by kernel_rfl) rfl #[.slice Ao57 t356.length co57,.slice Ao58 t359.length co58] (by rfl) rfl rfl (by (try simp only [List.map_toArray,List.map_cons,List.map_nil]);first|done|rfl|(simp only [List.length_drop,List.length_take];rfl)) ?_
           with_reducible refine (scarfjointref09_CompareLists.calls k2 _ _ t356 _ _ t359 t362 _ ?side1 ?side2 ?side3 ?side4 A47.out).mono ?_
           (case side1=>repeat (first|exact (Kd.R_reads' HO358.out).2.2|(with_reducible refine Kd.C_alloc ?_ _)|(with_reducible refine Kd.C_drewN ?_ _)|(with_reducible refine Kd.C_drew ?_)))
           (case side2=>exact (Kd.R_reads' HO358.out).2.1)
           (case side3=>repeat (first|exact (Kd.R_reads' HO361.out).2.2|(with_reducible refine Kd.C_alloc ?_ _)|(with_reducible refine Kd.C_drewN ?_ _)|(with_reducible refine Kd.C_drew ?_)))
           (case side4=>exact (Kd.R_reads' HO361.out).2.1)
           rintro e w' ⟨rfl,⟨nd,rfl⟩⟩
           refine ⟨_,rfl,?_⟩
           refine hK.out _ _ ⟨(blk_cell BK332.out 0).trans rfl,(blk_cell BK332.out 1).trans rfl⟩ (fun hHeld=>?_)
           clear hK K
           refine norm_ (a':=?_) ?_ ?_
           rotate_left
           ·show Act.put _ (some 78) _ = _
            simp only [Act.put,zzA,zzB,zzC,i64_w,i32_w]
            rfl
           refine pure_ (i:=29) (N:=some 79) (v:=?_) (a':=?_) #[true,true,true,true,true,true,true,true,true,true,true,true,true,true,true,true,true,true,true,true,true,true,true,true,true,true,true,true,true,true,false,false] rfl rfl (any_of HT_.out (by kernel_rfl)) (fun _ _ _ h=>h) (Or.inl ⟨by rfl,?_⟩) ?_ ?_
           rotate_left
           ·intro w'
            go_simp
            with_reducible rfl
           rotate_left
           ·simp only [Act.put,zzA,zzB,zzC,i64_w,i32_w]
            rfl
           refine pure_ (i:=30) (N:=some 80) (v:=?_) (a':=?_) #[true,true,true,true,true,true,true,true,true,true,true,true,true,true,true,true,true,true,true,true,true,true,true,true,true,true,true,true,true,true,true,false] rfl rfl (any_of HT_.out (by kernel_rfl)) (fun _ _ _ h=>h) (Or.inl ⟨by rfl,?_⟩) ?_ ?_
           rotate_left
           ·intro w'
            go_simp
            with_reducible rfl
           rotate_left
           ·simp only [Act.put,zzA,zzB,zzC,i64_w,i32_w]
            rfl
           refine pure_ (i:=31) (N:=some 81) (v:=?_) (a':=?_) #[true,true,true,true,true,true,true,true,true,true,true,true,true,true,true,true,true,true,true,true,true,true,true,true,true,true,true,true,true,true,true,true] rfl rfl (any_of HT_.out (by kernel_rfl)) (fun _ _ _ h=>h) (Or.inl ⟨by rfl,?_⟩) ?_ ?_
           rotate_left
           ·intro w'
            go_simp
            with_reducible rfl
           rotate_left
           ·simp only [Act.put,zzA,zzB,zzC,i64_w,i32_w]
            rfl
           refine done_ (done_of HT_.out (by kernel_rfl)) ?_
           try go_wp2
           go_roundg k2
           case measure=>have:=HJ3.out;have:=HK2.out;omega
           case rel=>exact ⟨(wrap64 (x7_2 + 1)),(by first|rfl|(simp;done)|(simp [*];done)),H',⟨by have:=HJ3.out;have:=HK2.out;omega⟩,⟨by (with_reducible repeat (first|refine blk_drewN ?_ _|refine blk_drew ?_|refine blk_alloc ?_ _));exact BK332.out⟩,⟨by repeat (first|(with_reducible first|exact HB.out|apply zzD|apply zzE|apply zzF|refine below_set ?_ GE332.out)|exact HB.out)⟩⟩
          ·rw [if_neg c48] at H
           have c48b0 : (t362 == 0) = false:=beq_eq_false_iff_ne.mpr c48
           have c48b1 : (t362 != 0) = true:=bne_iff_ne.mpr c48
           obtain rfl:=Option.some.inj H
           have hcz59_0 : wr.cell? ⟨gb332,0,none⟩ = some (.slice A0_0 l0_0.length c0_0):=(blk_cell BK332.out 0).trans rfl
           have hcz59_1 : wr.cell? ⟨gb332,1,none⟩ = some (.slice A0_1 l0_1.length c0_1):=(blk_cell BK332.out 1).trans rfl
           have hfz59_0:=blk_frozen BK332.out 0
           have hfz59_1:=blk_frozen BK332.out 1
           try go_wp2
           have n0_:=Aside0.mk (blk_drew BK332.out)
           have n1_:=Aside0.mk (zzF HB.out)
           clear BK332
           clear HB
           have BK332:=n0_
           have HB:=n1_
           clear n0_ n1_
           refine start_ (n:=32) (S:=fun w'=>w'.cell? ⟨gb332,0,none⟩ = some (.slice A0_0 l0_0.length c0_0) ∧ w'.cell? ⟨gb332,1,none⟩ = some (.slice A0_1 l0_1.length c0_1)) (ds:=[]) #[false,false,false,false,false,false,false,false,false,false,false,false,false,false,false,false,false,false,false,false,false,false,false,false,false,false,false,false,false,false,false,false] (by kernel_rfl) rfl rfl ⟨(blk_cell BK332.out 0).trans rfl,(blk_cell BK332.out 1).trans rfl⟩ (fun hHeld=>?_);refine with_tabW scarfjointref09_twins.tab6 scarfjointref09_twins.bits6 (fun HT_ HW_=>?_)
           generalize wr.drew = w60 at BK332 HB hHeld ⊢
           refine pure_ (i:=0) (N:=some 50) (v:=?_) (a':=?_) #[true,false,false,false,false,false,false,false,false,false,false,false,false,false,false,false,false,false,false,false,false,false,false,false,false,false,false,false,false,false,false,false] rfl rfl (any_of HT_.out (by kernel_rfl)) (fun _ _ _ h=>h) (Or.inl ⟨by rfl,?_⟩) ?_ ?_
           rotate_left
           ·intro w'
            go_simp
            with_reducible rfl
           rotate_left
           ·simp only [Act.put,zzA,zzB,zzC,i64_w,i32_w]
            rfl
           refine pure_ (i:=1) (N:=some 51) (v:=?_) (a':=?_) #[true,true,false,false,false,false,false,false,false,false,false,false,false,false,false,false,false,false,false,false,false,false,false,false,false,false,false,false,false,false,false,false] rfl rfl (any_of HT_.out (by kernel_rfl)) (fun _ _ _ h=>h) (Or.inl ⟨by rfl,?_⟩) ?_ ?_
           rotate_left
           ·intro w'
            go_simp
            with_reducible rfl
           rotate_left
           ·simp only [Act.put,zzA,zzB,zzC,i64_w,i32_w]
            rfl
           refine pure_ (i:=2) (N:=some 52) (v:=?_) (a':=?_) #[true,true,true,false,false,false,false,false,false,false,false,false,false,false,false,false,false,false,false,false,false,false,false,false,false,false,false,false,false,false,false,false] rfl rfl (any_of HT_.out (by kernel_rfl)) (fun _ _ _ h=>h) (Or.inl ⟨by rfl,?_⟩) ?_ ?_
           rotate_left
           ·intro w'
            go_simp
            with_reducible rfl
           rotate_left
           ·simp only [Act.put,zzA,zzB,zzC,i64_w,i32_w]
            rfl
           refine pure_ (i:=3) (N:=some 53) (v:=?_) (a':=?_) #[true,true,true,true,false,false,false,false,false,false,false,false,false,false,false,false,false,false,false,false,false,false,false,false,false,false,false,false,false,false,false,false] rfl rfl (any_of HT_.out (by kernel_rfl)) (fun _ _ _ h=>h) (Or.inl ⟨by rfl,?_⟩) ?_ ?_
           rotate_left
           ·intro w'
            go_simp
            with_reducible rfl
           rotate_left
           ·simp only [Act.put,zzA,zzB,zzC,i64_w,i32_w]
            rfl
           refine pure_ (i:=4) (N:=some 54) (v:=?_) (a':=?_) #[true,true,true,true,true,false,false,false,false,false,false,false,false,false,false,false,false,false,false,false,false,false,false,false,false,false,false,false,false,false,false,false] rfl rfl (any_of HT_.out (by kernel_rfl)) (fun _ _ _ h=>h) (Or.inl ⟨by rfl,?_⟩) ?_ ?_
           rotate_left
           ·intro w'
            go_simp
            with_reducible rfl
           rotate_left
           ·simp only [Act.put,zzA,zzB,zzC,i64_w,i32_w]
            rfl
           refine pure_ (i:=5) (N:=some 55) (v:=?_) (a':=?_) #[true,true,true,true,true,true,false,false,false,false,false,false,false,false,false,false,false,false,false,false,false,false,false,false,false,false,false,false,false,false,false,false] rfl rfl (any_of HT_.out (by kernel_rfl)) (fun _ _ _ h=>h) (Or.inl ⟨by rfl,?_⟩) ?_ ?_
           rotate_left
           ·intro w'
            go_simp
            with_reducible rfl
           rotate_left
           ·simp only [Act.put,zzA,zzB,zzC,i64_w,i32_w]
            rfl
           refine pure_ (i:=6) (N:=some 56) (v:=?_) (a':=?_) #[true,true,true,true,true,true,true,false,false,false,false,false,false,false,false,false,false,false,false,false,false,false,false,false,false,false,false,false,false,false,false,false] rfl rfl (any_of HT_.out (by kernel_rfl)) (fun _ _ _ h=>h) (Or.inl ⟨by rfl,?_⟩) ?_ ?_
           rotate_left
           ·intro w'
            go_simp
            with_reducible rfl
           rotate_left
           ·simp only [Act.put,zzA,zzB,zzC,i64_w,i32_w]
            rfl
           refine pure_ (i:=7) (N:=some 57) (v:=?_) (a':=?_) #[true,true,true,true,true,true,true,true,false,false,false,false,false,false,false,false,false,false,false,false,false,false,false,false,false,false,false,false,false,false,false,false] rfl rfl (any_of HT_.out (by kernel_rfl)) (fun _ _ _ h=>h) (Or.inl ⟨by rfl,?_⟩) ?_ ?_
           rotate_left
           ·intro w'
            go_simp
            with_reducible rfl
           rotate_left
           ·simp only [Act.put,zzA,zzB,zzC,i64_w,i32_w]
            rfl
           refine pure_ (i:=8) (N:=some 58) (v:=?_) (a':=?_) #[true,true,true,true,true,true,true,true,true,false,false,false,false,false,false,false,false,false,false,false,false,false,false,false,false,false,false,false,false,false,false,false] rfl rfl (any_of HT_.out (by kernel_rfl)) (fun _ _ _ h=>h) (Or.inl ⟨by rfl,?_⟩) ?_ ?_
           rotate_left
           ·intro w'
            go_simp
            with_reducible rfl
           rotate_left
           ·simp only [Act.put,zzA,zzB,zzC,i64_w,i32_w]
            rfl
           refine pure_ (i:=10) (N:=some 60) (v:=?_) (a':=?_) #[true,true,true,true,true,true,true,true,true,false,true,false,false,false,false,false,false,false,false,false,false,false,false,false,false,false,false,false,false,false,false,false] rfl rfl (any_of HT_.out (by kernel_rfl)) (fun _ _ _ h=>h) (Or.inl ⟨by rfl,?_⟩) ?_ ?_
           rotate_left
           ·intro w'
            go_simp
            with_reducible rfl
           rotate_left
           ·simp only [Act.put,zzA,zzB,zzC,i64_w,i32_w]
            rfl
           refine pure_ (i:=11) (N:=some 61) (v:=?_) (a':=?_) #[true,true,true,true,true,true,true,true,true,false,true,true,false,false,false,false,false,false,false,false,false,false,false,false,false,false,false,false,false,false,false,false] rfl rfl (any_of HT_.out (by kernel_rfl)) (fun _ _ _ h=>h) (Or.inl ⟨by rfl,?_⟩) ?_ ?_
           rotate_left
           ·intro w'
            go_simp
            with_reducible rfl
           rotate_left
           ·simp only [Act.put,zzA,zzB,zzC,i64_w,i32_w]
            rfl
           refine pure_ (i:=14) (N:=some 64) (v:=?_) (a':=?_) #[true,true,true,true,true,true,true,true,true,false,true,true,false,false,true,false,false,false,false,false,false,false,false,false,false,false,false,false,false,false,false,false] rfl rfl (any_of HT_.out (by kernel_rfl)) (fun _ _ _ h=>h) (Or.inl ⟨by rfl,?_⟩) ?_ ?_
           rotate_left
           ·intro w'
            go_simp
            with_reducible rfl
           rotate_left
           ·simp only [Act.put,zzA,zzB,zzC,i64_w,i32_w]
            rfl
           refine pure_ (i:=15) (N:=some 65) (v:=?_) (a':=?_) #[true,true,true,true,true,true,true,true,true,false,true,true,false,false,true,true,false,false,false,false,false,false,false,false,false,false,false,false,false,false,false,false] rfl rfl (any_of HT_.out (by kernel_rfl)) (fun _ _ _ h=>h) (Or.inl ⟨by rfl,?_⟩) ?_ ?_
           rotate_left
           ·intro w'
            go_simp
            with_reducible rfl
           rotate_left
           ·simp only [Act.put,zzA,zzB,zzC,i64_w,i32_w]
            rfl
           refine take_ (i:=9) (N:=some 59) (v:=?_) (a':=?_) #[true,true,true,true,true,true,true,true,true,true,true,true,false,false,true,true,false,false,false,false,false,false,false,false,false,false,false,false,false,false,false,false] rfl rfl (take_ofW HT_.out HW_.out (by kernel_rfl)) (fun _ _ _ h=>h) (Or.inl ⟨by rfl,?_⟩) hHeld ?_ ?_
           rotate_left
           ·rintro w' ⟨s0,s1⟩
            go_simp
            with_reducible rfl
           rotate_left
           ·simp only [Act.put,zzA,zzB,zzC,i64_w,i32_w]
            rfl
           refine take_ (i:=13) (N:=some 63) (v:=?_) (a':=?_) #[true,true,true,true,true,true,true,true,true,true,true,true,false,true,true,true,false,false,false,false,false,false,false,false,false,false,false,false,false,false,false,false] rfl rfl (take_ofW HT_.out HW_.out (by kernel_rfl)) (fun _ _ _ h=>h) (Or.inl ⟨by rfl,?_⟩) hHeld ?_ ?_
           rotate_left
           ·rintro w' ⟨s0,s1⟩
            go_simp
            with_reducible rfl
           rotate_left
           ·simp only [Act.put,zzA,zzB,zzC,i64_w,i32_w]
            rfl
           refine one_ (i:=12) (N:=some 62) #[true,true,true,true,true,true,true,true,true,true,true,true,true,true,true,true,false,false,false,false,false,false,false,false,false,false,false,false,false,false,false,false] rfl rfl (one_of HT_.out (by kernel_rfl)) (by decide) (fun K hK=>?_)
           refine goes_ Try.func85 (by kernel_rfl) rfl #[.agg #[.slice A0_0 l0_0.length c0_0,.slice A0_1 l0_1.length c0_1],.int .i64 a1,.int .i64 x7_2] (by rfl) rfl rfl (by (try simp only [List.map_toArray,List.map_cons,List.map_nil]);first|done|rfl|(simp only [List.length_drop,List.length_take];rfl)) ?_
           with_reducible refine (scarfjointref09_types.calls k2 _ _ l0_0 _ _ l0_1 a1 x7_2 t349 _ ?side1 ?side2 ?side3 ?side4 A41.out).mono ?_
           (case side1=>repeat (first|exact (Kd.C_below HR0_0.out HB.out)|(with_reducible refine Kd.C_alloc ?_ _)|(with_reducible refine Kd.C_drewN ?_ _)|(with_reducible refine Kd.C_drew ?_)))
           (case side2=>exact HC0_0.out)
           (case side3=>repeat (first|exact (Kd.C_below HR0_1.out HB.out)|(with_reducible refine Kd.C_alloc ?_ _)|(with_reducible refine Kd.C_drewN ?_ _)|(with_reducible refine Kd.C_drew ?_)))
           (case side4=>exact HC0_1.out)
           rintro e w61 ⟨v350,rfl,ho0,hb⟩
           refine ⟨_,rfl,?_⟩
           have n0_:=Aside0.mk (Kd.R_lower ho0 (below_size (by repeat (first|(with_reducible first|exact HB.out|apply zzD|apply zzE|apply zzF|refine below_set ?_ GE332.out)|exact HB.out))))
           have n1_:=Aside0.mk (blk_below (g:=gb332) (o:=.cells #[.slice A0_0 l0_0.length c0_0,.slice A0_1 l0_1.length c0_1] 30 (0,0)) (by (with_reducible repeat (first|refine blk_drewN ?_ _|refine blk_drew ?_|refine blk_alloc ?_ _));exact BK332.out) hb)
           have n2_:=Aside0.mk (below_step (by repeat (first|(with_reducible first|exact HB.out|apply zzD|apply zzE|apply zzF|refine below_set ?_ GE332.out)|exact HB.out)) hb)
           clear BK332
           clear HB
           have HO351:=n0_
           have BK332:=n1_
           have HB:=n2_
           clear n0_ n1_ n2_
           (try clear hb)
           (try clear hb2)
           (try clear hk)
           (try clear hi)
           (try clear ho0)
           refine hK.out _ _ ⟨(blk_cell BK332.out 0).trans rfl,(blk_cell BK332.out 1).trans rfl⟩ (fun hHeld=>?_)
           clear hK K
           refine norm_ (a':=?_) ?_ ?_
           rotate_left
           ·show Act.put _ (some 62) _ = _
            simp only [Act.put,zzA,zzB,zzC,i64_w,i32_w]
            rfl
           refine one_ (i:=16) (N:=some 66) #[true,true,true,true,true,true,true,true,true,true,true,true,true,true,true,true,true,false,false,false,false,false,false,false,false,false,false,false,false,false,false,false] rfl rfl (one_of HT_.out (by kernel_rfl)) (by decide) (fun K hK=>?_)
           refine goes_ Try.func85 (by kernel_rfl) rfl #[.agg #[.slice A0_0 l0_0.length c0_0,.slice A0_1 l0_1.length c0_1],.int .i64 a2,.int .i64 x7_2] (by rfl) rfl rfl (by (try simp only [List.map_toArray,List.map_cons,List.map_nil]);first|done|rfl|(simp only [List.length_drop,List.length_take];rfl)) ?_
           with_reducible refine (scarfjointref09_types.calls k2 _ _ l0_0 _ _ l0_1 a2 x7_2 t352 _ ?side1 ?side2 ?side3 ?side4 A42.out).mono ?_
           (case side1=>repeat (first|exact (Kd.C_below HR0_0.out HB.out)|(with_reducible refine Kd.C_alloc ?_ _)|(with_reducible refine Kd.C_drewN ?_ _)|(with_reducible refine Kd.C_drew ?_)))
           (case side2=>exact HC0_0.out)
           (case side3=>repeat (first|exact (Kd.C_below HR0_1.out HB.out)|(with_reducible refine Kd.C_alloc ?_ _)|(with_reducible refine Kd.C_drewN ?_ _)|(with_reducible refine Kd.C_drew ?_)))
           (case side4=>exact HC0_1.out)
           rintro e w62 ⟨v353,rfl,ho0,hb⟩
           refine ⟨_,rfl,?_⟩
           have n0_:=Aside0.mk (Kd.R_elder' (by (with_reducible repeat (first|apply Kd.R_alloc|apply Kd.R_drewN|apply Kd.R_drew));exact HO351.out) (Kd.R_base ho0) hb)
           have n1_:=Aside0.mk (Kd.R_lower (Kd.R_new' ho0 (Kd.R_lt (by (with_reducible repeat (first|apply Kd.R_alloc|apply Kd.R_drewN|apply Kd.R_drew));exact HO351.out))) (below_size (by repeat (first|(with_reducible first|exact HB.out|apply zzD|apply zzE|apply zzF|refine below_set ?_ GE332.out)|exact HB.out))))
           have n2_:=Aside0.mk (blk_below (g:=gb332) (o:=.cells #[.slice A0_0 l0_0.length c0_0,.slice A0_1 l0_1.length c0_1] 30 (0,0)) (by (with_reducible repeat (first|refine blk_drewN ?_ _|refine blk_drew ?_|refine blk_alloc ?_ _));exact BK332.out) hb)
           have n3_:=Aside0.mk (below_step (by repeat (first|(with_reducible first|exact HB.out|apply zzD|apply zzE|apply zzF|refine below_set ?_ GE332.out)|exact HB.out)) hb)
           clear HO351
           clear BK332
           clear HB
           have HO351:=n0_
           have HO354:=n1_
           have BK332:=n2_
           have HB:=n3_
           clear n0_ n1_ n2_ n3_
           (try clear hb)
           (try clear hb2)
           (try clear hk)
           (try clear hi)
           (try clear ho0)
           obtain ⟨Ao63,co63,eo63⟩:=Kd.R_slice HO351.out
           (first|subst eo63|(injection eo63 with f1_ f2_ f3_;have f4_:=f1_.symm;have f5_:=f3_.symm;clear f1_ f2_ f3_;subst f4_;subst f5_))
           obtain ⟨Ao64,co64,eo64⟩:=Kd.R_slice HO354.out
           (first|subst eo64|(injection eo64 with f1_ f2_ f3_;have f4_:=f1_.symm;have f5_:=f3_.symm;clear f1_ f2_ f3_;subst f4_;subst f5_))
           refine hK.out _ _ ⟨(blk_cell BK332.out 0).trans rfl,(blk_cell BK332.out 1).trans rfl⟩ (fun hHeld=>?_)
           clear hK K
           refine norm_ (a':=?_) ?_ ?_
           rotate_left
           ·show Act.put _ (some 66) _ = _
            simp only [Act.put,zzA,zzB,zzC,i64_w,i32_w]
            rfl
           refine one_ (i:=17) (N:=some 67) #[true,true,true,true,true,true,true,true,true,true,true,true,true,true,true,true,true,true,false,false,false,false,false,false,false,false,false,false,false,false,false,false] rfl rfl (one_of HT_.out (by kernel_rfl)) (by decide) (fun K hK=>?_)
           refine goes_ Try.func60 (by kernel_rfl) rfl #[.slice Ao63 t349.length co63,.slice Ao64 t352.length co64] (by rfl) rfl rfl (by (try simp only [List.map_toArray,List.map_cons,List.map_nil]);first|done|rfl|(simp only [List.length_drop,List.length_take];rfl)) ?_
           with_reducible refine (scarfjointref09_CompareLists.calls k2 _ _ t349 _ _ t352 t355 _ ?side1 ?side2 ?side3 ?side4 A43.out).mono ?_
           (case side1=>repeat (first|exact (Kd.R_reads' HO351.out).2.2|(with_reducible refine Kd.C_alloc ?_ _)|(with_reducible refine Kd.C_drewN ?_ _)|(with_reducible refine Kd.C_drew ?_)))
           (case side2=>exact (Kd.R_reads' HO351.out).2.1)
           (case side3=>repeat (first|exact (Kd.R_reads' HO354.out).2.2|(with_reducible refine Kd.C_alloc ?_ _)|(with_reducible refine Kd.C_drewN ?_ _)|(with_reducible refine Kd.C_drew ?_)))
           (case side4=>exact (Kd.R_reads' HO354.out).2.1)
           rintro e w' ⟨rfl,⟨nd,rfl⟩⟩
           refine ⟨_,rfl,?_⟩
           refine hK.out _ _ ⟨(blk_cell BK332.out 0).trans rfl,(blk_cell BK332.out 1).trans rfl⟩ (fun hHeld=>?_)
           clear hK K
           refine norm_ (a':=?_) ?_ ?_
           rotate_left
           ·show Act.put _ (some 67) _ = _
            simp only [Act.put,zzA,zzB,zzC,i64_w,i32_w]
            rfl
           refine pure_ (i:=18) (N:=some 68) (v:=?_) (a':=?_) #[true,true,true,true,true,true,true,true,true,true,true,true,true,true,true,true,true,true,true,false,false,false,false,false,false,false,false,false,false,false,false,false] rfl rfl (any_of HT_.out (by kernel_rfl)) (fun _ _ _ h=>h) (Or.inl ⟨by rfl,?_⟩) ?_ ?_
           rotate_left
           ·intro w'
            go_simp
            with_reducible rfl
           rotate_left
           ·simp only [Act.put,zzA,zzB,zzC,i64_w,i32_w]
            rfl
           refine pure_ (i:=19) (N:=some 69) (v:=?_) (a':=?_) #[true,true,true,true,true,true,true,true,true,true,true,true,true,true,true,true,true,true,true,true,false,false,false,false,false,false,false,false,false,false,false,false] rfl rfl (any_of HT_.out (by kernel_rfl)) (fun _ _ _ h=>h) (Or.inl ⟨by rfl,?_⟩) ?_ ?_
           rotate_left
           ·intro w'
            go_simp
            with_reducible rfl
           rotate_left
           ·simp only [Act.put,zzA,zzB,zzC,i64_w,i32_w]
            rfl
           refine pure_ (i:=21) (N:=some 71) (v:=?_) (a':=?_) #[true,true,true,true,true,true,true,true,true,true,true,true,true,true,true,true,true,true,true,true,false,true,false,false,false,false,false,false,false,false,false,false] rfl rfl (any_of HT_.out (by kernel_rfl)) (fun _ _ _ h=>h) (Or.inl ⟨by rfl,?_⟩) ?_ ?_
           rotate_left
           ·intro w'
            go_simp
            with_reducible rfl
           rotate_left
           ·simp only [Act.put,zzA,zzB,zzC,i64_w,i32_w]
            rfl
           refine pure_ (i:=22) (N:=some 72) (v:=?_) (a':=?_) #[true,true,true,true,true,true,true,true,true,true,true,true,true,true,true,true,true,true,true,true,false,true,true,false,false,false,false,false,false,false,false,false] rfl rfl (any_of HT_.out (by kernel_rfl)) (fun _ _ _ h=>h) (Or.inl ⟨by rfl,?_⟩) ?_ ?_
           rotate_left
           ·intro w'
            go_simp
            with_reducible rfl
           rotate_left
           ·simp only [Act.put,zzA,zzB,zzC,i64_w,i32_w]
            rfl
           refine pure_ (i:=25) (N:=some 75) (v:=?_) (a':=?_) #[true,true,true,true,true,true,true,true,true,true,true,true,true,true,true,true,true,true,true,true,false,true,true,false,false,true,false,false,false,false,false,false] rfl rfl (any_of HT_.out (by kernel_rfl)) (fun _ _ _ h=>h) (Or.inl ⟨by rfl,?_⟩) ?_ ?_
           rotate_left
           ·intro w'
            go_simp
            with_reducible rfl
           rotate_left
           ·simp only [Act.put,zzA,zzB,zzC,i64_w,i32_w]
            rfl
           refine pure_ (i:=26) (N:=some 76) (v:=?_) (a':=?_) #[true,true,true,true,true,true,true,true,true,true,true,true,true,true,true,true,true,true,true,true,false,true,true,false,false,true,true,false,false,false,false,false] rfl rfl (any_of HT_.out (by kernel_rfl)) (fun _ _ _ h=>h) (Or.inl ⟨by rfl,?_⟩) ?_ ?_
           rotate_left
           ·intro w'
            go_simp
            with_reducible rfl
           rotate_left
           ·simp only [Act.put,zzA,zzB,zzC,i64_w,i32_w]
            rfl
           refine take_ (i:=20) (N:=some 70) (v:=?_) (a':=?_) #[true,true,true,true,true,true,true,true,true,true,true,true,true,true,true,true,true,true,true,true,true,true,true,false,false,true,true,false,false,false,false,false] rfl rfl (take_ofW HT_.out HW_.out (by kernel_rfl)) (fun _ _ _ h=>h) (Or.inl ⟨by rfl,?_⟩) hHeld ?_ ?_
           rotate_left
           ·rintro w' ⟨s0,s1⟩
            go_simp
            with_reducible rfl
           rotate_left
           ·simp only [Act.put,zzA,zzB,zzC,i64_w,i32_w]
            rfl
           refine take_ (i:=24) (N:=some 74) (v:=?_) (a':=?_) #[true,true,true,true,true,true,true,true,true,true,true,true,true,true,true,true,true,true,true,true,true,true,true,false,true,true,true,false,false,false,false,false] rfl rfl (take_ofW HT_.out HW_.out (by kernel_rfl)) (fun _ _ _ h=>h) (Or.inl ⟨by rfl,?_⟩) hHeld ?_ ?_
           rotate_left
           ·rintro w' ⟨s0,s1⟩
            go_simp
            with_reducible rfl
           rotate_left
           ·simp only [Act.put,zzA,zzB,zzC,i64_w,i32_w]
            rfl
           refine one_ (i:=23) (N:=some 73) #[true,true,true,true,true,true,true,true,true,true,true,true,true,true,true,true,true,true,true,true,true,true,true,true,true,true,true,false,false,false,false,false] rfl rfl (one_of HT_.out (by kernel_rfl)) (by decide) (fun K hK=>?_)
           refine goes_ Try.func85 (by kernel_rfl) rfl #[.agg #[.slice A0_0 l0_0.length c0_0,.slice A0_1 l0_1.length c0_1],.int .i64 x7_2,.int .i64 a1] (by rfl) rfl rfl (by (try simp only [List.map_toArray,List.map_cons,List.map_nil]);first|done|rfl|(simp only [List.length_drop,List.length_take];rfl)) ?_
           with_reducible refine (scarfjointref09_types.calls k2 _ _ l0_0 _ _ l0_1 x7_2 a1 t356 _ ?side1 ?side2 ?side3 ?side4 A45.out).mono ?_
           (case side1=>repeat (first|exact (Kd.C_below HR0_0.out (by repeat (first|(with_reducible first|exact HB.out|apply zzD|apply zzE|apply zzF|refine below_set ?_ GE332.out)|exact HB.out)))|(with_reducible refine Kd.C_alloc ?_ _)|(with_reducible refine Kd.C_drewN ?_ _)|(with_reducible refine Kd.C_drew ?_)))
           (case side2=>exact HC0_0.out)
           (case side3=>repeat (first|exact (Kd.C_below HR0_1.out (by repeat (first|(with_reducible first|exact HB.out|apply zzD|apply zzE|apply zzF|refine below_set ?_ GE332.out)|exact HB.out)))|(with_reducible refine Kd.C_alloc ?_ _)|(with_reducible refine Kd.C_drewN ?_ _)|(with_reducible refine Kd.C_drew ?_)))
           (case side4=>exact HC0_1.out)
           rintro e w65 ⟨v357,rfl,ho0,hb⟩
           refine ⟨_,rfl,?_⟩
           have n0_:=Aside0.mk (Kd.R_elder' (by (with_reducible repeat (first|apply Kd.R_alloc|apply Kd.R_drewN|apply Kd.R_drew));exact HO351.out) (Kd.R_base ho0) hb)
           have n1_:=Aside0.mk (Kd.R_elder' (by (with_reducible repeat (first|apply Kd.R_alloc|apply Kd.R_drewN|apply Kd.R_drew));exact HO354.out) (Kd.R_base ho0) hb)
           have n2_:=Aside0.mk (Kd.R_lower (Kd.R_new' (Kd.R_new' ho0 (Kd.R_lt (by (with_reducible repeat (first|apply Kd.R_alloc|apply Kd.R_drewN|apply Kd.R_drew));exact HO351.out))) (Kd.R_lt (by (with_reducible repeat (first|apply Kd.R_alloc|apply Kd.R_drewN|apply Kd.R_drew));exact HO354.out))) (below_size (by repeat (first|(with_reducible first|exact HB.out|apply zzD|apply zzE|apply zzF|refine below_set ?_ GE332.out)|exact HB.out))))
           have n3_:=Aside0.mk (blk_below (g:=gb332) (o:=.cells #[.slice A0_0 l0_0.length c0_0,.slice A0_1 l0_1.length c0_1] 30 (0,0)) (by (with_reducible repeat (first|refine blk_drewN ?_ _|refine blk_drew ?_|refine blk_alloc ?_ _));exact BK332.out) hb)
           have n4_:=Aside0.mk (below_step (by repeat (first|(with_reducible first|exact HB.out|apply zzD|apply zzE|apply zzF|refine below_set ?_ GE332.out)|exact HB.out)) hb)
           clear HO351
           clear HO354
           clear BK332
           clear HB
           have HO351:=n0_
           have HO354:=n1_
           have HO358:=n2_
           have BK332:=n3_
           have HB:=n4_
           clear n0_ n1_ n2_ n3_ n4_
           (try clear hb)
           (try clear hb2)
           (try clear hk)
           (try clear hi)
           (try clear ho0)
           refine hK.out _ _ ⟨(blk_cell BK332.out 0).trans rfl,(blk_cell BK332.out 1).trans rfl⟩ (fun hHeld=>?_)
           clear hK K
           refine norm_ (a':=?_) ?_ ?_
           rotate_left
           ·show Act.put _ (some 73) _ = _
            simp only [Act.put,zzA,zzB,zzC,i64_w,i32_w]
            rfl
           refine one_ (i:=27) (N:=some 77) #[true,true,true,true,true,true,true,true,true,true,true,true,true,true,true,true,true,true,true,true,true,true,true,true,true,true,true,true,false,false,false,false] rfl rfl (one_of HT_.out (by kernel_rfl)) (by decide) (fun K hK=>?_)
           refine goes_ Try.func85 (by kernel_rfl) rfl #[.agg #[.slice A0_0 l0_0.length c0_0,.slice A0_1 l0_1.length c0_1],.int .i64 x7_2,.int .i64 a2] (by rfl) rfl rfl (by (try simp only [List.map_toArray,List.map_cons,List.map_nil]);first|done|rfl|(simp only [List.length_drop,List.length_take];rfl)) ?_
           with_reducible refine (scarfjointref09_types.calls k2 _ _ l0_0 _ _ l0_1 x7_2 a2 t359 _ ?side1 ?side2 ?side3 ?side4 A46.out).mono ?_
           (case side1=>repeat (first|exact (Kd.C_below HR0_0.out HB.out)|(with_reducible refine Kd.C_alloc ?_ _)|(with_reducible refine Kd.C_drewN ?_ _)|(with_reducible refine Kd.C_drew ?_)))
           (case side2=>exact HC0_0.out)
           (case side3=>repeat (first|exact (Kd.C_below HR0_1.out HB.out)|(with_reducible refine Kd.C_alloc ?_ _)|(with_reducible refine Kd.C_drewN ?_ _)|(with_reducible refine Kd.C_drew ?_)))
           (case side4=>exact HC0_1.out)
           rintro e w66 ⟨v360,rfl,ho0,hb⟩
           refine ⟨_,rfl,?_⟩
           have n0_:=Aside0.mk (Kd.R_elder' (by (with_reducible repeat (first|apply Kd.R_alloc|apply Kd.R_drewN|apply Kd.R_drew));exact HO351.out) (Kd.R_base ho0) hb)
           have n1_:=Aside0.mk (Kd.R_elder' (by (with_reducible repeat (first|apply Kd.R_alloc|apply Kd.R_drewN|apply Kd.R_drew));exact HO354.out) (Kd.R_base ho0) hb)
           have n2_:=Aside0.mk (Kd.R_elder' (by (with_reducible repeat (first|apply Kd.R_alloc|apply Kd.R_drewN|apply Kd.R_drew));exact HO358.out) (Kd.R_base ho0) hb)
           have n3_:=Aside0.mk (Kd.R_lower (Kd.R_new' (Kd.R_new' (Kd.R_new' ho0 (Kd.R_lt (by (with_reducible repeat (first|apply Kd.R_alloc|apply Kd.R_drewN|apply Kd.R_drew));exact HO351.out))) (Kd.R_lt (by (with_reducible repeat (first|apply Kd.R_alloc|apply Kd.R_drewN|apply Kd.R_drew));exact HO354.out))) (Kd.R_lt (by (with_reducible repeat (first|apply Kd.R_alloc|apply Kd.R_drewN|apply Kd.R_drew));exact HO358.out))) (below_size (by repeat (first|(with_reducible first|exact HB.out|apply zzD|apply zzE|apply zzF|refine below_set ?_ GE332.out)|exact HB.out))))
           have n4_:=Aside0.mk (blk_below (g:=gb332) (o:=.cells #[.slice A0_0 l0_0.length c0_0,.slice A0_1 l0_1.length c0_1] 30 (0,0)) (by (with_reducible repeat (first|refine blk_drewN ?_ _|refine blk_drew ?_|refine blk_alloc ?_ _));exact BK332.out) hb)
           have n5_:=Aside0.mk (below_step (by repeat (first|(with_reducible first|exact HB.out|apply zzD|apply zzE|apply zzF|refine below_set ?_ GE332.out)|exact HB.out)) hb)
           clear HO351
           clear HO354
           clear HO358
           clear BK332
           clear HB
           have HO351:=n0_
           have HO354:=n1_
           have HO358:=n2_
           have HO361:=n3_
           have BK332:=n4_
           have HB:=n5_
           clear n0_ n1_ n2_ n3_ n4_ n5_
           (try clear hb)
           (try clear hb2)
           (try clear hk)
           (try clear hi)
           (try clear ho0)
           obtain ⟨Ao67,co67,eo67⟩:=Kd.R_slice HO358.out
           (first|subst eo67|(injection eo67 with f1_ f2_ f3_;have f4_:=f1_.symm;have f5_:=f3_.symm;clear f1_ f2_ f3_;subst f4_;subst f5_))
           obtain ⟨Ao68,co68,eo68⟩:=Kd.R_slice HO361.out
           (first|subst eo68|(injection eo68 with f1_ f2_ f3_;have f4_:=f1_.symm;have f5_:=f3_.symm;clear f1_ f2_ f3_;subst f4_;subst f5_))
           refine hK.out _ _ ⟨(blk_cell BK332.out 0).trans rfl,(blk_cell BK332.out 1).trans rfl⟩ (fun hHeld=>?_)
           clear hK K
           refine norm_ (a':=?_) ?_ ?_
           rotate_left
           ·show Act.put _ (some 77) _ = _
            simp only [Act.put,zzA,zzB,zzC,i64_w,i32_w]
            rfl
           refine one_ (i:=28) (N:=some 78) #[true,true,true,true,true,true,true,true,true,true,true,true,true,true,true,true,true,true,true,true,true,true,true,true,true,true,true,true,true,false,false,false] rfl rfl (one_of HT_.out (by kernel_rfl)) (by decide) (fun K hK=>?_)
           refine goes_ Try.func60 (by kernel_rfl) rfl #[.slice Ao67 t356.length co67,.slice Ao68 t359.length co68] (by rfl) rfl rfl (by (try simp only [List.map_toArray,List.map_cons,List.map_nil]);first|done|rfl|(simp only [List.length_drop,List.length_take];rfl)) ?_
           with_reducible refine (scarfjointref09_CompareLists.calls k2 _ _ t356 _ _ t359 t362 _ ?side1 ?side2 ?side3 ?side4 A47.out).mono ?_
           (case side1=>repeat (first|exact (Kd.R_reads' HO358.out).2.2|(with_reducible refine Kd.C_alloc ?_ _)|(with_reducible refine Kd.C_drewN ?_ _)|(with_reducible refine Kd.C_drew ?_)))
           (case side2=>exact (Kd.R_reads' HO358.out).2.1)
           (case side3=>repeat (first|exact (Kd.R_reads' HO361.out).2.2|(with_reducible refine Kd.C_alloc ?_ _)|(with_reducible refine Kd.C_drewN ?_ _)|(with_reducible refine Kd.C_drew ?_)))
           (case side4=>exact (Kd.R_reads' HO361.out).2.1)
           rintro e w' ⟨rfl,⟨nd,rfl⟩⟩
           refine ⟨_,rfl,?_⟩
           refine hK.out _ _ ⟨(blk_cell BK332.out 0).trans rfl,(blk_cell BK332.out 1).trans rfl⟩ (fun hHeld=>?_)
           clear hK K
           refine norm_ (a':=?_) ?_ ?_
           rotate_left
           ·show Act.put _ (some 78) _ = _
            simp only [Act.put,zzA,zzB,zzC,i64_w,i32_w]
            rfl
           refine pure_ (i:=29) (N:=some 79) (v:=?_) (a':=?_) #[true,true,true,true,true,true,true,true,true,true,true,true,true,true,true,true,true,true,true,true,true,true,true,true,true,true,true,true,true,true,false,false] rfl rfl (any_of HT_.out (by kernel_rfl)) (fun _ _ _ h=>h) (Or.inl ⟨by rfl,?_⟩) ?_ ?_
           rotate_left
           ·intro w'
            go_simp
            with_reducible rfl
           rotate_left
           ·simp only [Act.put,zzA,zzB,zzC,i64_w,i32_w]
            rfl
           refine pure_ (i:=30) (N:=some 80) (v:=?_) (a':=?_) #[true,true,true,true,true,true,true,true,true,true,true,true,true,true,true,true,true,true,true,true,true,true,true,true,true,true,true,true,true,true,true,false] rfl rfl (any_of HT_.out (by kernel_rfl)) (fun _ _ _ h=>h) (Or.inl ⟨by rfl,?_⟩) ?_ ?_
           rotate_left
           ·intro w'
            go_simp
            with_reducible rfl
           rotate_left
           ·simp only [Act.put,zzA,zzB,zzC,i64_w,i32_w]
            rfl
           refine pure_ (i:=31) (N:=some 81) (v:=?_) (a':=?_) #[true,true,true,true,true,true,true,true,true,true,true,true,true,true,true,true,true,true,true,true,true,true,true,true,true,true,true,true,true,true,true,true] rfl rfl (any_of HT_.out (by kernel_rfl)) (fun _ _ _ h=>h) (Or.inl ⟨by rfl,?_⟩) ?_ ?_
           rotate_left
           ·intro w'
            go_simp
            with_reducible rfl
           rotate_left
           ·simp only [Act.put,zzA,zzB,zzC,i64_w,i32_w]
            rfl
           refine done_ (done_of HT_.out (by kernel_rfl)) ?_
           try go_wp2
           go_ret
           exact ⟨by first|rfl|(simp [errW_none,errW_some] <;> rfl)|(simp [*,errW_none,errW_some] <;> rfl),by repeat (first|(with_reducible first|exact HB.out|apply zzD|apply zzE|apply zzF|refine below_set ?_ GE332.out)|exact HB.out)⟩
         ·rw [if_neg c44] at H
          have c44b0 : (t355 == 0) = false:=beq_eq_false_iff_ne.mpr c44
          have c44b1 : (t355 != 0) = true:=bne_iff_ne.mpr c44
          obtain rfl:=Option.some.inj H
          have hcz69_0 : wr.cell? ⟨gb332,0,none⟩ = some (.slice A0_0 l0_0.length c0_0):=(blk_cell BK332.out 0).trans rfl
          have hcz69_1 : wr.cell? ⟨gb332,1,none⟩ = some (.slice A0_1 l0_1.length c0_1):=(blk_cell BK332.out 1).trans rfl
          have hfz69_0:=blk_frozen BK332.out 0
          have hfz69_1:=blk_frozen BK332.out 1
          try go_wp2
          have n0_:=Aside0.mk (blk_drew BK332.out)
          have n1_:=Aside0.mk (zzF HB.out)
          clear BK332
          clear HB
          have BK332:=n0_
          have HB:=n1_
          clear n0_ n1_
          refine start_ (n:=32) (S:=fun w'=>w'.cell? ⟨gb332,0,none⟩ = some (.slice A0_0 l0_0.length c0_0) ∧ w'.cell? ⟨gb332,1,none⟩ = some (.slice A0_1 l0_1.length c0_1)) (ds:=[]) #[false,false,false,false,false,false,false,false,false,false,false,false,false,false,false,false,false,false,false,false,false,false,false,false,false,false,false,false,false,false,false,false] (by kernel_rfl) rfl rfl ⟨(blk_cell BK332.out 0).trans rfl,(blk_cell BK332.out 1).trans rfl⟩ (fun hHeld=>?_);refine with_tabW scarfjointref09_twins.tab6 scarfjointref09_twins.bits6 (fun HT_ HW_=>?_)
          generalize wr.drew = w70 at BK332 HB hHeld ⊢
          refine pure_ (i:=0) (N:=some 50) (v:=?_) (a':=?_) #[true,false,false,false,false,false,false,false,false,false,false,false,false,false,false,false,false,false,false,false,false,false,false,false,false,false,false,false,false,false,false,false] rfl rfl (any_of HT_.out (by kernel_rfl)) (fun _ _ _ h=>h) (Or.inl ⟨by rfl,?_⟩) ?_ ?_
          rotate_left
          ·intro w'
           go_simp
           with_reducible rfl
          rotate_left
          ·simp only [Act.put,zzA,zzB,zzC,i64_w,i32_w]
           rfl
          refine pure_ (i:=1) (N:=some 51) (v:=?_) (a':=?_) #[true,true,false,false,false,false,false,false,false,false,false,false,false,false,false,false,false,false,false,false,false,false,false,false,false,false,false,false,false,false,false,false] rfl rfl (any_of HT_.out (by kernel_rfl)) (fun _ _ _ h=>h) (Or.inl ⟨by rfl,?_⟩) ?_ ?_
          rotate_left
          ·intro w'
           go_simp
           with_reducible rfl
          rotate_left
          ·simp only [Act.put,zzA,zzB,zzC,i64_w,i32_w]
           rfl
          refine pure_ (i:=2) (N:=some 52) (v:=?_) (a':=?_) #[true,true,true,false,false,false,false,false,false,false,false,false,false,false,false,false,false,false,false,false,false,false,false,false,false,false,false,false,false,false,false,false] rfl rfl (any_of HT_.out (by kernel_rfl)) (fun _ _ _ h=>h) (Or.inl ⟨by rfl,?_⟩) ?_ ?_
          rotate_left
          ·intro w'
           go_simp
           with_reducible rfl
          rotate_left
          ·simp only [Act.put,zzA,zzB,zzC,i64_w,i32_w]
           rfl
          refine pure_ (i:=3) (N:=some 53) (v:=?_) (a':=?_) #[true,true,true,true,false,false,false,false,false,false,false,false,false,false,false,false,false,false,false,false,false,false,false,false,false,false,false,false,false,false,false,false] rfl rfl (any_of HT_.out (by kernel_rfl)) (fun _ _ _ h=>h) (Or.inl ⟨by rfl,?_⟩) ?_ ?_
          rotate_left
          ·intro w'
           go_simp
           with_reducible rfl
          rotate_left
          ·simp only [Act.put,zzA,zzB,zzC,i64_w,i32_w]
           rfl
          refine pure_ (i:=4) (N:=some 54) (v:=?_) (a':=?_) #[true,true,true,true,true,false,false,false,false,false,false,false,false,false,false,false,false,false,false,false,false,false,false,false,false,false,false,false,false,false,false,false] rfl rfl (any_of HT_.out (by kernel_rfl)) (fun _ _ _ h=>h) (Or.inl ⟨by rfl,?_⟩) ?_ ?_
          rotate_left
          ·intro w'
           go_simp
           with_reducible rfl
          rotate_left
          ·simp only [Act.put,zzA,zzB,zzC,i64_w,i32_w]
           rfl
          refine pure_ (i:=5) (N:=some 55) (v:=?_) (a':=?_) #[true,true,true,true,true,true,false,false,false,false,false,false,false,false,false,false,false,false,false,false,false,false,false,false,false,false,false,false,false,false,false,false] rfl rfl (any_of HT_.out (by kernel_rfl)) (fun _ _ _ h=>h) (Or.inl ⟨by rfl,?_⟩) ?_ ?_
          rotate_left
          ·intro w'
           go_simp
           with_reducible rfl
          rotate_left
          ·simp only [Act.put,zzA,zzB,zzC,i64_w,i32_w]
           rfl
          refine pure_ (i:=6) (N:=some 56) (v:=?_) (a':=?_) #[true,true,true,true,true,true,true,false,false,false,false,false,false,false,false,false,false,false,false,false,false,false,false,false,false,false,false,false,false,false,false,false] rfl rfl (any_of HT_.out (by kernel_rfl)) (fun _ _ _ h=>h) (Or.inl ⟨by rfl,?_⟩) ?_ ?_
          rotate_left
          ·intro w'
           go_simp
           with_reducible rfl
          rotate_left
          ·simp only [Act.put,zzA,zzB,zzC,i64_w,i32_w]
           rfl
          refine pure_ (i:=7) (N:=some 57) (v:=?_) (a':=?_) #[true,true,true,true,true,true,true,true,false,false,false,false,false,false,false,false,false,false,false,false,false,false,false,false,false,false,false,false,false,false,false,false] rfl rfl (any_of HT_.out (by kernel_rfl)) (fun _ _ _ h=>h) (Or.inl ⟨by rfl,?_⟩) ?_ ?_
          rotate_left
          ·intro w'
           go_simp
           with_reducible rfl
          rotate_left
          ·simp only [Act.put,zzA,zzB,zzC,i64_w,i32_w]
           rfl
          refine pure_ (i:=8) (N:=some 58) (v:=?_) (a':=?_) #[true,true,true,true,true,true,true,true,true,false,false,false,false,false,false,false,false,false,false,false,false,false,false,false,false,false,false,false,false,false,false,false] rfl rfl (any_of HT_.out (by kernel_rfl)) (fun _ _ _ h=>h) (Or.inl ⟨by rfl,?_⟩) ?_ ?_
          rotate_left
          ·intro w'
           go_simp
           with_reducible rfl
          rotate_left
          ·simp only [Act.put,zzA,zzB,zzC,i64_w,i32_w]
           rfl
          refine pure_ (i:=10) (N:=some 60) (v:=?_) (a':=?_) #[true,true,true,true,true,true,true,true,true,false,true,false,false,false,false,false,false,false,false,false,false,false,false,false,false,false,false,false,false,false,false,false] rfl rfl (any_of HT_.out (by kernel_rfl)) (fun _ _ _ h=>h) (Or.inl ⟨by rfl,?_⟩) ?_ ?_
          rotate_left
          ·intro w'
           go_simp
           with_reducible rfl
          rotate_left
          ·simp only [Act.put,zzA,zzB,zzC,i64_w,i32_w]
           rfl
          refine pure_ (i:=11) (N:=some 61) (v:=?_) (a':=?_) #[true,true,true,true,true,true,true,true,true,false,true,true,false,false,false,false,false,false,false,false,false,false,false,false,false,false,false,false,false,false,false,false] rfl rfl (any_of HT_.out (by kernel_rfl)) (fun _ _ _ h=>h) (Or.inl ⟨by rfl,?_⟩) ?_ ?_
          rotate_left
          ·intro w'
           go_simp
           with_reducible rfl
          rotate_left
          ·simp only [Act.put,zzA,zzB,zzC,i64_w,i32_w]
           rfl
          refine pure_ (i:=14) (N:=some 64) (v:=?_) (a':=?_) #[true,true,true,true,true,true,true,true,true,false,true,true,false,false,true,false,false,false,false,false,false,false,false,false,false,false,false,false,false,false,false,false] rfl rfl (any_of HT_.out (by kernel_rfl)) (fun _ _ _ h=>h) (Or.inl ⟨by rfl,?_⟩) ?_ ?_
          rotate_left
          ·intro w'
           go_simp
           with_reducible rfl
          rotate_left
          ·simp only [Act.put,zzA,zzB,zzC,i64_w,i32_w]
           rfl
          refine pure_ (i:=15) (N:=some 65) (v:=?_) (a':=?_) #[true,true,true,true,true,true,true,true,true,false,true,true,false,false,true,true,false,false,false,false,false,false,false,false,false,false,false,false,false,false,false,false] rfl rfl (any_of HT_.out (by kernel_rfl)) (fun _ _ _ h=>h) (Or.inl ⟨by rfl,?_⟩) ?_ ?_
          rotate_left
          ·intro w'
           go_simp
           with_reducible rfl
          rotate_left
          ·simp only [Act.put,zzA,zzB,zzC,i64_w,i32_w]
           rfl
          refine take_ (i:=9) (N:=some 59) (v:=?_) (a':=?_) #[true,true,true,true,true,true,true,true,true,true,true,true,false,false,true,true,false,false,false,false,false,false,false,false,false,false,false,false,false,false,false,false] rfl rfl (take_ofW HT_.out HW_.out (by kernel_rfl)) (fun _ _ _ h=>h) (Or.inl ⟨by rfl,?_⟩) hHeld ?_ ?_
          rotate_left
          ·rintro w' ⟨s0,s1⟩
           go_simp
           with_reducible rfl
          rotate_left
          ·simp only [Act.put,zzA,zzB,zzC,i64_w,i32_w]
           rfl
          refine take_ (i:=13) (N:=some 63) (v:=?_) (a':=?_) #[true,true,true,true,true,true,true,true,true,true,true,true,false,true,true,true,false,false,false,false,false,false,false,false,false,false,false,false,false,false,false,false] rfl rfl (take_ofW HT_.out HW_.out (by kernel_rfl)) (fun _ _ _ h=>h) (Or.inl ⟨by rfl,?_⟩) hHeld ?_ ?_
          rotate_left
          ·rintro w' ⟨s0,s1⟩
           go_simp
           with_reducible rfl
          rotate_left
          ·simp only [Act.put,zzA,zzB,zzC,i64_w,i32_w]
           rfl
          refine one_ (i:=12) (N:=some 62) #[true,true,true,true,true,true,true,true,true,true,true,true,true,true,true,true,false,false,false,false,false,false,false,false,false,false,false,false,false,false,false,false] rfl rfl (one_of HT_.out (by kernel_rfl)) (by decide) (fun K hK=>?_)
          refine goes_ Try.func85 (by kernel_rfl) rfl #[.agg #[.slice A0_0 l0_0.length c0_0,.slice A0_1 l0_1.length c0_1],.int .i64 a1,.int .i64 x7_2] (by rfl) rfl rfl (by (try simp only [List.map_toArray,List.map_cons,List.map_nil]);first|done|rfl|(simp only [List.length_drop,List.length_take];rfl)) ?_
          with_reducible refine (scarfjointref09_types.calls k2 _ _ l0_0 _ _ l0_1 a1 x7_2 t349 _ ?side1 ?side2 ?side3 ?side4 A41.out).mono ?_
          (case side1=>repeat (first|exact (Kd.C_below HR0_0.out HB.out)|(with_reducible refine Kd.C_alloc ?_ _)|(with_reducible refine Kd.C_drewN ?_ _)|(with_reducible refine Kd.C_drew ?_)))
          (case side2=>exact HC0_0.out)
          (case side3=>repeat (first|exact (Kd.C_below HR0_1.out HB.out)|(with_reducible refine Kd.C_alloc ?_ _)|(with_reducible refine Kd.C_drewN ?_ _)|(with_reducible refine Kd.C_drew ?_)))
          (case side4=>exact HC0_1.out)
          rintro e w71 ⟨v350,rfl,ho0,hb⟩
          refine ⟨_,rfl,?_⟩
          have n0_:=Aside0.mk (Kd.R_lower ho0 (below_size (by repeat (first|(with_reducible first|exact HB.out|apply zzD|apply zzE|apply zzF|refine below_set ?_ GE332.out)|exact HB.out))))
          have n1_:=Aside0.mk (blk_below (g:=gb332) (o:=.cells #[.slice A0_0 l0_0.length c0_0,.slice A0_1 l0_1.length c0_1] 30 (0,0)) (by (with_reducible repeat (first|refine blk_drewN ?_ _|refine blk_drew ?_|refine blk_alloc ?_ _));exact BK332.out) hb)
          have n2_:=Aside0.mk (below_step (by repeat (first|(with_reducible first|exact HB.out|apply zzD|apply zzE|apply zzF|refine below_set ?_ GE332.out)|exact HB.out)) hb)
          clear BK332
          clear HB
          have HO351:=n0_
          have BK332:=n1_
          have HB:=n2_
          clear n0_ n1_ n2_
          (try clear hb)
          (try clear hb2)
          (try clear hk)
          (try clear hi)
          (try clear ho0)
          refine hK.out _ _ ⟨(blk_cell BK332.out 0).trans rfl,(blk_cell BK332.out 1).trans rfl⟩ (fun hHeld=>?_)
          clear hK K
          refine norm_ (a':=?_) ?_ ?_
          rotate_left
          ·show Act.put _ (some 62) _ = _
           simp only [Act.put,zzA,zzB,zzC,i64_w,i32_w]
           rfl
          refine one_ (i:=16) (N:=some 66) #[true,true,true,true,true,true,true,true,true,true,true,true,true,true,true,true,true,false,false,false,false,false,false,false,false,false,false,false,false,false,false,false] rfl rfl (one_of HT_.out (by kernel_rfl)) (by decide) (fun K hK=>?_)
          refine goes_ Try.func85 (by kernel_rfl) rfl #[.agg #[.slice A0_0 l0_0.length c0_0,.slice A0_1 l0_1.length c0_1],.int .i64 a2,.int .i64 x7_2] (by rfl) rfl rfl (by (try simp only [List.map_toArray,List.map_cons,List.map_nil]);first|done|rfl|(simp only [List.length_drop,List.length_take];rfl)) ?_
          with_reducible refine (scarfjointref09_types.calls k2 _ _ l0_0 _ _ l0_1 a2 x7_2 t352 _ ?side1 ?side2 ?side3 ?side4 A42.out).mono ?_
          (case side1=>repeat (first|exact (Kd.C_below HR0_0.out HB.out)|(with_reducible refine Kd.C_alloc ?_ _)|(with_reducible refine Kd.C_drewN ?_ _)|(with_reducible refine Kd.C_drew ?_)))
          (case side2=>exact HC0_0.out)
          (case side3=>repeat (first|exact (Kd.C_below HR0_1.out HB.out)|(with_reducible refine Kd.C_alloc ?_ _)|(with_reducible refine Kd.C_drewN ?_ _)|(with_reducible refine Kd.C_drew ?_)))
          (case side4=>exact HC0_1.out)
          rintro e w72 ⟨v353,rfl,ho0,hb⟩
          refine ⟨_,rfl,?_⟩
          have n0_:=Aside0.mk (Kd.R_elder' (by (with_reducible repeat (first|apply Kd.R_alloc|apply Kd.R_drewN|apply Kd.R_drew));exact HO351.out) (Kd.R_base ho0) hb)
          have n1_:=Aside0.mk (Kd.R_lower (Kd.R_new' ho0 (Kd.R_lt (by (with_reducible repeat (first|apply Kd.R_alloc|apply Kd.R_drewN|apply Kd.R_drew));exact HO351.out))) (below_size (by repeat (first|(with_reducible first|exact HB.out|apply zzD|apply zzE|apply zzF|refine below_set ?_ GE332.out)|exact HB.out))))
          have n2_:=Aside0.mk (blk_below (g:=gb332) (o:=.cells #[.slice A0_0 l0_0.length c0_0,.slice A0_1 l0_1.length c0_1] 30 (0,0)) (by (with_reducible repeat (first|refine blk_drewN ?_ _|refine blk_drew ?_|refine blk_alloc ?_ _));exact BK332.out) hb)
          have n3_:=Aside0.mk (below_step (by repeat (first|(with_reducible first|exact HB.out|apply zzD|apply zzE|apply zzF|refine below_set ?_ GE332.out)|exact HB.out)) hb)
          clear HO351
          clear BK332
          clear HB
          have HO351:=n0_
          have HO354:=n1_
          have BK332:=n2_
          have HB:=n3_
          clear n0_ n1_ n2_ n3_
          (try clear hb)
          (try clear hb2)
          (try clear hk)
          (try clear hi)
          (try clear ho0)
          obtain ⟨Ao73,co73,eo73⟩:=Kd.R_slice HO351.out
          (first|subst eo73|(injection eo73 with f1_ f2_ f3_;have f4_:=f1_.symm;have f5_:=f3_.symm;clear f1_ f2_ f3_;subst f4_;subst f5_))
          obtain ⟨Ao74,co74,eo74⟩:=Kd.R_slice HO354.out
          (first|subst eo74|(injection eo74 with f1_ f2_ f3_;have f4_:=f1_.symm;have f5_:=f3_.symm;clear f1_ f2_ f3_;subst f4_;subst f5_))
          refine hK.out _ _ ⟨(blk_cell BK332.out 0).trans rfl,(blk_cell BK332.out 1).trans rfl⟩ (fun hHeld=>?_)
          clear hK K
          refine norm_ (a':=?_) ?_ ?_
          rotate_left
          ·show Act.put _ (some 66) _ = _
           simp only [Act.put,zzA,zzB,zzC,i64_w,i32_w]
           rfl
          refine one_ (i:=17) (N:=some 67) #[true,true,true,true,true,true,true,true,true,true,true,true,true,true,true,true,true,true,false,false,false,false,false,false,false,false,false,false,false,false,false,false] rfl rfl (one_of HT_.out (by kernel_rfl)) (by decide) (fun K hK=>?_)
          refine goes_ Try.func60 (by kernel_rfl) rfl #[.slice Ao73 t349.length co73,.slice Ao74 t352.length co74] (by rfl) rfl rfl (by (try simp only [List.map_toArray,List.map_cons,List.map_nil]);first|done|rfl|(simp only [List.length_drop,List.length_take];rfl)) ?_
          with_reducible refine (scarfjointref09_CompareLists.calls k2 _ _ t349 _ _ t352 t355 _ ?side1 ?side2 ?side3 ?side4 A43.out).mono ?_
          (case side1=>repeat (first|exact (Kd.R_reads' HO351.out).2.2|(with_reducible refine Kd.C_alloc ?_ _)|(with_reducible refine Kd.C_drewN ?_ _)|(with_reducible refine Kd.C_drew ?_)))
          (case side2=>exact (Kd.R_reads' HO351.out).2.1)
          (case side3=>repeat (first|exact (Kd.R_reads' HO354.out).2.2|(with_reducible refine Kd.C_alloc ?_ _)|(with_reducible refine Kd.C_drewN ?_ _)|(with_reducible refine Kd.C_drew ?_)))
          (case side4=>exact (Kd.R_reads' HO354.out).2.1)
          rintro e w' ⟨rfl,⟨nd,rfl⟩⟩
          refine ⟨_,rfl,?_⟩
          refine hK.out _ _ ⟨(blk_cell BK332.out 0).trans rfl,(blk_cell BK332.out 1).trans rfl⟩ (fun hHeld=>?_)
          clear hK K
          refine norm_ (a':=?_) ?_ ?_
          rotate_left
          ·show Act.put _ (some 67) _ = _
           simp only [Act.put,zzA,zzB,zzC,i64_w,i32_w]
           rfl
          refine pure_ (i:=18) (N:=some 68) (v:=?_) (a':=?_) #[true,true,true,true,true,true,true,true,true,true,true,true,true,true,true,true,true,true,true,false,false,false,false,false,false,false,false,false,false,false,false,false] rfl rfl (any_of HT_.out (by kernel_rfl)) (fun _ _ _ h=>h) (Or.inl ⟨by rfl,?_⟩) ?_ ?_
          rotate_left
          ·intro w'
           go_simp
           with_reducible rfl
          rotate_left
          ·simp only [Act.put,zzA,zzB,zzC,i64_w,i32_w]
           rfl
          refine pure_ (i:=19) (N:=some 69) (v:=?_) (a':=?_) #[true,true,true,true,true,true,true,true,true,true,true,true,true,true,true,true,true,true,true,true,false,false,false,false,false,false,false,false,false,false,false,false] rfl rfl (any_of HT_.out (by kernel_rfl)) (fun _ _ _ h=>h) (Or.inl ⟨by rfl,?_⟩) ?_ ?_
          rotate_left
          ·intro w'
           go_simp
           with_reducible rfl
          rotate_left
          ·simp only [Act.put,zzA,zzB,zzC,i64_w,i32_w]
           rfl
          refine pure_ (i:=20) (N:=some 70) (v:=undef) (a':=?_) #[true,true,true,true,true,true,true,true,true,true,true,true,true,true,true,true,true,true,true,true,true,false,false,false,false,false,false,false,false,false,false,false] rfl rfl (any_of HT_.out (by kernel_rfl)) (fun _ _ _ h=>h) (Or.inr ⟨by rfl,rfl⟩) ?_ ?_
          rotate_left
          ·simp only [Act.put,zzA,zzB,zzC,i64_w,i32_w]
           rfl
          refine pure_ (i:=21) (N:=some 71) (v:=undef) (a':=?_) #[true,true,true,true,true,true,true,true,true,true,true,true,true,true,true,true,true,true,true,true,true,true,false,false,false,false,false,false,false,false,false,false] rfl rfl (any_of HT_.out (by kernel_rfl)) (fun _ _ _ h=>h) (Or.inr ⟨by rfl,rfl⟩) ?_ ?_
          rotate_left
          ·simp only [Act.put,zzA,zzB,zzC,i64_w,i32_w]
           rfl
          refine pure_ (i:=22) (N:=some 72) (v:=undef) (a':=?_) #[true,true,true,true,true,true,true,true,true,true,true,true,true,true,true,true,true,true,true,true,true,true,true,false,false,false,false,false,false,false,false,false] rfl rfl (any_of HT_.out (by kernel_rfl)) (fun _ _ _ h=>h) (Or.inr ⟨by rfl,rfl⟩) ?_ ?_
          rotate_left
          ·simp only [Act.put,zzA,zzB,zzC,i64_w,i32_w]
           rfl
          refine pure_ (i:=23) (N:=some 73) (v:=undef) (a':=?_) #[true,true,true,true,true,true,true,true,true,true,true,true,true,true,true,true,true,true,true,true,true,true,true,true,false,false,false,false,false,false,false,false] rfl rfl (any_of HT_.out (by kernel_rfl)) (fun _ _ _ h=>h) (Or.inr ⟨by rfl,rfl⟩) ?_ ?_
          rotate_left
          ·simp only [Act.put,zzA,zzB,zzC,i64_w,i32_w]
           rfl
          refine pure_ (i:=24) (N:=some 74) (v:=undef) (a':=?_) #[true,true,true,true,true,true,true,true,true,true,true,true,true,true,true,true,true,true,true,true,true,true,true,true,true,false,false,false,false,false,false,false] rfl rfl (any_of HT_.out (by kernel_rfl)) (fun _ _ _ h=>h) (Or.inr ⟨by rfl,rfl⟩) ?_ ?_
          rotate_left
          ·simp only [Act.put,zzA,zzB,zzC,i64_w,i32_w]
           rfl
          refine pure_ (i:=25) (N:=some 75) (v:=undef) (a':=?_) #[true,true,true,true,true,true,true,true,true,true,true,true,true,true,true,true,true,true,true,true,true,true,true,true,true,true,false,false,false,false,false,false] rfl rfl (any_of HT_.out (by kernel_rfl)) (fun _ _ _ h=>h) (Or.inr ⟨by rfl,rfl⟩) ?_ ?_
          rotate_left
          ·simp only [Act.put,zzA,zzB,zzC,i64_w,i32_w]
           rfl
          refine pure_ (i:=26) (N:=some 76) (v:=undef) (a':=?_) #[true,true,true,true,true,true,true,true,true,true,true,true,true,true,true,true,true,true,true,true,true,true,true,true,true,true,true,false,false,false,false,false] rfl rfl (any_of HT_.out (by kernel_rfl)) (fun _ _ _ h=>h) (Or.inr ⟨by rfl,rfl⟩) ?_ ?_
          rotate_left
          ·simp only [Act.put,zzA,zzB,zzC,i64_w,i32_w]
           rfl
          refine pure_ (i:=27) (N:=some 77) (v:=undef) (a':=?_) #[true,true,true,true,true,true,true,true,true,true,true,true,true,true,true,true,true,true,true,true,true,true,true,true,true,true,true,true,false,false,false,false] rfl rfl (any_of HT_.out (by kernel_rfl)) (fun _ _ _ h=>h) (Or.inr ⟨by rfl,rfl⟩) ?_ ?_
          rotate_left
          ·simp only [Act.put,zzA,zzB,zzC,i64_w,i32_w]
           rfl
          refine pure_ (i:=28) (N:=some 78) (v:=undef) (a':=?_) #[true,true,true,true,true,true,true,true,true,true,true,true,true,true,true,true,true,true,true,true,true,true,true,true,true,true,true,true,true,false,false,false] rfl rfl (any_of HT_.out (by kernel_rfl)) (fun _ _ _ h=>h) (Or.inr ⟨by rfl,rfl⟩) ?_ ?_
          rotate_left
          ·simp only [Act.put,zzA,zzB,zzC,i64_w,i32_w]
           rfl
          refine pure_ (i:=29) (N:=some 79) (v:=undef) (a':=?_) #[true,true,true,true,true,true,true,true,true,true,true,true,true,true,true,true,true,true,true,true,true,true,true,true,true,true,true,true,true,true,false,false] rfl rfl (any_of HT_.out (by kernel_rfl)) (fun _ _ _ h=>h) (Or.inr ⟨by rfl,rfl⟩) ?_ ?_
          rotate_left
          ·simp only [Act.put,zzA,zzB,zzC,i64_w,i32_w]
           rfl
          refine pure_ (i:=30) (N:=some 80) (v:=?_) (a':=?_) #[true,true,true,true,true,true,true,true,true,true,true,true,true,true,true,true,true,true,true,true,true,true,true,true,true,true,true,true,true,true,true,false] rfl rfl (any_of HT_.out (by kernel_rfl)) (fun _ _ _ h=>h) (Or.inl ⟨by rfl,?_⟩) ?_ ?_
          rotate_left
          ·intro w'
           go_simp
           with_reducible rfl
          rotate_left
          ·simp only [Act.put,zzA,zzB,zzC,i64_w,i32_w]
           rfl
          refine pure_ (i:=31) (N:=some 81) (v:=?_) (a':=?_) #[true,true,true,true,true,true,true,true,true,true,true,true,true,true,true,true,true,true,true,true,true,true,true,true,true,true,true,true,true,true,true,true] rfl rfl (any_of HT_.out (by kernel_rfl)) (fun _ _ _ h=>h) (Or.inl ⟨by rfl,?_⟩) ?_ ?_
          rotate_left
          ·intro w'
           go_simp
           with_reducible rfl
          rotate_left
          ·simp only [Act.put,zzA,zzB,zzC,i64_w,i32_w]
           rfl
          refine done_ (done_of HT_.out (by kernel_rfl)) ?_
          try go_wp2
          go_ret
          exact ⟨by first|rfl|(simp [errW_none,errW_some] <;> rfl)|(simp [*,errW_none,errW_some] <;> rfl),by repeat (first|(with_reducible first|exact HB.out|apply zzD|apply zzE|apply zzF|refine below_set ?_ GE332.out)|exact HB.out)⟩
      ·rw [if_neg c34] at H
       have c34b0 : decide (x7_2 < (l0_0.length : Int)) = false:=decide_eq_false c34
       clear c34
       obtain rfl:=Option.some.inj H
       have hcz75_0 : wr.cell? ⟨gb332,0,none⟩ = some (.slice A0_0 l0_0.length c0_0):=(blk_cell BK332.out 0).trans rfl
       have hcz75_1 : wr.cell? ⟨gb332,1,none⟩ = some (.slice A0_1 l0_1.length c0_1):=(blk_cell BK332.out 1).trans rfl
       have hfz75_0:=blk_frozen BK332.out 0
       have hfz75_1:=blk_frozen BK332.out 1
       go_wp2
       go_ret
       exact ⟨by first|rfl|(simp [errW_none,errW_some] <;> rfl)|(simp [*,errW_none,errW_some] <;> rfl),by repeat (first|(with_reducible first|exact HB.out|apply zzD|apply zzE|apply zzF|refine below_set ?_ GE332.out)|exact HB.out)⟩
end Go.Proofs.Ytgmomcjnldahjaa.Pr
namespace Go.Proofs.Ytgmomcjnldahjaa.Pr
open Go.RowKit Go.Proofs.YtgmomcjnldahjaaW.PrintWords Go.Proofs.YtgmomcjnldahjaaW.PrintLast Go.Proofs.YtgmomcjnldahjaaW.PrintMore
attribute [local go_sem] max2_int min2_int max_two min_two max_three min_three max_four min_four
set_option linter.unusedVariables false
set_option linter.unusedSimpArgs false
def scarfjointref09_in.l0 : Nat → List Int → Int → Int → Option (Bool)
 | 0,_,_,_ => none
 | k + 1,x0,x1,x5 => if x5 < (x0.length : Int) then (if 0 ≤ x5 then (if (rd x0 x5) = x1 then (some true) else (scarfjointref09_in.l0 k x0 x1 (wrap64 (x5 + 1)))) else (none)) else (some false)
def scarfjointref09_in.f (k : Nat) (l0 : List Int) (a1 : Int) : Option (Bool):=scarfjointref09_in.l0 k l0 a1 0
set_option maxHeartbeats 8000000 in
set_option maxRecDepth 100000 in
theorem scarfjointref09_in.calls (k : Nat) (A0 : Option Addr) (c0 : Nat) (l0 : List Int) (a1 : Int) (r : Bool) (w : World) (hr0 : Kd.C (Kd.int .i64) w A0 l0.length l0) (hc0 : l0.length ≤ c0) (h : scarfjointref09_in.f k l0 a1 = some r) :
  Calls Try.prog 90 #[.slice A0 l0.length c0,.int .i64 a1] w fun e w'=>e = .returned (.bool r) ∧ Drawn0 w w':=by
 have HR0:=Aside0.mk hr0
 have HC0:=Aside0.mk hc0
 clear hr0 hc0
 have H : (scarfjointref09_in.l0 k l0 a1 0) = some r:=h
 clear h
 have H':=Aside0.mk H
 clear H
 go_enter Try.func90,Try.ntmps90
 go_wp2
 go_loopg [5] k (fun kq v5 w'=>∃ (x5_1 : Int),v5 = .int .i64 x5_1 ∧ Aside0 (scarfjointref09_in.l0 kq l0 a1 x5_1 = some r) ∧ Aside0 (kq ≤ k) ∧ Drawn0 w w')
 case atStart=>exact ⟨(0),(by first|rfl|(simp;done)|(simp [*];done)),H',⟨Nat.le_refl _⟩,by repeat (first|exact Drawn0.refl _|apply Drawn0.step)⟩
 case round =>
  clear H'
  try clear p2
  obtain ⟨x5_1,rfl,HA,HK1,⟨m1,rfl⟩⟩:=hrel
  cases gk with
  | zero => exact absurd HA.out (by simp [scarfjointref09_in.l0])
  | succ k1 =>
   have H:=HA.out
   clear HA
   simp only [scarfjointref09_in.l0] at H
   by_cases c3 : x5_1 < (l0.length : Int)
   ·rw [if_pos c3] at H
    have c3b0 : decide (x5_1 < (l0.length : Int)) = true:=decide_eq_true c3
    clear c3
    by_cases c4 : 0 ≤ x5_1
    ·rw [if_pos c4] at H
     have c4b0 : decide (0 ≤ x5_1) = true:=decide_eq_true c4
     clear c4
     by_cases c5 : (rd l0 x5_1) = a1
     ·rw [if_pos c5] at H
      have c5b0 : ((rd l0 x5_1) == a1) = true:=beq_iff_eq.mpr c5
      have c5b1 : ((rd l0 x5_1) != a1) = false:=bne_eq_false_iff_eq.mpr c5
      clear c5
      obtain rfl:=Option.some.inj H
      have p281 : 0 ≤ (x5_1 : Int):=of_decide_eq_true (by first|(with_reducible assumption)|assumption)
      have q281 : x5_1 < (l0.length : Int):=of_decide_eq_true (by first|(with_reducible assumption)|assumption)
      obtain ⟨ad281,e281,hx281_0⟩:=Kd.at_int HR0.out x5_1 p281 q281
      cases e281
      replace p281:=eq_true p281
      replace q281:=eq_true q281
      go_wp2
      go_ret
      exact ⟨by first|rfl|(simp;done)|(simp [*];done),by repeat (first|exact Drawn0.refl _|apply Drawn0.step)⟩
     ·rw [if_neg c5] at H
      have c5b0 : ((rd l0 x5_1) == a1) = false:=beq_eq_false_iff_ne.mpr c5
      have c5b1 : ((rd l0 x5_1) != a1) = true:=bne_iff_ne.mpr c5
      have H':=Aside0.mk H
      clear H
      have p281 : 0 ≤ (x5_1 : Int):=of_decide_eq_true (by first|(with_reducible assumption)|assumption)
      have q281 : x5_1 < (l0.length : Int):=of_decide_eq_true (by first|(with_reducible assumption)|assumption)
      obtain ⟨ad281,e281,hx281_0⟩:=Kd.at_int HR0.out x5_1 p281 q281
      cases e281
      replace p281:=eq_true p281
      replace q281:=eq_true q281
      go_wp2
      go_roundg k1
      case measure=>have:=HK1.out;omega
      case rel=>exact ⟨(wrap64 (x5_1 + 1)),(by first|rfl|(simp;done)|(simp [*];done)),H',⟨by have:=HK1.out;omega⟩,by repeat (first|exact Drawn0.refl _|apply Drawn0.step)⟩
    ·rw [if_neg c4] at H
     exact absurd H (by simp)
   ·rw [if_neg c3] at H
    have c3b0 : decide (x5_1 < (l0.length : Int)) = false:=decide_eq_false c3
    clear c3
    obtain rfl:=Option.some.inj H
    go_wp2
    go_ret
    exact ⟨by first|rfl|(simp;done)|(simp [*];done),by repeat (first|exact Drawn0.refl _|apply Drawn0.step)⟩
end Go.Proofs.Ytgmomcjnldahjaa.Pr
namespace Go.Proofs.Ytgmomcjnldahjaa.Pr
open Go.RowKit Go.Proofs.YtgmomcjnldahjaaW.PrintWords Go.Proofs.YtgmomcjnldahjaaW.PrintLast Go.Proofs.YtgmomcjnldahjaaW.PrintMore
set_option linter.unusedVariables false
set_option linter.unusedSimpArgs false
theorem foldl_max_le : ∀ (o : List Nat) (k : Nat),k ≤ o.foldl max k
 | [],k => Nat.le_refl k
 | x :: o,k => Nat.le_trans (Nat.le_max_left k x) (foldl_max_le o (max k x))
theorem foldl_max_mem : ∀ (o : List Nat) (k j : Nat),j ∈ o → j ≤ o.foldl max k
 | x :: o,k,j,h => by
  rcases List.mem_cons.1 h with rfl|h
  ·exact Nat.le_trans (Nat.le_max_right k j) (foldl_max_le o (max k j))
  ·exact foldl_max_mem o (max k x) j h
theorem in_loop (a : List Int) (x : Int) (ha : a.length ≤ 1000000) : ∀ (rest pre : List Int),a = pre ++ rest → Ev (fun q=>scarfjointref09_in.l0 q a x (pre.length : Int)) (decide (x ∈ rest))
 | [],pre,h => by
  have : pre.length = a.length:=by rw [h];simp
  refine Ev.step (f:=fun _=>some false) (fun q=>?_) (by simpa using Ev.now false)
  rw [scarfjointref09_in.l0,if_neg (by omega)]
 | y :: rest,pre,h => by
  have l1 : pre.length < a.length:=by rw [h];simp
  have e1:=rd_at h
  by_cases hx : y = x
  ·refine Ev.step (f:=fun _=>some true) (fun q=>?_) (by simpa [hx] using Ev.now true)
   rw [scarfjointref09_in.l0,if_pos (by omega),if_pos (by omega),e1,if_pos hx]
  ·have ih:=in_loop a x ha rest (pre ++ [y]) (by rw [h];simp)
   have hd : decide (x ∈ y :: rest) = decide (x ∈ rest):=by simp [Ne.symm hx]
   rw [hd]
   refine Ev.step (fun q=>?_) ih
   rw [scarfjointref09_in.l0,if_pos (by omega),if_pos (by omega),e1,if_neg hx,w64 (by omega),cast_snoc pre y]
theorem in_ev (a : List Int) (x : Int) (ha : a.length ≤ 1000000) : Ev (fun q=>scarfjointref09_in.f q a x) (decide (x ∈ a)):=in_loop a x ha a [] rfl
theorem cmpR_loop (a b : List Int) (ha : a.length ≤ 1000000) : ∀ (ra rb pa pb : List Int),a = pa ++ ra → b = pb ++ rb → pa = pb → Ev (fun q=>scarfjointref09_CompareLists.l0 q a b (pa.length : Int)) (cmpL ra rb)
 | [],rb,pa,pb,h1,h2,he => by
  have l1 : pa.length = a.length:=by rw [h1];simp
  have l2 : b.length = pa.length + rb.length:=by rw [h2,he];simp
  refine Ev.step (f:=fun q=>scarfjointref09_CompareLists.j1 q a b (pa.length : Int) false) (fun q=>?_) ?_
  ·rw [scarfjointref09_CompareLists.l0,if_neg (by omega)]
  ·cases rb with
   | nil =>
    refine Ev.step (f:=fun _=>some 0) (fun q=>?_) (Ev.now _)
    rw [scarfjointref09_CompareLists.j1,if_neg (by simp),if_neg (by simp at l2;omega),if_neg (by simp at l2;omega)]
   | cons y rb =>
    refine Ev.step (f:=fun _=>some (-1)) (fun q=>?_) (Ev.now _)
    rw [scarfjointref09_CompareLists.j1,if_neg (by simp),if_pos (by simp at l2;omega)]
 | x :: ra,[],pa,pb,h1,h2,he => by
  have l1 : pa.length < a.length:=by rw [h1];simp
  have l2 : b.length = pa.length:=by rw [h2,he];simp
  refine Ev.step (f:=fun q=>scarfjointref09_CompareLists.j1 q a b (pa.length : Int) false) (fun q=>?_) ?_
  ·rw [scarfjointref09_CompareLists.l0,if_pos (by omega),decide_eq_false (by omega)]
  ·refine Ev.step (f:=fun _=>some 1) (fun q=>?_) (Ev.now _)
   rw [scarfjointref09_CompareLists.j1,if_neg (by simp),if_neg (by omega),if_pos (by omega)]
 | x :: ra,y :: rb,pa,pb,h1,h2,he => by
  have l1 : pa.length < a.length:=by rw [h1];simp
  have l2 : pa.length < b.length:=by rw [h2,he];simp
  have e1:=rd_at h1
  have e2:=rd_at h2
  rw [← he] at e2
  refine Ev.step (f:=fun q=>scarfjointref09_CompareLists.j1 q a b (pa.length : Int) true) (fun q=>?_) ?_
  ·rw [scarfjointref09_CompareLists.l0,if_pos (by omega),decide_eq_true (by omega)]
  ·unfold cmpL
   by_cases h3 : x < y
   ·rw [if_pos h3]
    refine Ev.step (f:=fun _=>some (-1)) (fun q=>?_) (Ev.now _)
    rw [scarfjointref09_CompareLists.j1,if_pos rfl,if_pos (by omega),if_pos (by omega),if_pos (by omega),e1,e2,if_pos h3]
   ·rw [if_neg h3]
    by_cases h4 : x > y
    ·rw [if_pos h4]
     refine Ev.step (f:=fun _=>some 1) (fun q=>?_) (Ev.now _)
     rw [scarfjointref09_CompareLists.j1,if_pos rfl,if_pos (by omega),if_pos (by omega),if_pos (by omega),e1,e2,if_neg h3,if_pos h4]
    ·rw [if_neg h4]
     have hxy : x = y:=by omega
     refine Ev.step (fun q=>?_) (cmpR_loop a b ha ra rb (pa ++ [x]) (pb ++ [y]) (by rw [h1];simp) (by rw [h2];simp) (by rw [he,hxy]))
     rw [scarfjointref09_CompareLists.j1,if_pos rfl,if_pos (by omega),if_pos (by omega),if_pos (by omega),e1,e2,if_neg h3,if_neg h4,w64 (by omega),cast_snoc pa x]
theorem cmpR_ev (a b : List Int) (ha : a.length ≤ 1000000) : Ev (fun q=>scarfjointref09_CompareLists.f q a b) (cmpL a b):=cmpR_loop a b ha a b [] [] rfl rfl rfl
section
variable {N : List Int} {L : List S34}
theorem typesR_loop (row : List Int) (hr : row.length ≤ 1000000) (hb : ∀ a ∈ row,0 ≤ a ∧ a < L.length) : ∀ (rest pre : List Int),row = pre ++ rest →
  Ev (fun q=>scarfjointref09_types.l0 q row ((row.length : Int) :: pre.map fun a=>(rd_T34 L a).f0) (pre.length : Int) N L) ((row.length : Int) :: row.map fun a=>(rd_T34 L a).f0)
 | [],pre,h => by
  obtain rfl : row = pre:=by rw [h];simp
  refine Ev.step (f:=fun _=>some ((row.length : Int) :: row.map fun a=>(rd_T34 L a).f0)) (fun q=>?_) (Ev.now _)
  rw [scarfjointref09_types.l0,if_neg (by omega)]
 | x :: rest,pre,h => by
  have l1 : pre.length < row.length:=by rw [h];simp
  have e1:=rd_at h
  have hx:=hb x (by rw [h];simp)
  have ih:=typesR_loop row hr hb rest (pre ++ [x]) (by rw [h];simp)
  rw [List.map_append,← List.cons_append,← cast_snoc] at ih
  refine Ev.step (fun q=>?_) ih
  rw [scarfjointref09_types.l0,if_pos (by omega),if_pos (by omega),e1,if_pos hx.1,if_pos hx.2,if_pos (by simp;omega),w64 (by omega)]
  rfl
theorem typesR_ev (hL : L.length ≤ 100) (i j : Nat) : Ev (fun q=>scarfjointref09_types.f q N L (i : Int) (j : Int)) (typesS L (SB L) i j):=by
 obtain ⟨h1,h2⟩:=fits_SB hL i j (n:=max i j + 1) (by omega) (by omega)
 unfold scarfjointref09_types.f
 have e : scarfjointref09_between.f N L (i : Int) (j : Int) = some (SB L i j):=by unfold scarfjointref09_between.f;rw [if_pos (by omega)];rfl
 refine Ev.const_bind e ?_
 exact typesR_loop (SB L i j) (by omega) h2 (SB L i j) [] rfl
theorem typesSB_len (hL : L.length ≤ 100) (i j : Nat) : (typesS L (SB L) i j).length ≤ 101:=types_len (fits_SB hL (n:=max i j + 1)) (by omega) (by omega)
theorem pieceR_loop (hL : L.length ≤ 100) (k : Nat) (o : List Nat) (hol : o.length ≤ 1000) : ∀ (rest pre : List Nat),o = pre ++ rest →
  Ev (fun q=>scarfjointref09_piece.l0 q (io (o ++ [k])) (k : Int) (rd N (k : Int) :: (pre.flatMap fun j=>typesS L (SB L) j k ++ typesS L (SB L) k j)) (pre.length : Int) N L) (placeS N L (SB L) o k)
 | [],pre,he => by
  obtain rfl : o = pre:=by rw [he];simp
  have a:=pairs_len (fits_SB hL (n:=o.foldl max k + 1)) (k:=k) (by have:=foldl_max_le o k;omega) o (fun j hj=>by have:=foldl_max_mem o k j hj;omega)
  have b:=typesSB_len hL k k
  refine Ev.step (f:=fun q=>(scarfjointref09_types.f q N L (k : Int) (k : Int)).bind fun t300=>(if (rd N (k : Int) :: (o.flatMap fun j=>typesS L (SB L) j k ++ typesS L (SB L) k j)).length + t300.length < 17592186044416 then (some ((rd N (k : Int) :: (o.flatMap fun j=>typesS L (SB L) j k ++ typesS L (SB L) k j)) ++ t300)) else none)) (fun q=>?_) ?_
  ·rw [scarfjointref09_piece.l0,io_len,if_neg (by rw [w64 (by omega)];simp)]
  ·refine Ev.bind (typesR_ev hL k k) (Ev.ite_pos ?_ (Ev.now _))
   simp only [List.length_cons];omega
 | x :: rest,pre,he => by
  have l1 : pre.length < o.length:=by rw [he];simp
  have e1 : rd (io (o ++ [k])) (pre.length : Int) = (x : Int):=rd_io (rest:=rest ++ [k]) (by rw [he];simp)
  have a:=pairs_len (fits_SB hL (n:=o.foldl max k + 1)) (k:=k) (by have:=foldl_max_le o k;omega) pre (fun j hj=>by have:=foldl_max_mem o k j (by rw [he];simp [hj]);omega)
  have b:=typesSB_len hL x k
  have c:=typesSB_len hL k x
  have ih:=pieceR_loop hL k o hol rest (pre ++ [x]) (by rw [he];simp)
  rw [List.flatMap_append,← cast_snoc] at ih
  refine Ev.step (f:=fun q=>(scarfjointref09_types.f q N L (x : Int) (k : Int)).bind fun t287=>(if (rd N (k : Int) :: (pre.flatMap fun j=>typesS L (SB L) j k ++ typesS L (SB L) k j)).length + t287.length < 17592186044416 then ((some ((rd N (k : Int) :: (pre.flatMap fun j=>typesS L (SB L) j k ++ typesS L (SB L) k j)) ++ t287 : List Int)).bind fun y290=>((scarfjointref09_types.f q N L (k : Int) (x : Int)).bind fun t294=>(if y290.length + t294.length < 17592186044416 then (scarfjointref09_piece.l0 q (io (o ++ [k])) (k : Int) (y290 ++ t294) ((pre.length : Int) + 1) N L) else none))) else none)) (fun q=>?_) ?_
  ·rw [scarfjointref09_piece.l0,io_len,w64 (by omega),if_pos (by simp;omega),if_pos (by omega),if_pos (by simp;omega),e1]
  ·refine Ev.bind (typesR_ev hL x k) (Ev.ite_pos (by simp only [List.length_cons];omega) ?_)
   refine Ev.const_bind rfl ?_
   refine Ev.bind (typesR_ev hL k x) (Ev.ite_pos (by simp only [List.length_cons,List.length_append];omega) ?_)
   simpa using ih
theorem pieceR_ev (hL : L.length ≤ 100) (o : List Nat) {k : Nat} (hk : k < N.length) (hol : o.length ≤ 999) : Ev (fun q=>scarfjointref09_piece.f q N L (io (o ++ [k]))) (placeS N L (SB L) o k):=by
 have hw : wrap64 (((io (o ++ [k])).length : Int) - 1) = (o.length : Int):=by rw [io_len,w64 (by simp;omega)];simp
 have hr : rd (io (o ++ [k])) (o.length : Int) = (k : Int):=rd_io (rest:=[]) rfl
 unfold scarfjointref09_piece.f
 simp only [hw,hr]
 refine Ev.ite_pos (by omega) (Ev.ite_pos (by rw [io_len];simp;omega) (Ev.ite_pos (by omega) (Ev.ite_pos (by omega) ?_)))
 exact pieceR_loop hL k o (by omega) o [] rfl
theorem tellB_iff (S : Nat → Nat → List Int) (a b c : Nat) : tellB L S a b c = false ↔ c = a ∨ c = b ∨ (typesS L S a c = typesS L S b c ∧ typesS L S c a = typesS L S c b):=by
 unfold tellB
 by_cases h1 : c = a <;> by_cases h2 : c = b <;> by_cases h3 : typesS L S a c = typesS L S b c <;> by_cases h4 : typesS L S c a = typesS L S c b <;> simp [h1,h2,h3,h4]
theorem cmpL_zero : ∀ (a b : List Int),cmpL a b = 0 ↔ a = b
 | [],[] => by simp [cmpL]
 | [],y :: b => by simp [cmpL]
 | x :: a,[] => by simp [cmpL]
 | x :: a,y :: b => by
  have ih:=cmpL_zero a b
  unfold cmpL
  by_cases h1 : x < y
  ·rw [if_pos h1];simp;omega
  ·rw [if_neg h1]
   by_cases h2 : x > y
   ·rw [if_pos h2];simp;omega
   ·rw [if_neg h2,ih]
    have : x = y:=by omega
    simp [this]
theorem cmpR0 (hL : L.length ≤ 100) (a b c d : Nat) {f : Nat → Option Bool} {g : Nat → Option Bool} {r : Bool} (h1 : typesS L (SB L) a b = typesS L (SB L) c d → Ev f r) (h2 : ¬ typesS L (SB L) a b = typesS L (SB L) c d → Ev g r) :
  Ev (fun q=>(scarfjointref09_types.f q N L (a : Int) (b : Int)).bind fun t=>(scarfjointref09_types.f q N L (c : Int) (d : Int)).bind fun u=>(scarfjointref09_CompareLists.f q t u).bind fun z=>if z = 0 then f q else g q) r:=by
 refine Ev.bind (typesR_ev hL a b) (Ev.bind (typesR_ev hL c d) (Ev.bind (cmpR_ev _ _ (Nat.le_trans (typesSB_len hL a b) (by omega))) ?_))
 by_cases h : typesS L (SB L) a b = typesS L (SB L) c d
 ·exact Ev.ite_pos ((cmpL_zero _ _).2 h) (h1 h)
 ·exact Ev.ite_neg (fun e=>h ((cmpL_zero _ _).1 e)) (h2 h)
theorem twinsR_loop (hL : L.length ≤ 100) (hn : N.length ≤ 1000) (a b : Nat) : ∀ (m c : Nat),c + m = N.length →
  Ev (fun q=>scarfjointref09_twins.l0 q (a : Int) (b : Int) (c : Int) N L) (!((List.range' c m).any (tellB L (SB L) a b)))
 | 0,c,h => by
  refine Ev.step (f:=fun _=>some true) (fun q=>?_) (by simpa using Ev.now true)
  rw [scarfjointref09_twins.l0,if_neg (by omega)]
 | m + 1,c,h => by
  have ih:=twinsR_loop hL hn a b m (c + 1) (by omega)
  have ec : ((c + 1 : Nat) : Int) = (c : Int) + 1:=by omega
  rw [ec] at ih
  rw [List.range'_succ,List.any_cons]
  by_cases h1 : c = a
  ·have e : tellB L (SB L) a b c = false:=(tellB_iff _ _ _ _).2 (.inl h1)
   rw [e,Bool.false_or]
   refine Ev.step (fun q=>?_) ih
   rw [scarfjointref09_twins.l0,if_pos (by omega),if_pos (by omega),w64 (by omega)]
  ·by_cases h2 : c = b
   ·have e : tellB L (SB L) a b c = false:=(tellB_iff _ _ _ _).2 (.inr (.inl h2))
    rw [e,Bool.false_or]
    refine Ev.step (fun q=>?_) ih
    rw [scarfjointref09_twins.l0,if_pos (by omega),if_neg (by omega),if_pos (by omega),w64 (by omega)]
   ·refine Ev.step (f:=fun q=>(scarfjointref09_types.f q N L (a : Int) (c : Int)).bind fun t=>(scarfjointref09_types.f q N L (b : Int) (c : Int)).bind fun u=>(scarfjointref09_CompareLists.f q t u).bind fun z=>if z = 0 then ((scarfjointref09_types.f q N L (c : Int) (a : Int)).bind fun t=>(scarfjointref09_types.f q N L (c : Int) (b : Int)).bind fun u=>(scarfjointref09_CompareLists.f q t u).bind fun z=>if z = 0 then scarfjointref09_twins.l0 q (a : Int) (b : Int) ((c : Int) + 1) N L else some false) else some false) (fun q=>?_) ?_
    ·rw [scarfjointref09_twins.l0,if_pos (by omega),if_neg (by omega),if_neg (by omega),w64 (by omega)]
    ·refine cmpR0 hL a c b c (fun e1=>cmpR0 hL c a c b (fun e2=>?_) (fun e2=>?_)) (fun e1=>?_)
     ·have e : tellB L (SB L) a b c = false:=(tellB_iff _ _ _ _).2 (.inr (.inr ⟨e1,e2⟩))
      rw [e,Bool.false_or];exact ih
     ·have e : tellB L (SB L) a b c = true:=by cases h : tellB L (SB L) a b c;rcases (tellB_iff _ _ _ _).1 h with h|h|h;exact absurd h h1;exact absurd h h2;exact absurd h.2 e2;rfl
      rw [e];exact Ev.now _
     ·have e : tellB L (SB L) a b c = true:=by cases h : tellB L (SB L) a b c;rcases (tellB_iff _ _ _ _).1 h with h|h|h;exact absurd h h1;exact absurd h h2;exact absurd h.1 e1;rfl
      rw [e];exact Ev.now _
theorem twinsR_j0 {a b : Int} (x : Bool) {r : Bool} (h1 : x = true → r = false) (h2 : x = false → Ev (fun q=>scarfjointref09_twins.l0 q a b 0 N L) r) : Ev (fun q=>scarfjointref09_twins.j0 q a b x N L) r:=by
 cases x
 ·refine Ev.step (fun q=>?_) (h2 rfl)
  rw [scarfjointref09_twins.j0,if_neg (by simp)]
 ·rw [h1 rfl]
  refine Ev.step (f:=fun _=>some false) (fun q=>?_) (Ev.now _)
  rw [scarfjointref09_twins.j0,if_pos rfl]
theorem twinsR_ev (hL : L.length ≤ 100) (hn : N.length ≤ 1000) {a b : Nat} (ha : a < N.length) (hb : b < N.length) : Ev (fun q=>scarfjointref09_twins.f q N L (a : Int) (b : Int)) (twinB N L (SB L) a b):=by
 unfold scarfjointref09_twins.f
 refine Ev.ite_pos (by omega) (Ev.ite_pos (by omega) (Ev.ite_pos (by omega) (Ev.ite_pos (by omega) ?_)))
 by_cases h1 : rd N (a : Int) = rd N (b : Int)
 ·refine Ev.ite_pos h1 ?_
  refine cmpR0 hL a a b b (fun e1=>?_) (fun e1=>?_)
  ·refine Ev.bind (typesR_ev hL a b) (Ev.bind (typesR_ev hL b a) (Ev.bind (cmpR_ev _ _ (Nat.le_trans (typesSB_len hL a b) (by omega))) ?_))
   refine twinsR_j0 _ (fun h=>?_) (fun h=>?_)
   ·have : ¬ typesS L (SB L) a b = typesS L (SB L) b a:=fun e=>by rw [(cmpL_zero _ _).2 e] at h;simp at h
    simp [twinB,this]
   ·have e2 : typesS L (SB L) a b = typesS L (SB L) b a:=(cmpL_zero _ _).1 (by simpa using h)
    have:=twinsR_loop hL hn a b N.length 0 (by omega) (N:=N)
    rw [← List.range_eq_range'] at this
    simpa [twinB,h1,e1,e2] using this
  ·exact twinsR_j0 _ (fun _=>by simp [twinB,e1]) (fun h=>absurd h (by simp))
 ·exact Ev.ite_neg h1 (twinsR_j0 _ (fun _=>by simp [twinB,h1]) (fun h=>absurd h (by simp)))
theorem kind_eq (a : Int) : scarfjointref05_kind.f a = some (withinB a 99):=by
 unfold scarfjointref05_kind.f withinB
 by_cases h : a ≥ 0
 ·rw [if_pos h,decide_eq_true (show 0 ≤ a from h),Bool.true_and]
 ·rw [if_neg h,decide_eq_false (show ¬ 0 ≤ a from h),Bool.false_and]
theorem right_eq (x : S34) (n : Int) : scarfjointref05_right.f x.f0 x.f1 x.f2 n = some (fitsB x n):=by
 unfold scarfjointref05_right.f fitsB
 rw [kind_eq,Option.bind_some]
 cases withinB x.f0 99
 ·rw [if_neg (by simp)];rfl
 ·rw [if_pos rfl,Bool.true_and]
  unfold withinB
  by_cases h1 : x.f1 ≥ 0
  ·rw [if_pos h1,decide_eq_true (show 0 ≤ x.f1 from h1),Bool.true_and]
   by_cases h2 : x.f1 < n
   ·rw [if_pos h2,decide_eq_true (show x.f1 ≤ n - 1 by omega),Bool.true_and]
    by_cases h3 : x.f2 ≥ 0
    ·rw [if_pos h3,decide_eq_true (show 0 ≤ x.f2 from h3),Bool.true_and]
     by_cases h4 : x.f2 < n
     ·rw [decide_eq_true h4,decide_eq_true (show x.f2 ≤ n - 1 by omega)]
     ·rw [decide_eq_false h4,decide_eq_false (show ¬ x.f2 ≤ n - 1 by omega)]
    ·rw [if_neg h3,decide_eq_false (show ¬ 0 ≤ x.f2 from h3),Bool.false_and]
   ·rw [if_neg h2,decide_eq_false (show ¬ x.f1 ≤ n - 1 by omega),Bool.false_and]
  ·rw [if_neg h1,decide_eq_false (show ¬ 0 ≤ x.f1 from h1),Bool.false_and,Bool.false_and]
theorem rd34_at {l pre rest : List S34} {x : S34} (h : l = pre ++ x :: rest) : rd_T34 l (pre.length : Int) = x:=by
 subst h;simp [rd_T34]
theorem validR_l1 (hl : L.length ≤ 1000000) : ∀ (rest pre : List S34),L = pre ++ rest → Ev (fun q=>scarfjointref05_Valid.l1 q (pre.length : Int) N L) (if rest.any (fun x=>!fitsB x N.length) then 6 else 0)
 | [],pre,h => by
  have : pre.length = L.length:=by rw [h];simp
  refine Ev.step (f:=fun _=>some 0) (fun q=>?_) (Ev.now _)
  rw [scarfjointref05_Valid.l1,if_neg (by omega)]
 | x :: rest,pre,h => by
  have l1 : pre.length < L.length:=by rw [h];simp
  have e1:=rd34_at h
  refine Ev.step (f:=fun q=>if fitsB x N.length = true then scarfjointref05_Valid.l1 q ((pre.length : Int) + 1) N L else some 6) (fun q=>?_) ?_
  ·rw [scarfjointref05_Valid.l1,if_pos (by omega),if_pos (by omega),e1,right_eq,Option.bind_some,w64 (by omega)]
  ·cases hf : fitsB x N.length
   ·exact Ev.ite_neg (by simp) (by simpa [hf] using Ev.now 6)
   ·refine Ev.ite_pos rfl ?_
    rw [cast_snoc pre x]
    simpa [hf] using validR_l1 hl rest (pre ++ [x]) (by rw [h];simp)
theorem validR_l0 (hl : L.length ≤ 1000000) (hn : N.length ≤ 1000000) : ∀ (rest pre : List Int),N = pre ++ rest → Ev (fun q=>scarfjointref05_Valid.l0 q (pre.length : Int) N L) (if rest.any (fun t=>!withinB t 99) then 6 else if L.any (fun x=>!fitsB x N.length) then 6 else 0)
 | [],pre,h => by
  have : pre.length = N.length:=by rw [h];simp
  refine Ev.step (f:=fun q=>scarfjointref05_Valid.l1 q 0 N L) (fun q=>?_) (validR_l1 hl L [] rfl)
  rw [scarfjointref05_Valid.l0,if_neg (by omega)]
 | x :: rest,pre,h => by
  have l1 : pre.length < N.length:=by rw [h];simp
  have e1:=rd_at h
  refine Ev.step (f:=fun q=>if withinB x 99 = true then scarfjointref05_Valid.l0 q ((pre.length : Int) + 1) N L else some 6) (fun q=>?_) ?_
  ·rw [scarfjointref05_Valid.l0,if_pos (by omega),if_pos (by omega),e1,kind_eq,Option.bind_some,w64 (by omega)]
  ·cases hf : withinB x 99
   ·exact Ev.ite_neg (by simp) (by simpa [hf] using Ev.now 6)
   ·refine Ev.ite_pos rfl ?_
    rw [cast_snoc pre x]
    simpa [hf] using validR_l0 hl hn rest (pre ++ [x]) (by rw [h];simp)
theorem gvalidR_ev (hl : L.length ≤ 1000000) (hn : N.length ≤ 1000000) : Ev (fun q=>scarfjointref05_Valid.f q N L) (gvalidE N L):=by
 unfold scarfjointref05_Valid.f gvalidE
 by_cases h1 : (N.length : Int) > 40
 ·refine Ev.ite_pos h1 ?_
  rw [if_pos (.inl (by omega))]
  refine Ev.step (f:=fun _=>some 3) (fun q=>?_) (Ev.now _)
  rw [scarfjointref05_Valid.j0,if_pos rfl]
 ·refine Ev.ite_neg h1 ?_
  by_cases h2 : (L.length : Int) > 80
  ·rw [if_pos (.inr (by omega))]
   refine Ev.step (f:=fun _=>some 3) (fun q=>?_) (Ev.now _)
   rw [scarfjointref05_Valid.j0,if_pos (by simpa using h2)]
  ·rw [if_neg (by omega)]
   refine Ev.step (f:=fun q=>scarfjointref05_Valid.l0 q 0 N L) (fun q=>?_) (validR_l0 hl hn N [] rfl)
   rw [scarfjointref05_Valid.j0,if_neg (by simpa using h2)]
theorem validR_ev (hl : L.length ≤ 1000000) (hn : N.length ≤ 1000000) : Ev (fun q=>scarfjointref09_Valid.f q N L) (validE N L):=by
 unfold scarfjointref09_Valid.f validE
 refine Ev.bind (gvalidR_ev hl hn) ?_
 by_cases h1 : gvalidE N L = 0
 ·refine Ev.ite_pos h1 ?_
  have e : (if gvalidE N L ≠ 0 then gvalidE N L else if 8 < N.length then (3 : Int) else 0) = if 8 < N.length then 3 else 0:=if_neg (fun h=>h h1)
  rw [e]
  by_cases h2 : (N.length : Int) > 8
  ·have e2 : (if 8 < N.length then (3 : Int) else 0) = 3:=if_pos (by omega)
   rw [e2];exact Ev.ite_pos h2 (Ev.now _)
  ·have e2 : (if 8 < N.length then (3 : Int) else 0) = 0:=if_neg (by omega)
   rw [e2];exact Ev.ite_neg h2 (Ev.now _)
 ·exact Ev.ite_neg h1 (by rw [if_pos h1];exact Ev.now _)
def lightB (N : List Int) (L : List S34) : Bool:=decide (N.length ≤ 45) && (decide (L.length ≤ 90) && (if validE N L = 0 then decide (N.length ≤ 7) && decide (L.length ≤ 12) else true))
theorem lightR_ev (N : List Int) (L : List S34) : Ev (fun q=>scarfjointref09_Light.f q N L) (lightB N L):=by
 unfold scarfjointref09_Light.f lightB scarfjointref05_Few.f
 by_cases h1 : N.length ≤ 45
 ·rw [if_pos (by omega),decide_eq_true h1,Bool.true_and]
  refine Ev.const_bind rfl ?_
  by_cases h2 : L.length ≤ 90
  ·rw [decide_eq_true h2,Bool.true_and]
   refine Ev.ite_pos (by simp;omega) ?_
   refine Ev.bind (validR_ev (by omega) (by omega)) ?_
   by_cases h3 : validE N L = 0
   ·refine Ev.ite_pos h3 ?_
    rw [if_pos h3]
    by_cases h4 : N.length ≤ 7
    ·rw [decide_eq_true h4,Bool.true_and]
     refine Ev.ite_pos (by omega) ?_
     have : decide ((L.length : Int) ≤ 12) = decide (L.length ≤ 12):=by by_cases h : L.length ≤ 12 <;> simp [h] <;> omega
     rw [this];exact Ev.now _
    ·rw [decide_eq_false h4,Bool.false_and]
     exact Ev.ite_neg (by omega) (Ev.now _)
   ·refine Ev.ite_neg h3 ?_
    rw [if_neg h3];exact Ev.now _
  ·rw [decide_eq_false h2,Bool.false_and]
   exact Ev.ite_neg (by simp;omega) (Ev.now _)
 ·rw [if_neg (by omega),decide_eq_false h1,Bool.false_and]
  exact Ev.const_bind rfl (Ev.ite_neg (by simp) (Ev.now _))
theorem light_is {N : List Int} {L : List S34} (h : lightB N L = true) : N.length ≤ 45 ∧ L.length ≤ 90 ∧ (validE N L = 0 → N.length ≤ 7 ∧ L.length ≤ 12):=by
 unfold lightB at h
 simp only [Bool.and_eq_true,decide_eq_true_eq] at h
 refine ⟨h.1,h.2.1,fun hv=>?_⟩
 have h3:=h.2.2
 rw [if_pos hv] at h3
 simpa using h3
theorem copied_eq (hl : L.length ≤ 1000000) (hn : N.length ≤ 1000000) : scarfjointref05_Copied.f N L = some (N,L):=by
 unfold scarfjointref05_Copied.f
 rw [Option.bind_some,if_pos (by simp;omega),Option.bind_some,if_pos (by simp;omega)]
 simp
end
end Go.Proofs.Ytgmomcjnldahjaa.Pr
namespace Go.Proofs.Ytgmomcjnldahjaa.Pr
open Go.RowKit Go.Proofs.YtgmomcjnldahjaaW.PrintWords Go.Proofs.YtgmomcjnldahjaaW.PrintLast Go.Proofs.YtgmomcjnldahjaaW.PrintMore
attribute [local go_sem] max2_int min2_int max_two min_two max_three min_three max_four min_four
set_option linter.unusedVariables false
set_option linter.unusedSimpArgs false
def outB (n : Nat) (v : Int) : Bool:=decide (v < 0) || decide (v ≥ n)
def codeinE (N : List Int) (L : List S34) (o : List Int) : Int:=if validE N L ≠ 0 then validE N L else if o.length ≠ N.length then 20 else if o.any (outB N.length) = true then 6 else if o.Nodup then 0 else 5
theorem ent48 : Ent 48:=⟨_,Try.func48,rfl,rfl⟩
set_option maxHeartbeats 8000000 in
set_option maxRecDepth 100000 in
theorem clo48_calls (x : Int) (n : Nat) (gb : Nat) (A : Option Addr) (c : Nat) (w : World) (hg : w.cell? ⟨gb,0,none⟩ = some (.slice A n c)) : Calls Try.prog 48 #[.int .i64 x,.pointer (some ⟨gb,0,none⟩)] w fun e w'=>e = .returned (.bool (outB n x)) ∧ Below w.heap.size w w':=by
 unfold outB
 by_cases h : x < 0
 ·have k1 : decide (x < 0) = true:=decide_eq_true h
  rw [k1]
  clear h
  go_enter Try.func48,Try.ntmps48
  go_wp2
  repeat (go_quiet (fail);try go_wp2)
  go_ret
  exact ⟨rfl,by first|exact Below.refl _ _|exact zzF (Below.refl _ _)|exact zzE (Below.refl _ _) _⟩
 ·have k1 : decide (x < 0) = false:=decide_eq_false h
  rw [k1]
  obtain ⟨z,hz⟩ : ∃ z,decide (x ≥ (n : Int)) = z:=⟨_,rfl⟩
  have hz' : decide ((n : Int) ≤ x) = z:=hz
  rw [hz]
  clear h
  go_enter Try.func48,Try.ntmps48
  go_wp2
  repeat (go_quiet (fail);try go_wp2)
  go_ret
  exact ⟨by first|rfl|simp [hz,hz'],by first|exact Below.refl _ _|exact zzF (Below.refl _ _)|exact zzE (Below.refl _ _) _⟩
theorem io_toNat {o : List Int} (h : ∀ v ∈ o,0 ≤ v) : io (o.map Int.toNat) = o:=by
 unfold io
 rw [List.map_map]
 conv=>rhs;rw [← List.map_id o]
 exact List.map_congr_left fun v hv=>by have:=h v hv;simp;omega
theorem nodup_snoc {α : Type} {l : List α} {x : α} (h : l.Nodup) (hx : x ∉ l) : (l ++ [x]).Nodup:=by
 rw [List.nodup_append]
 exact ⟨h,by simp,fun a ha b hb=>by simp at hb;subst hb;intro e;subst e;exact hx ha⟩
theorem take_snoc {l : List Int} {n : Nat} (h : n < l.length) : l.take (n + 1) = l.take n ++ [rd l (n : Int)]:=by
 unfold rd
 rw [Int.toNat_natCast,List.take_add_one,List.getD_eq_getElem?_getD,List.getElem?_eq_getElem h];rfl
set_option maxHeartbeats 8000000 in
set_option maxRecDepth 100000 in
theorem codein_calls {w : World} {A0 : Option Addr} {c0 : Nat} {N : List Int} {A1 : Option Addr} {c1 : Nat} {L : List S34} {A2 : Option Addr} {c2 : Nat} {o : List Int} (S : Nat → Nat → List Int) (hr0 : Kd.C (Kd.int .i64) w A0 N.length N) (hc0 : N.length ≤ c0) (hr1 : Kd.C k34 w A1 L.length L) (hc1 : L.length ≤ c1) (hr2 : Kd.C (Kd.int .i64) w A2 o.length o) (hc2 : o.length ≤ c2) (hol : o.length ≤ 1000000)
  (hok : validE N L = 0 → L.length < 20 ∧ Fits N.length L S ∧ ∀ i j,i < N.length → j < N.length → ∃ k,slices_insertionSortCmpFunc_int.f k (rowE L L.length i j) 0 ((rowE L L.length i j).length : Int) L = some (S i j)) :
  Calls Try.prog 21 #[.agg #[.slice A0 N.length c0,.slice A1 L.length c1],.slice A2 o.length c2] w fun e w'=>Below w.heap.size w w' ∧ ((codeinE N L o ≠ 0 ∧ e = .returned (.tuple #[.slice none 0 0,.int .i64 (codeinE N L o)])) ∨
   (codeinE N L o = 0 ∧ ∃ v,e = .returned (.tuple #[v,.int .i64 0]) ∧ Kd.R (Kd.int .i64) 3 w' w.heap.size (fun _=>True) v (codeS N L S (o.map Int.toNat)))):=by
 have HV:=Aside0.mk (fun W (hw : Below w.heap.size w W)=>valid_calls A0 c0 N A1 c1 L W (Kd.C_below hr0 hw) hc0 (Kd.C_below hr1 hw) hc1)
 have HR0:=Aside0.mk hr0
 have HR1:=Aside0.mk hr1
 have HR2:=Aside0.mk hr2
 have HC0:=Aside0.mk hc0
 have HC1:=Aside0.mk hc1
 have HC2:=Aside0.mk hc2
 have HOL:=Aside0.mk hol
 have hu30:=Try.underlying30
 have hmf : ∀ (fn : Fn) (first cap : Array Value) (w : World),(Instr.makeFunc fn first cap).run Try.prog w = .ok (.func fn first cap) w:=fun _ _ _ _=>rfl
 have HB:=Aside0.mk (Below.refl w.heap.size w)
 by_cases h1 : validE N L = 0
 ·have HE:=Aside0.mk h1
  have HOK:=Aside0.mk (hok h1)
  have HVZ:=Aside0.mk (validE_zero h1)
  have HD:=Aside0.mk (show codeinE N L o = if o.length ≠ N.length then 20 else if o.any (outB N.length) = true then 6 else if o.Nodup then 0 else 5 from by rw [codeinE,if_neg (by simp [h1])])
  clear hr0 hr1 hr2 hc0 hc1 hok h1
  go_enter Try.func21,Try.ntmps21
  go_upto_region 4 with (first|((with_reducible refine gate_dst (N:=2) rfl ?_);refine box_event ?hg (N:=2) ?hd (cs:=#[.slice A0 N.length c0,.slice A1 L.length c1]) (t:=30) ?hr ?_;(case hd=>rfl);(case hg=>rfl);(case hr=>first|(go_simp;done)|(go_simp;rfl));intro gb hg w1 hbox hb;have n0_:=Aside0.mk (below_step HB.out hb);clear HB;have HB:=n0_;clear n0_ hb hg;have BK:=Aside0.mk hbox;have hcgb0 : w1.cell? ⟨gb,0,none⟩ = some (.slice A0 N.length c0):=(blk_cell hbox 0).trans rfl;have hcgb1 : w1.cell? ⟨gb,1,none⟩ = some (.slice A1 L.length c1):=(blk_cell hbox 1).trans rfl;clear hbox)|(go_at_call 37;with_reducible refine (HV.out _ (by repeat (first|(with_reducible first|exact HB.out|apply zzD|apply zzE|apply zzF)|exact HB.out))).mono ?_;rw [HE.out];rintro e w2 ⟨rfl,hb⟩;have BK_:=Aside0.mk (blk_below (g:=gb) (o:=.cells #[.slice A0 N.length c0,.slice A1 L.length c1] 30 (0,0)) (by (with_reducible repeat (first|refine blk_drewN ?_ _|refine blk_drew ?_|refine blk_alloc ?_ _));exact BK.out) hb);have n0_:=Aside0.mk (below_step (by repeat (first|(with_reducible first|exact HB.out|apply zzD|apply zzE|apply zzF)|exact HB.out)) hb);clear HB BK;have HB:=n0_;have BK:=BK_;clear n0_ hb BK_;have hcw20 : w2.cell? ⟨gb,0,none⟩ = some (.slice A0 N.length c0):=(blk_cell BK.out 0).trans rfl;have hcw21 : w2.cell? ⟨gb,1,none⟩ = some (.slice A1 L.length c1):=(blk_cell BK.out 1).trans rfl))
  by_cases h2 : o.length = N.length
  ·have k2 : ((o.length : Int) != (N.length : Int)) = false:=by simp [h2]
   have k2' : (o.length != N.length) = false:=by simp [h2]
   have H2:=Aside0.mk h2
   clear h2
   have K1:=Aside0.mk (fun W (hw : Below w.heap.size w W) (hg : W.cell? ⟨gb,0,none⟩ = some (.slice A0 N.length c0))=>contains_int 48 #[.pointer (some ⟨gb,0,none⟩)] ent48 (outB N.length) A2 c2 o W (Kd.C_below HR2.out hw) HC2.out HOL.out (fun W' x hw' _=>clo48_calls x N.length gb A0 c0 W' (pw_cell_below hw' hg)))
   cases hb1 : o.any (outB N.length)
   ·have HA:=Aside0.mk hb1
    rw [hb1] at K1
    clear hb1
    go_upto_region 8 with (first|(go_at_call 47;(refine (K1.out _ (by repeat (first|(with_reducible first|exact HB.out|apply zzD|apply zzE|apply zzF)|exact HB.out)) ((blk_cell (by (with_reducible repeat (first|refine blk_drewN ?_ _|refine blk_drew ?_|refine blk_alloc ?_ _));exact BK.out) 0).trans rfl)).mono ?_);rintro e w3 ⟨rfl,hb⟩;have BK_:=Aside0.mk (blk_below (g:=gb) (o:=.cells #[.slice A0 N.length c0,.slice A1 L.length c1] 30 (0,0)) (by (with_reducible repeat (first|refine blk_drewN ?_ _|refine blk_drew ?_|refine blk_alloc ?_ _));exact BK.out) hb);have n0_:=Aside0.mk (below_step (by repeat (first|(with_reducible first|exact HB.out|apply zzD|apply zzE|apply zzF)|exact HB.out)) hb);clear HB BK;have HB:=n0_;have BK:=BK_;clear n0_ hb BK_;have hcw30 : w3.cell? ⟨gb,0,none⟩ = some (.slice A0 N.length c0):=(blk_cell BK.out 0).trans rfl;have hcw31 : w3.cell? ⟨gb,1,none⟩ = some (.slice A1 L.length c1):=(blk_cell BK.out 1).trans rfl))
    go_wp2
    go_loopw [25] (fun v wr=>∃ n : Nat,n ≤ o.length ∧ v = .int .i64 (n : Int) ∧ Aside0 ((o.take n).Nodup) ∧ Aside0 (wr.heap[gb]? = some (.cells #[.slice A0 N.length c0,.slice A1 L.length c1] 30 (0,0))) ∧ Aside0 (Below w.heap.size w wr)) (fun v _=>o.length - (intOf v).toNat)
    case atStart=>exact ⟨0,by omega,rfl,⟨by simp⟩,BK,HB⟩
    case round =>
     clear BK HB
     obtain ⟨n,hn,rfl,HI,BK,HB⟩:=hrel
     have hcwr0 : wr.cell? ⟨gb,0,none⟩ = some (.slice A0 N.length c0):=(blk_cell BK.out 0).trans rfl;have hcwr1 : wr.cell? ⟨gb,1,none⟩ = some (.slice A1 L.length c1):=(blk_cell BK.out 1).trans rfl
     by_cases c3 : n < o.length
     ·have c3b0 : decide ((n : Int) < (o.length : Int)) = true:=decide_eq_true (by omega)
      have c3b1 : decide (n < o.length) = true:=decide_eq_true c3
      obtain ⟨ad126,e126,hx126_0⟩:=Kd.at_int (Kd.C_below HR2.out HB.out) (n : Int) (by omega) (by omega)
      cases e126
      rw [Int.toNat_natCast] at hx126_0
      have hnc : n ≤ c2:=by omega
      have hnc' : (n : Int) ≤ (c2 : Int):=by omega
      have hn0 : 0 ≤ (n : Int):=by omega
      have HTL:=Aside0.mk (show (o.take n).length = n from by rw [List.length_take];omega)
      have HT:=Aside0.mk (show ∀ W,Below w.heap.size w W → Calls Try.prog 49 #[.slice (some ad126) n c2,.int .i64 (rd o (n : Int))] W fun e w'=>e = .returned (.bool (decide (rd o (n : Int) ∈ o.take n))) ∧ Drawn0 W w' from fun W h=>by
       have:=Kd.C_take (m:=n) (Kd.C_below HR2.out h) hn
       have h3:=contains_c (rd o (n : Int)) (c:=c2) this (by rw [HTL.out];exact hnc) (by rw [HTL.out];have:=HOL.out;omega)
       rwa [HTL.out] at h3)
      by_cases h4 : rd o (n : Int) ∈ o.take n
      ·rw [decide_eq_true h4] at HT
       have H4:=Aside0.mk h4
       clear h4
       go_wp2_with (first|(go_at_call 49;(refine (HT.out _ (by repeat (first|(with_reducible first|exact HB.out|apply zzD|apply zzE|apply zzF)|exact HB.out))).mono ?_);rintro e w4 ⟨rfl,hdr⟩;obtain ⟨nd,rfl⟩:=hdr.out))
       repeat (go_quiet (fail);try go_wp2)
       go_ret2
       have HX:=Aside0.mk (show codeinE N L o = 5 from by
        rw [HD.out,if_neg (by simp [H2.out]),if_neg (by simp [HA.out]),if_neg]
        intro hnd
        have:=List.nodup_append.1 (show (o.take n ++ o.drop n).Nodup by rw [List.take_append_drop];exact hnd)
        exact this.2.2 _ H4.out _ (by rw [drop_rd c3];simp) rfl)
       exact ⟨(by repeat (first|(with_reducible first|exact HB.out|apply zzD|apply zzE|apply zzF)|exact HB.out)),.inl ⟨by rw [HX.out];decide,by rw [HX.out];rfl⟩⟩
      ·rw [decide_eq_false h4] at HT
       have H4:=Aside0.mk h4
       clear h4
       go_wp2_with (first|(go_at_call 49;(refine (HT.out _ (by repeat (first|(with_reducible first|exact HB.out|apply zzD|apply zzE|apply zzF)|exact HB.out))).mono ?_);rintro e w4 ⟨rfl,hdr⟩;obtain ⟨nd,rfl⟩:=hdr.out))
       repeat (go_quiet (fail);try go_wp2)
       go_roundw
       case rel=>exact ⟨n + 1,by omega,by first|rfl|simp,⟨by rw [take_snoc c3];exact nodup_snoc HI.out H4.out⟩,Aside0.mk (by (with_reducible repeat (first|refine blk_drewN ?_ _|refine blk_drew ?_|refine blk_alloc ?_ _));exact BK.out),Aside0.mk (by repeat (first|(with_reducible first|exact HB.out|apply zzD|apply zzE|apply zzF)|exact HB.out))⟩
       case measure=>show o.length - ((n : Int) + 1).toNat < o.length - ((n : Nat) : Int).toNat;omega
     ·have c3b0 : decide ((n : Int) < (o.length : Int)) = false:=decide_eq_false (by omega)
      have c3b1 : decide (n < o.length) = false:=decide_eq_false c3
      obtain rfl : n = o.length:=by omega
      have HO0:=Aside0.mk (show ∀ v ∈ o,0 ≤ v ∧ v < (N.length : Int) from fun v hv=>by
       have:=List.any_eq_false.1 HA.out v hv
       simp [outB] at this;omega)
      have HIO:=Aside0.mk (show io (o.map Int.toNat) = o from io_toNat fun v hv=>(HO0.out v hv).1)
      have HDZ:=Aside0.mk (show codeinE N L o = 0 from by rw [HD.out,if_neg (by simp [H2.out]),if_neg (by simp [HA.out]),if_pos (by simpa using HI.out)])
      have HTB:=Aside0.mk (fun W (hw : Below w.heap.size w W)=>tabled_calls A0 c0 N A1 c1 L W (Kd.C_below HR0.out hw) HC0.out (Kd.C_below HR1.out hw) HC1.out (by have:=HVZ.out.1;omega) HOK.out.1 (fun a ha=>HVZ.out.2 _ (rd_mem34 ha)) S HOK.out.2.2)
      have HK2:=Aside0.mk (fun W (hw : Below w.heap.size w W) gt gR (hT : Tab W gt A0 c0 N A1 c1 L gR S)=>show Calls Try.prog 50 #[.pointer (some ⟨gt,0,none⟩),.slice A2 o.length c2] W fun e w'=>∃ v,e = .returned v ∧ Kd.R (Kd.int .i64) 3 w' W.heap.size (fun _=>True) v (codeS N L S (o.map Int.toNat)) ∧ Below W.heap.size W w' from by
       have h3:=Tab.code hT (o:=o.map Int.toNat) (fun j hj=>by obtain ⟨v,hv,rfl⟩:=List.mem_map.1 hj;have:=HO0.out v hv;omega) (by simp;have:=HVZ.out.1;have:=H2.out;omega) (A:=A2) (c:=c2) (by rw [HIO.out];exact Kd.C_below HR2.out hw) (by rw [HIO.out];exact HC2.out)
       rwa [HIO.out] at h3)
      clear hn c3 c3b1
      go_wp2_with (first|(go_at_call 39;with_reducible refine (HTB.out _ (by repeat (first|(with_reducible first|exact HB.out|apply zzD|apply zzE|apply zzF)|exact HB.out))).mono ?_;rintro e w3 ⟨gt,gR,rfl,q1,q2,hb⟩;rw [row_eq] at q1;have Q1:=Aside0.mk q1;have Q2:=Aside0.mk q2;clear q1 q2;have BK_:=Aside0.mk (blk_below (g:=gb) (o:=.cells #[.slice A0 N.length c0,.slice A1 L.length c1] 30 (0,0)) (by (with_reducible repeat (first|refine blk_drewN ?_ _|refine blk_drew ?_|refine blk_alloc ?_ _));exact BK.out) hb);have n0_:=Aside0.mk (below_step (by repeat (first|(with_reducible first|exact HB.out|apply zzD|apply zzE|apply zzF)|exact HB.out)) hb);clear HB BK;have HB:=n0_;have BK:=BK_;clear n0_ hb BK_;have TT:=Aside0.mk (show Tab w3 gt A0 c0 N A1 c1 L gR S from ⟨Q1.out,Kd.C_below HR0.out HB.out,Kd.C_below HR1.out HB.out,Q2.out,HC0.out,HC1.out,by have:=HVZ.out.1;omega,by have:=HOK.out.1;omega,HOK.out.2.1⟩);have HL3:=Aside0.mk HB.out.size;have HBS:=Aside0.mk (HK2.out _ HB.out _ _ TT.out))|(go_at_call 50;with_reducible refine HBS.out.mono ?_;rintro e w4 ⟨v,rfl,p1,hb⟩;have P1:=Aside0.mk p1;clear p1;have BK_:=Aside0.mk (blk_below (g:=gb) (o:=.cells #[.slice A0 N.length c0,.slice A1 L.length c1] 30 (0,0)) (by (with_reducible repeat (first|refine blk_drewN ?_ _|refine blk_drew ?_|refine blk_alloc ?_ _));exact BK.out) hb);have n0_:=Aside0.mk (below_step (by repeat (first|(with_reducible first|exact HB.out|apply zzD|apply zzE|apply zzF)|exact HB.out)) hb);clear HB BK;have HB:=n0_;have BK:=BK_;clear n0_ hb BK_))
      go_ret2
      exact ⟨(by repeat (first|(with_reducible first|exact HB.out|apply zzD|apply zzE|apply zzF)|exact HB.out)),.inr ⟨HDZ.out,_,rfl,Kd.R_lower P1.out HL3.out⟩⟩
   ·have HX:=Aside0.mk (show codeinE N L o = 6 from by rw [HD.out,if_neg (by simp [H2.out]),if_pos hb1])
    rw [hb1] at K1
    clear hb1
    go_wp2_with (first|(go_at_call 47;(refine (K1.out _ (by repeat (first|(with_reducible first|exact HB.out|apply zzD|apply zzE|apply zzF)|exact HB.out)) ((blk_cell (by (with_reducible repeat (first|refine blk_drewN ?_ _|refine blk_drew ?_|refine blk_alloc ?_ _));exact BK.out) 0).trans rfl)).mono ?_);rintro e w3 ⟨rfl,hb⟩;have BK_:=Aside0.mk (blk_below (g:=gb) (o:=.cells #[.slice A0 N.length c0,.slice A1 L.length c1] 30 (0,0)) (by (with_reducible repeat (first|refine blk_drewN ?_ _|refine blk_drew ?_|refine blk_alloc ?_ _));exact BK.out) hb);have n0_:=Aside0.mk (below_step (by repeat (first|(with_reducible first|exact HB.out|apply zzD|apply zzE|apply zzF)|exact HB.out)) hb);clear HB BK;have HB:=n0_;have BK:=BK_;clear n0_ hb BK_;have hcw30 : w3.cell? ⟨gb,0,none⟩ = some (.slice A0 N.length c0):=(blk_cell BK.out 0).trans rfl;have hcw31 : w3.cell? ⟨gb,1,none⟩ = some (.slice A1 L.length c1):=(blk_cell BK.out 1).trans rfl))
    go_ret2
    exact ⟨(by repeat (first|(with_reducible first|exact HB.out|apply zzD|apply zzE|apply zzF)|exact HB.out)),.inl ⟨by rw [HX.out];decide,by rw [HX.out];rfl⟩⟩
  ·have k2 : ((o.length : Int) != (N.length : Int)) = true:=by simp;omega
   have k2' : (o.length != N.length) = true:=by simp;omega
   have HX:=Aside0.mk (show codeinE N L o = 20 from by rw [HD.out,if_pos h2])
   clear h2
   go_wp2
   go_ret2
   exact ⟨(by repeat (first|(with_reducible first|exact HB.out|apply zzD|apply zzE|apply zzF)|exact HB.out)),.inl ⟨by rw [HX.out];decide,by rw [HX.out];rfl⟩⟩
 ·obtain ⟨E,hE⟩ : ∃ E,validE N L = E:=⟨_,rfl⟩
  have HE:=Aside0.mk hE
  have k1 : (E != 0) = true:=bne_iff_ne.mpr (by rw [← hE];exact h1)
  have k1' : (E == 0) = false:=beq_eq_false_iff_ne.mpr (by rw [← hE];exact h1)
  have HX:=Aside0.mk (show codeinE N L o = E from by rw [codeinE,if_pos h1,hE])
  have H1:=Aside0.mk h1
  clear hr0 hr1 hr2 hc0 hc1 hok hE h1
  go_enter Try.func21,Try.ntmps21
  go_wp2_with (first|((with_reducible refine gate_dst (N:=2) rfl ?_);refine box_event ?hg (N:=2) ?hd (cs:=#[.slice A0 N.length c0,.slice A1 L.length c1]) (t:=30) ?hr ?_;(case hd=>rfl);(case hg=>rfl);(case hr=>first|(go_simp;done)|(go_simp;rfl));intro gb hg w1 hbox hb;have n0_:=Aside0.mk (below_step HB.out hb);clear HB;have HB:=n0_;clear n0_ hb hg;have BK:=Aside0.mk hbox;have hcgb0 : w1.cell? ⟨gb,0,none⟩ = some (.slice A0 N.length c0):=(blk_cell hbox 0).trans rfl;have hcgb1 : w1.cell? ⟨gb,1,none⟩ = some (.slice A1 L.length c1):=(blk_cell hbox 1).trans rfl;clear hbox)|(go_at_call 37;with_reducible refine (HV.out _ (by repeat (first|(with_reducible first|exact HB.out|apply zzD|apply zzE|apply zzF)|exact HB.out))).mono ?_;rw [HE.out];rintro e w2 ⟨rfl,hb⟩;have BK_:=Aside0.mk (blk_below (g:=gb) (o:=.cells #[.slice A0 N.length c0,.slice A1 L.length c1] 30 (0,0)) (by (with_reducible repeat (first|refine blk_drewN ?_ _|refine blk_drew ?_|refine blk_alloc ?_ _));exact BK.out) hb);have n0_:=Aside0.mk (below_step (by repeat (first|(with_reducible first|exact HB.out|apply zzD|apply zzE|apply zzF)|exact HB.out)) hb);clear HB BK;have HB:=n0_;have BK:=BK_;clear n0_ hb BK_;have hcw20 : w2.cell? ⟨gb,0,none⟩ = some (.slice A0 N.length c0):=(blk_cell BK.out 0).trans rfl;have hcw21 : w2.cell? ⟨gb,1,none⟩ = some (.slice A1 L.length c1):=(blk_cell BK.out 1).trans rfl))
  go_ret2
  exact ⟨(by repeat (first|(with_reducible first|exact HB.out|apply zzD|apply zzE|apply zzF)|exact HB.out)),.inl ⟨by rw [HX.out,← HE.out];exact H1.out,by rw [HX.out];rfl⟩⟩
end Go.Proofs.Ytgmomcjnldahjaa.Pr
