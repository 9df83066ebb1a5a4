/- Functions of this claim and what their calls compute, written by wip/tools/mp.py, a variant of the kit printer. Conditions: each theorem has its own. -/
import Derived.Test.YteebkkdbkkibmaaPr0
import Derived.Test.YteebkkdbkkibmaaPr14
import Derived.Test.YteebkkdbkkibmaaPr15
import Derived.Test.YteebkkdbkkibmaaPr16
namespace Go.Proofs.Yteebkkdbkkibmaa.Pr
open Go.RowKit Go.Proofs.YteebkkdbkkibmaaW.PrintWords Go.Proofs.YteebkkdbkkibmaaW.PrintLast Go.Proofs.YteebkkdbkkibmaaW.PrintMore
attribute [local go_sem] max2_int min2_int max_two min_two max_three min_three max_four min_four   -- for this text's walks alone
set_option linter.unusedVariables false
set_option linter.unusedSimpArgs false

/-! ### scarfjointref03_distances: function 44 -/
mutual
def scarfjointref03_distances.l0 : Nat → Int → List (S79) → List (List Int) → List (List Int) → Int → Option ((List (List Int)) × Bool)
 | 0,_,_,_,_,_ => none
 | k + 1,x0,x6,x7,x8,x9 => if x9 ≤ (wrap64 (x0 + 1)) then ((scarfjointref03_further.f k x0 x6 x8).bind fun t145 => (scarfjointref03_distances.l1 k x0 x6 x7 t145 x9 0)) else (scarfjointref03_distances.l3 k x0 x7 0)
def scarfjointref03_distances.l1 : Nat → Int → List (S79) → List (List Int) → List (List Int) → Int → Int → Option ((List (List Int)) × Bool)
 | 0,_,_,_,_,_,_ => none
 | k + 1,x0,x6,x7,x8,x9,x10 => if x10 ≤ x0 then (scarfjointref03_distances.l2 k x0 x6 x7 x8 x9 x10 0) else (scarfjointref03_distances.l0 k x0 x6 x7 x8 (wrap64 (x9 + 1)))
def scarfjointref03_distances.l2 : Nat → Int → List (S79) → List (List Int) → List (List Int) → Int → Int → Int → Option ((List (List Int)) × Bool)
 | 0,_,_,_,_,_,_,_ => none
 | k + 1,x0,x6,x7,x8,x9,x10,x11 => if x11 ≤ x0 then (if 0 ≤ x10 then (if x10 < (x7.length : Int) then (if 0 ≤ x11 then (if x11 < ((rd_L5 x7 x10).length : Int) then (if x10 < (x8.length : Int) then (if x11 < ((rd_L5 x8 x10).length : Int) then (scarfjointref03_distances.l2 k x0 x6 (x7.set (x10 : Int).toNat ((rd_L5 x7 x10).set (x11 : Int).toNat (mn (rd (rd_L5 x7 x10) x11) (rd (rd_L5 x8 x10) x11)))) x8 x9 x10 (wrap64 (x11 + 1))) else (none)) else (none)) else (none)) else (none)) else (none)) else (none)) else (scarfjointref03_distances.l1 k x0 x6 x7 x8 x9 (wrap64 (x10 + 1)))
def scarfjointref03_distances.l3 : Nat → Int → List (List Int) → Int → Option ((List (List Int)) × Bool)
 | 0,_,_,_ => none
 | k + 1,x0,x7,x12 => if x12 ≤ x0 then (if 0 ≤ x12 then (if x12 < (x7.length : Int) then (if x12 < ((rd_L5 x7 x12).length : Int) then (if (rd (rd_L5 x7 x12) x12) < 0 then (some (([] : List (List Int)),false)) else (scarfjointref03_distances.l3 k x0 x7 (wrap64 (x12 + 1)))) else (none)) else (none)) else (none)) else (some (x7,true))
end
def scarfjointref03_distances.f (k : Nat) (a0 : Int) (l1 : List (S26)) : Option ((List (List Int)) × Bool):=(scarfjointref03_arcs.f k l1).bind fun t136=>((scarfjointref03_square.f k a0 1125899906842624 0).bind fun t139=>((scarfjointref03_square.f k a0 1125899906842624 0).bind fun t142=>(scarfjointref03_distances.l0 k a0 t136 t139 t142 0)))
theorem scarfjointref03_distances.mono_l : ∀ k,(∀ y0 y1 y2 y3 y4,LeO (scarfjointref03_distances.l0 k y0 y1 y2 y3 y4) (scarfjointref03_distances.l0 (k + 1) y0 y1 y2 y3 y4)) ∧ (∀ y0 y1 y2 y3 y4 y5,LeO (scarfjointref03_distances.l1 k y0 y1 y2 y3 y4 y5) (scarfjointref03_distances.l1 (k + 1) y0 y1 y2 y3 y4 y5)) ∧ (∀ y0 y1 y2 y3 y4 y5 y6,LeO (scarfjointref03_distances.l2 k y0 y1 y2 y3 y4 y5 y6) (scarfjointref03_distances.l2 (k + 1) y0 y1 y2 y3 y4 y5 y6)) ∧ (∀ y0 y1 y2,LeO (scarfjointref03_distances.l3 k y0 y1 y2) (scarfjointref03_distances.l3 (k + 1) y0 y1 y2))
 | 0 => ⟨fun _ _ _ _ _ r h => by simp [scarfjointref03_distances.l0] at h,fun _ _ _ _ _ _ r h => by simp [scarfjointref03_distances.l1] at h,fun _ _ _ _ _ _ _ r h => by simp [scarfjointref03_distances.l2] at h,fun _ _ _ r h => by simp [scarfjointref03_distances.l3] at h⟩
 | k + 1 => by
  obtain ⟨ih0,ih1,ih2,ih3⟩:=scarfjointref03_distances.mono_l k
  refine ⟨?_,?_,?_,?_⟩
  ·intro y0 y1 y2 y3 y4
   unfold scarfjointref03_distances.l0
   repeat' first
   | (with_reducible exact ih0 _ _ _ _ _)
   | (with_reducible exact ih1 _ _ _ _ _ _)
   | (with_reducible exact ih2 _ _ _ _ _ _ _)
   | (with_reducible exact ih3 _ _ _)
   | (with_reducible exact scarfjointref03_arcs.mono _ _)
   | (with_reducible exact scarfjointref03_further.mono _ _ _ _)
   | (with_reducible exact scarfjointref03_square.mono _ _ _ _)
   | (with_reducible exact LeO.refl _)
   | (with_reducible exact LeO.none _)
   | (with_reducible refine LeO.ite ?_ ?_)
   | (with_reducible refine LeO.bind ?_ (fun _ => ?_))
   | exact ih0 _ _ _ _ _
   | exact ih1 _ _ _ _ _ _
   | exact ih2 _ _ _ _ _ _ _
   | exact ih3 _ _ _
   | exact scarfjointref03_arcs.mono _ _
   | exact scarfjointref03_further.mono _ _ _ _
   | exact scarfjointref03_square.mono _ _ _ _
   | exact LeO.none _
   | refine LeO.ite ?_ ?_
   | refine LeO.bind ?_ (fun _ => ?_)
  ·intro y0 y1 y2 y3 y4 y5
   unfold scarfjointref03_distances.l1
   repeat' first
   | (with_reducible exact ih0 _ _ _ _ _)
   | (with_reducible exact ih1 _ _ _ _ _ _)
   | (with_reducible exact ih2 _ _ _ _ _ _ _)
   | (with_reducible exact ih3 _ _ _)
   | (with_reducible exact scarfjointref03_arcs.mono _ _)
   | (with_reducible exact scarfjointref03_further.mono _ _ _ _)
   | (with_reducible exact scarfjointref03_square.mono _ _ _ _)
   | (with_reducible exact LeO.refl _)
   | (with_reducible exact LeO.none _)
   | (with_reducible refine LeO.ite ?_ ?_)
   | (with_reducible refine LeO.bind ?_ (fun _ => ?_))
   | exact ih0 _ _ _ _ _
   | exact ih1 _ _ _ _ _ _
   | exact ih2 _ _ _ _ _ _ _
   | exact ih3 _ _ _
   | exact scarfjointref03_arcs.mono _ _
   | exact scarfjointref03_further.mono _ _ _ _
   | exact scarfjointref03_square.mono _ _ _ _
   | exact LeO.none _
   | refine LeO.ite ?_ ?_
   | refine LeO.bind ?_ (fun _ => ?_)
  ·intro y0 y1 y2 y3 y4 y5 y6
   unfold scarfjointref03_distances.l2
   repeat' first
   | (with_reducible exact ih0 _ _ _ _ _)
   | (with_reducible exact ih1 _ _ _ _ _ _)
   | (with_reducible exact ih2 _ _ _ _ _ _ _)
   | (with_reducible exact ih3 _ _ _)
   | (with_reducible exact scarfjointref03_arcs.mono _ _)
   | (with_reducible exact scarfjointref03_further.mono _ _ _ _)
   | (with_reducible exact scarfjointref03_square.mono _ _ _ _)
   | (with_reducible exact LeO.refl _)
   | (with_reducible exact LeO.none _)
   | (with_reducible refine LeO.ite ?_ ?_)
   | (with_reducible refine LeO.bind ?_ (fun _ => ?_))
   | exact ih0 _ _ _ _ _
   | exact ih1 _ _ _ _ _ _
   | exact ih2 _ _ _ _ _ _ _
   | exact ih3 _ _ _
   | exact scarfjointref03_arcs.mono _ _
   | exact scarfjointref03_further.mono _ _ _ _
   | exact scarfjointref03_square.mono _ _ _ _
   | exact LeO.none _
   | refine LeO.ite ?_ ?_
   | refine LeO.bind ?_ (fun _ => ?_)
  ·intro y0 y1 y2
   unfold scarfjointref03_distances.l3
   repeat' first
   | (with_reducible exact ih0 _ _ _ _ _)
   | (with_reducible exact ih1 _ _ _ _ _ _)
   | (with_reducible exact ih2 _ _ _ _ _ _ _)
   | (with_reducible exact ih3 _ _ _)
   | (with_reducible exact scarfjointref03_arcs.mono _ _)
   | (with_reducible exact scarfjointref03_further.mono _ _ _ _)
   | (with_reducible exact scarfjointref03_square.mono _ _ _ _)
   | (with_reducible exact LeO.refl _)
   | (with_reducible exact LeO.none _)
   | (with_reducible refine LeO.ite ?_ ?_)
   | (with_reducible refine LeO.bind ?_ (fun _ => ?_))
   | exact ih0 _ _ _ _ _
   | exact ih1 _ _ _ _ _ _
   | exact ih2 _ _ _ _ _ _ _
   | exact ih3 _ _ _
   | exact scarfjointref03_arcs.mono _ _
   | exact scarfjointref03_further.mono _ _ _ _
   | exact scarfjointref03_square.mono _ _ _ _
   | exact LeO.none _
   | refine LeO.ite ?_ ?_
   | refine LeO.bind ?_ (fun _ => ?_)
theorem scarfjointref03_distances.mono : ∀ a0 a1 k,LeO (scarfjointref03_distances.f k a0 a1) (scarfjointref03_distances.f (k + 1) a0 a1):=by
 intro a0 a1 k
 obtain ⟨ih0,ih1,ih2,ih3⟩:=scarfjointref03_distances.mono_l k
 unfold scarfjointref03_distances.f
 repeat' first
   | (with_reducible exact ih0 _ _ _ _ _)
   | (with_reducible exact ih1 _ _ _ _ _ _)
   | (with_reducible exact ih2 _ _ _ _ _ _ _)
   | (with_reducible exact ih3 _ _ _)
   | (with_reducible exact scarfjointref03_arcs.mono _ _)
   | (with_reducible exact scarfjointref03_further.mono _ _ _ _)
   | (with_reducible exact scarfjointref03_square.mono _ _ _ _)
   | (with_reducible exact LeO.refl _)
   | (with_reducible exact LeO.none _)
   | (with_reducible refine LeO.ite ?_ ?_)
   | (with_reducible refine LeO.bind ?_ (fun _ => ?_))
   | exact ih0 _ _ _ _ _
   | exact ih1 _ _ _ _ _ _
   | exact ih2 _ _ _ _ _ _ _
   | exact ih3 _ _ _
   | exact scarfjointref03_arcs.mono _ _
   | exact scarfjointref03_further.mono _ _ _ _
   | exact scarfjointref03_square.mono _ _ _ _
   | exact LeO.none _
   | refine LeO.ite ?_ ?_
   | refine LeO.bind ?_ (fun _ => ?_)
def scarfjointref03_distances.T13 : Bool × List (List Nat × List Nat):=(true,[([],[]),([],[]),([0,1],[0,1]),([2],[2]),([],[]),([],[]),([],[]),([5,6],[5,6]),([7],[7]),([],[]),([8,9],[8,9]),([10],[10]),([],[]),([],[]),([12,13],[12,13]),([14],[14]),([],[]),([15,16],[15,16]),([17],[17]),([11,18],[11,18]),([3,4,0,1,2,3,4,5,6,7,8,9,10,11,12,13,14,15,16,17,18,19],[3,4]),([20,19,0,1,2,3,4,5,6,7,8,9,10,11,12,13,14,15,16,17,18,19],[19,20])])
def scarfjointref03_distances.B13 : List Nat:=[0,0,3,7,0,0,0,96,224,0,992,2016,0,0,12288,28672,0,126976,258048,524256,1048575,2097151]
theorem scarfjointref03_distances.tab13 : rtab .any (opsOf Try.f44 13) = scarfjointref03_distances.T13:=by kernel_rfl
theorem scarfjointref03_distances.bits13 : waitsOk scarfjointref03_distances.T13.2 scarfjointref03_distances.B13 = true:=by kernel_rfl
set_option maxHeartbeats 8000000 in
set_option maxRecDepth 100000 in
theorem scarfjointref03_distances.calls (k : Nat) (a0 : Int) (A1 : Option Addr) (c1 : Nat) (l1 : List (S26)) (r1 : List (List Int)) (r2 : Bool) (w : World) (hr1 : Kd.C k26 w A1 l1.length l1) (hc1 : l1.length ≤ c1) (h : scarfjointref03_distances.f k a0 l1 = some (r1,r2)) :
  Calls Try.prog 44 #[.int .i64 a0,.slice A1 l1.length c1] w fun e w'=>∃ v0_ : Value,e = .returned (.tuple #[v0_,.bool r2]) ∧ Kd.S (Kd.slice 3 (Kd.int .i64)) 36 w' w.heap.size (fun _=>True) v0_ r1 ∧ Below w.heap.size w w':=by
 have HR1:=Aside0.mk hr1
 have HC1:=Aside0.mk hc1
 clear hr1 hc1
 have HB:=Aside0.mk (Below.refl w.heap.size w)
 have H : ((scarfjointref03_arcs.f k l1).bind fun t136=>((scarfjointref03_square.f k a0 1125899906842624 0).bind fun t139=>((scarfjointref03_square.f k a0 1125899906842624 0).bind fun t142=>(scarfjointref03_distances.l0 k a0 t136 t139 t142 0)))) = some (r1,r2):=h
 clear h
 replace H:=Option.bind_eq_some_iff.mp H
 obtain ⟨t136,A30,H⟩:=H
 replace H : ((scarfjointref03_square.f k a0 1125899906842624 0).bind fun t139=>((scarfjointref03_square.f k a0 1125899906842624 0).bind fun t142=>(scarfjointref03_distances.l0 k a0 t136 t139 t142 0))) = some (r1,r2):=H
 have A3:=Aside0.mk A30
 clear A30
 replace H:=Option.bind_eq_some_iff.mp H
 obtain ⟨t139,A40,H⟩:=H
 replace H : ((scarfjointref03_square.f k a0 1125899906842624 0).bind fun t142=>(scarfjointref03_distances.l0 k a0 t136 t139 t142 0)) = some (r1,r2):=H
 have A4:=Aside0.mk A40
 clear A40
 replace H:=Option.bind_eq_some_iff.mp H
 obtain ⟨t142,A50,H⟩:=H
 replace H : (scarfjointref03_distances.l0 k a0 t136 t139 t142 0) = some (r1,r2):=H
 have A5:=Aside0.mk A50
 clear A50
 have H':=Aside0.mk H
 clear H
 go_enter Try.func44,Try.ntmps44
 go_wp2_with (first|((with_reducible refine gate_callee (f:=45) rfl ?_);refine goesL_ (some 14) rfl rfl Try.func45 (by kernel_rfl) rfl #[.slice A1 l1.length c1] rfl (by (try simp only [List.map_toArray,List.map_cons,List.map_nil]);first|done|rfl|(simp only [List.length_drop,List.length_take];rfl)) ?_;(with_reducible refine (scarfjointref03_arcs.calls k _ _ l1 t136 _ ?side1 ?side2 A3.out).mono ?_);(case side1=>repeat (first|exact HR1.out|(with_reducible refine Kd.C_alloc ?_ _)|(with_reducible refine Kd.C_drewN ?_ _)|(with_reducible refine Kd.C_drew ?_)));(case side2=>exact HC1.out);rintro e w6 ⟨v137,rfl,ho0,hb⟩;refine ⟨_,rfl,?_⟩;have n0_:=Aside0.mk (Kd.R_lower ho0 (below_size (by repeat (first|(with_reducible first|exact HB.out|apply below_alloc|apply pw_below_drewN|apply below_drew1)|exact HB.out))));have n1_:=Aside0.mk (below_step (by repeat (first|(with_reducible first|exact HB.out|apply below_alloc|apply pw_below_drewN|apply below_drew1)|exact HB.out)) hb);clear HB;have HO138:=n0_;have HB:=n1_;clear n0_ n1_;(try clear hb);(try clear hb2);(try clear hk);(try clear hi);(try clear ho0))|((with_reducible refine gate_callee (f:=51) rfl ?_);refine goesL_ (some 16) rfl rfl Try.func51 (by kernel_rfl) rfl #[.int .i64 a0,.int .i64 1125899906842624,.int .i64 0] rfl (by (try simp only [List.map_toArray,List.map_cons,List.map_nil]);first|done|rfl|(simp only [List.length_drop,List.length_take];rfl)) ?_;(with_reducible refine (scarfjointref03_square.calls k a0 1125899906842624 0 t139 _ A4.out).mono ?_);rintro e w7 ⟨v140,rfl,ho0,hb⟩;refine ⟨_,rfl,?_⟩;have n0_:=Aside0.mk (Kd.R_below (by (with_reducible repeat (first|apply Kd.R_alloc|apply Kd.R_drewN|apply Kd.R_drew));exact HO138.out) hb);have n1_:=Aside0.mk (Kd.S_lower ho0 (below_size (by repeat (first|(with_reducible first|exact HB.out|apply below_alloc|apply pw_below_drewN|apply below_drew1)|exact HB.out))));have n2_:=Aside0.mk (below_step (by repeat (first|(with_reducible first|exact HB.out|apply below_alloc|apply pw_below_drewN|apply below_drew1)|exact HB.out)) hb);clear HO138;clear HB;have HO138:=n0_;have HO141:=n1_;have HB:=n2_;clear n0_ n1_ n2_;(try clear hb);(try clear hb2);(try clear hk);(try clear hi);(try clear ho0))|((with_reducible refine gate_callee (f:=51) rfl ?_);refine goesL_ (some 18) rfl rfl Try.func51 (by kernel_rfl) rfl #[.int .i64 a0,.int .i64 1125899906842624,.int .i64 0] rfl (by (try simp only [List.map_toArray,List.map_cons,List.map_nil]);first|done|rfl|(simp only [List.length_drop,List.length_take];rfl)) ?_;(with_reducible refine (scarfjointref03_square.calls k a0 1125899906842624 0 t142 _ A5.out).mono ?_);rintro e w8 ⟨v143,rfl,ho0,hb⟩;refine ⟨_,rfl,?_⟩;have n0_:=Aside0.mk (Kd.R_below (by (with_reducible repeat (first|apply Kd.R_alloc|apply Kd.R_drewN|apply Kd.R_drew));exact HO138.out) hb);obtain ⟨T0_,hTa_,hTb_⟩ : ∃ T : Nat,Kd.S (Kd.slice 3 (Kd.int .i64)) 36 w8 w.heap.size (fun k_=>k_ < T) v140 t139 ∧ Kd.S (Kd.slice 3 (Kd.int .i64)) 36 w8 w.heap.size (fun k_=>T ≤ k_) v143 t142:=⟨_,Kd.S_mono (Kd.S_old (by (with_reducible repeat (first|apply Kd.S_alloc|apply Kd.S_drewN|apply Kd.S_drew));exact HO141.out) hb) (fun _ hk=>hk.2),Kd.S_lower (Kd.S_mono (Kd.S_bound ho0) (fun _ hk=>hk.2.1)) (below_size (by repeat (first|(with_reducible first|exact HB.out|apply below_alloc|apply pw_below_drewN|apply below_drew1)|exact HB.out)))⟩;have n1_:=Aside0.mk hTa_;have n2_:=Aside0.mk hTb_;clear hTa_ hTb_;have n3_:=Aside0.mk (below_step (by repeat (first|(with_reducible first|exact HB.out|apply below_alloc|apply pw_below_drewN|apply below_drew1)|exact HB.out)) hb);clear HO138;clear HO141;clear HB;have HO138:=n0_;have HO141:=n1_;have HO144:=n2_;have HB:=n3_;clear n0_ n1_ n2_ n3_;(try clear hb);(try clear hb2);(try clear hk);(try clear hi);(try clear ho0)))
 go_loopg [8,9] k (fun kq v8 v9 w'=>∃ (T_ : Nat) (x7_1 : List (List Int)) (x8_1 : List (List Int)) (x9_1 : Int),v9 = .int .i64 x9_1 ∧ Aside0 (scarfjointref03_distances.l0 kq a0 t136 x7_1 x8_1 x9_1 = some (r1,r2)) ∧ Aside0 (kq ≤ k) ∧ Aside0 (Kd.R k79 79 w' w.heap.size (fun _=>True) v137 t136) ∧ Aside0 (Kd.S (Kd.slice 3 (Kd.int .i64)) 36 w' w.heap.size (fun k_=>k_ < T_) v140 x7_1) ∧ Aside0 (Kd.S (Kd.slice 3 (Kd.int .i64)) 36 w' w.heap.size (fun k_=>T_ ≤ k_) v8 x8_1) ∧ Aside0 (Below w.heap.size w w'))
 case atStart=>exact ⟨T0_,(t139),(t142),(0),(by first|rfl|(simp;done)|(simp [*];done)),H',⟨Nat.le_refl _⟩,⟨by (with_reducible repeat (first|apply Kd.R_alloc|apply Kd.R_drewN|apply Kd.R_drew));exact HO138.out⟩,⟨by (with_reducible repeat (first|apply Kd.S_alloc|apply Kd.S_drewN|apply Kd.S_drew));exact HO141.out⟩,⟨by (with_reducible repeat (first|apply Kd.S_alloc|apply Kd.S_drewN|apply Kd.S_drew));exact HO144.out⟩,⟨by repeat (first|(with_reducible first|exact HB.out|apply below_alloc|apply pw_below_drewN|apply below_drew1)|exact HB.out)⟩⟩
 case round =>
  clear H'
  try clear c1
  try clear p2
  try clear c4
  try clear c5
  obtain ⟨T_,x7_1,x8_1,x9_1,rfl,HA,HK1,HO_6,HO_7,HO_8,HB⟩:=hrel
  cases gk with
  | zero => exact absurd HA.out (by simp [scarfjointref03_distances.l0])
  | succ k1 =>
   have H:=HA.out
   clear HA
   simp only [scarfjointref03_distances.l0] at H
   by_cases c9 : x9_1 ≤ (wrap64 (a0 + 1))
   ·rw [if_pos c9] at H
    have c9b0 : decide (x9_1 ≤ (wrap64 (a0 + 1))) = true:=decide_eq_true c9
    clear c9
    replace H:=Option.bind_eq_some_iff.mp H
    obtain ⟨t145,A100,H⟩:=H
    replace H : (scarfjointref03_distances.l1 k1 a0 t136 x7_1 t145 x9_1 0) = some (r1,r2):=H
    have A10:=Aside0.mk A100
    clear A100
    have H':=Aside0.mk H
    clear H
    obtain ⟨Ao11,co11,eo11⟩:=Kd.R_slice HO_6.out
    subst eo11
    obtain ⟨Ao12,co12,eo12⟩:=Kd.S_slice HO_8.out
    subst eo12
    go_wp2_with (first|((with_reducible refine gate_callee (f:=52) rfl ?_);refine goesL_ (some 28) rfl rfl Try.func52 (by kernel_rfl) rfl #[.int .i64 a0,.slice Ao11 t136.length co11,.slice Ao12 x8_1.length co12] rfl (by (try simp only [List.map_toArray,List.map_cons,List.map_nil]);first|done|rfl|(simp only [List.length_drop,List.length_take];rfl)) ?_;(with_reducible refine (scarfjointref03_further.calls k1 a0 _ _ t136 _ _ x8_1 t145 _ ?side1 ?side2 ?side3 ?side4 A10.out).mono ?_);(case side1=>repeat (first|exact (Kd.R_reads' HO_6.out).2.2|(with_reducible refine Kd.C_alloc ?_ _)|(with_reducible refine Kd.C_drewN ?_ _)|(with_reducible refine Kd.C_drew ?_)));(case side2=>exact (Kd.R_reads' HO_6.out).2.1);(case side3=>repeat (first|exact (Kd.S_reads' HO_8.out).2.2|(with_reducible refine Kd.C_alloc ?_ _)|(with_reducible refine Kd.C_drewN ?_ _)|(with_reducible refine Kd.C_drew ?_)));(case side4=>exact (Kd.S_reads' HO_8.out).2.1);rintro e w13 ⟨v146,rfl,ho0,hb⟩;refine ⟨_,rfl,?_⟩;have n0_:=Aside0.mk (Kd.R_below (by (with_reducible repeat (first|apply Kd.R_alloc|apply Kd.R_drewN|apply Kd.R_drew));exact HO_6.out) hb);obtain ⟨T1_,hTa_,hTb_⟩ : ∃ T : Nat,Kd.S (Kd.slice 3 (Kd.int .i64)) 36 w13 w.heap.size (fun k_=>k_ < T) v140 x7_1 ∧ Kd.S (Kd.slice 3 (Kd.int .i64)) 36 w13 w.heap.size (fun k_=>T ≤ k_) v146 t145:=⟨_,Kd.S_mono (Kd.S_old (by (with_reducible repeat (first|apply Kd.S_alloc|apply Kd.S_drewN|apply Kd.S_drew));exact HO_7.out) hb) (fun _ hk=>hk.2),Kd.S_lower (Kd.S_mono (Kd.S_bound ho0) (fun _ hk=>hk.2.1)) (below_size (by repeat (first|(with_reducible first|exact HB.out|apply below_alloc|apply pw_below_drewN|apply below_drew1)|exact HB.out)))⟩;have n1_:=Aside0.mk hTa_;have n2_:=Aside0.mk hTb_;clear hTa_ hTb_;have n3_:=Aside0.mk (below_step (by repeat (first|(with_reducible first|exact HB.out|apply below_alloc|apply pw_below_drewN|apply below_drew1)|exact HB.out)) hb);clear HO_6;clear HO_7;clear HO_8;clear HB;have HO_6:=n0_;have HO_7:=n1_;have HO147:=n2_;have HB:=n3_;clear n0_ n1_ n2_ n3_;(try clear hb);(try clear hb2);(try clear hk);(try clear hi);(try clear ho0)))
    go_loopg [10] k1 (fun kq v10 w'=>∃ (x7_2 : List (List Int)) (x10_2 : Int),v10 = .int .i64 x10_2 ∧ Aside0 (scarfjointref03_distances.l1 kq a0 t136 x7_2 t145 x9_1 x10_2 = some (r1,r2)) ∧ Aside0 (kq ≤ k1) ∧ Aside0 (Kd.R k79 79 w' w.heap.size (fun _=>True) (.slice Ao11 t136.length co11) t136) ∧ Aside0 (Kd.S (Kd.slice 3 (Kd.int .i64)) 36 w' w.heap.size (fun k_=>k_ < T1_) v140 x7_2) ∧ Aside0 (Kd.S (Kd.slice 3 (Kd.int .i64)) 36 w' w.heap.size (fun k_=>T1_ ≤ k_) v146 t145) ∧ Aside0 (Below w.heap.size w w'))
    case atStart=>exact ⟨(x7_1),(0),(by first|rfl|(simp;done)|(simp [*];done)),H',⟨Nat.le_refl _⟩,⟨by (with_reducible repeat (first|apply Kd.R_alloc|apply Kd.R_drewN|apply Kd.R_drew));exact HO_6.out⟩,⟨by (with_reducible repeat (first|apply Kd.S_alloc|apply Kd.S_drewN|apply Kd.S_drew));exact HO_7.out⟩,⟨by (with_reducible repeat (first|apply Kd.S_alloc|apply Kd.S_drewN|apply Kd.S_drew));exact HO147.out⟩,⟨by repeat (first|(with_reducible first|exact HB.out|apply below_alloc|apply pw_below_drewN|apply below_drew1)|exact HB.out)⟩⟩
    case round =>
     clear H'
     try clear c1
     try clear p2
     try clear c4
     try clear c5
     try clear p6
     try clear c9
     try clear c9b0
     try clear p2
     obtain ⟨x7_2,x10_2,rfl,HA,HK2,HO_6,HO_7,HO_8,HB⟩:=hrel
     cases gk with
     | zero => exact absurd HA.out (by simp [scarfjointref03_distances.l1])
     | succ k2 =>
      have H:=HA.out
      clear HA
      simp only [scarfjointref03_distances.l1] at H
      by_cases c14 : x10_2 ≤ a0
      ·rw [if_pos c14] at H
       have c14b0 : decide (x10_2 ≤ a0) = true:=decide_eq_true c14
       clear c14
       have H':=Aside0.mk H
       clear H
       go_wp2
       go_loopg [11] k2 (fun kq v11 w'=>∃ (x7_3 : List (List Int)) (x11_3 : Int),v11 = .int .i64 x11_3 ∧ Aside0 (scarfjointref03_distances.l2 kq a0 t136 x7_3 t145 x9_1 x10_2 x11_3 = some (r1,r2)) ∧ Aside0 (kq ≤ k2) ∧ Aside0 (Kd.R k79 79 w' w.heap.size (fun _=>True) (.slice Ao11 t136.length co11) t136) ∧ Aside0 (Kd.S (Kd.slice 3 (Kd.int .i64)) 36 w' w.heap.size (fun k_=>k_ < T1_) v140 x7_3) ∧ Aside0 (Kd.S (Kd.slice 3 (Kd.int .i64)) 36 w' w.heap.size (fun k_=>T1_ ≤ k_) v146 t145) ∧ Aside0 (Below w.heap.size w w'))
       case atStart=>exact ⟨(x7_2),(0),(by first|rfl|(simp;done)|(simp [*];done)),H',⟨Nat.le_refl _⟩,⟨by (with_reducible repeat (first|apply Kd.R_alloc|apply Kd.R_drewN|apply Kd.R_drew));exact HO_6.out⟩,⟨by (with_reducible repeat (first|apply Kd.S_alloc|apply Kd.S_drewN|apply Kd.S_drew));exact HO_7.out⟩,⟨by (with_reducible repeat (first|apply Kd.S_alloc|apply Kd.S_drewN|apply Kd.S_drew));exact HO_8.out⟩,⟨by repeat (first|(with_reducible first|exact HB.out|apply below_alloc|apply pw_below_drewN|apply below_drew1)|exact HB.out)⟩⟩
       case round =>
        clear H'
        try clear c1
        try clear p2
        try clear c4
        try clear c5
        try clear p6
        try clear c9
        try clear c9b0
        try clear c14
        try clear c14b0
        try clear p2
        try clear p6
        obtain ⟨x7_3,x11_3,rfl,HA,HK3,HO_6,HO_7,HO_8,HB⟩:=hrel
        cases gk with
        | zero => exact absurd HA.out (by simp [scarfjointref03_distances.l2])
        | succ k3 =>
         have H:=HA.out
         clear HA
         simp only [scarfjointref03_distances.l2] at H
         by_cases c15 : x11_3 ≤ a0
         ·rw [if_pos c15] at H
          have c15b0 : decide (x11_3 ≤ a0) = true:=decide_eq_true c15
          clear c15
          by_cases c16 : 0 ≤ x10_2
          ·rw [if_pos c16] at H
           have c16b0 : decide (0 ≤ x10_2) = true:=decide_eq_true c16
           clear c16
           by_cases c17 : x10_2 < (x7_3.length : Int)
           ·rw [if_pos c17] at H
            have c17b0 : decide (x10_2 < (x7_3.length : Int)) = true:=decide_eq_true c17
            clear c17
            by_cases c18 : 0 ≤ x11_3
            ·rw [if_pos c18] at H
             have c18b0 : decide (0 ≤ x11_3) = true:=decide_eq_true c18
             clear c18
             by_cases c19 : x11_3 < ((rd_L5 x7_3 x10_2).length : Int)
             ·rw [if_pos c19] at H
              have c19b0 : decide (x11_3 < ((rd_L5 x7_3 x10_2).length : Int)) = true:=decide_eq_true c19
              clear c19
              by_cases c20 : x10_2 < (t145.length : Int)
              ·rw [if_pos c20] at H
               have c20b0 : decide (x10_2 < (t145.length : Int)) = true:=decide_eq_true c20
               clear c20
               by_cases c21 : x11_3 < ((rd_L5 t145 x10_2).length : Int)
               ·rw [if_pos c21] at H
                have c21b0 : decide (x11_3 < ((rd_L5 t145 x10_2).length : Int)) = true:=decide_eq_true c21
                clear c21
                obtain ⟨ji22,hji22⟩ : ∃ j_ : Int,(mn (rd (rd_L5 x7_3 x10_2) x11_3) (rd (rd_L5 t145 x10_2) x11_3)) = j_:=⟨_,rfl⟩
                replace H : (scarfjointref03_distances.l2 k3 a0 t136 (x7_3.set (x10_2 : Int).toNat ((rd_L5 x7_3 x10_2).set (x11_3 : Int).toNat (ji22))) t145 x9_1 x10_2 (wrap64 (x11_3 + 1))) = some (r1,r2):=by first|(rw [hji22] at H;exact H)|(simp only [hji22] at H ⊢;exact H)
                have hji22_ : (if (rd (rd_L5 t145 x10_2) x11_3) < (rd (rd_L5 x7_3 x10_2) x11_3) then (rd (rd_L5 t145 x10_2) x11_3) else (rd (rd_L5 x7_3 x10_2) x11_3)) = ji22:=hji22
                obtain ⟨y153,hy153⟩ : ∃ y_ : List Int,y_ = ((rd_L5 x7_3 x10_2).set (x11_3 : Int).toNat (ji22)):=⟨_,rfl⟩
                replace H : (scarfjointref03_distances.l2 k3 a0 t136 (x7_3.set (x10_2 : Int).toNat y153) t145 x9_1 x10_2 (wrap64 (x11_3 + 1))) = some (r1,r2):=by first|(rw [hy153];with_reducible exact H)|(have H2_:=(Option.bind_some _ _).symm.trans H;rw [hy153];with_reducible exact H2_)|(have H2_:=(Option.bind_some _ _).symm.trans H;with_reducible exact H2_)|with_reducible exact H|(rw [hy153];exact H)|exact H
                have Ny153:=Aside0.mk hy153
                clear hy153
                obtain ⟨y155,hy155⟩ : ∃ y_ : List (List Int),y_ = (x7_3.set (x10_2 : Int).toNat y153):=⟨_,rfl⟩
                replace H : (scarfjointref03_distances.l2 k3 a0 t136 y155 t145 x9_1 x10_2 (wrap64 (x11_3 + 1))) = some (r1,r2):=by first|(rw [hy155];with_reducible exact H)|(have H2_:=(Option.bind_some _ _).symm.trans H;rw [hy155];with_reducible exact H2_)|(have H2_:=(Option.bind_some _ _).symm.trans H;with_reducible exact H2_)|with_reducible exact H|(rw [hy155];exact H)|exact H
                have Ny155:=Aside0.mk hy155
                clear hy155
                have H':=Aside0.mk H
                clear H
                try go_wp2
                have n0_:=Aside0.mk (Kd.R_drew HO_6.out)
                have n1_:=Aside0.mk (Kd.S_drew HO_7.out)
                have n2_:=Aside0.mk (Kd.S_drew HO_8.out)
                have n3_:=Aside0.mk (below_drew1 HB.out)
                clear HO_6
                clear HO_7
                clear HO_8
                clear HB
                have HO_6:=n0_
                have HO_7:=n1_
                have HO_8:=n2_
                have HB:=n3_
                clear n0_ n1_ n2_ n3_
                obtain ⟨Ao25,co25,eo25⟩:=Kd.S_slice HO_7.out
                (first|subst eo25|(injection eo25 with f1_ f2_ f3_;have f4_:=f1_.symm;have f5_:=f3_.symm;clear f1_ f2_ f3_;subst f4_;subst f5_))
                have p148 : 0 ≤ (x10_2 : Int):=of_decide_eq_true (by first|(with_reducible assumption)|assumption)
                have q148 : x10_2 < (x7_3.length : Int):=of_decide_eq_true (by first|(with_reducible assumption)|assumption)
                obtain ⟨ad148,A148_0,c148_0,e148,hx148_0,hl148_0,hi148_0⟩:=at_L5 (Kd.S_reads' HO_7.out).2.2 x10_2 p148 q148
                cases e148
                obtain ⟨ce148,hce148,hMe148,hcc148⟩:=Kd.S_get HO_7.out [] x10_2 p148 (by first|exact q148|exact of_decide_eq_true (by first|(with_reducible assumption)|assumption)|(have e_:=(Kd.S_reads' HO_7.out).1;omega))
                obtain ⟨ve148_0,rfl,ge148_0⟩:=hMe148
                have hv148_0:=hcc148 0 _ rfl
                rw [Nat.add_zero,show ((Kd.slice 3 (Kd.int .i64))).sz = 1 from rfl,Nat.mul_one] at hv148_0
                replace hv148_0:=Option.some.inj (hv148_0.symm.trans hx148_0)
                rw [hv148_0] at ge148_0
                have HL148_0:=Aside0.mk (show Kd.R (Kd.int .i64) 3 _ _ _ _ (rd_L5 x7_3 x10_2) from ge148_0)
                clear hv148_0 ge148_0
                have HX148_0:=Aside0.mk hx148_0
                clear hcc148 hce148
                have HR148_0:=Aside0.mk hi148_0
                have HC148_0:=Aside0.mk hl148_0
                clear hi148_0 hl148_0
                replace p148:=eq_true p148
                replace q148:=eq_true q148
                have p149 : 0 ≤ (x10_2 : Int):=of_decide_eq_true (by first|(with_reducible assumption)|assumption)
                have q149 : x10_2 < (x7_3.length : Int):=of_decide_eq_true (by first|(with_reducible assumption)|assumption)
                obtain ⟨ad149,A149_0,c149_0,e149,hx149_0,hl149_0,hi149_0⟩:=at_L5 (Kd.S_reads' HO_7.out).2.2 x10_2 p149 q149
                obtain rfl : ad148 = ad149:=(by injection e149)
                obtain ⟨ce149,hce149,hMe149,hcc149⟩:=Kd.S_get HO_7.out [] x10_2 p149 (by first|exact q149|exact of_decide_eq_true (by first|(with_reducible assumption)|assumption)|(have e_:=(Kd.S_reads' HO_7.out).1;omega))
                obtain ⟨ve149_0,rfl,ge149_0⟩:=hMe149
                have hv149_0:=hcc149 0 _ rfl
                rw [Nat.add_zero,show ((Kd.slice 3 (Kd.int .i64))).sz = 1 from rfl,Nat.mul_one] at hv149_0
                replace hv149_0:=Option.some.inj (hv149_0.symm.trans hx149_0)
                rw [hv149_0] at ge149_0
                have HL149_0:=Aside0.mk (show Kd.R (Kd.int .i64) 3 _ _ _ _ (rd_L5 x7_3 x10_2) from ge149_0)
                clear hv149_0 ge149_0
                have HX149_0:=Aside0.mk hx149_0
                clear hcc149 hce149
                have HR149_0:=Aside0.mk hi149_0
                have HC149_0:=Aside0.mk hl149_0
                clear hi149_0 hl149_0
                replace p149:=eq_true p149
                replace q149:=eq_true q149
                have ea_:=Option.some.inj (hx148_0.symm.trans hx149_0)
                injection ea_ with ea_ en_ ec_
                subst ea_
                subst ec_
                clear en_
                have p150 : 0 ≤ (x11_3 : Int):=of_decide_eq_true (by first|(with_reducible assumption)|assumption)
                have q150 : x11_3 < ((rd_L5 x7_3 x10_2).length : Int):=of_decide_eq_true (by first|(with_reducible assumption)|assumption)
                obtain ⟨ad150,e150,hx150_0⟩:=Kd.at_int (by repeat (first|(with_reducible exact HR149_0.out)|(with_reducible refine Kd.C_alloc ?_ _)|(with_reducible refine Kd.C_drewN ?_ _)|(with_reducible refine Kd.C_drew ?_)|exact HR149_0.out)) x11_3 p150 q150
                cases e150
                replace p150:=eq_true p150
                replace q150:=eq_true q150
                obtain ⟨Ao26,co26,eo26⟩:=Kd.S_slice HO_8.out
                (first|subst eo26|(injection eo26 with f1_ f2_ f3_;have f4_:=f1_.symm;have f5_:=f3_.symm;clear f1_ f2_ f3_;subst f4_;subst f5_))
                have p151 : 0 ≤ (x10_2 : Int):=of_decide_eq_true (by first|(with_reducible assumption)|assumption)
                have q151 : x10_2 < (t145.length : Int):=of_decide_eq_true (by first|(with_reducible assumption)|assumption)
                obtain ⟨ad151,A151_0,c151_0,e151,hx151_0,hl151_0,hi151_0⟩:=at_L5 (Kd.S_reads' HO_8.out).2.2 x10_2 p151 q151
                cases e151
                obtain ⟨ce151,hce151,hMe151,hcc151⟩:=Kd.S_get HO_8.out [] x10_2 p151 (by first|exact q151|exact of_decide_eq_true (by first|(with_reducible assumption)|assumption)|(have e_:=(Kd.S_reads' HO_8.out).1;omega))
                obtain ⟨ve151_0,rfl,ge151_0⟩:=hMe151
                have hv151_0:=hcc151 0 _ rfl
                rw [Nat.add_zero,show ((Kd.slice 3 (Kd.int .i64))).sz = 1 from rfl,Nat.mul_one] at hv151_0
                replace hv151_0:=Option.some.inj (hv151_0.symm.trans hx151_0)
                rw [hv151_0] at ge151_0
                have HL151_0:=Aside0.mk (show Kd.R (Kd.int .i64) 3 _ _ _ _ (rd_L5 t145 x10_2) from ge151_0)
                clear hv151_0 ge151_0
                have HX151_0:=Aside0.mk hx151_0
                clear hcc151 hce151
                have HR151_0:=Aside0.mk hi151_0
                have HC151_0:=Aside0.mk hl151_0
                clear hi151_0 hl151_0
                replace p151:=eq_true p151
                replace q151:=eq_true q151
                have p152 : 0 ≤ (x11_3 : Int):=of_decide_eq_true (by first|(with_reducible assumption)|assumption)
                have q152 : x11_3 < ((rd_L5 t145 x10_2).length : Int):=of_decide_eq_true (by first|(with_reducible assumption)|assumption)
                obtain ⟨ad152,e152,hx152_0⟩:=Kd.at_int (by repeat (first|(with_reducible exact HR151_0.out)|(with_reducible refine Kd.C_alloc ?_ _)|(with_reducible refine Kd.C_drewN ?_ _)|(with_reducible refine Kd.C_drew ?_)|exact HR151_0.out)) x11_3 p152 q152
                cases e152
                replace p152:=eq_true p152
                replace q152:=eq_true q152
                have p23 : 0 ≤ (x11_3 : Int):=of_decide_eq_true (by first|(with_reducible assumption)|assumption)
                have q23 : (x11_3 : Int) < (((rd_L5 x7_3 x10_2).length : Int) : Int):=of_decide_eq_true (by first|(with_reducible assumption)|assumption)
                obtain ⟨go23,co23,eo23,gb23,gl23,cl23,HG23⟩:=Kd.R_form HL148_0.out (by omega)
                (first|cases eo23|(injection eo23 with ea_ en_ ec_;(first|subst ea_|(injection ea_ with ea_;subst ea_));subst ec_;clear en_))
                have GB23:=Aside0.mk gb23
                have GG23:=Aside0.mk HG23
                clear gb23 gl23 HG23
                (first|simp only [add_plain] at hx150_0|skip)
                obtain ⟨hx23_0,hf23_0⟩:=Kd.R_celln 0 HL148_0.out (x11_3 : Int) p23 q23
                replace p23:=eq_true p23
                replace q23:=eq_true q23
                have hq27 : (x10_2 : Int) < (x7_3.length : Int):=(by have h_ : (x10_2 : Int) < ((x7_3.length : Int) : Int):=of_decide_eq_true (by first|(with_reducible assumption)|assumption);first|exact h_|(have e_:=(Kd.S_reads' HO_7.out).1;omega)|simpa only [List.length_set,List.length_set] using h_)
                obtain ⟨oki27,ce27,hcl27,hM27,hcc27,hok27,hbk27⟩:=Kd.S_borrow HO_7.out [] (x10_2 : Int) (of_decide_eq_true (by first|(with_reducible assumption)|assumption)) hq27
                obtain ⟨ve27_0,rfl,ge27_0⟩:=hM27
                have hv27:=hcc27 0 _ rfl
                rw [Nat.add_zero,show ((Kd.slice 3 (Kd.int .i64))).sz = 1 from rfl,Nat.mul_one] at hv27
                replace hv27:=Option.some.inj (hv27.symm.trans HX148_0.out)
                subst hv27
                clear hcc27 hcl27
                replace ge27_0:=(show Kd.R (Kd.int .i64) 3 _ _ _ _ (rd_L5 x7_3 x10_2) from ge27_0)
                have HP27:=Kd.R_putg ge27_0 (x11_3 : Int) ji22
                rw [← Ny153.out] at HP27
                have HS27:=hbk27 HP27.2 (fun k_ e_=>by injection e_ with e_;subst e_;exact ge27_0.1 _ rfl) (x':=y153) (Kd.M_row HP27.1)
                rw [← Ny155.out] at HS27
                have HQ27:=Aside0.mk HS27
                clear HP27 HS27 hbk27 hok27
                refine start_ (n:=22) (S:=fun w'=>w'.cell? (ad148.add (x10_2).toNat) = some (.slice (some ⟨go23,0,none⟩) (rd_L5 x7_3 x10_2).length c148_0) ∧ w'.cell? (ad148.add (x10_2).toNat) = some (.slice (some ⟨go23,0,none⟩) (rd_L5 x7_3 x10_2).length c148_0) ∧ w'.cell? ⟨go23,(x11_3).toNat,none⟩ = some (.int .i64 (rd (rd_L5 x7_3 x10_2) x11_3)) ∧ w'.cell? (ad151.add (x10_2).toNat) = some (.slice (some ad152) (rd_L5 t145 x10_2).length c151_0) ∧ w'.cell? (ad152.add (x11_3).toNat) = some (.int .i64 (rd (rd_L5 t145 x10_2) x11_3))) (ds:=[21]) #[false,false,false,false,false,false,false,false,false,false,false,false,false,false,false,false,false,false,false,false,false,false] (by kernel_rfl) rfl rfl ⟨hx148_0,hx149_0,hx150_0,hx151_0,hx152_0⟩ (fun hHeld=>?_);refine with_tabW scarfjointref03_distances.tab13 scarfjointref03_distances.bits13 (fun HT_ HW_=>?_)
                generalize wr.drew = w24 at HO_6 HO_7 HO_8 HB GG23 HL148_0 HL149_0 HL151_0 HQ27 HR148_0 HR149_0 HR151_0 HX148_0 HX149_0 HX151_0 hf23_0 hx148_0 hx149_0 hx150_0 hx151_0 hx152_0 hx23_0 hHeld ⊢
                refine pure_ (i:=0) (N:=some 39) (v:=?_) (a':=?_) #[true,false,false,false,false,false,false,false,false,false,false,false,false,false,false,false,false,false,false,false,false,false] rfl rfl (any_of HT_.out (by kernel_rfl)) (fun _ _ _ h=>h) (Or.inl ⟨by rfl,?_⟩) ?_ ?_
                rotate_left
                ·intro w'
                 go_simp
                 with_reducible rfl
                rotate_left
                ·simp only [Act.put,List.setIfInBounds_toArray,List.set_cons_zero,List.set_cons_succ,i64_w,i32_w]
                 rfl
                refine pure_ (i:=1) (N:=some 40) (v:=?_) (a':=?_) #[true,true,false,false,false,false,false,false,false,false,false,false,false,false,false,false,false,false,false,false,false,false] rfl rfl (any_of HT_.out (by kernel_rfl)) (fun _ _ _ h=>h) (Or.inl ⟨by rfl,?_⟩) ?_ ?_
                rotate_left
                ·intro w'
                 go_simp
                 with_reducible rfl
                rotate_left
                ·simp only [Act.put,List.setIfInBounds_toArray,List.set_cons_zero,List.set_cons_succ,i64_w,i32_w]
                 rfl
                refine pure_ (i:=2) (N:=some 41) (v:=?_) (a':=?_) #[true,true,true,false,false,false,false,false,false,false,false,false,false,false,false,false,false,false,false,false,false,false] rfl rfl (any_of HT_.out (by kernel_rfl)) (fun _ _ _ h=>h) (Or.inl ⟨by rfl,?_⟩) ?_ ?_
                rotate_left
                ·intro w'
                 go_simp
                 with_reducible rfl
                rotate_left
                ·simp only [Act.put,List.setIfInBounds_toArray,List.set_cons_zero,List.set_cons_succ,i64_w,i32_w]
                 rfl
                refine pure_ (i:=4) (N:=some 43) (v:=?_) (a':=?_) #[true,true,true,false,true,false,false,false,false,false,false,false,false,false,false,false,false,false,false,false,false,false] rfl rfl (any_of HT_.out (by kernel_rfl)) (fun _ _ _ h=>h) (Or.inl ⟨by rfl,?_⟩) ?_ ?_
                rotate_left
                ·intro w'
                 go_simp
                 with_reducible rfl
                rotate_left
                ·simp only [Act.put,List.setIfInBounds_toArray,List.set_cons_zero,List.set_cons_succ,i64_w,i32_w]
                 rfl
                refine pure_ (i:=5) (N:=some 44) (v:=?_) (a':=?_) #[true,true,true,false,true,true,false,false,false,false,false,false,false,false,false,false,false,false,false,false,false,false] rfl rfl (any_of HT_.out (by kernel_rfl)) (fun _ _ _ h=>h) (Or.inl ⟨by rfl,?_⟩) ?_ ?_
                rotate_left
                ·intro w'
                 go_simp
                 with_reducible rfl
                rotate_left
                ·simp only [Act.put,List.setIfInBounds_toArray,List.set_cons_zero,List.set_cons_succ,i64_w,i32_w]
                 rfl
                refine pure_ (i:=6) (N:=some 45) (v:=?_) (a':=?_) #[true,true,true,false,true,true,true,false,false,false,false,false,false,false,false,false,false,false,false,false,false,false] rfl rfl (any_of HT_.out (by kernel_rfl)) (fun _ _ _ h=>h) (Or.inl ⟨by rfl,?_⟩) ?_ ?_
                rotate_left
                ·intro w'
                 go_simp
                 with_reducible rfl
                rotate_left
                ·simp only [Act.put,List.setIfInBounds_toArray,List.set_cons_zero,List.set_cons_succ,i64_w,i32_w]
                 rfl
                refine pure_ (i:=7) (N:=some 46) (v:=?_) (a':=?_) #[true,true,true,false,true,true,true,true,false,false,false,false,false,false,false,false,false,false,false,false,false,false] rfl rfl (any_of HT_.out (by kernel_rfl)) (fun _ _ _ h=>h) (Or.inl ⟨by rfl,?_⟩) ?_ ?_
                rotate_left
                ·intro w'
                 go_simp
                 with_reducible rfl
                rotate_left
                ·simp only [Act.put,List.setIfInBounds_toArray,List.set_cons_zero,List.set_cons_succ,i64_w,i32_w]
                 rfl
                refine pure_ (i:=9) (N:=some 48) (v:=?_) (a':=?_) #[true,true,true,false,true,true,true,true,false,true,false,false,false,false,false,false,false,false,false,false,false,false] rfl rfl (any_of HT_.out (by kernel_rfl)) (fun _ _ _ h=>h) (Or.inl ⟨by rfl,?_⟩) ?_ ?_
                rotate_left
                ·intro w'
                 go_simp
                 with_reducible rfl
                rotate_left
                ·simp only [Act.put,List.setIfInBounds_toArray,List.set_cons_zero,List.set_cons_succ,i64_w,i32_w]
                 rfl
                refine pure_ (i:=12) (N:=some 51) (v:=?_) (a':=?_) #[true,true,true,false,true,true,true,true,false,true,false,false,true,false,false,false,false,false,false,false,false,false] rfl rfl (any_of HT_.out (by kernel_rfl)) (fun _ _ _ h=>h) (Or.inl ⟨by rfl,?_⟩) ?_ ?_
                rotate_left
                ·intro w'
                 go_simp
                 with_reducible rfl
                rotate_left
                ·simp only [Act.put,List.setIfInBounds_toArray,List.set_cons_zero,List.set_cons_succ,i64_w,i32_w]
                 rfl
                refine pure_ (i:=13) (N:=some 52) (v:=?_) (a':=?_) #[true,true,true,false,true,true,true,true,false,true,false,false,true,true,false,false,false,false,false,false,false,false] rfl rfl (any_of HT_.out (by kernel_rfl)) (fun _ _ _ h=>h) (Or.inl ⟨by rfl,?_⟩) ?_ ?_
                rotate_left
                ·intro w'
                 go_simp
                 with_reducible rfl
                rotate_left
                ·simp only [Act.put,List.setIfInBounds_toArray,List.set_cons_zero,List.set_cons_succ,i64_w,i32_w]
                 rfl
                refine pure_ (i:=14) (N:=some 53) (v:=?_) (a':=?_) #[true,true,true,false,true,true,true,true,false,true,false,false,true,true,true,false,false,false,false,false,false,false] rfl rfl (any_of HT_.out (by kernel_rfl)) (fun _ _ _ h=>h) (Or.inl ⟨by rfl,?_⟩) ?_ ?_
                rotate_left
                ·intro w'
                 go_simp
                 with_reducible rfl
                rotate_left
                ·simp only [Act.put,List.setIfInBounds_toArray,List.set_cons_zero,List.set_cons_succ,i64_w,i32_w]
                 rfl
                refine pure_ (i:=16) (N:=some 55) (v:=?_) (a':=?_) #[true,true,true,false,true,true,true,true,false,true,false,false,true,true,true,false,true,false,false,false,false,false] rfl rfl (any_of HT_.out (by kernel_rfl)) (fun _ _ _ h=>h) (Or.inl ⟨by rfl,?_⟩) ?_ ?_
                rotate_left
                ·intro w'
                 go_simp
                 with_reducible rfl
                rotate_left
                ·simp only [Act.put,List.setIfInBounds_toArray,List.set_cons_zero,List.set_cons_succ,i64_w,i32_w]
                 rfl
                refine take_ (i:=3) (N:=some 42) (v:=?_) (a':=?_) #[true,true,true,true,true,true,true,true,false,true,false,false,true,true,true,false,true,false,false,false,false,false] rfl rfl (take_ofW HT_.out HW_.out (by kernel_rfl)) (fun _ _ _ h=>h) (Or.inl ⟨by rfl,?_⟩) hHeld ?_ ?_
                rotate_left
                ·rintro w' ⟨s0,s1,s2,s3,s4⟩
                 go_simp
                 with_reducible rfl
                rotate_left
                ·simp only [Act.put,List.setIfInBounds_toArray,List.set_cons_zero,List.set_cons_succ,i64_w,i32_w]
                 rfl
                refine take_ (i:=8) (N:=some 47) (v:=?_) (a':=?_) #[true,true,true,true,true,true,true,true,true,true,false,false,true,true,true,false,true,false,false,false,false,false] rfl rfl (take_ofW HT_.out HW_.out (by kernel_rfl)) (fun _ _ _ h=>h) (Or.inl ⟨by rfl,?_⟩) hHeld ?_ ?_
                rotate_left
                ·rintro w' ⟨s0,s1,s2,s3,s4⟩
                 go_simp
                 with_reducible rfl
                rotate_left
                ·simp only [Act.put,List.setIfInBounds_toArray,List.set_cons_zero,List.set_cons_succ,i64_w,i32_w]
                 rfl
                refine pure_ (i:=10) (N:=some 49) (v:=?_) (a':=?_) #[true,true,true,true,true,true,true,true,true,true,true,false,true,true,true,false,true,false,false,false,false,false] rfl rfl (any_of HT_.out (by kernel_rfl)) (fun _ _ _ h=>h) (Or.inl ⟨by rfl,?_⟩) ?_ ?_
                rotate_left
                ·intro w'
                 go_simp
                 with_reducible rfl
                rotate_left
                ·simp only [Act.put,List.setIfInBounds_toArray,List.set_cons_zero,List.set_cons_succ,i64_w,i32_w]
                 rfl
                refine take_ (i:=11) (N:=some 50) (v:=?_) (a':=?_) #[true,true,true,true,true,true,true,true,true,true,true,true,true,true,true,false,true,false,false,false,false,false] rfl rfl (take_ofW HT_.out HW_.out (by kernel_rfl)) (fun _ _ _ h=>h) (Or.inl ⟨by rfl,?_⟩) hHeld ?_ ?_
                rotate_left
                ·rintro w' ⟨s0,s1,s2,s3,s4⟩
                 go_simp
                 with_reducible rfl
                rotate_left
                ·simp only [Act.put,List.setIfInBounds_toArray,List.set_cons_zero,List.set_cons_succ,i64_w,i32_w]
                 rfl
                refine take_ (i:=15) (N:=some 54) (v:=?_) (a':=?_) #[true,true,true,true,true,true,true,true,true,true,true,true,true,true,true,true,true,false,false,false,false,false] rfl rfl (take_ofW HT_.out HW_.out (by kernel_rfl)) (fun _ _ _ h=>h) (Or.inl ⟨by rfl,?_⟩) hHeld ?_ ?_
                rotate_left
                ·rintro w' ⟨s0,s1,s2,s3,s4⟩
                 go_simp
                 with_reducible rfl
                rotate_left
                ·simp only [Act.put,List.setIfInBounds_toArray,List.set_cons_zero,List.set_cons_succ,i64_w,i32_w]
                 rfl
                refine pure_ (i:=17) (N:=some 56) (v:=?_) (a':=?_) #[true,true,true,true,true,true,true,true,true,true,true,true,true,true,true,true,true,true,false,false,false,false] rfl rfl (any_of HT_.out (by kernel_rfl)) (fun _ _ _ h=>h) (Or.inl ⟨by rfl,?_⟩) ?_ ?_
                rotate_left
                ·intro w'
                 go_simp
                 with_reducible rfl
                rotate_left
                ·simp only [Act.put,List.setIfInBounds_toArray,List.set_cons_zero,List.set_cons_succ,i64_w,i32_w]
                 rfl
                refine take_ (i:=18) (N:=some 57) (v:=?_) (a':=?_) #[true,true,true,true,true,true,true,true,true,true,true,true,true,true,true,true,true,true,true,false,false,false] rfl rfl (take_ofW HT_.out HW_.out (by kernel_rfl)) (fun _ _ _ h=>h) (Or.inl ⟨by rfl,?_⟩) hHeld ?_ ?_
                rotate_left
                ·rintro w' ⟨s0,s1,s2,s3,s4⟩
                 go_simp
                 with_reducible rfl
                rotate_left
                ·simp only [Act.put,List.setIfInBounds_toArray,List.set_cons_zero,List.set_cons_succ,i64_w,i32_w]
                 rfl
                refine pure_ (i:=19) (N:=some 58) (v:=?_) (a':=?_) #[true,true,true,true,true,true,true,true,true,true,true,true,true,true,true,true,true,true,true,true,false,false] rfl rfl (any_of HT_.out (by kernel_rfl)) (fun _ _ _ h=>h) (Or.inl ⟨by rfl,?_⟩) ?_ ?_
                rotate_left
                ·intro w'
                 go_simp
                 with_reducible rfl
                rotate_left
                ·simp only [Act.put,List.setIfInBounds_toArray,List.set_cons_zero,List.set_cons_succ,i64_w,i32_w]
                 rfl
                refine pure_ (i:=20) (N:=some 59) (v:=?_) (a':=?_) #[true,true,true,true,true,true,true,true,true,true,true,true,true,true,true,true,true,true,true,true,true,false] rfl rfl (any_of HT_.out (by kernel_rfl)) (fun _ _ _ h=>h) (Or.inl ⟨by rfl,?_⟩) ?_ ?_
                rotate_left
                ·intro w'
                 go_simp
                 with_reducible rfl
                rotate_left
                ·simp only [Act.put,List.setIfInBounds_toArray,List.set_cons_zero,List.set_cons_succ,i64_w,i32_w]
                 rfl
                refine last_ (i:=21) (N:=none) #[true,true,true,true,true,true,true,true,true,true,true,true,true,true,true,true,true,true,true,true,true,true] rfl rfl (one_of HT_.out (by kernel_rfl)) (by decide) (fun K hK=>?_)
                refine skip_ (w1:=?_) (by rfl) rfl ?_ ?_
                rotate_left
                ·go_simp
                 rfl
                refine hK.out _ _ ?_
                clear hK K
                refine done_ (done_of HT_.out (by kernel_rfl)) ?_
                try go_wp2
                go_roundg k3
                case measure=>have:=HK1.out;have:=HK2.out;have:=HK3.out;omega
                case rel=>exact ⟨(y155),(wrap64 (x11_3 + 1)),(by first|rfl|(simp;done)|(simp [*];done)),H',⟨by have:=HK1.out;have:=HK2.out;have:=HK3.out;omega⟩,⟨by (with_reducible repeat (first|apply Kd.R_alloc|apply Kd.R_drewN|apply Kd.R_drew));exact Kd.R_mono (Kd.R_far (p:=⟨go23,(x11_3 : Int).toNat,none⟩) (Kd.R_types HO_6.out GG23.out (by decide)) (fun _ hk=>hk.2) (.int .i64 ji22)) (fun _ hk=>trivial)⟩,⟨by (with_reducible repeat (first|apply Kd.S_alloc|apply Kd.S_drewN|apply Kd.S_drew));exact HQ27.out⟩,⟨by (with_reducible repeat (first|apply Kd.S_alloc|apply Kd.S_drewN|apply Kd.S_drew));exact Kd.S_mono (Kd.S_far (p:=⟨go23,(x11_3 : Int).toNat,none⟩) (Kd.S_mono HO_8.out (fun k_ hk=>(⟨hk,Nat.ne_of_gt (Nat.lt_of_lt_of_le (HL148_0.out.1 _ rfl).1 hk)⟩ : _ ∧ k_ ≠ go23))) (fun _ hk=>hk.2) (.int .i64 ji22)) (fun _ hk=>hk.1)⟩,⟨by repeat (first|(with_reducible first|exact HB.out|apply below_alloc|apply pw_below_drewN|apply below_drew1|refine below_set ?_ GB23.out)|exact HB.out)⟩⟩
               ·rw [if_neg c21] at H
                exact absurd H (by simp)
              ·rw [if_neg c20] at H
               exact absurd H (by simp)
             ·rw [if_neg c19] at H
              exact absurd H (by simp)
            ·rw [if_neg c18] at H
             exact absurd H (by simp)
           ·rw [if_neg c17] at H
            exact absurd H (by simp)
          ·rw [if_neg c16] at H
           exact absurd H (by simp)
         ·rw [if_neg c15] at H
          have c15b0 : decide (x11_3 ≤ a0) = false:=decide_eq_false c15
          clear c15
          have H':=Aside0.mk H
          clear H
          go_wp2
          go_roundg k3
          case measure=>have:=HK1.out;have:=HK2.out;have:=HK3.out;omega
          case rel=>exact ⟨(x7_3),(wrap64 (x10_2 + 1)),(by first|rfl|(simp;done)|(simp [*];done)),H',⟨by have:=HK1.out;have:=HK2.out;have:=HK3.out;omega⟩,⟨by (with_reducible repeat (first|apply Kd.R_alloc|apply Kd.R_drewN|apply Kd.R_drew));exact HO_6.out⟩,⟨by (with_reducible repeat (first|apply Kd.S_alloc|apply Kd.S_drewN|apply Kd.S_drew));exact HO_7.out⟩,⟨by (with_reducible repeat (first|apply Kd.S_alloc|apply Kd.S_drewN|apply Kd.S_drew));exact HO_8.out⟩,⟨by repeat (first|(with_reducible first|exact HB.out|apply below_alloc|apply pw_below_drewN|apply below_drew1)|exact HB.out)⟩⟩
      ·rw [if_neg c14] at H
       have c14b0 : decide (x10_2 ≤ a0) = false:=decide_eq_false c14
       clear c14
       have H':=Aside0.mk H
       clear H
       go_wp2
       go_roundg k2
       case measure=>have:=HK1.out;have:=HK2.out;omega
       case rel=>exact ⟨T1_,(x7_2),(t145),(wrap64 (x9_1 + 1)),(by first|rfl|(simp;done)|(simp [*];done)),H',⟨by have:=HK1.out;have:=HK2.out;omega⟩,⟨by (with_reducible repeat (first|apply Kd.R_alloc|apply Kd.R_drewN|apply Kd.R_drew));exact HO_6.out⟩,⟨by (with_reducible repeat (first|apply Kd.S_alloc|apply Kd.S_drewN|apply Kd.S_drew));exact HO_7.out⟩,⟨by (with_reducible repeat (first|apply Kd.S_alloc|apply Kd.S_drewN|apply Kd.S_drew));exact HO_8.out⟩,⟨by repeat (first|(with_reducible first|exact HB.out|apply below_alloc|apply pw_below_drewN|apply below_drew1)|exact HB.out)⟩⟩
   ·rw [if_neg c9] at H
    have c9b0 : decide (x9_1 ≤ (wrap64 (a0 + 1))) = false:=decide_eq_false c9
    clear c9
    have H':=Aside0.mk H
    clear H
    go_wp2
    go_loopg [12] k1 (fun kq v12 w'=>∃ (x12_2 : Int),v12 = .int .i64 x12_2 ∧ Aside0 (scarfjointref03_distances.l3 kq a0 x7_1 x12_2 = some (r1,r2)) ∧ Aside0 (kq ≤ k1) ∧ Aside0 (Kd.S (Kd.slice 3 (Kd.int .i64)) 36 w' w.heap.size (fun _=>True) v140 x7_1) ∧ Aside0 (Below w.heap.size w w'))
    case atStart=>exact ⟨(0),(by first|rfl|(simp;done)|(simp [*];done)),H',⟨Nat.le_refl _⟩,⟨by (with_reducible repeat (first|apply Kd.S_alloc|apply Kd.S_drewN|apply Kd.S_drew));exact Kd.S_mono HO_7.out (fun _ hk=>trivial)⟩,⟨by repeat (first|(with_reducible first|exact HB.out|apply below_alloc|apply pw_below_drewN|apply below_drew1)|exact HB.out)⟩⟩
    case round =>
     clear H'
     try clear c1
     try clear p1
     try clear q1
     try clear hx1
     try clear c2
     try clear p2
     try clear q2
     try clear hx2
     try clear hf2
     try clear c4
     try clear c5
     try clear p6
     try clear c9
     try clear c9b0
     try clear c14
     try clear c14b0
     try clear p14
     try clear q14
     try clear hx14
     try clear c15
     try clear c15b0
     try clear p15
     try clear q15
     try clear hx15
     try clear c16
     try clear c16b0
     try clear c17
     try clear c17b0
     try clear c18
     try clear c18b0
     try clear c19
     try clear c19b0
     try clear c20
     try clear c20b0
     try clear c21
     try clear c21b0
     try clear p23
     try clear q23
     try clear hx23
     try clear hf23
     try clear c27
     try clear q27
     try clear hx148_0
     try clear hx149_0
     try clear hx150_0
     try clear hx151_0
     try clear hx152_0
     try clear hx23_0
     try clear p148
     try clear p149
     try clear p150
     try clear p151
     try clear p152
     try clear p2
     try clear p23
     try clear p6
     try clear q148
     try clear q149
     try clear q150
     try clear q151
     try clear q152
     try clear q23
     obtain ⟨x12_2,rfl,HA,HK2,HO_7,HB⟩:=hrel
     cases gk with
     | zero => exact absurd HA.out (by simp [scarfjointref03_distances.l3])
     | succ k2 =>
      have H:=HA.out
      clear HA
      simp only [scarfjointref03_distances.l3] at H
      by_cases c29 : x12_2 ≤ a0
      ·rw [if_pos c29] at H
       have c29b0 : decide (x12_2 ≤ a0) = true:=decide_eq_true c29
       clear c29
       by_cases c30 : 0 ≤ x12_2
       ·rw [if_pos c30] at H
        have c30b0 : decide (0 ≤ x12_2) = true:=decide_eq_true c30
        clear c30
        by_cases c31 : x12_2 < (x7_1.length : Int)
        ·rw [if_pos c31] at H
         have c31b0 : decide (x12_2 < (x7_1.length : Int)) = true:=decide_eq_true c31
         clear c31
         by_cases c32 : x12_2 < ((rd_L5 x7_1 x12_2).length : Int)
         ·rw [if_pos c32] at H
          have c32b0 : decide (x12_2 < ((rd_L5 x7_1 x12_2).length : Int)) = true:=decide_eq_true c32
          clear c32
          by_cases c33 : (rd (rd_L5 x7_1 x12_2) x12_2) < 0
          ·rw [if_pos c33] at H
           have c33b0 : decide ((rd (rd_L5 x7_1 x12_2) x12_2) < 0) = true:=decide_eq_true c33
           clear c33
           simp only [Option.some.injEq,Prod.mk.injEq] at H
           obtain ⟨rfl,rfl⟩:=H
           obtain ⟨Ao34,co34,eo34⟩:=Kd.S_slice HO_7.out
           subst eo34
           have p156 : 0 ≤ (x12_2 : Int):=of_decide_eq_true (by first|(with_reducible assumption)|assumption)
           have q156 : x12_2 < (x7_1.length : Int):=of_decide_eq_true (by first|(with_reducible assumption)|assumption)
           obtain ⟨ad156,A156_0,c156_0,e156,hx156_0,hl156_0,hi156_0⟩:=at_L5 (Kd.S_reads' HO_7.out).2.2 x12_2 p156 q156
           cases e156
           obtain ⟨ce156,hce156,hMe156,hcc156⟩:=Kd.S_get HO_7.out [] x12_2 p156 (by first|exact q156|exact of_decide_eq_true (by first|(with_reducible assumption)|assumption)|(have e_:=(Kd.S_reads' HO_7.out).1;omega))
           obtain ⟨ve156_0,rfl,ge156_0⟩:=hMe156
           have hv156_0:=hcc156 0 _ rfl
           rw [Nat.add_zero,show ((Kd.slice 3 (Kd.int .i64))).sz = 1 from rfl,Nat.mul_one] at hv156_0
           replace hv156_0:=Option.some.inj (hv156_0.symm.trans hx156_0)
           rw [hv156_0] at ge156_0
           have HL156_0:=Aside0.mk (show Kd.R (Kd.int .i64) 3 _ _ _ _ (rd_L5 x7_1 x12_2) from ge156_0)
           clear hv156_0 ge156_0
           have HX156_0:=Aside0.mk hx156_0
           clear hcc156 hce156
           have HR156_0:=Aside0.mk hi156_0
           have HC156_0:=Aside0.mk hl156_0
           clear hi156_0 hl156_0
           replace p156:=eq_true p156
           replace q156:=eq_true q156
           have p157 : 0 ≤ (x12_2 : Int):=of_decide_eq_true (by first|(with_reducible assumption)|assumption)
           have q157 : x12_2 < ((rd_L5 x7_1 x12_2).length : Int):=of_decide_eq_true (by first|(with_reducible assumption)|assumption)
           obtain ⟨ad157,e157,hx157_0⟩:=Kd.at_int (by repeat (first|(with_reducible exact HR156_0.out)|(with_reducible refine Kd.C_alloc ?_ _)|(with_reducible refine Kd.C_drewN ?_ _)|(with_reducible refine Kd.C_drew ?_)|exact HR156_0.out)) x12_2 p157 q157
           cases e157
           replace p157:=eq_true p157
           replace q157:=eq_true q157
           go_wp2
           go_ret2
           exact ⟨_,by first|rfl|(simp [errW_none,errW_some] <;> rfl)|(simp [*,errW_none,errW_some] <;> rfl),by first|exact Kd.S_nil _ _ _ _ _|exact Kd.N_nil _ _ _ _ _|exact Kd.V_nil _ _ _ _ _|exact Kd.Q_nil _ _ _ _ _|exact Kd.R_nil _ _ _ _ _,by repeat (first|(with_reducible first|exact HB.out|apply below_alloc|apply pw_below_drewN|apply below_drew1)|exact HB.out)⟩
          ·rw [if_neg c33] at H
           have c33b0 : decide ((rd (rd_L5 x7_1 x12_2) x12_2) < 0) = false:=decide_eq_false c33
           clear c33
           have H':=Aside0.mk H
           clear H
           obtain ⟨Ao35,co35,eo35⟩:=Kd.S_slice HO_7.out
           subst eo35
           have p156 : 0 ≤ (x12_2 : Int):=of_decide_eq_true (by first|(with_reducible assumption)|assumption)
           have q156 : x12_2 < (x7_1.length : Int):=of_decide_eq_true (by first|(with_reducible assumption)|assumption)
           obtain ⟨ad156,A156_0,c156_0,e156,hx156_0,hl156_0,hi156_0⟩:=at_L5 (Kd.S_reads' HO_7.out).2.2 x12_2 p156 q156
           cases e156
           obtain ⟨ce156,hce156,hMe156,hcc156⟩:=Kd.S_get HO_7.out [] x12_2 p156 (by first|exact q156|exact of_decide_eq_true (by first|(with_reducible assumption)|assumption)|(have e_:=(Kd.S_reads' HO_7.out).1;omega))
           obtain ⟨ve156_0,rfl,ge156_0⟩:=hMe156
           have hv156_0:=hcc156 0 _ rfl
           rw [Nat.add_zero,show ((Kd.slice 3 (Kd.int .i64))).sz = 1 from rfl,Nat.mul_one] at hv156_0
           replace hv156_0:=Option.some.inj (hv156_0.symm.trans hx156_0)
           rw [hv156_0] at ge156_0
           have HL156_0:=Aside0.mk (show Kd.R (Kd.int .i64) 3 _ _ _ _ (rd_L5 x7_1 x12_2) from ge156_0)
           clear hv156_0 ge156_0
           have HX156_0:=Aside0.mk hx156_0
           clear hcc156 hce156
           have HR156_0:=Aside0.mk hi156_0
           have HC156_0:=Aside0.mk hl156_0
           clear hi156_0 hl156_0
           replace p156:=eq_true p156
           replace q156:=eq_true q156
           have p157 : 0 ≤ (x12_2 : Int):=of_decide_eq_true (by first|(with_reducible assumption)|assumption)
           have q157 : x12_2 < ((rd_L5 x7_1 x12_2).length : Int):=of_decide_eq_true (by first|(with_reducible assumption)|assumption)
           obtain ⟨ad157,e157,hx157_0⟩:=Kd.at_int (by repeat (first|(with_reducible exact HR156_0.out)|(with_reducible refine Kd.C_alloc ?_ _)|(with_reducible refine Kd.C_drewN ?_ _)|(with_reducible refine Kd.C_drew ?_)|exact HR156_0.out)) x12_2 p157 q157
           cases e157
           replace p157:=eq_true p157
           replace q157:=eq_true q157
           go_wp2
           go_roundg k2
           case measure=>have:=HK1.out;have:=HK2.out;omega
           case rel=>exact ⟨(wrap64 (x12_2 + 1)),(by first|rfl|(simp;done)|(simp [*];done)),H',⟨by have:=HK1.out;have:=HK2.out;omega⟩,⟨by (with_reducible repeat (first|apply Kd.S_alloc|apply Kd.S_drewN|apply Kd.S_drew));exact HO_7.out⟩,⟨by repeat (first|(with_reducible first|exact HB.out|apply below_alloc|apply pw_below_drewN|apply below_drew1)|exact HB.out)⟩⟩
         ·rw [if_neg c32] at H
          exact absurd H (by simp)
        ·rw [if_neg c31] at H
         exact absurd H (by simp)
       ·rw [if_neg c30] at H
        exact absurd H (by simp)
      ·rw [if_neg c29] at H
       have c29b0 : decide (x12_2 ≤ a0) = false:=decide_eq_false c29
       clear c29
       simp only [Option.some.injEq,Prod.mk.injEq] at H
       obtain ⟨rfl,rfl⟩:=H
       go_wp2
       go_ret2
       exact ⟨_,by first|rfl|(simp [errW_none,errW_some] <;> rfl)|(simp [*,errW_none,errW_some] <;> rfl),by (with_reducible repeat (first|apply Kd.S_alloc|apply Kd.S_drewN|apply Kd.S_drew));exact HO_7.out,by repeat (first|(with_reducible first|exact HB.out|apply below_alloc|apply pw_below_drewN|apply below_drew1)|exact HB.out)⟩



end Go.Proofs.Yteebkkdbkkibmaa.Pr
