/- Functions of this claim and what their calls compute, written by wip/tools/mp.py, a variant of the kit printer. Conditions: each theorem has its own. -/
import Derived.Test.YteebkkdbkkibmaaPr0
import Derived.Test.YteebkkdbkkibmaaPr8
namespace Go.Proofs.Yteebkkdbkkibmaa.Pr
open Go.RowKit Go.Proofs.YteebkkdbkkibmaaW.PrintWords Go.Proofs.YteebkkdbkkibmaaW.PrintLast Go.Proofs.YteebkkdbkkibmaaW.PrintMore
attribute [local go_sem] max2_int min2_int max_two min_two max_three min_three max_four min_four   -- for this text's walks alone
set_option linter.unusedVariables false
set_option linter.unusedSimpArgs false

/-! ### difference_longer: function 49 -/
mutual
def difference_longer.l0 : Nat → List (List Int) → List (S71) → Int → List (List Int) → Int → Int → Option ((List (List Int)))
 | 0,_,_,_,_,_,_ => none
 | k + 1,x0,x1,x5,x6,x14,x15 => if x15 < x14 then ((slices_Repeat_int_int.f (([1125899906842624] : List Int)) (wrap64 (x5 + 1))).bind fun t194 => (if x6.length < 5864062014805 then (difference_longer.l0 k x0 x1 x5 (x6 ++ [t194]) x14 (wrap64 (x15 + 1))) else (none))) else (difference_longer.l1 k x0 x5 x6 x1 (x1.length : Int) 0)
def difference_longer.l1 : Nat → List (List Int) → Int → List (List Int) → List (S71) → Int → Int → Option ((List (List Int)))
 | 0,_,_,_,_,_,_ => none
 | k + 1,x0,x5,x6,x25,x26,x27 => if x27 < x26 then (if 0 ≤ x27 then (if x27 < (x25.length : Int) then (difference_longer.l2 k x0 x5 x6 x25 x26 x27 (wrap64 (x5 + 1)) 0 ((rd_T71 x25 x27).f0.f0) ((rd_T71 x25 x27).f0.f1) ((rd_T71 x25 x27).f1) ((rd_T71 x25 x27).f2) ((rd_T71 x25 x27).f3)) else (none)) else (none)) else (some x6)
def difference_longer.l2 : Nat → List (List Int) → Int → List (List Int) → List (S71) → Int → Int → Int → Int → Int → Int → Int → Int → Int → Option ((List (List Int)))
 | 0,_,_,_,_,_,_,_,_,_,_,_,_,_ => none
 | k + 1,x0,x5,x6,x25,x26,x27,x32,x33,x202000,x202001,x202002,x202003,x202004 => if x33 < x32 then (if 0 ≤ x202003 then (if x202003 < (x0.length : Int) then (if 0 ≤ x33 then (if x33 < ((rd_L5 x0 x202003).length : Int) then (if (rd (rd_L5 x0 x202003) x33) < 1125899906842624 then (if 0 ≤ x202002 then (if x202002 < (x6.length : Int) then (if x33 < ((rd_L5 x6 x202002).length : Int) then (difference_longer.l2 k x0 x5 (x6.set (x202002 : Int).toNat ((rd_L5 x6 x202002).set (x33 : Int).toNat (mn (rd (rd_L5 x6 x202002) x33) (wrap64 (x202004 + (rd (rd_L5 x0 x202003) x33)))))) x25 x26 x27 x32 (wrap64 (x33 + 1)) x202000 x202001 x202002 x202003 x202004) else (none)) else (none)) else (none)) else (difference_longer.l2 k x0 x5 x6 x25 x26 x27 x32 (wrap64 (x33 + 1)) x202000 x202001 x202002 x202003 x202004)) else (none)) else (none)) else (none)) else (none)) else (difference_longer.l1 k x0 x5 x6 x25 x26 (wrap64 (x27 + 1)))
end
def difference_longer.f (k : Nat) (l0 : List (List Int)) (l1 : List (S71)) : Option ((List (List Int))):=difference_longer.l0 k l0 l1 (wrap64 ((l0.length : Int) - 1)) ([] : List (List Int)) (wrap64 ((wrap64 ((l0.length : Int) - 1)) + 1)) 0
theorem difference_longer.mono_l : ∀ k,(∀ y0 y1 y2 y3 y4 y5,LeO (difference_longer.l0 k y0 y1 y2 y3 y4 y5) (difference_longer.l0 (k + 1) y0 y1 y2 y3 y4 y5)) ∧ (∀ y0 y1 y2 y3 y4 y5,LeO (difference_longer.l1 k y0 y1 y2 y3 y4 y5) (difference_longer.l1 (k + 1) y0 y1 y2 y3 y4 y5)) ∧ (∀ y0 y1 y2 y3 y4 y5 y6 y7 y8 y9 y10 y11 y12,LeO (difference_longer.l2 k y0 y1 y2 y3 y4 y5 y6 y7 y8 y9 y10 y11 y12) (difference_longer.l2 (k + 1) y0 y1 y2 y3 y4 y5 y6 y7 y8 y9 y10 y11 y12))
 | 0 => ⟨fun _ _ _ _ _ _ r h => by simp [difference_longer.l0] at h,fun _ _ _ _ _ _ r h => by simp [difference_longer.l1] at h,fun _ _ _ _ _ _ _ _ _ _ _ _ _ r h => by simp [difference_longer.l2] at h⟩
 | k + 1 => by
  obtain ⟨ih0,ih1,ih2⟩:=difference_longer.mono_l k
  refine ⟨?_,?_,?_⟩
  ·intro y0 y1 y2 y3 y4 y5
   unfold difference_longer.l0
   repeat' first
   | (with_reducible exact ih0 _ _ _ _ _ _)
   | (with_reducible exact ih1 _ _ _ _ _ _)
   | (with_reducible exact ih2 _ _ _ _ _ _ _ _ _ _ _ _ _)
   | (with_reducible exact LeO.refl _)
   | (with_reducible exact LeO.none _)
   | (with_reducible refine LeO.ite ?_ ?_)
   | (with_reducible refine LeO.bind ?_ (fun _ => ?_))
   | exact ih0 _ _ _ _ _ _
   | exact ih1 _ _ _ _ _ _
   | exact ih2 _ _ _ _ _ _ _ _ _ _ _ _ _
   | exact LeO.none _
   | refine LeO.ite ?_ ?_
   | refine LeO.bind ?_ (fun _ => ?_)
  ·intro y0 y1 y2 y3 y4 y5
   unfold difference_longer.l1
   repeat' first
   | (with_reducible exact ih0 _ _ _ _ _ _)
   | (with_reducible exact ih1 _ _ _ _ _ _)
   | (with_reducible exact ih2 _ _ _ _ _ _ _ _ _ _ _ _ _)
   | (with_reducible exact LeO.refl _)
   | (with_reducible exact LeO.none _)
   | (with_reducible refine LeO.ite ?_ ?_)
   | (with_reducible refine LeO.bind ?_ (fun _ => ?_))
   | exact ih0 _ _ _ _ _ _
   | exact ih1 _ _ _ _ _ _
   | exact ih2 _ _ _ _ _ _ _ _ _ _ _ _ _
   | exact LeO.none _
   | refine LeO.ite ?_ ?_
   | refine LeO.bind ?_ (fun _ => ?_)
  ·intro y0 y1 y2 y3 y4 y5 y6 y7 y8 y9 y10 y11 y12
   unfold difference_longer.l2
   repeat' first
   | (with_reducible exact ih0 _ _ _ _ _ _)
   | (with_reducible exact ih1 _ _ _ _ _ _)
   | (with_reducible exact ih2 _ _ _ _ _ _ _ _ _ _ _ _ _)
   | (with_reducible exact LeO.refl _)
   | (with_reducible exact LeO.none _)
   | (with_reducible refine LeO.ite ?_ ?_)
   | (with_reducible refine LeO.bind ?_ (fun _ => ?_))
   | exact ih0 _ _ _ _ _ _
   | exact ih1 _ _ _ _ _ _
   | exact ih2 _ _ _ _ _ _ _ _ _ _ _ _ _
   | exact LeO.none _
   | refine LeO.ite ?_ ?_
   | refine LeO.bind ?_ (fun _ => ?_)
theorem difference_longer.mono : ∀ a0 a1 k,LeO (difference_longer.f k a0 a1) (difference_longer.f (k + 1) a0 a1):=by
 intro a0 a1 k
 obtain ⟨ih0,ih1,ih2⟩:=difference_longer.mono_l k
 unfold difference_longer.f
 repeat' first
   | (with_reducible exact ih0 _ _ _ _ _ _)
   | (with_reducible exact ih1 _ _ _ _ _ _)
   | (with_reducible exact ih2 _ _ _ _ _ _ _ _ _ _ _ _ _)
   | (with_reducible exact LeO.refl _)
   | (with_reducible exact LeO.none _)
   | (with_reducible refine LeO.ite ?_ ?_)
   | (with_reducible refine LeO.bind ?_ (fun _ => ?_))
   | exact ih0 _ _ _ _ _ _
   | exact ih1 _ _ _ _ _ _
   | exact ih2 _ _ _ _ _ _ _ _ _ _ _ _ _
   | exact LeO.none _
   | refine LeO.ite ?_ ?_
   | refine LeO.bind ?_ (fun _ => ?_)
def difference_longer.T14 : Bool × List (List Nat × List Nat):=(true,[([],[]),([],[]),([1],[1]),([0,2],[0,2]),([3],[3]),([],[]),([],[]),([],[]),([7],[7]),([6,8],[6,8]),([9],[9]),([],[]),([10,11],[10,11]),([12],[12]),([],[]),([14],[14]),([],[]),([],[]),([17],[17]),([16,18],[16,18]),([19],[19]),([],[]),([20,21],[20,21]),([22],[22]),([15,23],[15,23]),([13,24],[13,24]),([4,5,0,1,2,3,4,5,6,7,8,9,10,11,12,13,14,15,16,17,18,19,20,21,22,23,24,25],[4,5]),([26,25,0,1,2,3,4,5,6,7,8,9,10,11,12,13,14,15,16,17,18,19,20,21,22,23,24,25],[25,26])])
def difference_longer.B14 : List Nat:=[0,0,2,7,15,0,0,0,128,448,960,0,4032,8128,0,16384,0,0,131072,458752,983040,0,4128768,8323072,16760832,33554368,67108863,134217727]
theorem difference_longer.tab14 : rtab .any (opsOf Try.f49 14) = difference_longer.T14:=by kernel_rfl
theorem difference_longer.bits14 : waitsOk difference_longer.T14.2 difference_longer.B14 = true:=by kernel_rfl
set_option maxHeartbeats 8000000 in
set_option maxRecDepth 100000 in
theorem difference_longer.calls (k : Nat) (A0 : Option Addr) (c0 : Nat) (l0 : List (List Int)) (A1 : Option Addr) (c1 : Nat) (l1 : List (S71)) (r : List (List Int)) (w : World) (hr0 : Kd.C (Kd.slice 3 (Kd.int .i64)) w A0 l0.length l0) (hc0 : l0.length ≤ c0) (hr1 : Kd.C k71 w A1 l1.length l1) (hc1 : l1.length ≤ c1) (h : difference_longer.f k l0 l1 = some r) :
  Calls Try.prog 49 #[.slice A0 l0.length c0,.slice A1 l1.length c1] w fun e w'=>∃ v0_ : Value,e = .returned (v0_) ∧ Kd.S (Kd.slice 3 (Kd.int .i64)) 36 w' w.heap.size (fun _=>True) v0_ r ∧ Below w.heap.size w w':=by
 have hu71:=Try.underlying71
 have HR0:=Aside0.mk hr0
 have HC0:=Aside0.mk hc0
 clear hr0 hc0
 have HR1:=Aside0.mk hr1
 have HC1:=Aside0.mk hc1
 clear hr1 hc1
 have HB:=Aside0.mk (Below.refl w.heap.size w)
 have H : (difference_longer.l0 k l0 l1 (wrap64 ((l0.length : Int) - 1)) ([] : List (List Int)) (wrap64 ((wrap64 ((l0.length : Int) - 1)) + 1)) 0) = some r:=h
 clear h
 have H':=Aside0.mk H
 clear H
 go_enter Try.func49,Try.ntmps49
 go_wp2
 go_loopg [6,15] k (fun kq v6 v15 w'=>∃ (x6_1 : List (List Int)) (x15_1 : Int),v15 = .int .i64 x15_1 ∧ Aside0 (difference_longer.l0 kq l0 l1 (wrap64 ((l0.length : Int) - 1)) x6_1 (wrap64 ((wrap64 ((l0.length : Int) - 1)) + 1)) x15_1 = some r) ∧ Aside0 (kq ≤ k) ∧ Aside0 (Kd.S (Kd.slice 3 (Kd.int .i64)) 36 w' w.heap.size (fun _=>True) v6 x6_1) ∧ Aside0 (Below w.heap.size w w'))
 case atStart=>exact ⟨(([] : List (List Int))),(0),(by first|rfl|(simp;done)|(simp [*];done)),H',⟨Nat.le_refl _⟩,⟨by first|exact Kd.S_nil _ _ _ _ _|exact Kd.N_nil _ _ _ _ _|exact Kd.V_nil _ _ _ _ _|exact Kd.Q_nil _ _ _ _ _|exact Kd.R_nil _ _ _ _ _⟩,⟨by repeat (first|(with_reducible first|exact HB.out|apply below_alloc|apply pw_below_drewN|apply below_drew1)|exact HB.out)⟩⟩
 case round =>
  clear H'
  try clear c1
  try clear p2
  obtain ⟨x6_1,x15_1,rfl,HA,HK1,HO_6,HB⟩:=hrel
  cases gk with
  | zero => exact absurd HA.out (by simp [difference_longer.l0])
  | succ k1 =>
   have H:=HA.out
   clear HA
   simp only [difference_longer.l0] at H
   by_cases c3 : x15_1 < (wrap64 ((wrap64 ((l0.length : Int) - 1)) + 1))
   ·rw [if_pos c3] at H
    have c3b0 : decide (x15_1 < (wrap64 ((wrap64 ((l0.length : Int) - 1)) + 1))) = true:=decide_eq_true c3
    clear c3
    obtain ⟨y191,hy191⟩ : ∃ y_ : List Int,y_ = (([1125899906842624] : List Int)):=⟨_,rfl⟩
    replace H : ((slices_Repeat_int_int.f y191 (wrap64 ((wrap64 ((l0.length : Int) - 1)) + 1))).bind fun t194=>(if x6_1.length < 5864062014805 then (difference_longer.l0 k1 l0 l1 (wrap64 ((l0.length : Int) - 1)) (x6_1 ++ [t194]) (wrap64 ((wrap64 ((l0.length : Int) - 1)) + 1)) (wrap64 (x15_1 + 1))) else (none))) = some r:=by first|(rw [hy191];with_reducible exact H)|(have H2_:=(Option.bind_some _ _).symm.trans H;rw [hy191];with_reducible exact H2_)|(have H2_:=(Option.bind_some _ _).symm.trans H;with_reducible exact H2_)|with_reducible exact H|(rw [hy191];exact H)|exact H
    have Ny191:=Aside0.mk hy191
    clear hy191
    replace H:=Option.bind_eq_some_iff.mp H
    obtain ⟨t194,A40,H⟩:=H
    replace H : (if x6_1.length < 5864062014805 then (difference_longer.l0 k1 l0 l1 (wrap64 ((l0.length : Int) - 1)) (x6_1 ++ [t194]) (wrap64 ((wrap64 ((l0.length : Int) - 1)) + 1)) (wrap64 (x15_1 + 1))) else (none)) = some r:=H
    have A4:=Aside0.mk A40
    clear A40
    by_cases c5 : x6_1.length < 5864062014805
    ·rw [if_pos c5] at H
     have LMc5:=Aside0.mk c5
     clear c5
     obtain ⟨y197,hy197⟩ : ∃ y_ : List (List Int),y_ = (x6_1 ++ [t194]):=⟨_,rfl⟩
     replace H : (difference_longer.l0 k1 l0 l1 (wrap64 ((l0.length : Int) - 1)) y197 (wrap64 ((wrap64 ((l0.length : Int) - 1)) + 1)) (wrap64 (x15_1 + 1))) = some r:=by first|(rw [hy197];with_reducible exact H)|(have H2_:=(Option.bind_some _ _).symm.trans H;rw [hy197];with_reducible exact H2_)|(have H2_:=(Option.bind_some _ _).symm.trans H;with_reducible exact H2_)|with_reducible exact H|(rw [hy197];exact H)|exact H
     have Ny197:=Aside0.mk hy197
     clear hy197
     have H':=Aside0.mk H
     clear H
     go_wp2_with (first|((with_reducible refine gate_dst (N:=18) rfl ?_);refine Kd.R_lit (Kd.int .i64) _ 3 ?hg (N:=18) ?hd (xs:=([1125899906842624] : List Int)) (inner:=[.int .i64 1125899906842624]) (ok:=fun _=>True) (okp:=fun _=>True) ?hr ?hp (fun _ hk=>hk) trivial (Below.refl _ _) (Nat.le_refl _) (by simp) ?_;(case hd=>rfl);(case hg=>rfl);(case hr=>first|(go_simp;done)|(go_simp;rfl));(case hp=>exact (Reps.one (show Kd.M (Kd.int .i64) _ _ _ 1125899906842624 [.int .i64 1125899906842624] from rfl) (Reps.none _ _)));intro v192 w6 ho7 hb hg_ hnew_;clear hg_ hnew_;(first|rw [← Ny191.out] at ho7|(simp only [Int.reduceToNat] at ho7;rw [← Ny191.out] at ho7));have n0_:=Aside0.mk (Kd.S_elder' (by (with_reducible repeat (first|apply Kd.S_alloc|apply Kd.S_drewN|apply Kd.S_drew));exact HO_6.out) (Kd.R_base ho7) hb);have n1_:=Aside0.mk (Kd.R_lower ho7 (below_size (by repeat (first|(with_reducible first|exact HB.out|apply below_alloc|apply pw_below_drewN|apply below_drew1)|exact HB.out))));have n2_:=Aside0.mk (below_step (by repeat (first|(with_reducible first|exact HB.out|apply below_alloc|apply pw_below_drewN|apply below_drew1)|exact HB.out)) hb);clear HO_6;clear HB;have HO_6:=n0_;have HO193:=n1_;have HB:=n2_;clear n0_ n1_ n2_;clear hb ho7;obtain ⟨Ao8,co8,eo8⟩:=Kd.R_slice HO193.out;subst eo8)|((with_reducible refine gate_callee (f:=66) rfl ?_);refine goesL_ (some 21) rfl rfl Try.func66 (by kernel_rfl) rfl #[.slice Ao8 y191.length co8,.int .i64 (wrap64 ((wrap64 ((l0.length : Int) - 1)) + 1))] rfl (by (try simp only [List.map_toArray,List.map_cons,List.map_nil]);first|done|rfl|(simp only [List.length_drop,List.length_take];rfl)) ?_;(with_reducible refine (slices_Repeat_int_int.calls _ _ y191 (wrap64 ((wrap64 ((l0.length : Int) - 1)) + 1)) t194 _ ?side1 ?side2 A4.out).mono ?_);(case side1=>repeat (first|exact (Kd.R_reads' HO193.out).2.2|(with_reducible refine Kd.C_alloc ?_ _)|(with_reducible refine Kd.C_drewN ?_ _)|(with_reducible refine Kd.C_drew ?_)));(case side2=>exact (Kd.R_reads' HO193.out).2.1);rintro e w9 ⟨v195,rfl,ho0,hb⟩;refine ⟨_,rfl,?_⟩;have n0_:=Aside0.mk (Kd.S_elder' (by (with_reducible repeat (first|apply Kd.S_alloc|apply Kd.S_drewN|apply Kd.S_drew));exact HO_6.out) (Kd.R_base ho0) hb);have n1_:=Aside0.mk (Kd.R_elder' (by (with_reducible repeat (first|apply Kd.R_alloc|apply Kd.R_drewN|apply Kd.R_drew));exact HO193.out) (Kd.R_base ho0) hb);have n2_:=Aside0.mk (Kd.R_lower (Kd.R_new' ho0 (Kd.R_lt (by (with_reducible repeat (first|apply Kd.R_alloc|apply Kd.R_drewN|apply Kd.R_drew));exact HO193.out))) (below_size (by repeat (first|(with_reducible first|exact HB.out|apply below_alloc|apply pw_below_drewN|apply below_drew1)|exact HB.out))));have n3_:=Aside0.mk (below_step (by repeat (first|(with_reducible first|exact HB.out|apply below_alloc|apply pw_below_drewN|apply below_drew1)|exact HB.out)) hb);clear HO_6;clear HO193;clear HB;have HO_6:=n0_;have HO193:=n1_;have HO196:=n2_;have HB:=n3_;clear n0_ n1_ n2_ n3_;(try clear hb);(try clear hb2);(try clear hk);(try clear hi);(try clear ho0);obtain ⟨Ao11,co11,eo11⟩:=Kd.R_slice HO196.out;subst eo11)|((with_reducible refine gate_builtin (b:=.append) (xs:=#[.tmp 17,.tmp 22]) rfl ?_);at_builtin;refine Kd.S_append (Kd.slice 3 (Kd.int .i64)) (w0:=w) w.heap.size rfl (.tmp 17) (.tmp 22) 82 36 (.slice none 0 0) 24 rfl Try.underlying82 info36 rfl (by decide) (by omega) u6 x6_1 t194 [.slice Ao11 t194.length co11] (fun k_=>some k_ ≠ (.slice Ao8 y191.length co8 : Value).ownBlock) (fun k_=>some k_ = (.slice Ao11 t194.length co11 : Value).ownBlock) rfl rfl ?aP (fun k_ hk_=>((Kd.R_mono (ok':=fun k_=>((fun k_=>some k_ ≠ (.slice Ao8 y191.length co8 : Value).ownBlock)) k_ ∧ some k_ ≠ (u6 : Value).ownBlock) (Kd.R_apart' (HO196.out) (Kd.S_typed HO_6.out) (by decide)) (fun k_ hk=>⟨hk.1.2,hk.2⟩))).1 k_ hk_.symm) ?aF ?aO ?aB ?aS ?aL ?_;(case aP=>exact Kd.M_row (Kd.R_mono (Kd.R_tight rfl (Kd.R_mono (ok':=fun k_=>((fun k_=>some k_ ≠ (.slice Ao8 y191.length co8 : Value).ownBlock)) k_ ∧ some k_ ≠ (u6 : Value).ownBlock) (Kd.R_apart' (HO196.out) (Kd.S_typed HO_6.out) (by decide)) (fun k_ hk=>⟨hk.1.2,hk.2⟩))) (fun _ h_=>h_)));(case aB=>exact (by repeat (first|(with_reducible first|exact HB.out|apply below_alloc|apply pw_below_drewN|apply below_drew1)|exact HB.out)));(case aF=>exact (fun k_ hk=>Kd.fresh' (Kd.R_lt (by (with_reducible repeat (first|apply Kd.R_alloc|apply Kd.R_drewN|apply Kd.R_drew));exact HO193.out)) k_ hk));(case aO=>exact (by (with_reducible repeat (first|apply Kd.S_alloc|apply Kd.S_drewN|apply Kd.S_drew));exact Kd.S_mono HO_6.out (fun k_ hk=>⟨hk.1.2,fun e_=>hk.2 e_⟩)));(case aS=>exact (below_size (by repeat (first|(with_reducible first|exact HB.out|apply below_alloc|apply pw_below_drewN|apply below_drew1)|exact HB.out))));(case aL=>have:=LMc5.out;omega);intro v198 w10 ho hb hg hat;rw [← Ny197.out] at ho;have n0_:=Aside0.mk (Kd.R_over' (by (with_reducible repeat (first|apply Kd.R_alloc|apply Kd.R_drewN|apply Kd.R_drew));exact HO193.out) (Kd.S_typed (by (with_reducible repeat (first|apply Kd.S_alloc|apply Kd.S_drewN|apply Kd.S_drew));exact HO_6.out)) (by decide) hg);have n1_:=Aside0.mk (hb);have n2_:=Aside0.mk (ho);clear HO193;clear HB;clear HO_6;clear HO196;have HO193:=n0_;have HB:=n1_;have HO199:=n2_;clear n0_ n1_ n2_;clear ho hb hg hat))
     go_roundg k1
     case measure=>have:=HK1.out;omega
     case rel=>exact ⟨(y197),(wrap64 (x15_1 + 1)),(by first|rfl|(simp;done)|(simp [*];done)),H',⟨by have:=HK1.out;omega⟩,⟨by (with_reducible repeat (first|apply Kd.S_alloc|apply Kd.S_drewN|apply Kd.S_drew));exact Kd.S_mono HO199.out (fun _ hk=>trivial)⟩,⟨by repeat (first|(with_reducible first|exact HB.out|apply below_alloc|apply pw_below_drewN|apply below_drew1)|exact HB.out)⟩⟩
    ·rw [if_neg c5] at H
     exact absurd H (by simp)
   ·rw [if_neg c3] at H
    have c3b0 : decide (x15_1 < (wrap64 ((wrap64 ((l0.length : Int) - 1)) + 1))) = false:=decide_eq_false c3
    clear c3
    have H':=Aside0.mk H
    clear H
    go_wp2
    go_loopg [27] k1 (fun kq v27 w'=>∃ (x6_2 : List (List Int)) (x27_2 : Int),v27 = .int .i64 x27_2 ∧ Aside0 (difference_longer.l1 kq l0 (wrap64 ((l0.length : Int) - 1)) x6_2 l1 (l1.length : Int) x27_2 = some r) ∧ Aside0 (kq ≤ k1) ∧ Aside0 (Kd.S (Kd.slice 3 (Kd.int .i64)) 36 w' w.heap.size (fun _=>True) u6 x6_2) ∧ Aside0 (Below w.heap.size w w'))
    case atStart=>exact ⟨(x6_1),(0),(by first|rfl|(simp;done)|(simp [*];done)),H',⟨Nat.le_refl _⟩,⟨by (with_reducible repeat (first|apply Kd.S_alloc|apply Kd.S_drewN|apply Kd.S_drew));exact HO_6.out⟩,⟨by repeat (first|(with_reducible first|exact HB.out|apply below_alloc|apply pw_below_drewN|apply below_drew1)|exact HB.out)⟩⟩
    case round =>
     clear H'
     try clear c1
     try clear p2
     try clear c3
     try clear c3b0
     try clear c4
     try clear c5
     try clear c6
     try clear p6
     try clear p2
     obtain ⟨x6_2,x27_2,rfl,HA,HK2,HO_6,HB⟩:=hrel
     cases gk with
     | zero => exact absurd HA.out (by simp [difference_longer.l1])
     | succ k2 =>
      have H:=HA.out
      clear HA
      simp only [difference_longer.l1] at H
      by_cases c12 : x27_2 < (l1.length : Int)
      ·rw [if_pos c12] at H
       have c12b0 : decide (x27_2 < (l1.length : Int)) = true:=decide_eq_true c12
       clear c12
       by_cases c13 : 0 ≤ x27_2
       ·rw [if_pos c13] at H
        have c13b0 : decide (0 ≤ x27_2) = true:=decide_eq_true c13
        clear c13
        by_cases c14 : x27_2 < (l1.length : Int)
        ·rw [if_pos c14] at H
         have c14b0 : decide (x27_2 < (l1.length : Int)) = true:=decide_eq_true c14
         clear c14
         have H':=Aside0.mk H
         clear H
         have p200 : 0 ≤ (x27_2 : Int):=of_decide_eq_true (by first|(with_reducible assumption)|assumption)
         have q200 : x27_2 < (l1.length : Int):=of_decide_eq_true (by first|(with_reducible assumption)|assumption)
         obtain ⟨ad200,e200,hx200_0,hx200_1,hx200_2,hx200_3,hx200_4⟩:=at_T71 HR1.out x27_2 p200 q200
         cases e200
         replace hx200_0:=(HB.out.cell (World.block_lt_of_cell? w _ hx200_0)).trans hx200_0
         replace hx200_1:=(HB.out.cell (World.block_lt_of_cell? w _ hx200_1)).trans hx200_1
         replace hx200_2:=(HB.out.cell (World.block_lt_of_cell? w _ hx200_2)).trans hx200_2
         replace hx200_3:=(HB.out.cell (World.block_lt_of_cell? w _ hx200_3)).trans hx200_3
         replace hx200_4:=(HB.out.cell (World.block_lt_of_cell? w _ hx200_4)).trans hx200_4
         replace p200:=eq_true p200
         replace q200:=eq_true q200
         go_wp2_with (first|((with_reducible refine gate_dst (N:=8) rfl ?_);refine box_event ?hg (N:=8) ?hd (cs:=#[.int .i64 0,.int .i64 0,.int .i64 0,.int .i64 0,.int .i64 0]) (t:=71) ?hr ?_;(case hd=>rfl);(case hg=>rfl);(case hr=>first|(go_simp;done)|(go_simp;rfl));intro gb201 hg w15 hbox hb;have n0_:=Aside0.mk (Kd.S_below (by (with_reducible repeat (first|apply Kd.S_alloc|apply Kd.S_drewN|apply Kd.S_drew));exact HO_6.out) hb);have n1_:=Aside0.mk (below_step (by repeat (first|(with_reducible first|exact HB.out|apply below_alloc|apply pw_below_drewN|apply below_drew1)|exact HB.out)) hb);have n2_:=Aside0.mk (hbox);have n3_:=Aside0.mk ((by rw [hg];exact (below_size (by repeat (first|(with_reducible first|exact HB.out|apply below_alloc|apply pw_below_drewN|apply below_drew1)|exact HB.out))) : w.heap.size ≤ gb201));have n4_:=Aside0.mk ((by rw [hg];exact (below_size (by repeat (first|(with_reducible first|exact HB.out|apply below_alloc|apply pw_below_drewN|apply below_drew1)|exact HB.out))) : w.heap.size ≤ gb201));clear HO_6;clear HB;have HO_6:=n0_;have HB:=n1_;have BK201:=n2_;have GW201:=n3_;have GE201:=n4_;clear n0_ n1_ n2_ n3_ n4_;clear hb hbox hg;have hcz16_0 : w15.cell? ⟨gb201,0,none⟩ = some (.int .i64 0):=(blk_cell BK201.out 0).trans rfl;have hcz16_1 : w15.cell? ⟨gb201,1,none⟩ = some (.int .i64 0):=(blk_cell BK201.out 1).trans rfl;have hcz16_2 : w15.cell? ⟨gb201,2,none⟩ = some (.int .i64 0):=(blk_cell BK201.out 2).trans rfl;have hcz16_3 : w15.cell? ⟨gb201,3,none⟩ = some (.int .i64 0):=(blk_cell BK201.out 3).trans rfl;have hcz16_4 : w15.cell? ⟨gb201,4,none⟩ = some (.int .i64 0):=(blk_cell BK201.out 4).trans rfl;have hfz16_0:=blk_frozen BK201.out 0;have hfz16_1:=blk_frozen BK201.out 1;have hfz16_2:=blk_frozen BK201.out 2;have hfz16_3:=blk_frozen BK201.out 3;have hfz16_4:=blk_frozen BK201.out 4))
         go_loopg [33] k2 (fun kq v33 w'=>∃ (x6_3 : List (List Int)) (x33_3 : Int),v33 = .int .i64 x33_3 ∧ Aside0 (difference_longer.l2 kq l0 (wrap64 ((l0.length : Int) - 1)) x6_3 l1 (l1.length : Int) x27_2 (wrap64 ((wrap64 ((l0.length : Int) - 1)) + 1)) x33_3 ((rd_T71 l1 x27_2).f0.f0) ((rd_T71 l1 x27_2).f0.f1) ((rd_T71 l1 x27_2).f1) ((rd_T71 l1 x27_2).f2) ((rd_T71 l1 x27_2).f3) = some r) ∧ Aside0 (kq ≤ k2) ∧ Aside0 (Kd.S (Kd.slice 3 (Kd.int .i64)) 36 w' w.heap.size (fun _=>True) u6 x6_3) ∧ Aside0 (w'.heap[gb201]? = some (.cells #[.int .i64 ((rd_T71 l1 x27_2).f0.f0),.int .i64 ((rd_T71 l1 x27_2).f0.f1),.int .i64 ((rd_T71 l1 x27_2).f1),.int .i64 ((rd_T71 l1 x27_2).f2),.int .i64 ((rd_T71 l1 x27_2).f3)] 71 (0,0))) ∧ Aside0 (Below w.heap.size w w'))
         case atStart=>exact ⟨(x6_2),(0),(by first|rfl|(simp;done)|(simp [*];done)),H',⟨Nat.le_refl _⟩,⟨by (with_reducible repeat (first|apply Kd.S_alloc|apply Kd.S_drewN|apply Kd.S_drew));exact Kd.S_mono (Kd.S_far (p:=⟨gb201,4,none⟩) (Kd.S_far (p:=⟨gb201,3,none⟩) (Kd.S_far (p:=⟨gb201,2,none⟩) (Kd.S_far (p:=⟨gb201,1,none⟩) (Kd.S_far (p:=⟨gb201,0,none⟩) (Kd.S_types HO_6.out BK201.out (by decide)) (fun _ hk=>hk.2) (.int .i64 ((rd_T71 l1 x27_2).f0.f0))) (fun _ hk=>hk.2) (.int .i64 ((rd_T71 l1 x27_2).f0.f1))) (fun _ hk=>hk.2) (.int .i64 ((rd_T71 l1 x27_2).f1))) (fun _ hk=>hk.2) (.int .i64 ((rd_T71 l1 x27_2).f2))) (fun _ hk=>hk.2) (.int .i64 ((rd_T71 l1 x27_2).f3))) (fun _ hk=>trivial)⟩,⟨by (with_reducible repeat (first|refine blk_drewN ?_ _|refine blk_drew ?_|refine blk_alloc ?_ _));refine blk_put (cs:=#[.int .i64 ((rd_T71 l1 x27_2).f0.f0),.int .i64 ((rd_T71 l1 x27_2).f0.f1),.int .i64 ((rd_T71 l1 x27_2).f1),.int .i64 ((rd_T71 l1 x27_2).f2),.int .i64 0]) ?_ 4 _ rfl;(with_reducible repeat (first|refine blk_drewN ?_ _|refine blk_drew ?_|refine blk_alloc ?_ _));refine blk_put (cs:=#[.int .i64 ((rd_T71 l1 x27_2).f0.f0),.int .i64 ((rd_T71 l1 x27_2).f0.f1),.int .i64 ((rd_T71 l1 x27_2).f1),.int .i64 0,.int .i64 0]) ?_ 3 _ rfl;(with_reducible repeat (first|refine blk_drewN ?_ _|refine blk_drew ?_|refine blk_alloc ?_ _));refine blk_put (cs:=#[.int .i64 ((rd_T71 l1 x27_2).f0.f0),.int .i64 ((rd_T71 l1 x27_2).f0.f1),.int .i64 0,.int .i64 0,.int .i64 0]) ?_ 2 _ rfl;(with_reducible repeat (first|refine blk_drewN ?_ _|refine blk_drew ?_|refine blk_alloc ?_ _));refine blk_put (cs:=#[.int .i64 ((rd_T71 l1 x27_2).f0.f0),.int .i64 0,.int .i64 0,.int .i64 0,.int .i64 0]) ?_ 1 _ rfl;(with_reducible repeat (first|refine blk_drewN ?_ _|refine blk_drew ?_|refine blk_alloc ?_ _));refine blk_put (cs:=#[.int .i64 0,.int .i64 0,.int .i64 0,.int .i64 0,.int .i64 0]) ?_ 0 _ rfl;(with_reducible repeat (first|refine blk_drewN ?_ _|refine blk_drew ?_|refine blk_alloc ?_ _));exact BK201.out⟩,⟨by repeat (first|(with_reducible first|exact HB.out|apply below_alloc|apply pw_below_drewN|apply below_drew1|refine below_set ?_ GE201.out)|exact HB.out)⟩⟩
         case round =>
          clear H'
          try clear c1
          try clear p2
          try clear q2
          try clear hx2
          try clear c3
          try clear c3b0
          try clear c4
          try clear c5
          try clear c6
          try clear p6
          try clear c12
          try clear c12b0
          try clear c13
          try clear c13b0
          try clear c14
          try clear c14b0
          try clear hcz16_0
          try clear hcz16_1
          try clear hcz16_2
          try clear hcz16_3
          try clear hcz16_4
          try clear hfz16_0
          try clear hfz16_1
          try clear hfz16_2
          try clear hfz16_3
          try clear hfz16_4
          try clear hx200_0
          try clear hx200_1
          try clear hx200_2
          try clear hx200_3
          try clear hx200_4
          try clear p2
          try clear p200
          try clear p6
          try clear q200
          obtain ⟨x6_3,x33_3,rfl,HA,HK3,HO_6,BK201,HB⟩:=hrel
          cases gk with
          | zero => exact absurd HA.out (by simp [difference_longer.l2])
          | succ k3 =>
           have H:=HA.out
           clear HA
           simp only [difference_longer.l2] at H
           by_cases c17 : x33_3 < (wrap64 ((wrap64 ((l0.length : Int) - 1)) + 1))
           ·rw [if_pos c17] at H
            have c17b0 : decide (x33_3 < (wrap64 ((wrap64 ((l0.length : Int) - 1)) + 1))) = true:=decide_eq_true c17
            clear c17
            by_cases c18 : 0 ≤ ((rd_T71 l1 x27_2).f2)
            ·rw [if_pos c18] at H
             have c18b0 : decide (0 ≤ ((rd_T71 l1 x27_2).f2)) = true:=decide_eq_true c18
             clear c18
             by_cases c19 : ((rd_T71 l1 x27_2).f2) < (l0.length : Int)
             ·rw [if_pos c19] at H
              have c19b0 : decide (((rd_T71 l1 x27_2).f2) < (l0.length : Int)) = true:=decide_eq_true c19
              clear c19
              by_cases c20 : 0 ≤ x33_3
              ·rw [if_pos c20] at H
               have c20b0 : decide (0 ≤ x33_3) = true:=decide_eq_true c20
               clear c20
               by_cases c21 : x33_3 < ((rd_L5 l0 ((rd_T71 l1 x27_2).f2)).length : Int)
               ·rw [if_pos c21] at H
                have c21b0 : decide (x33_3 < ((rd_L5 l0 ((rd_T71 l1 x27_2).f2)).length : Int)) = true:=decide_eq_true c21
                clear c21
                by_cases c22 : (rd (rd_L5 l0 ((rd_T71 l1 x27_2).f2)) x33_3) < 1125899906842624
                ·rw [if_pos c22] at H
                 have c22b0 : decide ((rd (rd_L5 l0 ((rd_T71 l1 x27_2).f2)) x33_3) < 1125899906842624) = true:=decide_eq_true c22
                 clear c22
                 by_cases c23 : 0 ≤ ((rd_T71 l1 x27_2).f1)
                 ·rw [if_pos c23] at H
                  have c23b0 : decide (0 ≤ ((rd_T71 l1 x27_2).f1)) = true:=decide_eq_true c23
                  clear c23
                  by_cases c24 : ((rd_T71 l1 x27_2).f1) < (x6_3.length : Int)
                  ·rw [if_pos c24] at H
                   have c24b0 : decide (((rd_T71 l1 x27_2).f1) < (x6_3.length : Int)) = true:=decide_eq_true c24
                   clear c24
                   by_cases c25 : x33_3 < ((rd_L5 x6_3 ((rd_T71 l1 x27_2).f1)).length : Int)
                   ·rw [if_pos c25] at H
                    have c25b0 : decide (x33_3 < ((rd_L5 x6_3 ((rd_T71 l1 x27_2).f1)).length : Int)) = true:=decide_eq_true c25
                    clear c25
                    obtain ⟨ji26,hji26⟩ : ∃ j_ : Int,(mn (rd (rd_L5 x6_3 ((rd_T71 l1 x27_2).f1)) x33_3) (wrap64 (((rd_T71 l1 x27_2).f3) + (rd (rd_L5 l0 ((rd_T71 l1 x27_2).f2)) x33_3)))) = j_:=⟨_,rfl⟩
                    replace H : (difference_longer.l2 k3 l0 (wrap64 ((l0.length : Int) - 1)) (x6_3.set (((rd_T71 l1 x27_2).f1) : Int).toNat ((rd_L5 x6_3 ((rd_T71 l1 x27_2).f1)).set (x33_3 : Int).toNat (ji26))) l1 (l1.length : Int) x27_2 (wrap64 ((wrap64 ((l0.length : Int) - 1)) + 1)) (wrap64 (x33_3 + 1)) ((rd_T71 l1 x27_2).f0.f0) ((rd_T71 l1 x27_2).f0.f1) ((rd_T71 l1 x27_2).f1) ((rd_T71 l1 x27_2).f2) ((rd_T71 l1 x27_2).f3)) = some r:=by first|(rw [hji26] at H;exact H)|(simp only [hji26] at H ⊢;exact H)
                    have hji26_ : (if (wrap64 (((rd_T71 l1 x27_2).f3) + (rd (rd_L5 l0 ((rd_T71 l1 x27_2).f2)) x33_3))) < (rd (rd_L5 x6_3 ((rd_T71 l1 x27_2).f1)) x33_3) then (wrap64 (((rd_T71 l1 x27_2).f3) + (rd (rd_L5 l0 ((rd_T71 l1 x27_2).f2)) x33_3))) else (rd (rd_L5 x6_3 ((rd_T71 l1 x27_2).f1)) x33_3)) = ji26:=hji26
                    obtain ⟨y209,hy209⟩ : ∃ y_ : List Int,y_ = ((rd_L5 x6_3 ((rd_T71 l1 x27_2).f1)).set (x33_3 : Int).toNat (ji26)):=⟨_,rfl⟩
                    replace H : (difference_longer.l2 k3 l0 (wrap64 ((l0.length : Int) - 1)) (x6_3.set (((rd_T71 l1 x27_2).f1) : Int).toNat y209) l1 (l1.length : Int) x27_2 (wrap64 ((wrap64 ((l0.length : Int) - 1)) + 1)) (wrap64 (x33_3 + 1)) ((rd_T71 l1 x27_2).f0.f0) ((rd_T71 l1 x27_2).f0.f1) ((rd_T71 l1 x27_2).f1) ((rd_T71 l1 x27_2).f2) ((rd_T71 l1 x27_2).f3)) = some r:=by first|(rw [hy209];with_reducible exact H)|(have H2_:=(Option.bind_some _ _).symm.trans H;rw [hy209];with_reducible exact H2_)|(have H2_:=(Option.bind_some _ _).symm.trans H;with_reducible exact H2_)|with_reducible exact H|(rw [hy209];exact H)|exact H
                    have Ny209:=Aside0.mk hy209
                    clear hy209
                    obtain ⟨y211,hy211⟩ : ∃ y_ : List (List Int),y_ = (x6_3.set (((rd_T71 l1 x27_2).f1) : Int).toNat y209):=⟨_,rfl⟩
                    replace H : (difference_longer.l2 k3 l0 (wrap64 ((l0.length : Int) - 1)) y211 l1 (l1.length : Int) x27_2 (wrap64 ((wrap64 ((l0.length : Int) - 1)) + 1)) (wrap64 (x33_3 + 1)) ((rd_T71 l1 x27_2).f0.f0) ((rd_T71 l1 x27_2).f0.f1) ((rd_T71 l1 x27_2).f1) ((rd_T71 l1 x27_2).f2) ((rd_T71 l1 x27_2).f3)) = some r:=by first|(rw [hy211];with_reducible exact H)|(have H2_:=(Option.bind_some _ _).symm.trans H;rw [hy211];with_reducible exact H2_)|(have H2_:=(Option.bind_some _ _).symm.trans H;with_reducible exact H2_)|with_reducible exact H|(rw [hy211];exact H)|exact H
                    have Ny211:=Aside0.mk hy211
                    clear hy211
                    have H':=Aside0.mk H
                    clear H
                    have hcz28_0 : wr.cell? ⟨gb201,0,none⟩ = some (.int .i64 ((rd_T71 l1 x27_2).f0.f0)):=(blk_cell BK201.out 0).trans rfl
                    have hcz28_1 : wr.cell? ⟨gb201,1,none⟩ = some (.int .i64 ((rd_T71 l1 x27_2).f0.f1)):=(blk_cell BK201.out 1).trans rfl
                    have hcz28_2 : wr.cell? ⟨gb201,2,none⟩ = some (.int .i64 ((rd_T71 l1 x27_2).f1)):=(blk_cell BK201.out 2).trans rfl
                    have hcz28_3 : wr.cell? ⟨gb201,3,none⟩ = some (.int .i64 ((rd_T71 l1 x27_2).f2)):=(blk_cell BK201.out 3).trans rfl
                    have hcz28_4 : wr.cell? ⟨gb201,4,none⟩ = some (.int .i64 ((rd_T71 l1 x27_2).f3)):=(blk_cell BK201.out 4).trans rfl
                    have hfz28_0:=blk_frozen BK201.out 0
                    have hfz28_1:=blk_frozen BK201.out 1
                    have hfz28_2:=blk_frozen BK201.out 2
                    have hfz28_3:=blk_frozen BK201.out 3
                    have hfz28_4:=blk_frozen BK201.out 4
                    have p202 : 0 ≤ (((rd_T71 l1 x27_2).f2) : Int):=of_decide_eq_true (by first|(with_reducible assumption)|assumption)
                    have q202 : ((rd_T71 l1 x27_2).f2) < (l0.length : Int):=of_decide_eq_true (by first|(with_reducible assumption)|assumption)
                    obtain ⟨ad202,A202_0,c202_0,e202,hx202_0,hl202_0,hi202_0⟩:=at_L5 HR0.out ((rd_T71 l1 x27_2).f2) p202 q202
                    cases e202
                    replace hx202_0:=(HB.out.cell (World.block_lt_of_cell? w _ hx202_0)).trans hx202_0
                    have HR202_0:=Aside0.mk hi202_0
                    have HC202_0:=Aside0.mk hl202_0
                    clear hi202_0 hl202_0
                    replace p202:=eq_true p202
                    replace q202:=eq_true q202
                    have p203 : 0 ≤ (x33_3 : Int):=of_decide_eq_true (by first|(with_reducible assumption)|assumption)
                    have q203 : x33_3 < ((rd_L5 l0 ((rd_T71 l1 x27_2).f2)).length : Int):=of_decide_eq_true (by first|(with_reducible assumption)|assumption)
                    obtain ⟨ad203,e203,hx203_0⟩:=Kd.at_int HR202_0.out x33_3 p203 q203
                    cases e203
                    replace hx203_0:=(HB.out.cell (World.block_lt_of_cell? w _ hx203_0)).trans hx203_0
                    replace p203:=eq_true p203
                    replace q203:=eq_true q203
                    try go_wp2
                    have n0_:=Aside0.mk (Kd.S_drew HO_6.out)
                    have n1_:=Aside0.mk (blk_drew BK201.out)
                    have n2_:=Aside0.mk (below_drew1 HB.out)
                    clear HO_6
                    clear BK201
                    clear HB
                    have HO_6:=n0_
                    have BK201:=n1_
                    have HB:=n2_
                    clear n0_ n1_ n2_
                    obtain ⟨Ao30,co30,eo30⟩:=Kd.S_slice HO_6.out
                    (first|subst eo30|(injection eo30 with f1_ f2_ f3_;have f4_:=f1_.symm;have f5_:=f3_.symm;clear f1_ f2_ f3_;subst f4_;subst f5_))
                    have p204 : 0 ≤ (((rd_T71 l1 x27_2).f1) : Int):=of_decide_eq_true (by first|(with_reducible assumption)|assumption)
                    have q204 : ((rd_T71 l1 x27_2).f1) < (x6_3.length : Int):=of_decide_eq_true (by first|(with_reducible assumption)|assumption)
                    obtain ⟨ad204,A204_0,c204_0,e204,hx204_0,hl204_0,hi204_0⟩:=at_L5 (Kd.S_reads' HO_6.out).2.2 ((rd_T71 l1 x27_2).f1) p204 q204
                    cases e204
                    obtain ⟨ce204,hce204,hMe204,hcc204⟩:=Kd.S_get HO_6.out [] ((rd_T71 l1 x27_2).f1) p204 (by first|exact q204|exact of_decide_eq_true (by first|(with_reducible assumption)|assumption)|(have e_:=(Kd.S_reads' HO_6.out).1;omega))
                    obtain ⟨ve204_0,rfl,ge204_0⟩:=hMe204
                    have hv204_0:=hcc204 0 _ rfl
                    rw [Nat.add_zero,show ((Kd.slice 3 (Kd.int .i64))).sz = 1 from rfl,Nat.mul_one] at hv204_0
                    replace hv204_0:=Option.some.inj (hv204_0.symm.trans hx204_0)
                    rw [hv204_0] at ge204_0
                    have HL204_0:=Aside0.mk (show Kd.R (Kd.int .i64) 3 _ _ _ _ (rd_L5 x6_3 ((rd_T71 l1 x27_2).f1)) from ge204_0)
                    clear hv204_0 ge204_0
                    have HX204_0:=Aside0.mk hx204_0
                    clear hcc204 hce204
                    have HR204_0:=Aside0.mk hi204_0
                    have HC204_0:=Aside0.mk hl204_0
                    clear hi204_0 hl204_0
                    replace p204:=eq_true p204
                    replace q204:=eq_true q204
                    have p205 : 0 ≤ (((rd_T71 l1 x27_2).f1) : Int):=of_decide_eq_true (by first|(with_reducible assumption)|assumption)
                    have q205 : ((rd_T71 l1 x27_2).f1) < (x6_3.length : Int):=of_decide_eq_true (by first|(with_reducible assumption)|assumption)
                    obtain ⟨ad205,A205_0,c205_0,e205,hx205_0,hl205_0,hi205_0⟩:=at_L5 (Kd.S_reads' HO_6.out).2.2 ((rd_T71 l1 x27_2).f1) p205 q205
                    obtain rfl : ad204 = ad205:=(by injection e205)
                    obtain ⟨ce205,hce205,hMe205,hcc205⟩:=Kd.S_get HO_6.out [] ((rd_T71 l1 x27_2).f1) p205 (by first|exact q205|exact of_decide_eq_true (by first|(with_reducible assumption)|assumption)|(have e_:=(Kd.S_reads' HO_6.out).1;omega))
                    obtain ⟨ve205_0,rfl,ge205_0⟩:=hMe205
                    have hv205_0:=hcc205 0 _ rfl
                    rw [Nat.add_zero,show ((Kd.slice 3 (Kd.int .i64))).sz = 1 from rfl,Nat.mul_one] at hv205_0
                    replace hv205_0:=Option.some.inj (hv205_0.symm.trans hx205_0)
                    rw [hv205_0] at ge205_0
                    have HL205_0:=Aside0.mk (show Kd.R (Kd.int .i64) 3 _ _ _ _ (rd_L5 x6_3 ((rd_T71 l1 x27_2).f1)) from ge205_0)
                    clear hv205_0 ge205_0
                    have HX205_0:=Aside0.mk hx205_0
                    clear hcc205 hce205
                    have HR205_0:=Aside0.mk hi205_0
                    have HC205_0:=Aside0.mk hl205_0
                    clear hi205_0 hl205_0
                    replace p205:=eq_true p205
                    replace q205:=eq_true q205
                    have ea_:=Option.some.inj (hx204_0.symm.trans hx205_0)
                    injection ea_ with ea_ en_ ec_
                    subst ea_
                    subst ec_
                    clear en_
                    have p206 : 0 ≤ (x33_3 : Int):=of_decide_eq_true (by first|(with_reducible assumption)|assumption)
                    have q206 : x33_3 < ((rd_L5 x6_3 ((rd_T71 l1 x27_2).f1)).length : Int):=of_decide_eq_true (by first|(with_reducible assumption)|assumption)
                    obtain ⟨ad206,e206,hx206_0⟩:=Kd.at_int (by repeat (first|(with_reducible exact HR205_0.out)|(with_reducible refine Kd.C_alloc ?_ _)|(with_reducible refine Kd.C_drewN ?_ _)|(with_reducible refine Kd.C_drew ?_)|exact HR205_0.out)) x33_3 p206 q206
                    cases e206
                    replace p206:=eq_true p206
                    replace q206:=eq_true q206
                    have p207 : 0 ≤ (((rd_T71 l1 x27_2).f2) : Int):=of_decide_eq_true (by first|(with_reducible assumption)|assumption)
                    have q207 : ((rd_T71 l1 x27_2).f2) < (l0.length : Int):=of_decide_eq_true (by first|(with_reducible assumption)|assumption)
                    obtain ⟨ad207,A207_0,c207_0,e207,hx207_0,hl207_0,hi207_0⟩:=at_L5 HR0.out ((rd_T71 l1 x27_2).f2) p207 q207
                    have hw207_0:=hx207_0
                    obtain rfl : ad202 = ad207:=(by injection e207)
                    replace hx207_0:=(HB.out.cell (World.block_lt_of_cell? w _ hx207_0)).trans hx207_0
                    have HR207_0:=Aside0.mk hi207_0
                    have HC207_0:=Aside0.mk hl207_0
                    clear hi207_0 hl207_0
                    replace p207:=eq_true p207
                    replace q207:=eq_true q207
                    have p208 : 0 ≤ (x33_3 : Int):=of_decide_eq_true (by first|(with_reducible assumption)|assumption)
                    have q208 : x33_3 < ((rd_L5 l0 ((rd_T71 l1 x27_2).f2)).length : Int):=of_decide_eq_true (by first|(with_reducible assumption)|assumption)
                    obtain ⟨ad208,e208,hx208_0⟩:=Kd.at_int HR207_0.out x33_3 p208 q208
                    have hw208_0:=hx208_0
                    cases e208
                    replace hx208_0:=(HB.out.cell (World.block_lt_of_cell? w _ hx208_0)).trans hx208_0
                    replace p208:=eq_true p208
                    replace q208:=eq_true q208
                    have p27 : 0 ≤ (x33_3 : Int):=of_decide_eq_true (by first|(with_reducible assumption)|assumption)
                    have q27 : (x33_3 : Int) < (((rd_L5 x6_3 ((rd_T71 l1 x27_2).f1)).length : Int) : Int):=of_decide_eq_true (by first|(with_reducible assumption)|assumption)
                    obtain ⟨go27,co27,eo27,gb27,gl27,cl27,HG27⟩:=Kd.R_form HL204_0.out (by omega)
                    (first|cases eo27|(injection eo27 with ea_ en_ ec_;(first|subst ea_|(injection ea_ with ea_;subst ea_));subst ec_;clear en_))
                    have GB27:=Aside0.mk gb27
                    have GG27:=Aside0.mk HG27
                    clear gb27 gl27 HG27
                    (first|simp only [add_plain] at hx206_0|skip)
                    obtain ⟨hx27_0,hf27_0⟩:=Kd.R_celln 0 HL204_0.out (x33_3 : Int) p27 q27
                    replace p27:=eq_true p27
                    replace q27:=eq_true q27
                    have hq31 : (((rd_T71 l1 x27_2).f1) : Int) < (x6_3.length : Int):=(by have h_ : (((rd_T71 l1 x27_2).f1) : Int) < ((x6_3.length : Int) : Int):=of_decide_eq_true (by first|(with_reducible assumption)|assumption);first|exact h_|(have e_:=(Kd.S_reads' HO_6.out).1;omega)|simpa only [List.length_set,List.length_set] using h_)
                    obtain ⟨oki31,ce31,hcl31,hM31,hcc31,hok31,hbk31⟩:=Kd.S_borrow HO_6.out [] (((rd_T71 l1 x27_2).f1) : Int) (of_decide_eq_true (by first|(with_reducible assumption)|assumption)) hq31
                    obtain ⟨ve31_0,rfl,ge31_0⟩:=hM31
                    have hv31:=hcc31 0 _ rfl
                    rw [Nat.add_zero,show ((Kd.slice 3 (Kd.int .i64))).sz = 1 from rfl,Nat.mul_one] at hv31
                    replace hv31:=Option.some.inj (hv31.symm.trans HX204_0.out)
                    subst hv31
                    clear hcc31 hcl31
                    replace ge31_0:=(show Kd.R (Kd.int .i64) 3 _ _ _ _ (rd_L5 x6_3 ((rd_T71 l1 x27_2).f1)) from ge31_0)
                    have HP31:=Kd.R_putg ge31_0 (x33_3 : Int) ji26
                    rw [← Ny209.out] at HP31
                    have HS31:=hbk31 HP31.2 (fun k_ e_=>by injection e_ with e_;subst e_;exact ge31_0.1 _ rfl) (x':=y209) (Kd.M_row HP31.1)
                    rw [← Ny211.out] at HS31
                    have HQ31:=Aside0.mk HS31
                    clear HP31 HS31 hbk31 hok31
                    refine start_ (n:=28) (S:=fun w'=>w'.cell? ⟨gb201,0,none⟩ = some (.int .i64 ((rd_T71 l1 x27_2).f0.f0)) ∧ w'.cell? ⟨gb201,1,none⟩ = some (.int .i64 ((rd_T71 l1 x27_2).f0.f1)) ∧ w'.cell? ⟨gb201,2,none⟩ = some (.int .i64 ((rd_T71 l1 x27_2).f1)) ∧ w'.cell? ⟨gb201,3,none⟩ = some (.int .i64 ((rd_T71 l1 x27_2).f2)) ∧ w'.cell? ⟨gb201,4,none⟩ = some (.int .i64 ((rd_T71 l1 x27_2).f3)) ∧ w'.cell? (ad204.add (((rd_T71 l1 x27_2).f1)).toNat) = some (.slice (some ⟨go27,0,none⟩) (rd_L5 x6_3 ((rd_T71 l1 x27_2).f1)).length c204_0) ∧ w'.cell? (ad204.add (((rd_T71 l1 x27_2).f1)).toNat) = some (.slice (some ⟨go27,0,none⟩) (rd_L5 x6_3 ((rd_T71 l1 x27_2).f1)).length c204_0) ∧ w'.cell? ⟨go27,(x33_3).toNat,none⟩ = some (.int .i64 (rd (rd_L5 x6_3 ((rd_T71 l1 x27_2).f1)) x33_3)) ∧ w'.cell? (ad202.add (((rd_T71 l1 x27_2).f2)).toNat) = some (.slice (some ad208) (rd_L5 l0 ((rd_T71 l1 x27_2).f2)).length c207_0) ∧ w'.cell? (ad208.add (x33_3).toNat) = some (.int .i64 (rd (rd_L5 l0 ((rd_T71 l1 x27_2).f2)) x33_3))) (ds:=[27]) #[false,false,false,false,false,false,false,false,false,false,false,false,false,false,false,false,false,false,false,false,false,false,false,false,false,false,false,false] (by kernel_rfl) rfl rfl ⟨(blk_cell BK201.out 0).trans rfl,(blk_cell BK201.out 1).trans rfl,(blk_cell BK201.out 2).trans rfl,(blk_cell BK201.out 3).trans rfl,(blk_cell BK201.out 4).trans rfl,hx204_0,hx205_0,hx206_0,((HB.out.cell (World.block_lt_of_cell? w _ hw207_0)).trans hw207_0),((HB.out.cell (World.block_lt_of_cell? w _ hw208_0)).trans hw208_0)⟩ (fun hHeld=>?_);refine with_tabW difference_longer.tab14 difference_longer.bits14 (fun HT_ HW_=>?_)
                    generalize wr.drew = w29 at HO_6 BK201 HB GG27 HL204_0 HL205_0 HQ31 HR204_0 HR205_0 HR207_0 HX204_0 HX205_0 hf27_0 hx204_0 hx205_0 hx206_0 hx207_0 hx208_0 hx27_0 hHeld ⊢
                    refine pure_ (i:=0) (N:=some 45) (v:=?_) (a':=?_) #[true,false,false,false,false,false,false,false,false,false,false,false,false,false,false,false,false,false,false,false,false,false,false,false,false,false,false,false] rfl rfl (any_of HT_.out (by kernel_rfl)) (fun _ _ _ h=>h) (Or.inl ⟨by rfl,?_⟩) ?_ ?_
                    rotate_left
                    ·intro w'
                     go_simp
                     with_reducible rfl
                    rotate_left
                    ·simp only [Act.put,List.setIfInBounds_toArray,List.set_cons_zero,List.set_cons_succ,i64_w,i32_w]
                     rfl
                    refine pure_ (i:=1) (N:=some 46) (v:=?_) (a':=?_) #[true,true,false,false,false,false,false,false,false,false,false,false,false,false,false,false,false,false,false,false,false,false,false,false,false,false,false,false] rfl rfl (any_of HT_.out (by kernel_rfl)) (fun _ _ _ h=>h) (Or.inl ⟨by rfl,?_⟩) ?_ ?_
                    rotate_left
                    ·intro w'
                     go_simp
                     with_reducible rfl
                    rotate_left
                    ·simp only [Act.put,List.setIfInBounds_toArray,List.set_cons_zero,List.set_cons_succ,i64_w,i32_w]
                     rfl
                    refine pure_ (i:=5) (N:=some 50) (v:=?_) (a':=?_) #[true,true,false,false,false,true,false,false,false,false,false,false,false,false,false,false,false,false,false,false,false,false,false,false,false,false,false,false] rfl rfl (any_of HT_.out (by kernel_rfl)) (fun _ _ _ h=>h) (Or.inl ⟨by rfl,?_⟩) ?_ ?_
                    rotate_left
                    ·intro w'
                     go_simp
                     with_reducible rfl
                    rotate_left
                    ·simp only [Act.put,List.setIfInBounds_toArray,List.set_cons_zero,List.set_cons_succ,i64_w,i32_w]
                     rfl
                    refine pure_ (i:=6) (N:=some 51) (v:=?_) (a':=?_) #[true,true,false,false,false,true,true,false,false,false,false,false,false,false,false,false,false,false,false,false,false,false,false,false,false,false,false,false] rfl rfl (any_of HT_.out (by kernel_rfl)) (fun _ _ _ h=>h) (Or.inl ⟨by rfl,?_⟩) ?_ ?_
                    rotate_left
                    ·intro w'
                     go_simp
                     with_reducible rfl
                    rotate_left
                    ·simp only [Act.put,List.setIfInBounds_toArray,List.set_cons_zero,List.set_cons_succ,i64_w,i32_w]
                     rfl
                    refine pure_ (i:=7) (N:=some 52) (v:=?_) (a':=?_) #[true,true,false,false,false,true,true,true,false,false,false,false,false,false,false,false,false,false,false,false,false,false,false,false,false,false,false,false] rfl rfl (any_of HT_.out (by kernel_rfl)) (fun _ _ _ h=>h) (Or.inl ⟨by rfl,?_⟩) ?_ ?_
                    rotate_left
                    ·intro w'
                     go_simp
                     with_reducible rfl
                    rotate_left
                    ·simp only [Act.put,List.setIfInBounds_toArray,List.set_cons_zero,List.set_cons_succ,i64_w,i32_w]
                     rfl
                    refine pure_ (i:=11) (N:=some 56) (v:=?_) (a':=?_) #[true,true,false,false,false,true,true,true,false,false,false,true,false,false,false,false,false,false,false,false,false,false,false,false,false,false,false,false] rfl rfl (any_of HT_.out (by kernel_rfl)) (fun _ _ _ h=>h) (Or.inl ⟨by rfl,?_⟩) ?_ ?_
                    rotate_left
                    ·intro w'
                     go_simp
                     with_reducible rfl
                    rotate_left
                    ·simp only [Act.put,List.setIfInBounds_toArray,List.set_cons_zero,List.set_cons_succ,i64_w,i32_w]
                     rfl
                    refine pure_ (i:=14) (N:=some 59) (v:=?_) (a':=?_) #[true,true,false,false,false,true,true,true,false,false,false,true,false,false,true,false,false,false,false,false,false,false,false,false,false,false,false,false] rfl rfl (any_of HT_.out (by kernel_rfl)) (fun _ _ _ h=>h) (Or.inl ⟨by rfl,?_⟩) ?_ ?_
                    rotate_left
                    ·intro w'
                     go_simp
                     with_reducible rfl
                    rotate_left
                    ·simp only [Act.put,List.setIfInBounds_toArray,List.set_cons_zero,List.set_cons_succ,i64_w,i32_w]
                     rfl
                    refine pure_ (i:=16) (N:=some 61) (v:=?_) (a':=?_) #[true,true,false,false,false,true,true,true,false,false,false,true,false,false,true,false,true,false,false,false,false,false,false,false,false,false,false,false] rfl rfl (any_of HT_.out (by kernel_rfl)) (fun _ _ _ h=>h) (Or.inl ⟨by rfl,?_⟩) ?_ ?_
                    rotate_left
                    ·intro w'
                     go_simp
                     with_reducible rfl
                    rotate_left
                    ·simp only [Act.put,List.setIfInBounds_toArray,List.set_cons_zero,List.set_cons_succ,i64_w,i32_w]
                     rfl
                    refine pure_ (i:=17) (N:=some 62) (v:=?_) (a':=?_) #[true,true,false,false,false,true,true,true,false,false,false,true,false,false,true,false,true,true,false,false,false,false,false,false,false,false,false,false] rfl rfl (any_of HT_.out (by kernel_rfl)) (fun _ _ _ h=>h) (Or.inl ⟨by rfl,?_⟩) ?_ ?_
                    rotate_left
                    ·intro w'
                     go_simp
                     with_reducible rfl
                    rotate_left
                    ·simp only [Act.put,List.setIfInBounds_toArray,List.set_cons_zero,List.set_cons_succ,i64_w,i32_w]
                     rfl
                    refine pure_ (i:=21) (N:=some 66) (v:=?_) (a':=?_) #[true,true,false,false,false,true,true,true,false,false,false,true,false,false,true,false,true,true,false,false,false,true,false,false,false,false,false,false] rfl rfl (any_of HT_.out (by kernel_rfl)) (fun _ _ _ h=>h) (Or.inl ⟨by rfl,?_⟩) ?_ ?_
                    rotate_left
                    ·intro w'
                     go_simp
                     with_reducible rfl
                    rotate_left
                    ·simp only [Act.put,List.setIfInBounds_toArray,List.set_cons_zero,List.set_cons_succ,i64_w,i32_w]
                     rfl
                    refine take_ (i:=2) (N:=some 47) (v:=?_) (a':=?_) #[true,true,true,false,false,true,true,true,false,false,false,true,false,false,true,false,true,true,false,false,false,true,false,false,false,false,false,false] rfl rfl (take_ofW HT_.out HW_.out (by kernel_rfl)) (fun _ _ _ h=>h) (Or.inl ⟨by rfl,?_⟩) hHeld ?_ ?_
                    rotate_left
                    ·rintro w' ⟨s0,s1,s2,s3,s4,s5,s6,s7,s8,s9⟩
                     go_simp
                     with_reducible rfl
                    rotate_left
                    ·simp only [Act.put,List.setIfInBounds_toArray,List.set_cons_zero,List.set_cons_succ,i64_w,i32_w]
                     rfl
                    refine pure_ (i:=3) (N:=some 48) (v:=?_) (a':=?_) #[true,true,true,true,false,true,true,true,false,false,false,true,false,false,true,false,true,true,false,false,false,true,false,false,false,false,false,false] rfl rfl (any_of HT_.out (by kernel_rfl)) (fun _ _ _ h=>h) (Or.inl ⟨by rfl,?_⟩) ?_ ?_
                    rotate_left
                    ·intro w'
                     go_simp
                     with_reducible rfl
                    rotate_left
                    ·simp only [Act.put,List.setIfInBounds_toArray,List.set_cons_zero,List.set_cons_succ,i64_w,i32_w]
                     rfl
                    refine take_ (i:=4) (N:=some 49) (v:=?_) (a':=?_) #[true,true,true,true,true,true,true,true,false,false,false,true,false,false,true,false,true,true,false,false,false,true,false,false,false,false,false,false] rfl rfl (take_ofW HT_.out HW_.out (by kernel_rfl)) (fun _ _ _ h=>h) (Or.inl ⟨by rfl,?_⟩) hHeld ?_ ?_
                    rotate_left
                    ·rintro w' ⟨s0,s1,s2,s3,s4,s5,s6,s7,s8,s9⟩
                     go_simp
                     with_reducible rfl
                    rotate_left
                    ·simp only [Act.put,List.setIfInBounds_toArray,List.set_cons_zero,List.set_cons_succ,i64_w,i32_w]
                     rfl
                    refine take_ (i:=8) (N:=some 53) (v:=?_) (a':=?_) #[true,true,true,true,true,true,true,true,true,false,false,true,false,false,true,false,true,true,false,false,false,true,false,false,false,false,false,false] rfl rfl (take_ofW HT_.out HW_.out (by kernel_rfl)) (fun _ _ _ h=>h) (Or.inl ⟨by rfl,?_⟩) hHeld ?_ ?_
                    rotate_left
                    ·rintro w' ⟨s0,s1,s2,s3,s4,s5,s6,s7,s8,s9⟩
                     go_simp
                     with_reducible rfl
                    rotate_left
                    ·simp only [Act.put,List.setIfInBounds_toArray,List.set_cons_zero,List.set_cons_succ,i64_w,i32_w]
                     rfl
                    refine pure_ (i:=9) (N:=some 54) (v:=?_) (a':=?_) #[true,true,true,true,true,true,true,true,true,true,false,true,false,false,true,false,true,true,false,false,false,true,false,false,false,false,false,false] rfl rfl (any_of HT_.out (by kernel_rfl)) (fun _ _ _ h=>h) (Or.inl ⟨by rfl,?_⟩) ?_ ?_
                    rotate_left
                    ·intro w'
                     go_simp
                     with_reducible rfl
                    rotate_left
                    ·simp only [Act.put,List.setIfInBounds_toArray,List.set_cons_zero,List.set_cons_succ,i64_w,i32_w]
                     rfl
                    refine take_ (i:=10) (N:=some 55) (v:=?_) (a':=?_) #[true,true,true,true,true,true,true,true,true,true,true,true,false,false,true,false,true,true,false,false,false,true,false,false,false,false,false,false] rfl rfl (take_ofW HT_.out HW_.out (by kernel_rfl)) (fun _ _ _ h=>h) (Or.inl ⟨by rfl,?_⟩) hHeld ?_ ?_
                    rotate_left
                    ·rintro w' ⟨s0,s1,s2,s3,s4,s5,s6,s7,s8,s9⟩
                     go_simp
                     with_reducible rfl
                    rotate_left
                    ·simp only [Act.put,List.setIfInBounds_toArray,List.set_cons_zero,List.set_cons_succ,i64_w,i32_w]
                     rfl
                    refine pure_ (i:=12) (N:=some 57) (v:=?_) (a':=?_) #[true,true,true,true,true,true,true,true,true,true,true,true,true,false,true,false,true,true,false,false,false,true,false,false,false,false,false,false] rfl rfl (any_of HT_.out (by kernel_rfl)) (fun _ _ _ h=>h) (Or.inl ⟨by rfl,?_⟩) ?_ ?_
                    rotate_left
                    ·intro w'
                     go_simp
                     with_reducible rfl
                    rotate_left
                    ·simp only [Act.put,List.setIfInBounds_toArray,List.set_cons_zero,List.set_cons_succ,i64_w,i32_w]
                     rfl
                    refine take_ (i:=13) (N:=some 58) (v:=?_) (a':=?_) #[true,true,true,true,true,true,true,true,true,true,true,true,true,true,true,false,true,true,false,false,false,true,false,false,false,false,false,false] rfl rfl (take_ofW HT_.out HW_.out (by kernel_rfl)) (fun _ _ _ h=>h) (Or.inl ⟨by rfl,?_⟩) hHeld ?_ ?_
                    rotate_left
                    ·rintro w' ⟨s0,s1,s2,s3,s4,s5,s6,s7,s8,s9⟩
                     go_simp
                     with_reducible rfl
                    rotate_left
                    ·simp only [Act.put,List.setIfInBounds_toArray,List.set_cons_zero,List.set_cons_succ,i64_w,i32_w]
                     rfl
                    refine take_ (i:=15) (N:=some 60) (v:=?_) (a':=?_) #[true,true,true,true,true,true,true,true,true,true,true,true,true,true,true,true,true,true,false,false,false,true,false,false,false,false,false,false] rfl rfl (take_ofW HT_.out HW_.out (by kernel_rfl)) (fun _ _ _ h=>h) (Or.inl ⟨by rfl,?_⟩) hHeld ?_ ?_
                    rotate_left
                    ·rintro w' ⟨s0,s1,s2,s3,s4,s5,s6,s7,s8,s9⟩
                     go_simp
                     with_reducible rfl
                    rotate_left
                    ·simp only [Act.put,List.setIfInBounds_toArray,List.set_cons_zero,List.set_cons_succ,i64_w,i32_w]
                     rfl
                    refine take_ (i:=18) (N:=some 63) (v:=?_) (a':=?_) #[true,true,true,true,true,true,true,true,true,true,true,true,true,true,true,true,true,true,true,false,false,true,false,false,false,false,false,false] rfl rfl (take_ofW HT_.out HW_.out (by kernel_rfl)) (fun _ _ _ h=>h) (Or.inl ⟨by rfl,?_⟩) hHeld ?_ ?_
                    rotate_left
                    ·rintro w' ⟨s0,s1,s2,s3,s4,s5,s6,s7,s8,s9⟩
                     go_simp
                     with_reducible rfl
                    rotate_left
                    ·simp only [Act.put,List.setIfInBounds_toArray,List.set_cons_zero,List.set_cons_succ,i64_w,i32_w]
                     rfl
                    refine pure_ (i:=19) (N:=some 64) (v:=?_) (a':=?_) #[true,true,true,true,true,true,true,true,true,true,true,true,true,true,true,true,true,true,true,true,false,true,false,false,false,false,false,false] rfl rfl (any_of HT_.out (by kernel_rfl)) (fun _ _ _ h=>h) (Or.inl ⟨by rfl,?_⟩) ?_ ?_
                    rotate_left
                    ·intro w'
                     go_simp
                     with_reducible rfl
                    rotate_left
                    ·simp only [Act.put,List.setIfInBounds_toArray,List.set_cons_zero,List.set_cons_succ,i64_w,i32_w]
                     rfl
                    refine take_ (i:=20) (N:=some 65) (v:=?_) (a':=?_) #[true,true,true,true,true,true,true,true,true,true,true,true,true,true,true,true,true,true,true,true,true,true,false,false,false,false,false,false] rfl rfl (take_ofW HT_.out HW_.out (by kernel_rfl)) (fun _ _ _ h=>h) (Or.inl ⟨by rfl,?_⟩) hHeld ?_ ?_
                    rotate_left
                    ·rintro w' ⟨s0,s1,s2,s3,s4,s5,s6,s7,s8,s9⟩
                     go_simp
                     with_reducible rfl
                    rotate_left
                    ·simp only [Act.put,List.setIfInBounds_toArray,List.set_cons_zero,List.set_cons_succ,i64_w,i32_w]
                     rfl
                    refine pure_ (i:=22) (N:=some 67) (v:=?_) (a':=?_) #[true,true,true,true,true,true,true,true,true,true,true,true,true,true,true,true,true,true,true,true,true,true,true,false,false,false,false,false] rfl rfl (any_of HT_.out (by kernel_rfl)) (fun _ _ _ h=>h) (Or.inl ⟨by rfl,?_⟩) ?_ ?_
                    rotate_left
                    ·intro w'
                     go_simp
                     with_reducible rfl
                    rotate_left
                    ·simp only [Act.put,List.setIfInBounds_toArray,List.set_cons_zero,List.set_cons_succ,i64_w,i32_w]
                     rfl
                    refine take_ (i:=23) (N:=some 68) (v:=?_) (a':=?_) #[true,true,true,true,true,true,true,true,true,true,true,true,true,true,true,true,true,true,true,true,true,true,true,true,false,false,false,false] rfl rfl (take_ofW HT_.out HW_.out (by kernel_rfl)) (fun _ _ _ h=>h) (Or.inl ⟨by rfl,?_⟩) hHeld ?_ ?_
                    rotate_left
                    ·rintro w' ⟨s0,s1,s2,s3,s4,s5,s6,s7,s8,s9⟩
                     go_simp
                     with_reducible rfl
                    rotate_left
                    ·simp only [Act.put,List.setIfInBounds_toArray,List.set_cons_zero,List.set_cons_succ,i64_w,i32_w]
                     rfl
                    refine pure_ (i:=24) (N:=some 69) (v:=?_) (a':=?_) #[true,true,true,true,true,true,true,true,true,true,true,true,true,true,true,true,true,true,true,true,true,true,true,true,true,false,false,false] rfl rfl (any_of HT_.out (by kernel_rfl)) (fun _ _ _ h=>h) (Or.inl ⟨by rfl,?_⟩) ?_ ?_
                    rotate_left
                    ·intro w'
                     go_simp
                     with_reducible rfl
                    rotate_left
                    ·simp only [Act.put,List.setIfInBounds_toArray,List.set_cons_zero,List.set_cons_succ,i64_w,i32_w]
                     rfl
                    refine pure_ (i:=25) (N:=some 70) (v:=?_) (a':=?_) #[true,true,true,true,true,true,true,true,true,true,true,true,true,true,true,true,true,true,true,true,true,true,true,true,true,true,false,false] rfl rfl (any_of HT_.out (by kernel_rfl)) (fun _ _ _ h=>h) (Or.inl ⟨by rfl,?_⟩) ?_ ?_
                    rotate_left
                    ·intro w'
                     go_simp
                     with_reducible rfl
                    rotate_left
                    ·simp only [Act.put,List.setIfInBounds_toArray,List.set_cons_zero,List.set_cons_succ,i64_w,i32_w]
                     rfl
                    refine pure_ (i:=26) (N:=some 71) (v:=?_) (a':=?_) #[true,true,true,true,true,true,true,true,true,true,true,true,true,true,true,true,true,true,true,true,true,true,true,true,true,true,true,false] rfl rfl (any_of HT_.out (by kernel_rfl)) (fun _ _ _ h=>h) (Or.inl ⟨by rfl,?_⟩) ?_ ?_
                    rotate_left
                    ·intro w'
                     go_simp
                     with_reducible rfl
                    rotate_left
                    ·simp only [Act.put,List.setIfInBounds_toArray,List.set_cons_zero,List.set_cons_succ,i64_w,i32_w]
                     rfl
                    refine last_ (i:=27) (N:=none) #[true,true,true,true,true,true,true,true,true,true,true,true,true,true,true,true,true,true,true,true,true,true,true,true,true,true,true,true] rfl rfl (one_of HT_.out (by kernel_rfl)) (by decide) (fun K hK=>?_)
                    refine skip_ (w1:=?_) (by rfl) rfl ?_ ?_
                    rotate_left
                    ·go_simp
                     rfl
                    refine hK.out _ _ ?_
                    clear hK K
                    refine done_ (done_of HT_.out (by kernel_rfl)) ?_
                    try go_wp2
                    go_roundg k3
                    case measure=>have:=HK1.out;have:=HK2.out;have:=HK3.out;omega
                    case rel=>exact ⟨(y211),(wrap64 (x33_3 + 1)),(by first|rfl|(simp;done)|(simp [*];done)),H',⟨by have:=HK1.out;have:=HK2.out;have:=HK3.out;omega⟩,⟨by (with_reducible repeat (first|apply Kd.S_alloc|apply Kd.S_drewN|apply Kd.S_drew));exact HQ31.out⟩,⟨by (with_reducible repeat (first|refine blk_drewN ?_ _|refine blk_drew ?_|refine blk_alloc ?_ _));refine blk_far ?_ (by have h_:=Kd.R_ne HL204_0.out BK201.out (by decide);intro e_;exact h_ (by rw [e_];rfl)) _;(with_reducible repeat (first|refine blk_drewN ?_ _|refine blk_drew ?_|refine blk_alloc ?_ _));exact BK201.out⟩,⟨by repeat (first|(with_reducible first|exact HB.out|apply below_alloc|apply pw_below_drewN|apply below_drew1|refine below_set ?_ GB27.out|refine below_set ?_ GE201.out)|exact HB.out)⟩⟩
                   ·rw [if_neg c25] at H
                    exact absurd H (by simp)
                  ·rw [if_neg c24] at H
                   exact absurd H (by simp)
                 ·rw [if_neg c23] at H
                  exact absurd H (by simp)
                ·rw [if_neg c22] at H
                 have c22b0 : decide ((rd (rd_L5 l0 ((rd_T71 l1 x27_2).f2)) x33_3) < 1125899906842624) = false:=decide_eq_false c22
                 clear c22
                 have H':=Aside0.mk H
                 clear H
                 have hcz33_0 : wr.cell? ⟨gb201,0,none⟩ = some (.int .i64 ((rd_T71 l1 x27_2).f0.f0)):=(blk_cell BK201.out 0).trans rfl
                 have hcz33_1 : wr.cell? ⟨gb201,1,none⟩ = some (.int .i64 ((rd_T71 l1 x27_2).f0.f1)):=(blk_cell BK201.out 1).trans rfl
                 have hcz33_2 : wr.cell? ⟨gb201,2,none⟩ = some (.int .i64 ((rd_T71 l1 x27_2).f1)):=(blk_cell BK201.out 2).trans rfl
                 have hcz33_3 : wr.cell? ⟨gb201,3,none⟩ = some (.int .i64 ((rd_T71 l1 x27_2).f2)):=(blk_cell BK201.out 3).trans rfl
                 have hcz33_4 : wr.cell? ⟨gb201,4,none⟩ = some (.int .i64 ((rd_T71 l1 x27_2).f3)):=(blk_cell BK201.out 4).trans rfl
                 have hfz33_0:=blk_frozen BK201.out 0
                 have hfz33_1:=blk_frozen BK201.out 1
                 have hfz33_2:=blk_frozen BK201.out 2
                 have hfz33_3:=blk_frozen BK201.out 3
                 have hfz33_4:=blk_frozen BK201.out 4
                 have p202 : 0 ≤ (((rd_T71 l1 x27_2).f2) : Int):=of_decide_eq_true (by first|(with_reducible assumption)|assumption)
                 have q202 : ((rd_T71 l1 x27_2).f2) < (l0.length : Int):=of_decide_eq_true (by first|(with_reducible assumption)|assumption)
                 obtain ⟨ad202,A202_0,c202_0,e202,hx202_0,hl202_0,hi202_0⟩:=at_L5 HR0.out ((rd_T71 l1 x27_2).f2) p202 q202
                 cases e202
                 replace hx202_0:=(HB.out.cell (World.block_lt_of_cell? w _ hx202_0)).trans hx202_0
                 have HR202_0:=Aside0.mk hi202_0
                 have HC202_0:=Aside0.mk hl202_0
                 clear hi202_0 hl202_0
                 replace p202:=eq_true p202
                 replace q202:=eq_true q202
                 have p203 : 0 ≤ (x33_3 : Int):=of_decide_eq_true (by first|(with_reducible assumption)|assumption)
                 have q203 : x33_3 < ((rd_L5 l0 ((rd_T71 l1 x27_2).f2)).length : Int):=of_decide_eq_true (by first|(with_reducible assumption)|assumption)
                 obtain ⟨ad203,e203,hx203_0⟩:=Kd.at_int HR202_0.out x33_3 p203 q203
                 cases e203
                 replace hx203_0:=(HB.out.cell (World.block_lt_of_cell? w _ hx203_0)).trans hx203_0
                 replace p203:=eq_true p203
                 replace q203:=eq_true q203
                 go_wp2
                 go_roundg k3
                 case measure=>have:=HK1.out;have:=HK2.out;have:=HK3.out;omega
                 case rel=>exact ⟨(x6_3),(wrap64 (x33_3 + 1)),(by first|rfl|(simp;done)|(simp [*];done)),H',⟨by have:=HK1.out;have:=HK2.out;have:=HK3.out;omega⟩,⟨by (with_reducible repeat (first|apply Kd.S_alloc|apply Kd.S_drewN|apply Kd.S_drew));exact HO_6.out⟩,⟨by (with_reducible repeat (first|refine blk_drewN ?_ _|refine blk_drew ?_|refine blk_alloc ?_ _));exact BK201.out⟩,⟨by repeat (first|(with_reducible first|exact HB.out|apply below_alloc|apply pw_below_drewN|apply below_drew1|refine below_set ?_ GE201.out)|exact HB.out)⟩⟩
               ·rw [if_neg c21] at H
                exact absurd H (by simp)
              ·rw [if_neg c20] at H
               exact absurd H (by simp)
             ·rw [if_neg c19] at H
              exact absurd H (by simp)
            ·rw [if_neg c18] at H
             exact absurd H (by simp)
           ·rw [if_neg c17] at H
            have c17b0 : decide (x33_3 < (wrap64 ((wrap64 ((l0.length : Int) - 1)) + 1))) = false:=decide_eq_false c17
            clear c17
            have H':=Aside0.mk H
            clear H
            go_wp2
            go_roundg k3
            case measure=>have:=HK1.out;have:=HK2.out;have:=HK3.out;omega
            case rel=>exact ⟨(x6_3),(wrap64 (x27_2 + 1)),(by first|rfl|(simp;done)|(simp [*];done)),H',⟨by have:=HK1.out;have:=HK2.out;have:=HK3.out;omega⟩,⟨by (with_reducible repeat (first|apply Kd.S_alloc|apply Kd.S_drewN|apply Kd.S_drew));exact HO_6.out⟩,⟨by repeat (first|(with_reducible first|exact HB.out|apply below_alloc|apply pw_below_drewN|apply below_drew1|refine below_set ?_ GE201.out)|exact HB.out)⟩⟩
        ·rw [if_neg c14] at H
         exact absurd H (by simp)
       ·rw [if_neg c13] at H
        exact absurd H (by simp)
      ·rw [if_neg c12] at H
       have c12b0 : decide (x27_2 < (l1.length : Int)) = false:=decide_eq_false c12
       clear c12
       obtain rfl:=Option.some.inj H
       go_wp2
       go_ret
       exact ⟨_,by first|rfl|(simp [errW_none,errW_some] <;> rfl)|(simp [*,errW_none,errW_some] <;> rfl),by (with_reducible repeat (first|apply Kd.S_alloc|apply Kd.S_drewN|apply Kd.S_drew));exact HO_6.out,by repeat (first|(with_reducible first|exact HB.out|apply below_alloc|apply pw_below_drewN|apply below_drew1)|exact HB.out)⟩

end Go.Proofs.Yteebkkdbkkibmaa.Pr
