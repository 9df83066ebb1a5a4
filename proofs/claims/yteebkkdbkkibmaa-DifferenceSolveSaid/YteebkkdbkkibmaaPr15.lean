/- Functions of this claim and what their calls compute, written by wip/tools/mp.py, a variant of the kit printer. Conditions: each theorem has its own. -/
import Derived.Test.YteebkkdbkkibmaaPr0
namespace Go.Proofs.Yteebkkdbkkibmaa.Pr
open Go.RowKit Go.Proofs.YteebkkdbkkibmaaW.PrintWords Go.Proofs.YteebkkdbkkibmaaW.PrintLast Go.Proofs.YteebkkdbkkibmaaW.PrintMore
attribute [local go_sem] max2_int min2_int max_two min_two max_three min_three max_four min_four   -- for this text's walks alone
set_option linter.unusedVariables false
set_option linter.unusedSimpArgs false

/-! ### scarfjointref03_square: function 51 -/
mutual
def scarfjointref03_square.l0 : Nat → Int → Int → Int → List (List Int) → Int → Option ((List (List Int)))
 | 0,_,_,_,_,_ => none
 | k + 1,x0,x1,x2,x7,x8 => if x8 ≤ x0 then (scarfjointref03_square.l1 k x0 x1 x2 x7 x8 ([] : List Int) 0) else (some x7)
def scarfjointref03_square.l1 : Nat → Int → Int → Int → List (List Int) → Int → List Int → Int → Option ((List (List Int)))
 | 0,_,_,_,_,_,_,_ => none
 | k + 1,x0,x1,x2,x7,x8,x9,x10 => if x10 ≤ x0 then (if x8 = x10 then (if x9.length < 17592186044416 then (scarfjointref03_square.l1 k x0 x1 x2 x7 x8 (x9 ++ [x2]) (wrap64 (x10 + 1))) else (none)) else (if x9.length < 17592186044416 then (scarfjointref03_square.l1 k x0 x1 x2 x7 x8 (x9 ++ [x1]) (wrap64 (x10 + 1))) else (none))) else (if x7.length < 5864062014805 then (scarfjointref03_square.l0 k x0 x1 x2 (x7 ++ [x9]) (wrap64 (x8 + 1))) else (none))
end
def scarfjointref03_square.f (k : Nat) (a0 : Int) (a1 : Int) (a2 : Int) : Option ((List (List Int))):=scarfjointref03_square.l0 k a0 a1 a2 ([] : List (List Int)) 0
theorem scarfjointref03_square.mono_l : ∀ k,(∀ y0 y1 y2 y3 y4,LeO (scarfjointref03_square.l0 k y0 y1 y2 y3 y4) (scarfjointref03_square.l0 (k + 1) y0 y1 y2 y3 y4)) ∧ (∀ y0 y1 y2 y3 y4 y5 y6,LeO (scarfjointref03_square.l1 k y0 y1 y2 y3 y4 y5 y6) (scarfjointref03_square.l1 (k + 1) y0 y1 y2 y3 y4 y5 y6))
 | 0 => ⟨fun _ _ _ _ _ r h => by simp [scarfjointref03_square.l0] at h,fun _ _ _ _ _ _ _ r h => by simp [scarfjointref03_square.l1] at h⟩
 | k + 1 => by
  obtain ⟨ih0,ih1⟩:=scarfjointref03_square.mono_l k
  refine ⟨?_,?_⟩
  ·intro y0 y1 y2 y3 y4
   unfold scarfjointref03_square.l0
   repeat' first
   | (with_reducible exact ih0 _ _ _ _ _)
   | (with_reducible exact ih1 _ _ _ _ _ _ _)
   | (with_reducible exact LeO.refl _)
   | (with_reducible exact LeO.none _)
   | (with_reducible refine LeO.ite ?_ ?_)
   | (with_reducible refine LeO.bind ?_ (fun _ => ?_))
   | exact ih0 _ _ _ _ _
   | exact ih1 _ _ _ _ _ _ _
   | exact LeO.none _
   | refine LeO.ite ?_ ?_
   | refine LeO.bind ?_ (fun _ => ?_)
  ·intro y0 y1 y2 y3 y4 y5 y6
   unfold scarfjointref03_square.l1
   repeat' first
   | (with_reducible exact ih0 _ _ _ _ _)
   | (with_reducible exact ih1 _ _ _ _ _ _ _)
   | (with_reducible exact LeO.refl _)
   | (with_reducible exact LeO.none _)
   | (with_reducible refine LeO.ite ?_ ?_)
   | (with_reducible refine LeO.bind ?_ (fun _ => ?_))
   | exact ih0 _ _ _ _ _
   | exact ih1 _ _ _ _ _ _ _
   | exact LeO.none _
   | refine LeO.ite ?_ ?_
   | refine LeO.bind ?_ (fun _ => ?_)
theorem scarfjointref03_square.mono : ∀ a0 a1 a2 k,LeO (scarfjointref03_square.f k a0 a1 a2) (scarfjointref03_square.f (k + 1) a0 a1 a2):=by
 intro a0 a1 a2 k
 obtain ⟨ih0,ih1⟩:=scarfjointref03_square.mono_l k
 unfold scarfjointref03_square.f
 repeat' first
   | (with_reducible exact ih0 _ _ _ _ _)
   | (with_reducible exact ih1 _ _ _ _ _ _ _)
   | (with_reducible exact LeO.refl _)
   | (with_reducible exact LeO.none _)
   | (with_reducible refine LeO.ite ?_ ?_)
   | (with_reducible refine LeO.bind ?_ (fun _ => ?_))
   | exact ih0 _ _ _ _ _
   | exact ih1 _ _ _ _ _ _ _
   | exact LeO.none _
   | refine LeO.ite ?_ ?_
   | refine LeO.bind ?_ (fun _ => ?_)
set_option maxHeartbeats 8000000 in
set_option maxRecDepth 100000 in
theorem scarfjointref03_square.calls (k : Nat) (a0 : Int) (a1 : Int) (a2 : Int) (r : List (List Int)) (w : World) (h : scarfjointref03_square.f k a0 a1 a2 = some r) :
  Calls Try.prog 51 #[.int .i64 a0,.int .i64 a1,.int .i64 a2] w fun e w'=>∃ v0_ : Value,e = .returned (v0_) ∧ Kd.S (Kd.slice 3 (Kd.int .i64)) 36 w' w.heap.size (fun _=>True) v0_ r ∧ Below w.heap.size w w':=by
 have HB:=Aside0.mk (Below.refl w.heap.size w)
 have H : (scarfjointref03_square.l0 k a0 a1 a2 ([] : List (List Int)) 0) = some r:=h
 clear h
 have H':=Aside0.mk H
 clear H
 go_enter Try.func51,Try.ntmps51
 go_wp2
 go_loopg [7,8] k (fun kq v7 v8 w'=>∃ (x7_1 : List (List Int)) (x8_1 : Int),v8 = .int .i64 x8_1 ∧ Aside0 (scarfjointref03_square.l0 kq a0 a1 a2 x7_1 x8_1 = some r) ∧ Aside0 (kq ≤ k) ∧ Aside0 (Kd.S (Kd.slice 3 (Kd.int .i64)) 36 w' w.heap.size (fun _=>True) v7 x7_1) ∧ Aside0 (Below w.heap.size w w'))
 case atStart=>exact ⟨(([] : List (List Int))),(0),(by first|rfl|(simp;done)|(simp [*];done)),H',⟨Nat.le_refl _⟩,⟨by first|exact Kd.S_nil _ _ _ _ _|exact Kd.N_nil _ _ _ _ _|exact Kd.V_nil _ _ _ _ _|exact Kd.Q_nil _ _ _ _ _|exact Kd.R_nil _ _ _ _ _⟩,⟨by repeat (first|(with_reducible first|exact HB.out|apply below_alloc|apply pw_below_drewN|apply below_drew1)|exact HB.out)⟩⟩
 case round =>
  clear H'
  try clear p2
  obtain ⟨x7_1,x8_1,rfl,HA,HK1,HO_7,HB⟩:=hrel
  cases gk with
  | zero => exact absurd HA.out (by simp [scarfjointref03_square.l0])
  | succ k1 =>
   have H:=HA.out
   clear HA
   simp only [scarfjointref03_square.l0] at H
   by_cases c4 : x8_1 ≤ a0
   ·rw [if_pos c4] at H
    have c4b0 : decide (x8_1 ≤ a0) = true:=decide_eq_true c4
    clear c4
    have H':=Aside0.mk H
    clear H
    go_wp2
    go_loopg [9,10] k1 (fun kq v9 v10 w'=>∃ (x9_2 : List Int) (x10_2 : Int),v10 = .int .i64 x10_2 ∧ Aside0 (scarfjointref03_square.l1 kq a0 a1 a2 x7_1 x8_1 x9_2 x10_2 = some r) ∧ Aside0 (kq ≤ k1) ∧ Aside0 (Kd.S (Kd.slice 3 (Kd.int .i64)) 36 w' w.heap.size (fun k_=>some k_ ≠ (v9 : Value).ownBlock) u7 x7_1) ∧ Aside0 (Kd.R (Kd.int .i64) 3 w' w.heap.size (fun _=>True) v9 x9_2) ∧ Aside0 (Below w.heap.size w w'))
    case atStart=>exact ⟨(([] : List Int)),(0),(by first|rfl|(simp;done)|(simp [*];done)),H',⟨Nat.le_refl _⟩,⟨by (with_reducible repeat (first|apply Kd.S_alloc|apply Kd.S_drewN|apply Kd.S_drew));exact Kd.S_mono HO_7.out (fun _ hk=>(by simp [Value.ownBlock]))⟩,⟨by first|exact Kd.R_nil _ _ _ _ _|exact Kd.N_nil _ _ _ _ _|exact Kd.V_nil _ _ _ _ _|exact Kd.Q_nil _ _ _ _ _|exact Kd.S_nil _ _ _ _ _⟩,⟨by repeat (first|(with_reducible first|exact HB.out|apply below_alloc|apply pw_below_drewN|apply below_drew1)|exact HB.out)⟩⟩
    case round =>
     clear H'
     try clear p2
     try clear c4
     try clear c4b0
     try clear p2
     obtain ⟨x9_2,x10_2,rfl,HA,HK2,HO_7,HO_9,HB⟩:=hrel
     cases gk with
     | zero => exact absurd HA.out (by simp [scarfjointref03_square.l1])
     | succ k2 =>
      have H:=HA.out
      clear HA
      simp only [scarfjointref03_square.l1] at H
      by_cases c5 : x10_2 ≤ a0
      ·rw [if_pos c5] at H
       have c5b0 : decide (x10_2 ≤ a0) = true:=decide_eq_true c5
       clear c5
       by_cases c6 : x8_1 = x10_2
       ·rw [if_pos c6] at H
        have c6b0 : (x8_1 == x10_2) = true:=beq_iff_eq.mpr c6
        have c6b1 : (x8_1 != x10_2) = false:=bne_eq_false_iff_eq.mpr c6
        clear c6
        by_cases c7 : x9_2.length < 17592186044416
        ·rw [if_pos c7] at H
         have LMc7:=Aside0.mk c7
         clear c7
         obtain ⟨y302,hy302⟩ : ∃ y_ : List Int,y_ = (x9_2 ++ [a2]):=⟨_,rfl⟩
         replace H : (scarfjointref03_square.l1 k2 a0 a1 a2 x7_1 x8_1 y302 (wrap64 (x10_2 + 1))) = some r:=by first|(rw [hy302];with_reducible exact H)|(have H2_:=(Option.bind_some _ _).symm.trans H;rw [hy302];with_reducible exact H2_)|(have H2_:=(Option.bind_some _ _).symm.trans H;with_reducible exact H2_)|with_reducible exact H|(rw [hy302];exact H)|exact H
         have Ny302:=Aside0.mk hy302
         clear hy302
         have H':=Aside0.mk H
         clear H
         go_wp2_with (first|((with_reducible refine gate_builtin (b:=.append) (xs:=#[.tmp 24,.tmp 26]) rfl ?_);at_builtin;refine Kd.R_append (Kd.int .i64) (w0:=w) w.heap.size rfl (.tmp 24) (.tmp 26) 36 3 (.int .i64 0) 8 rfl Try.underlying36 info3 rfl (by decide) (by omega) u9 x9_2 a2 [.int .i64 a2] (fun _=>True) (fun _=>False) rfl rfl ?aP (fun _ hk=>hk.elim) ?aF ?aO ?aB ?aS ?aL ?_;(case aP=>exact rfl);(case aB=>exact (by repeat (first|(with_reducible first|exact HB.out|apply below_alloc|apply pw_below_drewN|apply below_drew1)|exact HB.out)));(case aF=>exact (fun _ _=>trivial));(case aO=>exact (by (with_reducible repeat (first|apply Kd.R_alloc|apply Kd.R_drewN|apply Kd.R_drew));exact HO_9.out));(case aS=>exact (below_size (by repeat (first|(with_reducible first|exact HB.out|apply below_alloc|apply pw_below_drewN|apply below_drew1)|exact HB.out))));(case aL=>have:=LMc7.out;omega);intro v303 w8 ho hb hg hat;rw [← Ny302.out] at ho;have n0_:=Aside0.mk (Kd.S_after (ok:=(fun _=>True)) (by (with_reducible repeat (first|apply Kd.S_alloc|apply Kd.S_drewN|apply Kd.S_drew));exact Kd.S_mono HO_7.out (fun _ hk=>⟨trivial,hk⟩)) hg hat);have n1_:=Aside0.mk (hb);have n2_:=Aside0.mk (ho);clear HO_7;clear HB;clear HO_9;have HO_7:=n0_;have HB:=n1_;have HO304:=n2_;clear n0_ n1_ n2_;clear ho hb hg hat))
         go_roundg k2
         case measure=>have:=HK1.out;have:=HK2.out;omega
         case rel=>exact ⟨(y302),(wrap64 (x10_2 + 1)),(by first|rfl|(simp;done)|(simp [*];done)),H',⟨by have:=HK1.out;have:=HK2.out;omega⟩,⟨by (with_reducible repeat (first|apply Kd.S_alloc|apply Kd.S_drewN|apply Kd.S_drew));exact Kd.S_mono HO_7.out (fun _ hk=>hk.2)⟩,⟨by (with_reducible repeat (first|apply Kd.R_alloc|apply Kd.R_drewN|apply Kd.R_drew));exact HO304.out⟩,⟨by repeat (first|(with_reducible first|exact HB.out|apply below_alloc|apply pw_below_drewN|apply below_drew1)|exact HB.out)⟩⟩
        ·rw [if_neg c7] at H
         exact absurd H (by simp)
       ·rw [if_neg c6] at H
        have c6b0 : (x8_1 == x10_2) = false:=beq_eq_false_iff_ne.mpr c6
        have c6b1 : (x8_1 != x10_2) = true:=bne_iff_ne.mpr c6
        by_cases c9 : x9_2.length < 17592186044416
        ·rw [if_pos c9] at H
         have LMc9:=Aside0.mk c9
         clear c9
         obtain ⟨y305,hy305⟩ : ∃ y_ : List Int,y_ = (x9_2 ++ [a1]):=⟨_,rfl⟩
         replace H : (scarfjointref03_square.l1 k2 a0 a1 a2 x7_1 x8_1 y305 (wrap64 (x10_2 + 1))) = some r:=by first|(rw [hy305];with_reducible exact H)|(have H2_:=(Option.bind_some _ _).symm.trans H;rw [hy305];with_reducible exact H2_)|(have H2_:=(Option.bind_some _ _).symm.trans H;with_reducible exact H2_)|with_reducible exact H|(rw [hy305];exact H)|exact H
         have Ny305:=Aside0.mk hy305
         clear hy305
         have H':=Aside0.mk H
         clear H
         go_wp2_with (first|((with_reducible refine gate_builtin (b:=.append) (xs:=#[.tmp 28,.tmp 30]) rfl ?_);at_builtin;refine Kd.R_append (Kd.int .i64) (w0:=w) w.heap.size rfl (.tmp 28) (.tmp 30) 36 3 (.int .i64 0) 8 rfl Try.underlying36 info3 rfl (by decide) (by omega) u9 x9_2 a1 [.int .i64 a1] (fun _=>True) (fun _=>False) rfl rfl ?aP (fun _ hk=>hk.elim) ?aF ?aO ?aB ?aS ?aL ?_;(case aP=>exact rfl);(case aB=>exact (by repeat (first|(with_reducible first|exact HB.out|apply below_alloc|apply pw_below_drewN|apply below_drew1)|exact HB.out)));(case aF=>exact (fun _ _=>trivial));(case aO=>exact (by (with_reducible repeat (first|apply Kd.R_alloc|apply Kd.R_drewN|apply Kd.R_drew));exact HO_9.out));(case aS=>exact (below_size (by repeat (first|(with_reducible first|exact HB.out|apply below_alloc|apply pw_below_drewN|apply below_drew1)|exact HB.out))));(case aL=>have:=LMc9.out;omega);intro v306 w10 ho hb hg hat;rw [← Ny305.out] at ho;have n0_:=Aside0.mk (Kd.S_after (ok:=(fun _=>True)) (by (with_reducible repeat (first|apply Kd.S_alloc|apply Kd.S_drewN|apply Kd.S_drew));exact Kd.S_mono HO_7.out (fun _ hk=>⟨trivial,hk⟩)) hg hat);have n1_:=Aside0.mk (hb);have n2_:=Aside0.mk (ho);clear HO_7;clear HB;clear HO_9;have HO_7:=n0_;have HB:=n1_;have HO307:=n2_;clear n0_ n1_ n2_;clear ho hb hg hat))
         go_roundg k2
         case measure=>have:=HK1.out;have:=HK2.out;omega
         case rel=>exact ⟨(y305),(wrap64 (x10_2 + 1)),(by first|rfl|(simp;done)|(simp [*];done)),H',⟨by have:=HK1.out;have:=HK2.out;omega⟩,⟨by (with_reducible repeat (first|apply Kd.S_alloc|apply Kd.S_drewN|apply Kd.S_drew));exact Kd.S_mono HO_7.out (fun _ hk=>hk.2)⟩,⟨by (with_reducible repeat (first|apply Kd.R_alloc|apply Kd.R_drewN|apply Kd.R_drew));exact HO307.out⟩,⟨by repeat (first|(with_reducible first|exact HB.out|apply below_alloc|apply pw_below_drewN|apply below_drew1)|exact HB.out)⟩⟩
        ·rw [if_neg c9] at H
         exact absurd H (by simp)
      ·rw [if_neg c5] at H
       have c5b0 : decide (x10_2 ≤ a0) = false:=decide_eq_false c5
       clear c5
       by_cases c11 : x7_1.length < 5864062014805
       ·rw [if_pos c11] at H
        have LMc11:=Aside0.mk c11
        clear c11
        obtain ⟨y308,hy308⟩ : ∃ y_ : List (List Int),y_ = (x7_1 ++ [x9_2]):=⟨_,rfl⟩
        replace H : (scarfjointref03_square.l0 k2 a0 a1 a2 y308 (wrap64 (x8_1 + 1))) = some r:=by first|(rw [hy308];with_reducible exact H)|(have H2_:=(Option.bind_some _ _).symm.trans H;rw [hy308];with_reducible exact H2_)|(have H2_:=(Option.bind_some _ _).symm.trans H;with_reducible exact H2_)|with_reducible exact H|(rw [hy308];exact H)|exact H
        have Ny308:=Aside0.mk hy308
        clear hy308
        have H':=Aside0.mk H
        clear H
        obtain ⟨Ao13,co13,eo13⟩:=Kd.R_slice HO_9.out
        subst eo13
        go_wp2_with (first|((with_reducible refine gate_builtin (b:=.append) (xs:=#[.tmp 32,.tmp 34]) rfl ?_);at_builtin;refine Kd.S_append (Kd.slice 3 (Kd.int .i64)) (w0:=w) w.heap.size rfl (.tmp 32) (.tmp 34) 73 36 (.slice none 0 0) 24 rfl Try.underlying73 info36 rfl (by decide) (by omega) u7 x7_1 x9_2 [.slice Ao13 x9_2.length co13] (fun _=>True) (fun k_=>some k_ = (.slice Ao13 x9_2.length co13 : Value).ownBlock) rfl rfl ?aP (fun k_ hk_=>((Kd.R_mono (ok':=fun k_=>((fun _=>True)) k_ ∧ some k_ ≠ (u7 : Value).ownBlock) (Kd.R_apart' (HO_9.out) (Kd.S_typed HO_7.out) (by decide)) (fun k_ hk=>⟨trivial,hk.2⟩))).1 k_ hk_.symm) ?aF ?aO ?aB ?aS ?aL ?_;(case aP=>exact Kd.M_row (Kd.R_mono (Kd.R_tight rfl (Kd.R_mono (ok':=fun k_=>((fun _=>True)) k_ ∧ some k_ ≠ (u7 : Value).ownBlock) (Kd.R_apart' (HO_9.out) (Kd.S_typed HO_7.out) (by decide)) (fun k_ hk=>⟨trivial,hk.2⟩))) (fun _ h_=>h_)));(case aB=>exact (by repeat (first|(with_reducible first|exact HB.out|apply below_alloc|apply pw_below_drewN|apply below_drew1)|exact HB.out)));(case aF=>exact (fun _ _=>trivial));(case aO=>exact (by (with_reducible repeat (first|apply Kd.S_alloc|apply Kd.S_drewN|apply Kd.S_drew));exact Kd.S_mono HO_7.out (fun k_ hk=>⟨trivial,fun e_=>hk e_⟩)));(case aS=>exact (below_size (by repeat (first|(with_reducible first|exact HB.out|apply below_alloc|apply pw_below_drewN|apply below_drew1)|exact HB.out))));(case aL=>have:=LMc11.out;omega);intro v309 w12 ho hb hg hat;rw [← Ny308.out] at ho;have n0_:=Aside0.mk (hb);have n1_:=Aside0.mk (ho);clear HB;clear HO_7;clear HO_9;have HB:=n0_;have HO310:=n1_;clear n0_ n1_;clear ho hb hg hat))
        go_roundg k2
        case measure=>have:=HK1.out;have:=HK2.out;omega
        case rel=>exact ⟨(y308),(wrap64 (x8_1 + 1)),(by first|rfl|(simp;done)|(simp [*];done)),H',⟨by have:=HK1.out;have:=HK2.out;omega⟩,⟨by (with_reducible repeat (first|apply Kd.S_alloc|apply Kd.S_drewN|apply Kd.S_drew));exact HO310.out⟩,⟨by repeat (first|(with_reducible first|exact HB.out|apply below_alloc|apply pw_below_drewN|apply below_drew1)|exact HB.out)⟩⟩
       ·rw [if_neg c11] at H
        exact absurd H (by simp)
   ·rw [if_neg c4] at H
    have c4b0 : decide (x8_1 ≤ a0) = false:=decide_eq_false c4
    clear c4
    obtain rfl:=Option.some.inj H
    go_wp2
    go_ret
    exact ⟨_,by first|rfl|(simp [errW_none,errW_some] <;> rfl)|(simp [*,errW_none,errW_some] <;> rfl),by (with_reducible repeat (first|apply Kd.S_alloc|apply Kd.S_drewN|apply Kd.S_drew));exact HO_7.out,by repeat (first|(with_reducible first|exact HB.out|apply below_alloc|apply pw_below_drewN|apply below_drew1)|exact HB.out)⟩

end Go.Proofs.Yteebkkdbkkibmaa.Pr
