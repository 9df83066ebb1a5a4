/- Functions of this claim and what their calls compute, written by wip/tools/mp.py, a variant of the kit printer. Conditions: each theorem has its own. -/
import Derived.Test.YteebkkdbkkibmaaPr0
namespace Go.Proofs.Yteebkkdbkkibmaa.Pr
open Go.RowKit Go.Proofs.YteebkkdbkkibmaaW.PrintWords Go.Proofs.YteebkkdbkkibmaaW.PrintLast Go.Proofs.YteebkkdbkkibmaaW.PrintMore
attribute [local go_sem] max2_int min2_int max_two min_two max_three min_three max_four min_four   -- for this text's walks alone
set_option linter.unusedVariables false
set_option linter.unusedSimpArgs false

-- NOT PRINTED: function 53 (difference_arc_53)

-- NOT PRINTED: function 25 (difference_CheckRefute)

-- NOT PRINTED: function 7 (scarfjointlaw03_DifferenceRefute)

/-! ### api_Use: function 26 -/
def api_Use.f (l0 : List (S55)) : Option ((List (S55))):=(some (([] : List (S55)) : List (S55))).bind fun y458=>(if y458.length + l0.length < 8796093022208 then (some (y458 ++ l0)) else (none))
set_option maxHeartbeats 8000000 in
set_option maxRecDepth 100000 in
theorem api_Use.calls (A0 : Option Addr) (c0 : Nat) (l0 : List (S55)) (r : List (S55)) (w : World) (hr0 : Kd.C k55 w A0 l0.length l0) (hc0 : l0.length ≤ c0) (h : api_Use.f l0 = some r) :
  Calls Try.prog 26 #[.slice A0 l0.length c0] w fun e w'=>∃ v0_ : Value,e = .returned (v0_) ∧ Kd.R k55 55 w' w.heap.size (fun _=>True) v0_ r ∧ Below w.heap.size w w':=by
 have HR0:=Aside0.mk hr0
 have HC0:=Aside0.mk hc0
 clear hr0 hc0
 have HB:=Aside0.mk (Below.refl w.heap.size w)
 have H : ((some (([] : List (S55)) : List (S55))).bind fun y458=>(if y458.length + l0.length < 8796093022208 then (some (y458 ++ l0)) else (none))) = some r:=h
 clear h
 rcases A0 with _|ad0
 ·obtain rfl : l0 = []:=by
   rcases Nat.eq_zero_or_pos l0.length with h0|h0
   ·exact List.eq_nil_of_length_eq_zero h0
   ·obtain ⟨_,e,_⟩:=HR0.out.2.2 h0;cases e
  have hr : r = []:=by simpa using H.symm
  clear H
  subst hr
  have hnil:=fun (W : World) (n c : Nat)=>Lib.run_eql_slice_nil (P:=Try.prog) W 39 55 none n c 0 0 Try.underlying39
  simp only [Option.isNone_none] at hnil
  go_enter Try.func26,Try.ntmps26
  go_wp2
  go_ret
  exact ⟨_,rfl,Kd.R_nil _ _ _ _ _,HB.out⟩
 have hnil:=fun (W : World) (n c : Nat)=>Lib.run_eql_slice_nil (P:=Try.prog) W 39 55 (some ad0) n c 0 0 Try.underlying39
 simp only [Option.isNone_some] at hnil
 obtain ⟨y458,hy458⟩ : ∃ y_ : List (S55),y_ = (([] : List (S55))):=⟨_,rfl⟩
 replace H : (if y458.length + l0.length < 8796093022208 then (some (y458 ++ l0)) else (none)) = some r:=by first|(rw [hy458];with_reducible exact H)|(have H2_:=(Option.bind_some _ _).symm.trans H;rw [hy458];with_reducible exact H2_)|(have H2_:=(Option.bind_some _ _).symm.trans H;with_reducible exact H2_)|with_reducible exact H|(rw [hy458];exact H)|exact H
 have Ny458:=Aside0.mk hy458
 clear hy458
 by_cases c2 : y458.length + l0.length < 8796093022208
 ·rw [if_pos c2] at H
  have LMc2:=Aside0.mk c2
  clear c2
  obtain ⟨y461,hy461⟩ : ∃ y_ : List (S55),y_ = (y458 ++ l0):=⟨_,rfl⟩
  replace H : (some y461) = some r:=by first|(rw [hy461];with_reducible exact H)|(have H2_:=(Option.bind_some _ _).symm.trans H;rw [hy461];with_reducible exact H2_)|(have H2_:=(Option.bind_some _ _).symm.trans H;with_reducible exact H2_)|with_reducible exact H|(rw [hy461];exact H)|exact H
  have Ny461:=Aside0.mk hy461
  clear hy461
  obtain rfl:=Option.some.inj H
  go_enter Try.func26,Try.ntmps26
  go_wp2_with (first|((with_reducible refine gate_dst (N:=5) rfl ?_);refine Kd.R_lit k55 _ 55 ?hg (N:=5) ?hd (xs:=([] : List (S55))) (inner:=[]) (ok:=fun _=>True) (okp:=fun _=>True) ?hr ?hp (fun _ hk=>hk) trivial (Below.refl _ _) (Nat.le_refl _) (by simp) ?_;(case hd=>rfl);(case hg=>rfl);(case hr=>first|(go_simp;done)|(go_simp;rfl));(case hp=>exact (Reps.none _ _));intro v459 w3 ho4 hb hg_ hnew_;clear hg_ hnew_;(first|rw [← Ny458.out] at ho4|(simp only [Int.reduceToNat] at ho4;rw [← Ny458.out] at ho4));have n0_:=Aside0.mk (Kd.R_lower ho4 (below_size (by repeat (first|(with_reducible first|exact HB.out|apply below_alloc|apply pw_below_drewN|apply below_drew1)|exact HB.out))));have n1_:=Aside0.mk (below_step (by repeat (first|(with_reducible first|exact HB.out|apply below_alloc|apply pw_below_drewN|apply below_drew1)|exact HB.out)) hb);clear HB;have HO460:=n0_;have HB:=n1_;clear n0_ n1_;clear hb ho4)|((with_reducible refine gate_builtin (b:=.append) (xs:=#[.tmp 5,.tmp 6]) rfl ?_);at_builtin;refine Kd.R_append_rows k55 (w0:=w) w.heap.size rfl (.tmp 5) (.tmp 6) 39 55 (.agg #[(.int .i64 0),(.int .i64 0)]) 16 rfl Try.underlying39 info55 rfl (by decide) (by omega) v459 y458 l0 _ _ _ (fun _=>True) (fun _=>False) rfl rfl ?aO ?aR (fun _ _ h=>h) (fun _ h=>h.elim) ?aF ?aB ?aS ?aL ?_;(case aR=>repeat (first|exact (Kd.C_below HR0.out HB.out)|(with_reducible refine Kd.C_alloc ?_ _)|(with_reducible refine Kd.C_drewN ?_ _)|(with_reducible refine Kd.C_drew ?_)));(case aB=>exact (by repeat (first|(with_reducible first|exact HB.out|apply below_alloc|apply pw_below_drewN|apply below_drew1)|exact HB.out)));(case aF=>exact (fun _ _=>trivial));(case aO=>exact (by (with_reducible repeat (first|apply Kd.R_alloc|apply Kd.R_drewN|apply Kd.R_drew));exact HO460.out));(case aS=>exact (below_size (by repeat (first|(with_reducible first|exact HB.out|apply below_alloc|apply pw_below_drewN|apply below_drew1)|exact HB.out))));(case aL=>have:=LMc2.out;omega);intro v462 w5 ho hb hg hat;rw [← Ny461.out] at ho;have n0_:=Aside0.mk (hb);have n1_:=Aside0.mk (ho);clear HB;clear HO460;have HB:=n0_;have HO463:=n1_;clear n0_ n1_;clear ho hb hg hat))
  go_ret
  exact ⟨_,by first|rfl|(simp [errW_none,errW_some] <;> rfl)|(simp [*,errW_none,errW_some] <;> rfl),by (with_reducible repeat (first|apply Kd.R_alloc|apply Kd.R_drewN|apply Kd.R_drew));exact HO463.out,by repeat (first|(with_reducible first|exact HB.out|apply below_alloc|apply pw_below_drewN|apply below_drew1)|exact HB.out)⟩
 ·rw [if_neg c2] at H
  exact absurd H (by simp)

end Go.Proofs.Yteebkkdbkkibmaa.Pr
