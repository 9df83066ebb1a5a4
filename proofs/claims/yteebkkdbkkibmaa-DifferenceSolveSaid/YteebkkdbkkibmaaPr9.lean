/- Functions of this claim and what their calls compute, written by wip/tools/mp.py, a variant of the kit printer. Conditions: each theorem has its own. -/
import Derived.Test.YteebkkdbkkibmaaPr0
import Derived.Test.YteebkkdbkkibmaaPr8
namespace Go.Proofs.Yteebkkdbkkibmaa.Pr
open Go.RowKit Go.Proofs.YteebkkdbkkibmaaW.PrintWords Go.Proofs.YteebkkdbkkibmaaW.PrintLast Go.Proofs.YteebkkdbkkibmaaW.PrintMore
attribute [local go_sem] max2_int min2_int max_two min_two max_three min_three max_four min_four   -- for this text's walks alone
set_option linter.unusedVariables false
set_option linter.unusedSimpArgs false

/-! ### difference_fresh: function 47 -/
def difference_fresh.l0 : Nat → Int → List (List Int) → Int → Int → Option ((List (List Int)))
 | 0,_,_,_,_ => none
 | k + 1,x0,x3,x7,x8 => if x8 < x7 then ((slices_Repeat_int_int.f (([1125899906842624] : List Int)) (wrap64 (x0 + 1))).bind fun t182 => (if 0 ≤ x8 then (if x8 < (t182.length : Int) then (if x3.length < 5864062014805 then (difference_fresh.l0 k x0 (x3 ++ [(t182.set (x8 : Int).toNat 0)]) x7 (wrap64 (x8 + 1))) else (none)) else (none)) else (none))) else (some x3)
def difference_fresh.f (k : Nat) (a0 : Int) : Option ((List (List Int))):=difference_fresh.l0 k a0 ([] : List (List Int)) (wrap64 (a0 + 1)) 0
theorem difference_fresh.mono_l : ∀ k,(∀ y0 y1 y2 y3,LeO (difference_fresh.l0 k y0 y1 y2 y3) (difference_fresh.l0 (k + 1) y0 y1 y2 y3))
 | 0 => fun _ _ _ _ r h => by simp [difference_fresh.l0] at h
 | k + 1 => by
  have ih0:=difference_fresh.mono_l k
  ·intro y0 y1 y2 y3
   unfold difference_fresh.l0
   repeat' first
   | (with_reducible exact ih0 _ _ _ _)
   | (with_reducible exact LeO.refl _)
   | (with_reducible exact LeO.none _)
   | (with_reducible refine LeO.ite ?_ ?_)
   | (with_reducible refine LeO.bind ?_ (fun _ => ?_))
   | exact ih0 _ _ _ _
   | exact LeO.none _
   | refine LeO.ite ?_ ?_
   | refine LeO.bind ?_ (fun _ => ?_)
theorem difference_fresh.mono : ∀ a0 k,LeO (difference_fresh.f k a0) (difference_fresh.f (k + 1) a0):=by
 intro a0 k
 have ih0:=difference_fresh.mono_l k
 unfold difference_fresh.f
 repeat' first
   | (with_reducible exact ih0 _ _ _ _)
   | (with_reducible exact LeO.refl _)
   | (with_reducible exact LeO.none _)
   | (with_reducible refine LeO.ite ?_ ?_)
   | (with_reducible refine LeO.bind ?_ (fun _ => ?_))
   | exact ih0 _ _ _ _
   | exact LeO.none _
   | refine LeO.ite ?_ ?_
   | refine LeO.bind ?_ (fun _ => ?_)
set_option maxHeartbeats 8000000 in
set_option maxRecDepth 100000 in
theorem difference_fresh.calls (k : Nat) (a0 : Int) (r : List (List Int)) (w : World) (h : difference_fresh.f k a0 = some r) :
  Calls Try.prog 47 #[.int .i64 a0] w fun e w'=>∃ v0_ : Value,e = .returned (v0_) ∧ Kd.S (Kd.slice 3 (Kd.int .i64)) 36 w' w.heap.size (fun _=>True) v0_ r ∧ Below w.heap.size w w':=by
 have HB:=Aside0.mk (Below.refl w.heap.size w)
 have H : (difference_fresh.l0 k a0 ([] : List (List Int)) (wrap64 (a0 + 1)) 0) = some r:=h
 clear h
 have H':=Aside0.mk H
 clear H
 go_enter Try.func47,Try.ntmps47
 go_wp2
 go_loopg [3,8] k (fun kq v3 v8 w'=>∃ (x3_1 : List (List Int)) (x8_1 : Int),v8 = .int .i64 x8_1 ∧ Aside0 (difference_fresh.l0 kq a0 x3_1 (wrap64 (a0 + 1)) x8_1 = some r) ∧ Aside0 (kq ≤ k) ∧ Aside0 (Kd.S (Kd.slice 3 (Kd.int .i64)) 36 w' w.heap.size (fun _=>True) v3 x3_1) ∧ Aside0 (Below w.heap.size w w'))
 case atStart=>exact ⟨(([] : List (List Int))),(0),(by first|rfl|(simp;done)|(simp [*];done)),H',⟨Nat.le_refl _⟩,⟨by first|exact Kd.S_nil _ _ _ _ _|exact Kd.N_nil _ _ _ _ _|exact Kd.V_nil _ _ _ _ _|exact Kd.Q_nil _ _ _ _ _|exact Kd.R_nil _ _ _ _ _⟩,⟨by repeat (first|(with_reducible first|exact HB.out|apply below_alloc|apply pw_below_drewN|apply below_drew1)|exact HB.out)⟩⟩
 case round =>
  clear H'
  obtain ⟨x3_1,x8_1,rfl,HA,HK1,HO_3,HB⟩:=hrel
  cases gk with
  | zero => exact absurd HA.out (by simp [difference_fresh.l0])
  | succ k1 =>
   have H:=HA.out
   clear HA
   simp only [difference_fresh.l0] at H
   by_cases c2 : x8_1 < (wrap64 (a0 + 1))
   ·rw [if_pos c2] at H
    have c2b0 : decide (x8_1 < (wrap64 (a0 + 1))) = true:=decide_eq_true c2
    clear c2
    obtain ⟨y179,hy179⟩ : ∃ y_ : List Int,y_ = (([1125899906842624] : List Int)):=⟨_,rfl⟩
    replace H : ((slices_Repeat_int_int.f y179 (wrap64 (a0 + 1))).bind fun t182=>(if 0 ≤ x8_1 then (if x8_1 < (t182.length : Int) then (if x3_1.length < 5864062014805 then (difference_fresh.l0 k1 a0 (x3_1 ++ [(t182.set (x8_1 : Int).toNat 0)]) (wrap64 (a0 + 1)) (wrap64 (x8_1 + 1))) else (none)) else (none)) else (none))) = some r:=by first|(rw [hy179];with_reducible exact H)|(have H2_:=(Option.bind_some _ _).symm.trans H;rw [hy179];with_reducible exact H2_)|(have H2_:=(Option.bind_some _ _).symm.trans H;with_reducible exact H2_)|with_reducible exact H|(rw [hy179];exact H)|exact H
    have Ny179:=Aside0.mk hy179
    clear hy179
    replace H:=Option.bind_eq_some_iff.mp H
    obtain ⟨t182,A30,H⟩:=H
    replace H : (if 0 ≤ x8_1 then (if x8_1 < (t182.length : Int) then (if x3_1.length < 5864062014805 then (difference_fresh.l0 k1 a0 (x3_1 ++ [(t182.set (x8_1 : Int).toNat 0)]) (wrap64 (a0 + 1)) (wrap64 (x8_1 + 1))) else (none)) else (none)) else (none)) = some r:=H
    have A3:=Aside0.mk A30
    clear A30
    by_cases c4 : 0 ≤ x8_1
    ·rw [if_pos c4] at H
     have c4b0 : decide (0 ≤ x8_1) = true:=decide_eq_true c4
     clear c4
     by_cases c5 : x8_1 < (t182.length : Int)
     ·rw [if_pos c5] at H
      have c5b0 : decide (x8_1 < (t182.length : Int)) = true:=decide_eq_true c5
      clear c5
      obtain ⟨y185,hy185⟩ : ∃ y_ : List Int,y_ = (t182.set (x8_1 : Int).toNat 0):=⟨_,rfl⟩
      replace H : (if x3_1.length < 5864062014805 then (difference_fresh.l0 k1 a0 (x3_1 ++ [y185]) (wrap64 (a0 + 1)) (wrap64 (x8_1 + 1))) else (none)) = some r:=by first|(rw [hy185];with_reducible exact H)|(have H2_:=(Option.bind_some _ _).symm.trans H;rw [hy185];with_reducible exact H2_)|(have H2_:=(Option.bind_some _ _).symm.trans H;with_reducible exact H2_)|with_reducible exact H|(rw [hy185];exact H)|exact H
      have Ny185:=Aside0.mk hy185
      clear hy185
      by_cases c7 : x3_1.length < 5864062014805
      ·rw [if_pos c7] at H
       have LMc7:=Aside0.mk c7
       clear c7
       obtain ⟨y186,hy186⟩ : ∃ y_ : List (List Int),y_ = (x3_1 ++ [y185]):=⟨_,rfl⟩
       replace H : (difference_fresh.l0 k1 a0 y186 (wrap64 (a0 + 1)) (wrap64 (x8_1 + 1))) = some r:=by first|(rw [hy186];with_reducible exact H)|(have H2_:=(Option.bind_some _ _).symm.trans H;rw [hy186];with_reducible exact H2_)|(have H2_:=(Option.bind_some _ _).symm.trans H;with_reducible exact H2_)|with_reducible exact H|(rw [hy186];exact H)|exact H
       have Ny186:=Aside0.mk hy186
       clear hy186
       have H':=Aside0.mk H
       clear H
       go_wp2_with (first|((with_reducible refine gate_dst (N:=11) rfl ?_);refine Kd.R_lit (Kd.int .i64) _ 3 ?hg (N:=11) ?hd (xs:=([1125899906842624] : List Int)) (inner:=[.int .i64 1125899906842624]) (ok:=fun _=>True) (okp:=fun _=>True) ?hr ?hp (fun _ hk=>hk) trivial (Below.refl _ _) (Nat.le_refl _) (by simp) ?_;(case hd=>rfl);(case hg=>rfl);(case hr=>first|(go_simp;done)|(go_simp;rfl));(case hp=>exact (Reps.one (show Kd.M (Kd.int .i64) _ _ _ 1125899906842624 [.int .i64 1125899906842624] from rfl) (Reps.none _ _)));intro v180 w8 ho9 hb hg_ hnew_;clear hg_ hnew_;(first|rw [← Ny179.out] at ho9|(simp only [Int.reduceToNat] at ho9;rw [← Ny179.out] at ho9));have n0_:=Aside0.mk (Kd.S_elder' (by (with_reducible repeat (first|apply Kd.S_alloc|apply Kd.S_drewN|apply Kd.S_drew));exact HO_3.out) (Kd.R_base ho9) hb);have n1_:=Aside0.mk (Kd.R_lower ho9 (below_size (by repeat (first|(with_reducible first|exact HB.out|apply below_alloc|apply pw_below_drewN|apply below_drew1)|exact HB.out))));have n2_:=Aside0.mk (below_step (by repeat (first|(with_reducible first|exact HB.out|apply below_alloc|apply pw_below_drewN|apply below_drew1)|exact HB.out)) hb);clear HO_3;clear HB;have HO_3:=n0_;have HO181:=n1_;have HB:=n2_;clear n0_ n1_ n2_;clear hb ho9;obtain ⟨Ao10,co10,eo10⟩:=Kd.R_slice HO181.out;subst eo10)|((with_reducible refine gate_callee (f:=66) rfl ?_);refine goesL_ (some 14) rfl rfl Try.func66 (by kernel_rfl) rfl #[.slice Ao10 y179.length co10,.int .i64 (wrap64 (a0 + 1))] rfl (by (try simp only [List.map_toArray,List.map_cons,List.map_nil]);first|done|rfl|(simp only [List.length_drop,List.length_take];rfl)) ?_;(with_reducible refine (slices_Repeat_int_int.calls _ _ y179 (wrap64 (a0 + 1)) t182 _ ?side1 ?side2 A3.out).mono ?_);(case side1=>repeat (first|exact (Kd.R_reads' HO181.out).2.2|(with_reducible refine Kd.C_alloc ?_ _)|(with_reducible refine Kd.C_drewN ?_ _)|(with_reducible refine Kd.C_drew ?_)));(case side2=>exact (Kd.R_reads' HO181.out).2.1);rintro e w11 ⟨v183,rfl,ho0,hb⟩;refine ⟨_,rfl,?_⟩;have n0_:=Aside0.mk (Kd.S_elder' (by (with_reducible repeat (first|apply Kd.S_alloc|apply Kd.S_drewN|apply Kd.S_drew));exact HO_3.out) (Kd.R_base ho0) hb);have n1_:=Aside0.mk (Kd.R_elder' (by (with_reducible repeat (first|apply Kd.R_alloc|apply Kd.R_drewN|apply Kd.R_drew));exact HO181.out) (Kd.R_base ho0) hb);have n2_:=Aside0.mk (Kd.R_lower (Kd.R_new' ho0 (Kd.R_lt (by (with_reducible repeat (first|apply Kd.R_alloc|apply Kd.R_drewN|apply Kd.R_drew));exact HO181.out))) (below_size (by repeat (first|(with_reducible first|exact HB.out|apply below_alloc|apply pw_below_drewN|apply below_drew1)|exact HB.out))));have n3_:=Aside0.mk (below_step (by repeat (first|(with_reducible first|exact HB.out|apply below_alloc|apply pw_below_drewN|apply below_drew1)|exact HB.out)) hb);clear HO_3;clear HO181;clear HB;have HO_3:=n0_;have HO181:=n1_;have HO184:=n2_;have HB:=n3_;clear n0_ n1_ n2_ n3_;(try clear hb);(try clear hb2);(try clear hk);(try clear hi);(try clear ho0);have p6 : 0 ≤ (x8_1 : Int):=of_decide_eq_true (by first|(with_reducible assumption)|assumption);have q6 : (x8_1 : Int) < ((t182.length : Int) : Int):=of_decide_eq_true (by first|(with_reducible assumption)|assumption);obtain ⟨go6,co6,eo6,gb6,gl6,cl6,HG6⟩:=Kd.R_form HO184.out (by omega);(first|cases eo6|(injection eo6 with ea_ en_ ec_;(first|subst ea_|(injection ea_ with ea_;subst ea_));subst ec_;clear en_));have GB6:=Aside0.mk gb6;have GG6:=Aside0.mk HG6;clear gb6 gl6 HG6;obtain ⟨hx6_0,hf6_0⟩:=Kd.R_celln 0 HO184.out (x8_1 : Int) p6 q6;replace p6:=eq_true p6;replace q6:=eq_true q6;have n_:=Aside0.mk (Kd.R_mono (ok':=(fun k_=>some k_ ≠ (.slice Ao10 y179.length co10 : Value).ownBlock)) HO184.out (fun k_ hk=>hk.2));clear HO184;have HO184:=n_;clear n_;obtain ⟨hy12_,hz12_⟩:=Kd.R_celln 0 HO184.out (x8_1 : Int) (of_decide_eq_true (by first|(with_reducible assumption)|assumption)) (of_decide_eq_true (by first|(with_reducible assumption)|assumption));have HP12:=Kd.R_putg HO184.out (x8_1 : Int) 0)|((with_reducible refine gate_store (t:=3) (p:=17) rfl ?_);refine store_event (t:=3) (p:=17) (v:=?vo_w13) (w1:=(w11.setCell ⟨go6,(x8_1 : Int).toNat,none⟩ (.int .i64 0))) ?hg ?ho ?hn ?hr ?_;(case ho=>rfl);(case hg=>rfl);(case hn=>rfl);(case hr=>first|(go_simp;done)|(go_simp;rfl));intro w13 hw;have hg : w11.grownBy w13 (some go6):=(by rw [hw];exact HP12.2);have hp_ : Kd.R (Kd.int .i64) 3 w13 w.heap.size (fun k_=>some k_ ≠ (.slice Ao10 y179.length co10 : Value).ownBlock) (.slice (some ⟨go6,0,none⟩) t182.length co6) y185:=(by rw [hw,Ny185.out];exact HP12.1);clear HP12;have n0_:=Aside0.mk (Kd.S_after (v:=(.slice (some ⟨go6,0,none⟩) t182.length co6)) (v1:=(.slice (some ⟨go6,0,none⟩) t182.length co6)) (ok:=(fun k_=>some k_ ≠ (.slice Ao10 y179.length co10 : Value).ownBlock)) (by (with_reducible repeat (first|apply Kd.S_alloc|apply Kd.S_drewN|apply Kd.S_drew));exact Kd.S_mono HO_3.out (fun _ hk=>⟨hk.1.2,hk.2⟩)) hg (.inl rfl));have n1_:=Aside0.mk (Kd.R_after (v:=(.slice (some ⟨go6,0,none⟩) t182.length co6)) (v1:=(.slice (some ⟨go6,0,none⟩) t182.length co6)) (ok:=(fun _=>True)) (by (with_reducible repeat (first|apply Kd.R_alloc|apply Kd.R_drewN|apply Kd.R_drew));exact HO181.out) hg (.inl rfl));have n2_:=Aside0.mk (hp_);have n3_:=Aside0.mk ((by rw [hw];exact below_set (HB.out) GB6.out : Below w.heap.size w w13));clear HO_3;clear HO181;clear HO184;clear HB;have HO_3:=n0_;have HO181:=n1_;have HO184:=n2_;have HB:=n3_;clear n0_ n1_ n2_ n3_;clear hg hw hp_)|((with_reducible refine gate_builtin (b:=.append) (xs:=#[.tmp 18,.tmp 20]) rfl ?_);at_builtin;refine Kd.S_append (Kd.slice 3 (Kd.int .i64)) (w0:=w) w.heap.size rfl (.tmp 18) (.tmp 20) 82 36 (.slice none 0 0) 24 rfl Try.underlying82 info36 rfl (by decide) (by omega) u3 x3_1 y185 [.slice (some ⟨go6,0,none⟩) t182.length co6] (fun k_=>some k_ ≠ (.slice Ao10 y179.length co10 : Value).ownBlock) (fun k_=>some k_ = (.slice (some ⟨go6,0,none⟩) t182.length co6 : Value).ownBlock) rfl rfl ?aP (fun k_ hk_=>((Kd.R_mono (ok':=fun k_=>((fun k_=>some k_ ≠ (.slice Ao10 y179.length co10 : Value).ownBlock)) k_ ∧ some k_ ≠ (u3 : Value).ownBlock) (Kd.R_apart' (HO184.out) (Kd.S_typed HO_3.out) (by decide)) (fun k_ hk=>⟨hk.1,hk.2⟩))).1 k_ hk_.symm) ?aF ?aO ?aB ?aS ?aL ?_;(case aP=>exact Kd.M_row (Kd.R_mono (Kd.R_tight rfl (Kd.R_mono (ok':=fun k_=>((fun k_=>some k_ ≠ (.slice Ao10 y179.length co10 : Value).ownBlock)) k_ ∧ some k_ ≠ (u3 : Value).ownBlock) (Kd.R_apart' (HO184.out) (Kd.S_typed HO_3.out) (by decide)) (fun k_ hk=>⟨hk.1,hk.2⟩))) (fun _ h_=>h_)));(case aB=>exact (by repeat (first|(with_reducible first|exact HB.out|apply below_alloc|apply pw_below_drewN|apply below_drew1)|exact HB.out)));(case aF=>exact (fun k_ hk=>Kd.fresh' (Kd.R_lt (by (with_reducible repeat (first|apply Kd.R_alloc|apply Kd.R_drewN|apply Kd.R_drew));exact HO181.out)) k_ hk));(case aO=>exact (by (with_reducible repeat (first|apply Kd.S_alloc|apply Kd.S_drewN|apply Kd.S_drew));exact Kd.S_mono HO_3.out (fun k_ hk=>⟨hk.1,fun e_=>hk.2 e_⟩)));(case aS=>exact (below_size (by repeat (first|(with_reducible first|exact HB.out|apply below_alloc|apply pw_below_drewN|apply below_drew1)|exact HB.out))));(case aL=>have:=LMc7.out;omega);intro v187 w14 ho hb hg hat;rw [← Ny186.out] at ho;have n0_:=Aside0.mk (Kd.R_over' (by (with_reducible repeat (first|apply Kd.R_alloc|apply Kd.R_drewN|apply Kd.R_drew));exact HO181.out) (Kd.S_typed (by (with_reducible repeat (first|apply Kd.S_alloc|apply Kd.S_drewN|apply Kd.S_drew));exact HO_3.out)) (by decide) hg);have n1_:=Aside0.mk (hb);have n2_:=Aside0.mk (ho);clear HO181;clear HB;clear HO_3;clear HO184;have HO181:=n0_;have HB:=n1_;have HO188:=n2_;clear n0_ n1_ n2_;clear ho hb hg hat))
       go_roundg k1
       case measure=>have:=HK1.out;omega
       case rel=>exact ⟨(y186),(wrap64 (x8_1 + 1)),(by first|rfl|(simp;done)|(simp [*];done)),H',⟨by have:=HK1.out;omega⟩,⟨by (with_reducible repeat (first|apply Kd.S_alloc|apply Kd.S_drewN|apply Kd.S_drew));exact Kd.S_mono HO188.out (fun _ hk=>trivial)⟩,⟨by repeat (first|(with_reducible first|exact HB.out|apply below_alloc|apply pw_below_drewN|apply below_drew1)|exact HB.out)⟩⟩
      ·rw [if_neg c7] at H
       exact absurd H (by simp)
     ·rw [if_neg c5] at H
      exact absurd H (by simp)
    ·rw [if_neg c4] at H
     exact absurd H (by simp)
   ·rw [if_neg c2] at H
    have c2b0 : decide (x8_1 < (wrap64 (a0 + 1))) = false:=decide_eq_false c2
    clear c2
    obtain rfl:=Option.some.inj H
    go_wp2
    go_ret
    exact ⟨_,by first|rfl|(simp [errW_none,errW_some] <;> rfl)|(simp [*,errW_none,errW_some] <;> rfl),by (with_reducible repeat (first|apply Kd.S_alloc|apply Kd.S_drewN|apply Kd.S_drew));exact HO_3.out,by repeat (first|(with_reducible first|exact HB.out|apply below_alloc|apply pw_below_drewN|apply below_drew1)|exact HB.out)⟩

/-! ### difference_closed: function 48 -/
def difference_closed.l0 : Nat → List (List Int) → Int → Int → Option (Bool)
 | 0,_,_,_ => none
 | k + 1,x0,x5,x6 => if x6 < x5 then (if 0 ≤ x6 then (if x6 < (x0.length : Int) then (if x6 < ((rd_L5 x0 x6).length : Int) then (if (rd (rd_L5 x0 x6) x6) < 0 then (some true) else (difference_closed.l0 k x0 x5 (wrap64 (x6 + 1)))) else (none)) else (none)) else (none)) else (some false)
def difference_closed.f (k : Nat) (l0 : List (List Int)) : Option (Bool):=difference_closed.l0 k l0 (l0.length : Int) 0
theorem difference_closed.mono_l : ∀ k,(∀ y0 y1 y2,LeO (difference_closed.l0 k y0 y1 y2) (difference_closed.l0 (k + 1) y0 y1 y2))
 | 0 => fun _ _ _ r h => by simp [difference_closed.l0] at h
 | k + 1 => by
  have ih0:=difference_closed.mono_l k
  ·intro y0 y1 y2
   unfold difference_closed.l0
   repeat' first
   | (with_reducible exact ih0 _ _ _)
   | (with_reducible exact LeO.refl _)
   | (with_reducible exact LeO.none _)
   | (with_reducible refine LeO.ite ?_ ?_)
   | (with_reducible refine LeO.bind ?_ (fun _ => ?_))
   | exact ih0 _ _ _
   | exact LeO.none _
   | refine LeO.ite ?_ ?_
   | refine LeO.bind ?_ (fun _ => ?_)
theorem difference_closed.mono : ∀ a0 k,LeO (difference_closed.f k a0) (difference_closed.f (k + 1) a0):=by
 intro a0 k
 have ih0:=difference_closed.mono_l k
 unfold difference_closed.f
 repeat' first
   | (with_reducible exact ih0 _ _ _)
   | (with_reducible exact LeO.refl _)
   | (with_reducible exact LeO.none _)
   | (with_reducible refine LeO.ite ?_ ?_)
   | (with_reducible refine LeO.bind ?_ (fun _ => ?_))
   | exact ih0 _ _ _
   | exact LeO.none _
   | refine LeO.ite ?_ ?_
   | refine LeO.bind ?_ (fun _ => ?_)
set_option maxHeartbeats 8000000 in
set_option maxRecDepth 100000 in
theorem difference_closed.calls (k : Nat) (A0 : Option Addr) (c0 : Nat) (l0 : List (List Int)) (r : Bool) (w : World) (hr0 : Kd.C (Kd.slice 3 (Kd.int .i64)) w A0 l0.length l0) (hc0 : l0.length ≤ c0) (h : difference_closed.f k l0 = some r) :
  Calls Try.prog 48 #[.slice A0 l0.length c0] w fun e w'=>e = .returned (.bool r) ∧ Drawn0 w w':=by
 have HR0:=Aside0.mk hr0
 have HC0:=Aside0.mk hc0
 clear hr0 hc0
 have H : (difference_closed.l0 k l0 (l0.length : Int) 0) = some r:=h
 clear h
 have H':=Aside0.mk H
 clear H
 go_enter Try.func48,Try.ntmps48
 go_wp2
 go_loopg [6] k (fun kq v6 w'=>∃ (x6_1 : Int),v6 = .int .i64 x6_1 ∧ Aside0 (difference_closed.l0 kq l0 (l0.length : Int) x6_1 = some r) ∧ Aside0 (kq ≤ k) ∧ Drawn0 w w')
 case atStart=>exact ⟨(0),(by first|rfl|(simp;done)|(simp [*];done)),H',⟨Nat.le_refl _⟩,by repeat (first|exact Drawn0.refl _|apply Drawn0.step)⟩
 case round =>
  clear H'
  obtain ⟨x6_1,rfl,HA,HK1,⟨m1,rfl⟩⟩:=hrel
  cases gk with
  | zero => exact absurd HA.out (by simp [difference_closed.l0])
  | succ k1 =>
   have H:=HA.out
   clear HA
   simp only [difference_closed.l0] at H
   by_cases c2 : x6_1 < (l0.length : Int)
   ·rw [if_pos c2] at H
    have c2b0 : decide (x6_1 < (l0.length : Int)) = true:=decide_eq_true c2
    clear c2
    by_cases c3 : 0 ≤ x6_1
    ·rw [if_pos c3] at H
     have c3b0 : decide (0 ≤ x6_1) = true:=decide_eq_true c3
     clear c3
     by_cases c4 : x6_1 < (l0.length : Int)
     ·rw [if_pos c4] at H
      have c4b0 : decide (x6_1 < (l0.length : Int)) = true:=decide_eq_true c4
      clear c4
      by_cases c5 : x6_1 < ((rd_L5 l0 x6_1).length : Int)
      ·rw [if_pos c5] at H
       have c5b0 : decide (x6_1 < ((rd_L5 l0 x6_1).length : Int)) = true:=decide_eq_true c5
       clear c5
       by_cases c6 : (rd (rd_L5 l0 x6_1) x6_1) < 0
       ·rw [if_pos c6] at H
        have c6b0 : decide ((rd (rd_L5 l0 x6_1) x6_1) < 0) = true:=decide_eq_true c6
        clear c6
        obtain rfl:=Option.some.inj H
        have p189 : 0 ≤ (x6_1 : Int):=of_decide_eq_true (by first|(with_reducible assumption)|assumption)
        have q189 : x6_1 < (l0.length : Int):=of_decide_eq_true (by first|(with_reducible assumption)|assumption)
        obtain ⟨ad189,A189_0,c189_0,e189,hx189_0,hl189_0,hi189_0⟩:=at_L5 HR0.out x6_1 p189 q189
        cases e189
        have HR189_0:=Aside0.mk hi189_0
        have HC189_0:=Aside0.mk hl189_0
        clear hi189_0 hl189_0
        replace p189:=eq_true p189
        replace q189:=eq_true q189
        have p190 : 0 ≤ (x6_1 : Int):=of_decide_eq_true (by first|(with_reducible assumption)|assumption)
        have q190 : x6_1 < ((rd_L5 l0 x6_1).length : Int):=of_decide_eq_true (by first|(with_reducible assumption)|assumption)
        obtain ⟨ad190,e190,hx190_0⟩:=Kd.at_int HR189_0.out x6_1 p190 q190
        cases e190
        replace p190:=eq_true p190
        replace q190:=eq_true q190
        go_wp2
        go_ret
        exact ⟨by first|rfl|(simp;done)|(simp [*];done),by repeat (first|exact Drawn0.refl _|apply Drawn0.step)⟩
       ·rw [if_neg c6] at H
        have c6b0 : decide ((rd (rd_L5 l0 x6_1) x6_1) < 0) = false:=decide_eq_false c6
        clear c6
        have H':=Aside0.mk H
        clear H
        have p189 : 0 ≤ (x6_1 : Int):=of_decide_eq_true (by first|(with_reducible assumption)|assumption)
        have q189 : x6_1 < (l0.length : Int):=of_decide_eq_true (by first|(with_reducible assumption)|assumption)
        obtain ⟨ad189,A189_0,c189_0,e189,hx189_0,hl189_0,hi189_0⟩:=at_L5 HR0.out x6_1 p189 q189
        cases e189
        have HR189_0:=Aside0.mk hi189_0
        have HC189_0:=Aside0.mk hl189_0
        clear hi189_0 hl189_0
        replace p189:=eq_true p189
        replace q189:=eq_true q189
        have p190 : 0 ≤ (x6_1 : Int):=of_decide_eq_true (by first|(with_reducible assumption)|assumption)
        have q190 : x6_1 < ((rd_L5 l0 x6_1).length : Int):=of_decide_eq_true (by first|(with_reducible assumption)|assumption)
        obtain ⟨ad190,e190,hx190_0⟩:=Kd.at_int HR189_0.out x6_1 p190 q190
        cases e190
        replace p190:=eq_true p190
        replace q190:=eq_true q190
        go_wp2
        go_roundg k1
        case measure=>have:=HK1.out;omega
        case rel=>exact ⟨(wrap64 (x6_1 + 1)),(by first|rfl|(simp;done)|(simp [*];done)),H',⟨by have:=HK1.out;omega⟩,by repeat (first|exact Drawn0.refl _|apply Drawn0.step)⟩
      ·rw [if_neg c5] at H
       exact absurd H (by simp)
     ·rw [if_neg c4] at H
      exact absurd H (by simp)
    ·rw [if_neg c3] at H
     exact absurd H (by simp)
   ·rw [if_neg c2] at H
    have c2b0 : decide (x6_1 < (l0.length : Int)) = false:=decide_eq_false c2
    clear c2
    obtain rfl:=Option.some.inj H
    go_wp2
    go_ret
    exact ⟨by first|rfl|(simp;done)|(simp [*];done),by repeat (first|exact Drawn0.refl _|apply Drawn0.step)⟩

end Go.Proofs.Yteebkkdbkkibmaa.Pr
