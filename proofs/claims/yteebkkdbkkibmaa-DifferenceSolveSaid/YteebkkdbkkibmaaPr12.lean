/- Functions of this claim and what their calls compute, written by wip/tools/mp.py, a variant of the kit printer. Conditions: each theorem has its own. -/
import Derived.Test.YteebkkdbkkibmaaPr0
import Derived.Test.YteebkkdbkkibmaaPr2
import Derived.Test.YteebkkdbkkibmaaPr7
import Derived.Test.YteebkkdbkkibmaaPr8
import Derived.Test.YteebkkdbkkibmaaPr11
namespace Go.Proofs.Yteebkkdbkkibmaa.Pr
open Go.RowKit Go.Proofs.YteebkkdbkkibmaaW.PrintWords Go.Proofs.YteebkkdbkkibmaaW.PrintLast Go.Proofs.YteebkkdbkkibmaaW.PrintMore
attribute [local go_sem] max2_int min2_int max_two min_two max_three min_three max_four min_four   -- for this text's walks alone
set_option linter.unusedVariables false
set_option linter.unusedSimpArgs false

attribute [local go_sem high] eqA55
/-! ### scarfjointref03_SameUses: function 24 -/
def scarfjointref03_SameUses.l0 : Nat → List (S55) → List (S55) → Int → Option (Bool)
 | 0,_,_,_ => none
 | k + 1,x0,x1,x5 => if x5 < (x0.length : Int) then (if 0 ≤ x5 then (if x5 < (x1.length : Int) then (if (!(((rd_T55 x0 x5).f0) == ((rd_T55 x1 x5).f0)) || (!(((rd_T55 x0 x5).f1) == ((rd_T55 x1 x5).f1)))) = true then (some false) else (scarfjointref03_SameUses.l0 k x0 x1 (wrap64 (x5 + 1)))) else (none)) else (none)) else (some true)
def scarfjointref03_SameUses.f (k : Nat) (l0 : List (S55)) (l1 : List (S55)) : Option (Bool):=if (l0.length : Int) = (l1.length : Int) then (scarfjointref03_SameUses.l0 k l0 l1 0) else (some false)
theorem scarfjointref03_SameUses.mono_l : ∀ k,(∀ y0 y1 y2,LeO (scarfjointref03_SameUses.l0 k y0 y1 y2) (scarfjointref03_SameUses.l0 (k + 1) y0 y1 y2))
 | 0 => fun _ _ _ r h => by simp [scarfjointref03_SameUses.l0] at h
 | k + 1 => by
  have ih0:=scarfjointref03_SameUses.mono_l k
  ·intro y0 y1 y2
   unfold scarfjointref03_SameUses.l0
   repeat' first
   | (with_reducible exact ih0 _ _ _)
   | (with_reducible exact LeO.refl _)
   | (with_reducible exact LeO.none _)
   | (with_reducible refine LeO.ite ?_ ?_)
   | (with_reducible refine LeO.bind ?_ (fun _ => ?_))
   | exact ih0 _ _ _
   | exact LeO.none _
   | refine LeO.ite ?_ ?_
   | refine LeO.bind ?_ (fun _ => ?_)
theorem scarfjointref03_SameUses.mono : ∀ a0 a1 k,LeO (scarfjointref03_SameUses.f k a0 a1) (scarfjointref03_SameUses.f (k + 1) a0 a1):=by
 intro a0 a1 k
 have ih0:=scarfjointref03_SameUses.mono_l k
 unfold scarfjointref03_SameUses.f
 repeat' first
   | (with_reducible exact ih0 _ _ _)
   | (with_reducible exact LeO.refl _)
   | (with_reducible exact LeO.none _)
   | (with_reducible refine LeO.ite ?_ ?_)
   | (with_reducible refine LeO.bind ?_ (fun _ => ?_))
   | exact ih0 _ _ _
   | exact LeO.none _
   | refine LeO.ite ?_ ?_
   | refine LeO.bind ?_ (fun _ => ?_)
set_option maxHeartbeats 8000000 in
set_option maxRecDepth 100000 in
theorem scarfjointref03_SameUses.calls (k : Nat) (A0 : Option Addr) (c0 : Nat) (l0 : List (S55)) (A1 : Option Addr) (c1 : Nat) (l1 : List (S55)) (r : Bool) (w : World) (hr0 : Kd.C k55 w A0 l0.length l0) (hc0 : l0.length ≤ c0) (hr1 : Kd.C k55 w A1 l1.length l1) (hc1 : l1.length ≤ c1) (h : scarfjointref03_SameUses.f k l0 l1 = some r) :
  Calls Try.prog 24 #[.slice A0 l0.length c0,.slice A1 l1.length c1] w fun e w'=>e = .returned (.bool r) ∧ Drawn0 w w':=by
 have hu55:=Try.underlying55
 have HR0:=Aside0.mk hr0
 have HC0:=Aside0.mk hc0
 clear hr0 hc0
 have HR1:=Aside0.mk hr1
 have HC1:=Aside0.mk hc1
 clear hr1 hc1
 have H : (if (l0.length : Int) = (l1.length : Int) then (scarfjointref03_SameUses.l0 k l0 l1 0) else (some false)) = some r:=h
 clear h
 by_cases c3 : (l0.length : Int) = (l1.length : Int)
 ·rw [if_pos c3] at H
  have c3b0 : ((l0.length : Int) == (l1.length : Int)) = true:=beq_iff_eq.mpr c3
  have c3b1 : ((l0.length : Int) != (l1.length : Int)) = false:=bne_eq_false_iff_eq.mpr c3
  have c3b2 : (l0.length == l1.length) = true:=by first|simpa using c3|(simp at c3 ⊢;omega)
  clear c3
  have H':=Aside0.mk H
  clear H
  go_enter Try.func24,Try.ntmps24
  go_wp2
  repeat (go_quiet (fail);try go_wp2)
  go_loopg [5] k (fun kq v5 w'=>∃ (x5_1 : Int),v5 = .int .i64 x5_1 ∧ Aside0 (scarfjointref03_SameUses.l0 kq l0 l1 x5_1 = some r) ∧ Aside0 (kq ≤ k) ∧ Drawn0 w w')
  case atStart=>exact ⟨(0),(by first|rfl|(simp;done)|(simp [*];done)),H',⟨Nat.le_refl _⟩,by repeat (first|exact Drawn0.refl _|apply Drawn0.step)⟩
  case round =>
   clear H'
   try clear c1
   try clear c2
   try clear p2
   try clear c3
   try clear c3b0
   try clear c3b1
   try clear c3b2
   obtain ⟨x5_1,rfl,HA,HK1,⟨m1,rfl⟩⟩:=hrel
   cases gk with
   | zero => exact absurd HA.out (by simp [scarfjointref03_SameUses.l0])
   | succ k1 =>
    have H:=HA.out
    clear HA
    simp only [scarfjointref03_SameUses.l0] at H
    by_cases c4 : x5_1 < (l0.length : Int)
    ·rw [if_pos c4] at H
     have c4b0 : decide (x5_1 < (l0.length : Int)) = true:=decide_eq_true c4
     clear c4
     by_cases c5 : 0 ≤ x5_1
     ·rw [if_pos c5] at H
      have c5b0 : decide (0 ≤ x5_1) = true:=decide_eq_true c5
      clear c5
      by_cases c6 : x5_1 < (l1.length : Int)
      ·rw [if_pos c6] at H
       have c6b0 : decide (x5_1 < (l1.length : Int)) = true:=decide_eq_true c6
       clear c6
       by_cases c7 : (!(((rd_T55 l0 x5_1).f0) == ((rd_T55 l1 x5_1).f0)) || (!(((rd_T55 l0 x5_1).f1) == ((rd_T55 l1 x5_1).f1)))) = true
       ·rw [if_pos c7] at H
        have c7b0 : (!(((rd_T55 l0 x5_1).f0) == ((rd_T55 l1 x5_1).f0)) || (!(((rd_T55 l0 x5_1).f1) == ((rd_T55 l1 x5_1).f1)))) = true:=c7
        clear c7
        obtain rfl:=Option.some.inj H
        have p243 : 0 ≤ (x5_1 : Int):=of_decide_eq_true (by first|(with_reducible assumption)|assumption)
        have q243 : x5_1 < (l0.length : Int):=of_decide_eq_true (by first|(with_reducible assumption)|assumption)
        obtain ⟨ad243,e243,hx243_0,hx243_1⟩:=at_T55 HR0.out x5_1 p243 q243
        cases e243
        replace p243:=eq_true p243
        replace q243:=eq_true q243
        have p244 : 0 ≤ (x5_1 : Int):=of_decide_eq_true (by first|(with_reducible assumption)|assumption)
        have q244 : x5_1 < (l1.length : Int):=of_decide_eq_true (by first|(with_reducible assumption)|assumption)
        obtain ⟨ad244,e244,hx244_0,hx244_1⟩:=at_T55 HR1.out x5_1 p244 q244
        cases e244
        replace p244:=eq_true p244
        replace q244:=eq_true q244
        go_wp2
        repeat (go_quiet (fail);try go_wp2)
        go_ret
        exact ⟨by first|rfl|(simp;done)|(simp [*];done),by repeat (first|exact Drawn0.refl _|apply Drawn0.step)⟩
       ·rw [if_neg c7] at H
        have c7b0 : (!(((rd_T55 l0 x5_1).f0) == ((rd_T55 l1 x5_1).f0)) || (!(((rd_T55 l0 x5_1).f1) == ((rd_T55 l1 x5_1).f1)))) = false:=by simpa using c7
        clear c7
        have H':=Aside0.mk H
        clear H
        have p243 : 0 ≤ (x5_1 : Int):=of_decide_eq_true (by first|(with_reducible assumption)|assumption)
        have q243 : x5_1 < (l0.length : Int):=of_decide_eq_true (by first|(with_reducible assumption)|assumption)
        obtain ⟨ad243,e243,hx243_0,hx243_1⟩:=at_T55 HR0.out x5_1 p243 q243
        cases e243
        replace p243:=eq_true p243
        replace q243:=eq_true q243
        have p244 : 0 ≤ (x5_1 : Int):=of_decide_eq_true (by first|(with_reducible assumption)|assumption)
        have q244 : x5_1 < (l1.length : Int):=of_decide_eq_true (by first|(with_reducible assumption)|assumption)
        obtain ⟨ad244,e244,hx244_0,hx244_1⟩:=at_T55 HR1.out x5_1 p244 q244
        cases e244
        replace p244:=eq_true p244
        replace q244:=eq_true q244
        go_wp2
        repeat (go_quiet (fail);try go_wp2)
        go_roundg k1
        case measure=>have:=HK1.out;omega
        case rel=>exact ⟨(wrap64 (x5_1 + 1)),(by first|rfl|(simp;done)|(simp [*];done)),H',⟨by have:=HK1.out;omega⟩,by repeat (first|exact Drawn0.refl _|apply Drawn0.step)⟩
      ·rw [if_neg c6] at H
       exact absurd H (by simp)
     ·rw [if_neg c5] at H
      exact absurd H (by simp)
    ·rw [if_neg c4] at H
     have c4b0 : decide (x5_1 < (l0.length : Int)) = false:=decide_eq_false c4
     clear c4
     obtain rfl:=Option.some.inj H
     go_wp2
     repeat (go_quiet (fail);try go_wp2)
     go_ret
     exact ⟨by first|rfl|(simp;done)|(simp [*];done),by repeat (first|exact Drawn0.refl _|apply Drawn0.step)⟩
 ·rw [if_neg c3] at H
  have c3b0 : ((l0.length : Int) == (l1.length : Int)) = false:=beq_eq_false_iff_ne.mpr c3
  have c3b1 : ((l0.length : Int) != (l1.length : Int)) = true:=bne_iff_ne.mpr c3
  have c3b2 : (l0.length == l1.length) = false:=by first|simpa using c3|(simp at c3 ⊢;omega)
  obtain rfl:=Option.some.inj H
  go_enter Try.func24,Try.ntmps24
  go_wp2
  repeat (go_quiet (fail);try go_wp2)
  go_ret
  exact ⟨by first|rfl|(simp;done)|(simp [*];done),by repeat (first|exact Drawn0.refl _|apply Drawn0.step)⟩

/-! ### slices_Equal_int_int: function 32 -/
def slices_Equal_int_int.l0 : Nat → List Int → List Int → Int → Int → Option (Bool)
 | 0,_,_,_,_ => none
 | k + 1,x0,x1,x12,x13 => if x13 < x12 then (if 0 ≤ x13 then (if x13 < (x0.length : Int) then (if x13 < (x1.length : Int) then (if (rd x0 x13) = (rd x1 x13) then (slices_Equal_int_int.l0 k x0 x1 x12 (wrap64 (x13 + 1))) else (some false)) else (none)) else (none)) else (none)) else (some true)
def slices_Equal_int_int.f (k : Nat) (l0 : List Int) (l1 : List Int) : Option (Bool):=if (l0.length : Int) = (l1.length : Int) then (slices_Equal_int_int.l0 k l0 l1 (l0.length : Int) 0) else (some false)
theorem slices_Equal_int_int.mono_l : ∀ k,(∀ y0 y1 y2 y3,LeO (slices_Equal_int_int.l0 k y0 y1 y2 y3) (slices_Equal_int_int.l0 (k + 1) y0 y1 y2 y3))
 | 0 => fun _ _ _ _ r h => by simp [slices_Equal_int_int.l0] at h
 | k + 1 => by
  have ih0:=slices_Equal_int_int.mono_l k
  ·intro y0 y1 y2 y3
   unfold slices_Equal_int_int.l0
   repeat' first
   | (with_reducible exact ih0 _ _ _ _)
   | (with_reducible exact LeO.refl _)
   | (with_reducible exact LeO.none _)
   | (with_reducible refine LeO.ite ?_ ?_)
   | (with_reducible refine LeO.bind ?_ (fun _ => ?_))
   | exact ih0 _ _ _ _
   | exact LeO.none _
   | refine LeO.ite ?_ ?_
   | refine LeO.bind ?_ (fun _ => ?_)
theorem slices_Equal_int_int.mono : ∀ a0 a1 k,LeO (slices_Equal_int_int.f k a0 a1) (slices_Equal_int_int.f (k + 1) a0 a1):=by
 intro a0 a1 k
 have ih0:=slices_Equal_int_int.mono_l k
 unfold slices_Equal_int_int.f
 repeat' first
   | (with_reducible exact ih0 _ _ _ _)
   | (with_reducible exact LeO.refl _)
   | (with_reducible exact LeO.none _)
   | (with_reducible refine LeO.ite ?_ ?_)
   | (with_reducible refine LeO.bind ?_ (fun _ => ?_))
   | exact ih0 _ _ _ _
   | exact LeO.none _
   | refine LeO.ite ?_ ?_
   | refine LeO.bind ?_ (fun _ => ?_)
set_option maxHeartbeats 8000000 in
set_option maxRecDepth 100000 in
theorem slices_Equal_int_int.calls (k : Nat) (A0 : Option Addr) (c0 : Nat) (l0 : List Int) (A1 : Option Addr) (c1 : Nat) (l1 : List Int) (r : Bool) (w : World) (hr0 : Kd.C (Kd.int .i64) w A0 l0.length l0) (hc0 : l0.length ≤ c0) (hr1 : Kd.C (Kd.int .i64) w A1 l1.length l1) (hc1 : l1.length ≤ c1) (h : slices_Equal_int_int.f k l0 l1 = some r) :
  Calls Try.prog 32 #[.slice A0 l0.length c0,.slice A1 l1.length c1] w fun e w'=>e = .returned (.bool r) ∧ Drawn0 w w':=by
 have HR0:=Aside0.mk hr0
 have HC0:=Aside0.mk hc0
 clear hr0 hc0
 have HR1:=Aside0.mk hr1
 have HC1:=Aside0.mk hc1
 clear hr1 hc1
 have H : (if (l0.length : Int) = (l1.length : Int) then (slices_Equal_int_int.l0 k l0 l1 (l0.length : Int) 0) else (some false)) = some r:=h
 clear h
 by_cases c3 : (l0.length : Int) = (l1.length : Int)
 ·rw [if_pos c3] at H
  have c3b0 : ((l0.length : Int) == (l1.length : Int)) = true:=beq_iff_eq.mpr c3
  have c3b1 : ((l0.length : Int) != (l1.length : Int)) = false:=bne_eq_false_iff_eq.mpr c3
  have c3b2 : (l0.length == l1.length) = true:=by first|simpa using c3|(simp at c3 ⊢;omega)
  clear c3
  have H':=Aside0.mk H
  clear H
  go_enter Try.func32,Try.ntmps32
  go_wp2
  repeat (go_quiet (fail);try go_wp2)
  go_loopg [13] k (fun kq v13 w'=>∃ (x13_1 : Int),v13 = .int .i64 x13_1 ∧ Aside0 (slices_Equal_int_int.l0 kq l0 l1 (l0.length : Int) x13_1 = some r) ∧ Aside0 (kq ≤ k) ∧ Drawn0 w w')
  case atStart=>exact ⟨(0),(by first|rfl|(simp;done)|(simp [*];done)),H',⟨Nat.le_refl _⟩,by repeat (first|exact Drawn0.refl _|apply Drawn0.step)⟩
  case round =>
   clear H'
   try clear c1
   try clear p2
   try clear c3
   try clear c3b0
   try clear c3b1
   try clear c3b2
   obtain ⟨x13_1,rfl,HA,HK1,⟨m1,rfl⟩⟩:=hrel
   cases gk with
   | zero => exact absurd HA.out (by simp [slices_Equal_int_int.l0])
   | succ k1 =>
    have H:=HA.out
    clear HA
    simp only [slices_Equal_int_int.l0] at H
    by_cases c4 : x13_1 < (l0.length : Int)
    ·rw [if_pos c4] at H
     have c4b0 : decide (x13_1 < (l0.length : Int)) = true:=decide_eq_true c4
     clear c4
     by_cases c5 : 0 ≤ x13_1
     ·rw [if_pos c5] at H
      have c5b0 : decide (0 ≤ x13_1) = true:=decide_eq_true c5
      clear c5
      by_cases c6 : x13_1 < (l0.length : Int)
      ·rw [if_pos c6] at H
       have c6b0 : decide (x13_1 < (l0.length : Int)) = true:=decide_eq_true c6
       clear c6
       by_cases c7 : x13_1 < (l1.length : Int)
       ·rw [if_pos c7] at H
        have c7b0 : decide (x13_1 < (l1.length : Int)) = true:=decide_eq_true c7
        clear c7
        by_cases c8 : (rd l0 x13_1) = (rd l1 x13_1)
        ·rw [if_pos c8] at H
         have c8b0 : ((rd l0 x13_1) == (rd l1 x13_1)) = true:=beq_iff_eq.mpr c8
         have c8b1 : ((rd l0 x13_1) != (rd l1 x13_1)) = false:=bne_eq_false_iff_eq.mpr c8
         clear c8
         have H':=Aside0.mk H
         clear H
         have p245 : 0 ≤ (x13_1 : Int):=of_decide_eq_true (by first|(with_reducible assumption)|assumption)
         have q245 : x13_1 < (l0.length : Int):=of_decide_eq_true (by first|(with_reducible assumption)|assumption)
         obtain ⟨ad245,e245,hx245_0⟩:=Kd.at_int HR0.out x13_1 p245 q245
         cases e245
         replace p245:=eq_true p245
         replace q245:=eq_true q245
         have p246 : 0 ≤ (x13_1 : Int):=of_decide_eq_true (by first|(with_reducible assumption)|assumption)
         have q246 : x13_1 < (l1.length : Int):=of_decide_eq_true (by first|(with_reducible assumption)|assumption)
         obtain ⟨ad246,e246,hx246_0⟩:=Kd.at_int HR1.out x13_1 p246 q246
         cases e246
         replace p246:=eq_true p246
         replace q246:=eq_true q246
         go_wp2
         repeat (go_quiet (fail);try go_wp2)
         go_roundg k1
         case measure=>have:=HK1.out;omega
         case rel=>exact ⟨(wrap64 (x13_1 + 1)),(by first|rfl|(simp;done)|(simp [*];done)),H',⟨by have:=HK1.out;omega⟩,by repeat (first|exact Drawn0.refl _|apply Drawn0.step)⟩
        ·rw [if_neg c8] at H
         have c8b0 : ((rd l0 x13_1) == (rd l1 x13_1)) = false:=beq_eq_false_iff_ne.mpr c8
         have c8b1 : ((rd l0 x13_1) != (rd l1 x13_1)) = true:=bne_iff_ne.mpr c8
         obtain rfl:=Option.some.inj H
         have p245 : 0 ≤ (x13_1 : Int):=of_decide_eq_true (by first|(with_reducible assumption)|assumption)
         have q245 : x13_1 < (l0.length : Int):=of_decide_eq_true (by first|(with_reducible assumption)|assumption)
         obtain ⟨ad245,e245,hx245_0⟩:=Kd.at_int HR0.out x13_1 p245 q245
         cases e245
         replace p245:=eq_true p245
         replace q245:=eq_true q245
         have p246 : 0 ≤ (x13_1 : Int):=of_decide_eq_true (by first|(with_reducible assumption)|assumption)
         have q246 : x13_1 < (l1.length : Int):=of_decide_eq_true (by first|(with_reducible assumption)|assumption)
         obtain ⟨ad246,e246,hx246_0⟩:=Kd.at_int HR1.out x13_1 p246 q246
         cases e246
         replace p246:=eq_true p246
         replace q246:=eq_true q246
         go_wp2
         repeat (go_quiet (fail);try go_wp2)
         go_ret
         exact ⟨by first|rfl|(simp;done)|(simp [*];done),by repeat (first|exact Drawn0.refl _|apply Drawn0.step)⟩
       ·rw [if_neg c7] at H
        exact absurd H (by simp)
      ·rw [if_neg c6] at H
       exact absurd H (by simp)
     ·rw [if_neg c5] at H
      exact absurd H (by simp)
    ·rw [if_neg c4] at H
     have c4b0 : decide (x13_1 < (l0.length : Int)) = false:=decide_eq_false c4
     clear c4
     obtain rfl:=Option.some.inj H
     go_wp2
     repeat (go_quiet (fail);try go_wp2)
     go_ret
     exact ⟨by first|rfl|(simp;done)|(simp [*];done),by repeat (first|exact Drawn0.refl _|apply Drawn0.step)⟩
 ·rw [if_neg c3] at H
  have c3b0 : ((l0.length : Int) == (l1.length : Int)) = false:=beq_eq_false_iff_ne.mpr c3
  have c3b1 : ((l0.length : Int) != (l1.length : Int)) = true:=bne_iff_ne.mpr c3
  have c3b2 : (l0.length == l1.length) = false:=by first|simpa using c3|(simp at c3 ⊢;omega)
  obtain rfl:=Option.some.inj H
  go_enter Try.func32,Try.ntmps32
  go_wp2
  repeat (go_quiet (fail);try go_wp2)
  go_ret
  exact ⟨by first|rfl|(simp;done)|(simp [*];done),by repeat (first|exact Drawn0.refl _|apply Drawn0.step)⟩

/-! ### scarfjointlaw03_example: function 39 -/
def scarfjointlaw03_example.f  : Option ((List (S26))):=some (([(⟨1,(⟨0,2⟩ : S24),(⟨1,0⟩ : S24)⟩ : S26),(⟨1,(⟨1,0⟩ : S24),(⟨(-1),5⟩ : S24)⟩ : S26),(⟨1,(⟨(-1),4⟩ : S24),(⟨0,0⟩ : S24)⟩ : S26)] : List (S26)))
set_option maxHeartbeats 8000000 in
set_option maxRecDepth 100000 in
theorem scarfjointlaw03_example.calls  (r : List (S26)) (w : World) (h : scarfjointlaw03_example.f  = some r) :
  Calls Try.prog 39 #[] w fun e w'=>∃ v0_ : Value,e = .returned (v0_) ∧ Kd.R k26 26 w' w.heap.size (fun _=>True) v0_ r ∧ Below w.heap.size w w':=by
 have hu24:=Try.underlying24
 have hu26:=Try.underlying26
 have HB:=Aside0.mk (Below.refl w.heap.size w)
 have H : (some (([(⟨1,(⟨0,2⟩ : S24),(⟨1,0⟩ : S24)⟩ : S26),(⟨1,(⟨1,0⟩ : S24),(⟨(-1),5⟩ : S24)⟩ : S26),(⟨1,(⟨(-1),4⟩ : S24),(⟨0,0⟩ : S24)⟩ : S26)] : List (S26)))) = some r:=h
 clear h
 obtain ⟨y247,hy247⟩ : ∃ y_ : List (S26),y_ = (([(⟨1,(⟨0,2⟩ : S24),(⟨1,0⟩ : S24)⟩ : S26),(⟨1,(⟨1,0⟩ : S24),(⟨(-1),5⟩ : S24)⟩ : S26),(⟨1,(⟨(-1),4⟩ : S24),(⟨0,0⟩ : S24)⟩ : S26)] : List (S26))):=⟨_,rfl⟩
 replace H : (some y247) = some r:=by first|(rw [hy247];with_reducible exact H)|(have H2_:=(Option.bind_some _ _).symm.trans H;rw [hy247];with_reducible exact H2_)|(have H2_:=(Option.bind_some _ _).symm.trans H;with_reducible exact H2_)|with_reducible exact H|(rw [hy247];exact H)|exact H
 have Ny247:=Aside0.mk hy247
 clear hy247
 obtain rfl:=Option.some.inj H
 go_enter Try.func39,Try.ntmps39
 go_wp2_with (first|((with_reducible refine gate_dst (N:=10) rfl ?_);refine Kd.R_lit k26 _ 26 ?hg (N:=10) ?hd (xs:=([(⟨1,(⟨0,2⟩ : S24),(⟨1,0⟩ : S24)⟩ : S26),(⟨1,(⟨1,0⟩ : S24),(⟨(-1),5⟩ : S24)⟩ : S26),(⟨1,(⟨(-1),4⟩ : S24),(⟨0,0⟩ : S24)⟩ : S26)] : List (S26))) (inner:=[.int .i64 1,.int .i64 0,.int .i64 2,.int .i64 1,.int .i64 0,.int .i64 1,.int .i64 1,.int .i64 0,.int .i64 (-1),.int .i64 5,.int .i64 1,.int .i64 (-1),.int .i64 4,.int .i64 0,.int .i64 0]) (ok:=fun _=>True) (okp:=fun _=>True) ?hr ?hp (fun _ hk=>hk) trivial (Below.refl _ _) (Nat.le_refl _) (by simp) ?_;(case hd=>rfl);(case hg=>rfl);(case hr=>first|(go_simp;done)|(go_simp;rfl));(case hp=>exact (Reps.c5 (show Kd.M k26 _ _ _ (⟨1,(⟨0,2⟩ : S24),(⟨1,0⟩ : S24)⟩ : S26) [.int .i64 1,.int .i64 0,.int .i64 2,.int .i64 1,.int .i64 0] from (k26_mkM _ _ _ (⟨1,(⟨0,2⟩ : S24),(⟨1,0⟩ : S24)⟩ : S26) )) (Reps.c5 (show Kd.M k26 _ _ _ (⟨1,(⟨1,0⟩ : S24),(⟨(-1),5⟩ : S24)⟩ : S26) [.int .i64 1,.int .i64 1,.int .i64 0,.int .i64 (-1),.int .i64 5] from (k26_mkM _ _ _ (⟨1,(⟨1,0⟩ : S24),(⟨(-1),5⟩ : S24)⟩ : S26) )) (Reps.c5 (show Kd.M k26 _ _ _ (⟨1,(⟨(-1),4⟩ : S24),(⟨0,0⟩ : S24)⟩ : S26) [.int .i64 1,.int .i64 (-1),.int .i64 4,.int .i64 0,.int .i64 0] from (k26_mkM _ _ _ (⟨1,(⟨(-1),4⟩ : S24),(⟨0,0⟩ : S24)⟩ : S26) )) (Reps.none _ _)))));intro v248 w1 ho2 hb hg_ hnew_;clear hg_ hnew_;(first|rw [← Ny247.out] at ho2|(simp only [Int.reduceToNat] at ho2;rw [← Ny247.out] at ho2));have n0_:=Aside0.mk (Kd.R_lower ho2 (below_size (by repeat (first|(with_reducible first|exact HB.out|apply below_alloc|apply pw_below_drewN|apply below_drew1)|exact HB.out))));have n1_:=Aside0.mk (below_step (by repeat (first|(with_reducible first|exact HB.out|apply below_alloc|apply pw_below_drewN|apply below_drew1)|exact HB.out)) hb);clear HB;have HO249:=n0_;have HB:=n1_;clear n0_ n1_;clear hb ho2))
 go_ret
 exact ⟨_,by first|rfl|(simp [errW_none,errW_some] <;> rfl)|(simp [*,errW_none,errW_some] <;> rfl),by (with_reducible repeat (first|apply Kd.R_alloc|apply Kd.R_drewN|apply Kd.R_drew));exact HO249.out,by repeat (first|(with_reducible first|exact HB.out|apply below_alloc|apply pw_below_drewN|apply below_drew1)|exact HB.out)⟩

/-! ### scarfjointlaw03_awake: function 12 -/
def scarfjointlaw03_awake.f (k : Nat)  : Option (Bool):=(scarfjointlaw03_example.f).bind fun t250=>(if 2 ≤ (t250.length : Int) then ((difference_Solve.f k 2 (t250.take 2)).bind fun bt257=>((difference_Implies.f k 2 (t250.take 2) 1 0 0 (-1) 3).bind fun bt265=>((difference_Refute.f k 2 t250).bind fun bt267=>(if bt257.2 = 0 then (if bt265.2 = 0 then (if bt267.2 = 0 then (if bt265.1 = true then ((slices_Equal_int_int.f k bt257.1 (([(-2),0] : List Int))).bind fun t274=>(if t274 = true then ((scarfjointref03_SameUses.f k bt267.1 (([(⟨0,1⟩ : S55),(⟨1,1⟩ : S55),(⟨2,1⟩ : S55)] : List (S55)))).bind fun t278=>(some t278)) else (some false))) else (some false)) else (some false)) else (some false)) else (some false))))) else (none))
theorem scarfjointlaw03_awake.mono : ∀ k,LeO (scarfjointlaw03_awake.f k ) (scarfjointlaw03_awake.f (k + 1) ):=by
 intro  k
 unfold scarfjointlaw03_awake.f
 repeat' first
   | (with_reducible exact difference_Implies.mono _ _ _ _ _ _ _ _)
   | (with_reducible exact difference_Refute.mono _ _ _)
   | (with_reducible exact difference_Solve.mono _ _ _)
   | (with_reducible exact scarfjointref03_SameUses.mono _ _ _)
   | (with_reducible exact slices_Equal_int_int.mono _ _ _)
   | (with_reducible exact LeO.refl _)
   | (with_reducible exact LeO.none _)
   | (with_reducible refine LeO.ite ?_ ?_)
   | (with_reducible refine LeO.bind ?_ (fun _ => ?_))
   | exact difference_Implies.mono _ _ _ _ _ _ _ _
   | exact difference_Refute.mono _ _ _
   | exact difference_Solve.mono _ _ _
   | exact scarfjointref03_SameUses.mono _ _ _
   | exact slices_Equal_int_int.mono _ _ _
   | exact LeO.none _
   | refine LeO.ite ?_ ?_
   | refine LeO.bind ?_ (fun _ => ?_)
set_option maxHeartbeats 8000000 in
set_option maxRecDepth 100000 in
theorem scarfjointlaw03_awake.calls (k : Nat)  (r : Bool) (w : World) (h : scarfjointlaw03_awake.f k  = some r) :
  Calls Try.prog 12 #[] w fun e w'=>e = .returned (.bool r) ∧ Below w.heap.size w w':=by
 have hu24:=Try.underlying24
 have hu26:=Try.underlying26
 have hu55:=Try.underlying55
 have HB:=Aside0.mk (Below.refl w.heap.size w)
 have H : ((scarfjointlaw03_example.f).bind fun t250=>(if 2 ≤ (t250.length : Int) then ((difference_Solve.f k 2 (t250.take 2)).bind fun bt257=>((difference_Implies.f k 2 (t250.take 2) 1 0 0 (-1) 3).bind fun bt265=>((difference_Refute.f k 2 t250).bind fun bt267=>(if bt257.2 = 0 then (if bt265.2 = 0 then (if bt267.2 = 0 then (if bt265.1 = true then ((slices_Equal_int_int.f k bt257.1 (([(-2),0] : List Int))).bind fun t274=>(if t274 = true then ((scarfjointref03_SameUses.f k bt267.1 (([(⟨0,1⟩ : S55),(⟨1,1⟩ : S55),(⟨2,1⟩ : S55)] : List (S55)))).bind fun t278=>(some t278)) else (some false))) else (some false)) else (some false)) else (some false)) else (some false))))) else (none))) = some r:=h
 clear h
 replace H:=Option.bind_eq_some_iff.mp H
 obtain ⟨t250,A10,H⟩:=H
 replace H : (if 2 ≤ (t250.length : Int) then ((difference_Solve.f k 2 (t250.take 2)).bind fun bt257=>((difference_Implies.f k 2 (t250.take 2) 1 0 0 (-1) 3).bind fun bt265=>((difference_Refute.f k 2 t250).bind fun bt267=>(if bt257.2 = 0 then (if bt265.2 = 0 then (if bt267.2 = 0 then (if bt265.1 = true then ((slices_Equal_int_int.f k bt257.1 (([(-2),0] : List Int))).bind fun t274=>(if t274 = true then ((scarfjointref03_SameUses.f k bt267.1 (([(⟨0,1⟩ : S55),(⟨1,1⟩ : S55),(⟨2,1⟩ : S55)] : List (S55)))).bind fun t278=>(some t278)) else (some false))) else (some false)) else (some false)) else (some false)) else (some false))))) else (none)) = some r:=H
 have A1:=Aside0.mk A10
 clear A10
 by_cases c2 : 2 ≤ (t250.length : Int)
 ·rw [if_pos c2] at H
  have c2b0:=eq_true c2
  have c2b1 : decide (2 ≤ (t250.length : Int)) = true:=decide_eq_true c2
  clear c2
  obtain ⟨y253,hy253⟩ : ∃ y_ : List (S26),y_ = (t250.take 2):=⟨_,rfl⟩
  replace H : ((difference_Solve.f k 2 y253).bind fun bt257=>((difference_Implies.f k 2 (t250.take 2) 1 0 0 (-1) 3).bind fun bt265=>((difference_Refute.f k 2 t250).bind fun bt267=>(if bt257.2 = 0 then (if bt265.2 = 0 then (if bt267.2 = 0 then (if bt265.1 = true then ((slices_Equal_int_int.f k bt257.1 (([(-2),0] : List Int))).bind fun t274=>(if t274 = true then ((scarfjointref03_SameUses.f k bt267.1 (([(⟨0,1⟩ : S55),(⟨1,1⟩ : S55),(⟨2,1⟩ : S55)] : List (S55)))).bind fun t278=>(some t278)) else (some false))) else (some false)) else (some false)) else (some false)) else (some false))))) = some r:=by first|(rw [hy253];with_reducible exact H)|(have H2_:=(Option.bind_some _ _).symm.trans H;rw [hy253];with_reducible exact H2_)|(have H2_:=(Option.bind_some _ _).symm.trans H;with_reducible exact H2_)|with_reducible exact H|(rw [hy253];exact H)|exact H
  have Ny253:=Aside0.mk hy253
  clear hy253
  replace H:=Option.bind_eq_some_iff.mp H
  obtain ⟨⟨t257,t258⟩,A30,H⟩:=H
  replace H : ((difference_Implies.f k 2 (t250.take 2) 1 0 0 (-1) 3).bind fun bt265=>((difference_Refute.f k 2 t250).bind fun bt267=>(if t258 = 0 then (if bt265.2 = 0 then (if bt267.2 = 0 then (if bt265.1 = true then ((slices_Equal_int_int.f k t257 (([(-2),0] : List Int))).bind fun t274=>(if t274 = true then ((scarfjointref03_SameUses.f k bt267.1 (([(⟨0,1⟩ : S55),(⟨1,1⟩ : S55),(⟨2,1⟩ : S55)] : List (S55)))).bind fun t278=>(some t278)) else (some false))) else (some false)) else (some false)) else (some false)) else (some false)))) = some r:=H
  have A3:=Aside0.mk A30
  clear A30
  have c4b0:=eq_true (of_decide_eq_true (by first|(with_reducible assumption)|assumption) : 2 ≤ (t250.length : Int))
  have hy261 : y253 = (t250.take 2):=Ny253.out
  replace H : ((difference_Implies.f k 2 y253 1 0 0 (-1) 3).bind fun bt265=>((difference_Refute.f k 2 t250).bind fun bt267=>(if t258 = 0 then (if bt265.2 = 0 then (if bt267.2 = 0 then (if bt265.1 = true then ((slices_Equal_int_int.f k t257 (([(-2),0] : List Int))).bind fun t274=>(if t274 = true then ((scarfjointref03_SameUses.f k bt267.1 (([(⟨0,1⟩ : S55),(⟨1,1⟩ : S55),(⟨2,1⟩ : S55)] : List (S55)))).bind fun t278=>(some t278)) else (some false))) else (some false)) else (some false)) else (some false)) else (some false)))) = some r:=by first|(rw [hy261];with_reducible exact H)|(have H2_:=(Option.bind_some _ _).symm.trans H;rw [hy261];with_reducible exact H2_)|(have H2_:=(Option.bind_some _ _).symm.trans H;with_reducible exact H2_)|with_reducible exact H|(rw [hy261];exact H)|exact H
  have Ny261:=Aside0.mk hy261
  clear hy261
  replace H:=Option.bind_eq_some_iff.mp H
  obtain ⟨⟨t265,t266⟩,A50,H⟩:=H
  replace H : ((difference_Refute.f k 2 t250).bind fun bt267=>(if t258 = 0 then (if t266 = 0 then (if bt267.2 = 0 then (if t265 = true then ((slices_Equal_int_int.f k t257 (([(-2),0] : List Int))).bind fun t274=>(if t274 = true then ((scarfjointref03_SameUses.f k bt267.1 (([(⟨0,1⟩ : S55),(⟨1,1⟩ : S55),(⟨2,1⟩ : S55)] : List (S55)))).bind fun t278=>(some t278)) else (some false))) else (some false)) else (some false)) else (some false)) else (some false))) = some r:=H
  have A5:=Aside0.mk A50
  clear A50
  replace H:=Option.bind_eq_some_iff.mp H
  obtain ⟨⟨t267,t268⟩,A60,H⟩:=H
  replace H : (if t258 = 0 then (if t266 = 0 then (if t268 = 0 then (if t265 = true then ((slices_Equal_int_int.f k t257 (([(-2),0] : List Int))).bind fun t274=>(if t274 = true then ((scarfjointref03_SameUses.f k t267 (([(⟨0,1⟩ : S55),(⟨1,1⟩ : S55),(⟨2,1⟩ : S55)] : List (S55)))).bind fun t278=>(some t278)) else (some false))) else (some false)) else (some false)) else (some false)) else (some false)) = some r:=H
  have A6:=Aside0.mk A60
  clear A60
  by_cases c7 : t258 = 0
  ·rw [if_pos c7] at H
   have c7b0 : (t258 == 0) = true:=beq_iff_eq.mpr c7
   have c7b1 : (t258 != 0) = false:=bne_eq_false_iff_eq.mpr c7
   clear c7
   by_cases c8 : t266 = 0
   ·rw [if_pos c8] at H
    have c8b0 : (t266 == 0) = true:=beq_iff_eq.mpr c8
    have c8b1 : (t266 != 0) = false:=bne_eq_false_iff_eq.mpr c8
    clear c8
    by_cases c9 : t268 = 0
    ·rw [if_pos c9] at H
     have c9b0 : (t268 == 0) = true:=beq_iff_eq.mpr c9
     have c9b1 : (t268 != 0) = false:=bne_eq_false_iff_eq.mpr c9
     clear c9
     by_cases c10 : t265 = true
     ·subst c10
      have H1 : ((slices_Equal_int_int.f k t257 (([(-2),0] : List Int))).bind fun t274=>(if t274 = true then ((scarfjointref03_SameUses.f k t267 (([(⟨0,1⟩ : S55),(⟨1,1⟩ : S55),(⟨2,1⟩ : S55)] : List (S55)))).bind fun t278=>(some t278)) else (some false))) = some r:=by rw [if_pos rfl] at H;exact H
      clear H
      have H:=H1
      clear H1
      obtain ⟨y271,hy271⟩ : ∃ y_ : List Int,y_ = (([(-2),0] : List Int)):=⟨_,rfl⟩
      replace H : ((slices_Equal_int_int.f k t257 y271).bind fun t274=>(if t274 = true then ((scarfjointref03_SameUses.f k t267 (([(⟨0,1⟩ : S55),(⟨1,1⟩ : S55),(⟨2,1⟩ : S55)] : List (S55)))).bind fun t278=>(some t278)) else (some false))) = some r:=by first|(rw [hy271];with_reducible exact H)|(have H2_:=(Option.bind_some _ _).symm.trans H;rw [hy271];with_reducible exact H2_)|(have H2_:=(Option.bind_some _ _).symm.trans H;with_reducible exact H2_)|with_reducible exact H|(rw [hy271];exact H)|exact H
      have Ny271:=Aside0.mk hy271
      clear hy271
      replace H:=Option.bind_eq_some_iff.mp H
      obtain ⟨t274,A110,H⟩:=H
      replace H : (if t274 = true then ((scarfjointref03_SameUses.f k t267 (([(⟨0,1⟩ : S55),(⟨1,1⟩ : S55),(⟨2,1⟩ : S55)] : List (S55)))).bind fun t278=>(some t278)) else (some false)) = some r:=H
      have A11:=Aside0.mk A110
      clear A110
      by_cases c12 : t274 = true
      ·subst c12
       have H1 : ((scarfjointref03_SameUses.f k t267 (([(⟨0,1⟩ : S55),(⟨1,1⟩ : S55),(⟨2,1⟩ : S55)] : List (S55)))).bind fun t278=>(some t278)) = some r:=by rw [if_pos rfl] at H;exact H
       clear H
       have H:=H1
       clear H1
       obtain ⟨y275,hy275⟩ : ∃ y_ : List (S55),y_ = (([(⟨0,1⟩ : S55),(⟨1,1⟩ : S55),(⟨2,1⟩ : S55)] : List (S55))):=⟨_,rfl⟩
       replace H : ((scarfjointref03_SameUses.f k t267 y275).bind fun t278=>(some t278)) = some r:=by first|(rw [hy275];with_reducible exact H)|(have H2_:=(Option.bind_some _ _).symm.trans H;rw [hy275];with_reducible exact H2_)|(have H2_:=(Option.bind_some _ _).symm.trans H;with_reducible exact H2_)|with_reducible exact H|(rw [hy275];exact H)|exact H
       have Ny275:=Aside0.mk hy275
       clear hy275
       replace H:=Option.bind_eq_some_iff.mp H
       obtain ⟨t278,A130,H⟩:=H
       replace H : (some t278) = some r:=H
       have A13:=Aside0.mk A130
       clear A130
       obtain rfl:=Option.some.inj H
       go_enter Try.func12,Try.ntmps12
       go_wp2_with (first|((with_reducible refine gate_callee (f:=39) rfl ?_);refine goesL_ (some 8) rfl rfl Try.func39 (by kernel_rfl) rfl #[] rfl (by (try simp only [List.map_toArray,List.map_cons,List.map_nil]);first|done|rfl|(simp only [List.length_drop,List.length_take];rfl)) ?_;(with_reducible refine (scarfjointlaw03_example.calls  t250 _ A1.out).mono ?_);rintro e w14 ⟨v251,rfl,ho0,hb⟩;refine ⟨_,rfl,?_⟩;have n0_:=Aside0.mk (Kd.R_lower ho0 (below_size (by repeat (first|(with_reducible first|exact HB.out|apply below_alloc|apply pw_below_drewN|apply below_drew1)|exact HB.out))));have n1_:=Aside0.mk (below_step (by repeat (first|(with_reducible first|exact HB.out|apply below_alloc|apply pw_below_drewN|apply below_drew1)|exact HB.out)) hb);clear HB;have HO252:=n0_;have HB:=n1_;clear n0_ n1_;(try clear hb);(try clear hb2);(try clear hk);(try clear hi);(try clear ho0);obtain ⟨Ao16,co16,eo16⟩:=Kd.R_slice HO252.out;subst eo16;have q15 : (2 : Int) ≤ ((t250.length : Int) : Int):=of_decide_eq_true (by first|(with_reducible assumption)|assumption);obtain ⟨i015,hi015,_,hsz15,_⟩:=info_parts info26;have hroom15 : t250.length ≤ co16:=(Kd.R_reads' HO252.out).2.1;have hC15 : Kd.C k26 _ Ao16 t250.length t250:=(Kd.R_reads' HO252.out).2.2;have hcut15:=cut_to (P:=Try.prog) 22 26 .i64 Try.underlying22 hi015 Ao16 t250.length co16 2 (by omega) q15 hroom15;have hr15:=Kd.C_take (m:=2) hC15 (by omega);have hy15 : y253.length = (2 : Int).toNat:=(by rw [Ny253.out,List.length_take];omega);rw [← Ny253.out] at hr15;rw [← hy15] at hcut15;have HR256:=Aside0.mk hr15;have HC256:=Aside0.mk (show y253.length ≤ co16 from by omega);clear hr15 hC15 hroom15 hi015 hsz15;have KY15:=Aside0.mk hy15;clear hy15;have KL15:=Aside0.mk (show 2 ≤ t250.length from by omega);replace q15:=eq_true q15)|((with_reducible refine gate_callee (f:=17) rfl ?_);refine goesL_ (some 12) rfl rfl Try.func17 (by kernel_rfl) rfl #[.int .i64 2,.slice Ao16 y253.length co16] rfl (by (try simp only [List.map_toArray,List.map_cons,List.map_nil]);first|done|rfl|(simp only [List.length_drop,List.length_take];rfl)) ?_;(with_reducible refine (difference_Solve.calls k 2 _ _ y253 t257 t258 _ ?side1 ?side2 A3.out).mono ?_);(case side1=>repeat (first|exact (by repeat (first|(with_reducible exact HR256.out)|(with_reducible refine Kd.C_alloc ?_ _)|(with_reducible refine Kd.C_drewN ?_ _)|(with_reducible refine Kd.C_drew ?_)|exact HR256.out))|(with_reducible refine Kd.C_alloc ?_ _)|(with_reducible refine Kd.C_drewN ?_ _)|(with_reducible refine Kd.C_drew ?_)));(case side2=>exact HC256.out);rintro e w17 ⟨v259,rfl,ho0,hb⟩;refine ⟨_,rfl,?_⟩;have n0_:=Aside0.mk (Kd.R_below (by (with_reducible repeat (first|apply Kd.R_alloc|apply Kd.R_drewN|apply Kd.R_drew));exact HO252.out) hb);have n1_:=Aside0.mk (Kd.R_lower ho0 (below_size (by repeat (first|(with_reducible first|exact HB.out|apply below_alloc|apply pw_below_drewN|apply below_drew1)|exact HB.out))));have n2_:=Aside0.mk (Kd.C_below (by repeat (first|(with_reducible exact HR256.out)|(with_reducible refine Kd.C_alloc ?_ _)|(with_reducible refine Kd.C_drewN ?_ _)|(with_reducible refine Kd.C_drew ?_)|exact HR256.out)) hb);have n3_:=Aside0.mk (below_step (by repeat (first|(with_reducible first|exact HB.out|apply below_alloc|apply pw_below_drewN|apply below_drew1)|exact HB.out)) hb);clear HO252;clear HR256;clear HB;have HO252:=n0_;have HO260:=n1_;have HR256:=n2_;have HB:=n3_;clear n0_ n1_ n2_ n3_;(try clear hb);(try clear hb2);(try clear hk);(try clear hi);(try clear ho0);have q18 : (2 : Int) ≤ ((t250.length : Int) : Int):=of_decide_eq_true (by first|(with_reducible assumption)|assumption);obtain ⟨i018,hi018,_,hsz18,_⟩:=info_parts info26;have hroom18 : t250.length ≤ co16:=(Kd.R_reads' HO252.out).2.1;have hC18 : Kd.C k26 _ Ao16 t250.length t250:=(Kd.R_reads' HO252.out).2.2;have hcut18:=cut_to (P:=Try.prog) 22 26 .i64 Try.underlying22 hi018 Ao16 t250.length co16 2 (by omega) q18 hroom18;have hr18:=Kd.C_take (m:=2) hC18 (by omega);have hy18 : y253.length = (2 : Int).toNat:=(by rw [Ny261.out,List.length_take];omega);rw [← Ny261.out] at hr18;rw [← hy18] at hcut18;have HR264:=Aside0.mk hr18;have HC264:=Aside0.mk (show y253.length ≤ co16 from by omega);clear hr18 hC18 hroom18 hi018 hsz18;have KY18:=Aside0.mk hy18;clear hy18;have KL18:=Aside0.mk (show 2 ≤ t250.length from by omega);replace q18:=eq_true q18)|((with_reducible refine gate_callee (f:=13) rfl ?_);refine goesL_ (some 21) rfl rfl Try.func13 (by kernel_rfl) rfl #[.int .i64 2,.slice Ao16 y253.length co16,.agg #[.int .i64 1,.int .i64 0,.int .i64 0,.int .i64 (-1),.int .i64 3]] rfl (by (try simp only [List.map_toArray,List.map_cons,List.map_nil]);first|done|rfl|(simp only [List.length_drop,List.length_take];rfl)) ?_;(with_reducible refine (difference_Implies.calls k 2 _ _ y253 1 0 0 (-1) 3 true t266 _ ?side1 ?side2 A5.out).mono ?_);(case side1=>repeat (first|exact (by repeat (first|(with_reducible exact HR264.out)|(with_reducible refine Kd.C_alloc ?_ _)|(with_reducible refine Kd.C_drewN ?_ _)|(with_reducible refine Kd.C_drew ?_)|exact HR264.out))|(with_reducible refine Kd.C_alloc ?_ _)|(with_reducible refine Kd.C_drewN ?_ _)|(with_reducible refine Kd.C_drew ?_)));(case side2=>exact HC264.out);rintro e w19 ⟨rfl,hb⟩;refine ⟨_,rfl,?_⟩;have n0_:=Aside0.mk (Kd.R_below (by (with_reducible repeat (first|apply Kd.R_alloc|apply Kd.R_drewN|apply Kd.R_drew));exact HO252.out) hb);have n1_:=Aside0.mk (Kd.R_below (by (with_reducible repeat (first|apply Kd.R_alloc|apply Kd.R_drewN|apply Kd.R_drew));exact HO260.out) hb);have n2_:=Aside0.mk (Kd.C_below (by repeat (first|(with_reducible exact HR256.out)|(with_reducible refine Kd.C_alloc ?_ _)|(with_reducible refine Kd.C_drewN ?_ _)|(with_reducible refine Kd.C_drew ?_)|exact HR256.out)) hb);have n3_:=Aside0.mk (Kd.C_below (by repeat (first|(with_reducible exact HR264.out)|(with_reducible refine Kd.C_alloc ?_ _)|(with_reducible refine Kd.C_drewN ?_ _)|(with_reducible refine Kd.C_drew ?_)|exact HR264.out)) hb);have n4_:=Aside0.mk (below_step (by repeat (first|(with_reducible first|exact HB.out|apply below_alloc|apply pw_below_drewN|apply below_drew1)|exact HB.out)) hb);clear HO252;clear HO260;clear HR256;clear HR264;clear HB;have HO252:=n0_;have HO260:=n1_;have HR256:=n2_;have HR264:=n3_;have HB:=n4_;clear n0_ n1_ n2_ n3_ n4_;(try clear hb);(try clear hb2);(try clear hk);(try clear hi))|((with_reducible refine gate_callee (f:=18) rfl ?_);refine goesL_ (some 26) rfl rfl Try.func18 (by kernel_rfl) rfl #[.int .i64 2,.slice Ao16 t250.length co16] rfl (by (try simp only [List.map_toArray,List.map_cons,List.map_nil]);first|done|rfl|(simp only [List.length_drop,List.length_take];rfl)) ?_;(with_reducible refine (difference_Refute.calls k 2 _ _ t250 t267 t268 _ ?side1 ?side2 A6.out).mono ?_);(case side1=>repeat (first|exact (Kd.R_reads' HO252.out).2.2|(with_reducible refine Kd.C_alloc ?_ _)|(with_reducible refine Kd.C_drewN ?_ _)|(with_reducible refine Kd.C_drew ?_)));(case side2=>exact (Kd.R_reads' HO252.out).2.1);rintro e w20 ⟨v269,rfl,ho0,hb⟩;refine ⟨_,rfl,?_⟩;have n0_:=Aside0.mk (Kd.R_below (by (with_reducible repeat (first|apply Kd.R_alloc|apply Kd.R_drewN|apply Kd.R_drew));exact HO252.out) hb);have n1_:=Aside0.mk (Kd.R_below (by (with_reducible repeat (first|apply Kd.R_alloc|apply Kd.R_drewN|apply Kd.R_drew));exact HO260.out) hb);have n2_:=Aside0.mk (Kd.R_lower ho0 (below_size (by repeat (first|(with_reducible first|exact HB.out|apply below_alloc|apply pw_below_drewN|apply below_drew1)|exact HB.out))));have n3_:=Aside0.mk (Kd.C_below (by repeat (first|(with_reducible exact HR256.out)|(with_reducible refine Kd.C_alloc ?_ _)|(with_reducible refine Kd.C_drewN ?_ _)|(with_reducible refine Kd.C_drew ?_)|exact HR256.out)) hb);have n4_:=Aside0.mk (Kd.C_below (by repeat (first|(with_reducible exact HR264.out)|(with_reducible refine Kd.C_alloc ?_ _)|(with_reducible refine Kd.C_drewN ?_ _)|(with_reducible refine Kd.C_drew ?_)|exact HR264.out)) hb);have n5_:=Aside0.mk (below_step (by repeat (first|(with_reducible first|exact HB.out|apply below_alloc|apply pw_below_drewN|apply below_drew1)|exact HB.out)) hb);clear HO252;clear HO260;clear HR256;clear HR264;clear HB;have HO252:=n0_;have HO260:=n1_;have HO270:=n2_;have HR256:=n3_;have HR264:=n4_;have HB:=n5_;clear n0_ n1_ n2_ n3_ n4_ n5_;(try clear hb);(try clear hb2);(try clear hk);(try clear hi);(try clear ho0))|((with_reducible refine gate_dst (N:=44) rfl ?_);(try (refine gate_guard (by rfl) ?_;dsimp only));refine Kd.R_lit (Kd.int .i64) _ 3 ?hg (N:=44) ?hd (xs:=([(-2),0] : List Int)) (inner:=[.int .i64 (-2),.int .i64 0]) (ok:=fun _=>True) (okp:=fun _=>True) ?hr ?hp (fun _ hk=>hk) trivial (Below.refl _ _) (Nat.le_refl _) (by simp) ?_;(case hd=>rfl);(case hg=>rfl);(case hr=>first|(go_simp;done)|(go_simp;rfl));(case hp=>exact (Reps.one (show Kd.M (Kd.int .i64) _ _ _ (-2) [.int .i64 (-2)] from rfl) (Reps.one (show Kd.M (Kd.int .i64) _ _ _ 0 [.int .i64 0] from rfl) (Reps.none _ _))));intro v272 w21 ho22 hb hg_ hnew_;clear hg_ hnew_;(first|rw [← Ny271.out] at ho22|(simp only [Int.reduceToNat] at ho22;rw [← Ny271.out] at ho22));have n0_:=Aside0.mk (Kd.R_below (by (with_reducible repeat (first|apply Kd.R_alloc|apply Kd.R_drewN|apply Kd.R_drew));exact HO252.out) hb);have n1_:=Aside0.mk (Kd.R_elder' (by (with_reducible repeat (first|apply Kd.R_alloc|apply Kd.R_drewN|apply Kd.R_drew));exact HO260.out) (Kd.R_base ho22) hb);have n2_:=Aside0.mk (Kd.R_below (by (with_reducible repeat (first|apply Kd.R_alloc|apply Kd.R_drewN|apply Kd.R_drew));exact HO270.out) hb);have n3_:=Aside0.mk (Kd.R_lower (Kd.R_new' ho22 (Kd.R_lt (by (with_reducible repeat (first|apply Kd.R_alloc|apply Kd.R_drewN|apply Kd.R_drew));exact HO260.out))) (below_size (by repeat (first|(with_reducible first|exact HB.out|apply below_alloc|apply pw_below_drewN|apply below_drew1)|exact HB.out))));have n4_:=Aside0.mk (Kd.C_below (by repeat (first|(with_reducible exact HR256.out)|(with_reducible refine Kd.C_alloc ?_ _)|(with_reducible refine Kd.C_drewN ?_ _)|(with_reducible refine Kd.C_drew ?_)|exact HR256.out)) hb);have n5_:=Aside0.mk (Kd.C_below (by repeat (first|(with_reducible exact HR264.out)|(with_reducible refine Kd.C_alloc ?_ _)|(with_reducible refine Kd.C_drewN ?_ _)|(with_reducible refine Kd.C_drew ?_)|exact HR264.out)) hb);have n6_:=Aside0.mk (below_step (by repeat (first|(with_reducible first|exact HB.out|apply below_alloc|apply pw_below_drewN|apply below_drew1)|exact HB.out)) hb);clear HO252;clear HO260;clear HO270;clear HR256;clear HR264;clear HB;have HO252:=n0_;have HO260:=n1_;have HO270:=n2_;have HO273:=n3_;have HR256:=n4_;have HR264:=n5_;have HB:=n6_;clear n0_ n1_ n2_ n3_ n4_ n5_ n6_;clear hb ho22;obtain ⟨Ao23,co23,eo23⟩:=Kd.R_slice HO260.out;subst eo23;obtain ⟨Ao24,co24,eo24⟩:=Kd.R_slice HO273.out;subst eo24)|(go_at_call 32;(with_reducible refine (slices_Equal_int_int.calls k _ _ t257 _ _ y271 true _ ?side1 ?side2 ?side3 ?side4 A11.out).mono ?_);(case side1=>repeat (first|exact (Kd.R_reads' HO260.out).2.2|(with_reducible refine Kd.C_alloc ?_ _)|(with_reducible refine Kd.C_drewN ?_ _)|(with_reducible refine Kd.C_drew ?_)));(case side2=>exact (Kd.R_reads' HO260.out).2.1);(case side3=>repeat (first|exact (Kd.R_reads' HO273.out).2.2|(with_reducible refine Kd.C_alloc ?_ _)|(with_reducible refine Kd.C_drewN ?_ _)|(with_reducible refine Kd.C_drew ?_)));(case side4=>exact (Kd.R_reads' HO273.out).2.1);rintro e w' ⟨rfl,⟨nd,rfl⟩⟩)|((with_reducible refine gate_dst (N:=52) rfl ?_);(try (refine gate_guard (by rfl) ?_;dsimp only));refine Kd.R_lit k55 _ 55 ?hg (N:=52) ?hd (xs:=([(⟨0,1⟩ : S55),(⟨1,1⟩ : S55),(⟨2,1⟩ : S55)] : List (S55))) (inner:=[.int .i64 0,.int .i64 1,.int .i64 1,.int .i64 1,.int .i64 2,.int .i64 1]) (ok:=fun _=>True) (okp:=fun _=>True) ?hr ?hp (fun _ hk=>hk) trivial (Below.refl _ _) (Nat.le_refl _) (by simp) ?_;(case hd=>rfl);(case hg=>rfl);(case hr=>first|(go_simp;done)|(go_simp;rfl));(case hp=>exact (Reps.c2 (show Kd.M k55 _ _ _ (⟨0,1⟩ : S55) [.int .i64 0,.int .i64 1] from (k55_mkM _ _ _ (⟨0,1⟩ : S55) )) (Reps.c2 (show Kd.M k55 _ _ _ (⟨1,1⟩ : S55) [.int .i64 1,.int .i64 1] from (k55_mkM _ _ _ (⟨1,1⟩ : S55) )) (Reps.c2 (show Kd.M k55 _ _ _ (⟨2,1⟩ : S55) [.int .i64 2,.int .i64 1] from (k55_mkM _ _ _ (⟨2,1⟩ : S55) )) (Reps.none _ _)))));intro v276 w25 ho26 hb hg_ hnew_;clear hg_ hnew_;(first|rw [← Ny275.out] at ho26|(simp only [Int.reduceToNat] at ho26;rw [← Ny275.out] at ho26));have n0_:=Aside0.mk (Kd.R_below (by (with_reducible repeat (first|apply Kd.R_alloc|apply Kd.R_drewN|apply Kd.R_drew));exact HO252.out) hb);have n1_:=Aside0.mk (Kd.R_below (by (with_reducible repeat (first|apply Kd.R_alloc|apply Kd.R_drewN|apply Kd.R_drew));exact HO260.out) hb);have n2_:=Aside0.mk (Kd.R_elder' (by (with_reducible repeat (first|apply Kd.R_alloc|apply Kd.R_drewN|apply Kd.R_drew));exact HO270.out) (Kd.R_base ho26) hb);have n3_:=Aside0.mk (Kd.R_below (by (with_reducible repeat (first|apply Kd.R_alloc|apply Kd.R_drewN|apply Kd.R_drew));exact HO273.out) hb);have n4_:=Aside0.mk (Kd.R_lower (Kd.R_new' ho26 (Kd.R_lt (by (with_reducible repeat (first|apply Kd.R_alloc|apply Kd.R_drewN|apply Kd.R_drew));exact HO270.out))) (below_size (by repeat (first|(with_reducible first|exact HB.out|apply below_alloc|apply pw_below_drewN|apply below_drew1)|exact HB.out))));have n5_:=Aside0.mk (Kd.C_below (by repeat (first|(with_reducible exact HR256.out)|(with_reducible refine Kd.C_alloc ?_ _)|(with_reducible refine Kd.C_drewN ?_ _)|(with_reducible refine Kd.C_drew ?_)|exact HR256.out)) hb);have n6_:=Aside0.mk (Kd.C_below (by repeat (first|(with_reducible exact HR264.out)|(with_reducible refine Kd.C_alloc ?_ _)|(with_reducible refine Kd.C_drewN ?_ _)|(with_reducible refine Kd.C_drew ?_)|exact HR264.out)) hb);have n7_:=Aside0.mk (below_step (by repeat (first|(with_reducible first|exact HB.out|apply below_alloc|apply pw_below_drewN|apply below_drew1)|exact HB.out)) hb);clear HO252;clear HO260;clear HO270;clear HO273;clear HR256;clear HR264;clear HB;have HO252:=n0_;have HO260:=n1_;have HO270:=n2_;have HO273:=n3_;have HO277:=n4_;have HR256:=n5_;have HR264:=n6_;have HB:=n7_;clear n0_ n1_ n2_ n3_ n4_ n5_ n6_ n7_;clear hb ho26;obtain ⟨Ao27,co27,eo27⟩:=Kd.R_slice HO270.out;subst eo27;obtain ⟨Ao28,co28,eo28⟩:=Kd.R_slice HO277.out;subst eo28)|(go_at_call 24;(with_reducible refine (scarfjointref03_SameUses.calls k _ _ t267 _ _ y275 t278 _ ?side1 ?side2 ?side3 ?side4 A13.out).mono ?_);(case side1=>repeat (first|exact (Kd.R_reads' HO270.out).2.2|(with_reducible refine Kd.C_alloc ?_ _)|(with_reducible refine Kd.C_drewN ?_ _)|(with_reducible refine Kd.C_drew ?_)));(case side2=>exact (Kd.R_reads' HO270.out).2.1);(case side3=>repeat (first|exact (Kd.R_reads' HO277.out).2.2|(with_reducible refine Kd.C_alloc ?_ _)|(with_reducible refine Kd.C_drewN ?_ _)|(with_reducible refine Kd.C_drew ?_)));(case side4=>exact (Kd.R_reads' HO277.out).2.1);rintro e w' ⟨rfl,⟨nd,rfl⟩⟩))
       go_ret
       exact ⟨by first|rfl|(simp [errW_none,errW_some] <;> rfl)|(simp [*,errW_none,errW_some] <;> rfl),by repeat (first|(with_reducible first|exact HB.out|apply below_alloc|apply pw_below_drewN|apply below_drew1)|exact HB.out)⟩
      ·replace c12:=Bool.eq_false_iff.mpr c12
       subst c12
       have H1 : (some false) = some r:=by rw [if_neg (show ¬ (false = true) by decide)] at H;exact H
       clear H
       have H:=H1
       clear H1
       obtain rfl:=Option.some.inj H
       go_enter Try.func12,Try.ntmps12
       go_wp2_with (first|((with_reducible refine gate_callee (f:=39) rfl ?_);refine goesL_ (some 8) rfl rfl Try.func39 (by kernel_rfl) rfl #[] rfl (by (try simp only [List.map_toArray,List.map_cons,List.map_nil]);first|done|rfl|(simp only [List.length_drop,List.length_take];rfl)) ?_;(with_reducible refine (scarfjointlaw03_example.calls  t250 _ A1.out).mono ?_);rintro e w29 ⟨v251,rfl,ho0,hb⟩;refine ⟨_,rfl,?_⟩;have n0_:=Aside0.mk (Kd.R_lower ho0 (below_size (by repeat (first|(with_reducible first|exact HB.out|apply below_alloc|apply pw_below_drewN|apply below_drew1)|exact HB.out))));have n1_:=Aside0.mk (below_step (by repeat (first|(with_reducible first|exact HB.out|apply below_alloc|apply pw_below_drewN|apply below_drew1)|exact HB.out)) hb);clear HB;have HO252:=n0_;have HB:=n1_;clear n0_ n1_;(try clear hb);(try clear hb2);(try clear hk);(try clear hi);(try clear ho0);obtain ⟨Ao31,co31,eo31⟩:=Kd.R_slice HO252.out;subst eo31;have q30 : (2 : Int) ≤ ((t250.length : Int) : Int):=of_decide_eq_true (by first|(with_reducible assumption)|assumption);obtain ⟨i030,hi030,_,hsz30,_⟩:=info_parts info26;have hroom30 : t250.length ≤ co31:=(Kd.R_reads' HO252.out).2.1;have hC30 : Kd.C k26 _ Ao31 t250.length t250:=(Kd.R_reads' HO252.out).2.2;have hcut30:=cut_to (P:=Try.prog) 22 26 .i64 Try.underlying22 hi030 Ao31 t250.length co31 2 (by omega) q30 hroom30;have hr30:=Kd.C_take (m:=2) hC30 (by omega);have hy30 : y253.length = (2 : Int).toNat:=(by rw [Ny253.out,List.length_take];omega);rw [← Ny253.out] at hr30;rw [← hy30] at hcut30;have HR256:=Aside0.mk hr30;have HC256:=Aside0.mk (show y253.length ≤ co31 from by omega);clear hr30 hC30 hroom30 hi030 hsz30;have KY30:=Aside0.mk hy30;clear hy30;have KL30:=Aside0.mk (show 2 ≤ t250.length from by omega);replace q30:=eq_true q30)|((with_reducible refine gate_callee (f:=17) rfl ?_);refine goesL_ (some 12) rfl rfl Try.func17 (by kernel_rfl) rfl #[.int .i64 2,.slice Ao31 y253.length co31] rfl (by (try simp only [List.map_toArray,List.map_cons,List.map_nil]);first|done|rfl|(simp only [List.length_drop,List.length_take];rfl)) ?_;(with_reducible refine (difference_Solve.calls k 2 _ _ y253 t257 t258 _ ?side1 ?side2 A3.out).mono ?_);(case side1=>repeat (first|exact (by repeat (first|(with_reducible exact HR256.out)|(with_reducible refine Kd.C_alloc ?_ _)|(with_reducible refine Kd.C_drewN ?_ _)|(with_reducible refine Kd.C_drew ?_)|exact HR256.out))|(with_reducible refine Kd.C_alloc ?_ _)|(with_reducible refine Kd.C_drewN ?_ _)|(with_reducible refine Kd.C_drew ?_)));(case side2=>exact HC256.out);rintro e w32 ⟨v259,rfl,ho0,hb⟩;refine ⟨_,rfl,?_⟩;have n0_:=Aside0.mk (Kd.R_below (by (with_reducible repeat (first|apply Kd.R_alloc|apply Kd.R_drewN|apply Kd.R_drew));exact HO252.out) hb);have n1_:=Aside0.mk (Kd.R_lower ho0 (below_size (by repeat (first|(with_reducible first|exact HB.out|apply below_alloc|apply pw_below_drewN|apply below_drew1)|exact HB.out))));have n2_:=Aside0.mk (Kd.C_below (by repeat (first|(with_reducible exact HR256.out)|(with_reducible refine Kd.C_alloc ?_ _)|(with_reducible refine Kd.C_drewN ?_ _)|(with_reducible refine Kd.C_drew ?_)|exact HR256.out)) hb);have n3_:=Aside0.mk (below_step (by repeat (first|(with_reducible first|exact HB.out|apply below_alloc|apply pw_below_drewN|apply below_drew1)|exact HB.out)) hb);clear HO252;clear HR256;clear HB;have HO252:=n0_;have HO260:=n1_;have HR256:=n2_;have HB:=n3_;clear n0_ n1_ n2_ n3_;(try clear hb);(try clear hb2);(try clear hk);(try clear hi);(try clear ho0);have q33 : (2 : Int) ≤ ((t250.length : Int) : Int):=of_decide_eq_true (by first|(with_reducible assumption)|assumption);obtain ⟨i033,hi033,_,hsz33,_⟩:=info_parts info26;have hroom33 : t250.length ≤ co31:=(Kd.R_reads' HO252.out).2.1;have hC33 : Kd.C k26 _ Ao31 t250.length t250:=(Kd.R_reads' HO252.out).2.2;have hcut33:=cut_to (P:=Try.prog) 22 26 .i64 Try.underlying22 hi033 Ao31 t250.length co31 2 (by omega) q33 hroom33;have hr33:=Kd.C_take (m:=2) hC33 (by omega);have hy33 : y253.length = (2 : Int).toNat:=(by rw [Ny261.out,List.length_take];omega);rw [← Ny261.out] at hr33;rw [← hy33] at hcut33;have HR264:=Aside0.mk hr33;have HC264:=Aside0.mk (show y253.length ≤ co31 from by omega);clear hr33 hC33 hroom33 hi033 hsz33;have KY33:=Aside0.mk hy33;clear hy33;have KL33:=Aside0.mk (show 2 ≤ t250.length from by omega);replace q33:=eq_true q33)|((with_reducible refine gate_callee (f:=13) rfl ?_);refine goesL_ (some 21) rfl rfl Try.func13 (by kernel_rfl) rfl #[.int .i64 2,.slice Ao31 y253.length co31,.agg #[.int .i64 1,.int .i64 0,.int .i64 0,.int .i64 (-1),.int .i64 3]] rfl (by (try simp only [List.map_toArray,List.map_cons,List.map_nil]);first|done|rfl|(simp only [List.length_drop,List.length_take];rfl)) ?_;(with_reducible refine (difference_Implies.calls k 2 _ _ y253 1 0 0 (-1) 3 true t266 _ ?side1 ?side2 A5.out).mono ?_);(case side1=>repeat (first|exact (by repeat (first|(with_reducible exact HR264.out)|(with_reducible refine Kd.C_alloc ?_ _)|(with_reducible refine Kd.C_drewN ?_ _)|(with_reducible refine Kd.C_drew ?_)|exact HR264.out))|(with_reducible refine Kd.C_alloc ?_ _)|(with_reducible refine Kd.C_drewN ?_ _)|(with_reducible refine Kd.C_drew ?_)));(case side2=>exact HC264.out);rintro e w34 ⟨rfl,hb⟩;refine ⟨_,rfl,?_⟩;have n0_:=Aside0.mk (Kd.R_below (by (with_reducible repeat (first|apply Kd.R_alloc|apply Kd.R_drewN|apply Kd.R_drew));exact HO252.out) hb);have n1_:=Aside0.mk (Kd.R_below (by (with_reducible repeat (first|apply Kd.R_alloc|apply Kd.R_drewN|apply Kd.R_drew));exact HO260.out) hb);have n2_:=Aside0.mk (Kd.C_below (by repeat (first|(with_reducible exact HR256.out)|(with_reducible refine Kd.C_alloc ?_ _)|(with_reducible refine Kd.C_drewN ?_ _)|(with_reducible refine Kd.C_drew ?_)|exact HR256.out)) hb);have n3_:=Aside0.mk (Kd.C_below (by repeat (first|(with_reducible exact HR264.out)|(with_reducible refine Kd.C_alloc ?_ _)|(with_reducible refine Kd.C_drewN ?_ _)|(with_reducible refine Kd.C_drew ?_)|exact HR264.out)) hb);have n4_:=Aside0.mk (below_step (by repeat (first|(with_reducible first|exact HB.out|apply below_alloc|apply pw_below_drewN|apply below_drew1)|exact HB.out)) hb);clear HO252;clear HO260;clear HR256;clear HR264;clear HB;have HO252:=n0_;have HO260:=n1_;have HR256:=n2_;have HR264:=n3_;have HB:=n4_;clear n0_ n1_ n2_ n3_ n4_;(try clear hb);(try clear hb2);(try clear hk);(try clear hi))|((with_reducible refine gate_callee (f:=18) rfl ?_);refine goesL_ (some 26) rfl rfl Try.func18 (by kernel_rfl) rfl #[.int .i64 2,.slice Ao31 t250.length co31] rfl (by (try simp only [List.map_toArray,List.map_cons,List.map_nil]);first|done|rfl|(simp only [List.length_drop,List.length_take];rfl)) ?_;(with_reducible refine (difference_Refute.calls k 2 _ _ t250 t267 t268 _ ?side1 ?side2 A6.out).mono ?_);(case side1=>repeat (first|exact (Kd.R_reads' HO252.out).2.2|(with_reducible refine Kd.C_alloc ?_ _)|(with_reducible refine Kd.C_drewN ?_ _)|(with_reducible refine Kd.C_drew ?_)));(case side2=>exact (Kd.R_reads' HO252.out).2.1);rintro e w35 ⟨v269,rfl,ho0,hb⟩;refine ⟨_,rfl,?_⟩;have n0_:=Aside0.mk (Kd.R_below (by (with_reducible repeat (first|apply Kd.R_alloc|apply Kd.R_drewN|apply Kd.R_drew));exact HO252.out) hb);have n1_:=Aside0.mk (Kd.R_below (by (with_reducible repeat (first|apply Kd.R_alloc|apply Kd.R_drewN|apply Kd.R_drew));exact HO260.out) hb);have n2_:=Aside0.mk (Kd.R_lower ho0 (below_size (by repeat (first|(with_reducible first|exact HB.out|apply below_alloc|apply pw_below_drewN|apply below_drew1)|exact HB.out))));have n3_:=Aside0.mk (Kd.C_below (by repeat (first|(with_reducible exact HR256.out)|(with_reducible refine Kd.C_alloc ?_ _)|(with_reducible refine Kd.C_drewN ?_ _)|(with_reducible refine Kd.C_drew ?_)|exact HR256.out)) hb);have n4_:=Aside0.mk (Kd.C_below (by repeat (first|(with_reducible exact HR264.out)|(with_reducible refine Kd.C_alloc ?_ _)|(with_reducible refine Kd.C_drewN ?_ _)|(with_reducible refine Kd.C_drew ?_)|exact HR264.out)) hb);have n5_:=Aside0.mk (below_step (by repeat (first|(with_reducible first|exact HB.out|apply below_alloc|apply pw_below_drewN|apply below_drew1)|exact HB.out)) hb);clear HO252;clear HO260;clear HR256;clear HR264;clear HB;have HO252:=n0_;have HO260:=n1_;have HO270:=n2_;have HR256:=n3_;have HR264:=n4_;have HB:=n5_;clear n0_ n1_ n2_ n3_ n4_ n5_;(try clear hb);(try clear hb2);(try clear hk);(try clear hi);(try clear ho0))|((with_reducible refine gate_dst (N:=44) rfl ?_);(try (refine gate_guard (by rfl) ?_;dsimp only));refine Kd.R_lit (Kd.int .i64) _ 3 ?hg (N:=44) ?hd (xs:=([(-2),0] : List Int)) (inner:=[.int .i64 (-2),.int .i64 0]) (ok:=fun _=>True) (okp:=fun _=>True) ?hr ?hp (fun _ hk=>hk) trivial (Below.refl _ _) (Nat.le_refl _) (by simp) ?_;(case hd=>rfl);(case hg=>rfl);(case hr=>first|(go_simp;done)|(go_simp;rfl));(case hp=>exact (Reps.one (show Kd.M (Kd.int .i64) _ _ _ (-2) [.int .i64 (-2)] from rfl) (Reps.one (show Kd.M (Kd.int .i64) _ _ _ 0 [.int .i64 0] from rfl) (Reps.none _ _))));intro v272 w36 ho37 hb hg_ hnew_;clear hg_ hnew_;(first|rw [← Ny271.out] at ho37|(simp only [Int.reduceToNat] at ho37;rw [← Ny271.out] at ho37));have n0_:=Aside0.mk (Kd.R_below (by (with_reducible repeat (first|apply Kd.R_alloc|apply Kd.R_drewN|apply Kd.R_drew));exact HO252.out) hb);have n1_:=Aside0.mk (Kd.R_elder' (by (with_reducible repeat (first|apply Kd.R_alloc|apply Kd.R_drewN|apply Kd.R_drew));exact HO260.out) (Kd.R_base ho37) hb);have n2_:=Aside0.mk (Kd.R_below (by (with_reducible repeat (first|apply Kd.R_alloc|apply Kd.R_drewN|apply Kd.R_drew));exact HO270.out) hb);have n3_:=Aside0.mk (Kd.R_lower (Kd.R_new' ho37 (Kd.R_lt (by (with_reducible repeat (first|apply Kd.R_alloc|apply Kd.R_drewN|apply Kd.R_drew));exact HO260.out))) (below_size (by repeat (first|(with_reducible first|exact HB.out|apply below_alloc|apply pw_below_drewN|apply below_drew1)|exact HB.out))));have n4_:=Aside0.mk (Kd.C_below (by repeat (first|(with_reducible exact HR256.out)|(with_reducible refine Kd.C_alloc ?_ _)|(with_reducible refine Kd.C_drewN ?_ _)|(with_reducible refine Kd.C_drew ?_)|exact HR256.out)) hb);have n5_:=Aside0.mk (Kd.C_below (by repeat (first|(with_reducible exact HR264.out)|(with_reducible refine Kd.C_alloc ?_ _)|(with_reducible refine Kd.C_drewN ?_ _)|(with_reducible refine Kd.C_drew ?_)|exact HR264.out)) hb);have n6_:=Aside0.mk (below_step (by repeat (first|(with_reducible first|exact HB.out|apply below_alloc|apply pw_below_drewN|apply below_drew1)|exact HB.out)) hb);clear HO252;clear HO260;clear HO270;clear HR256;clear HR264;clear HB;have HO252:=n0_;have HO260:=n1_;have HO270:=n2_;have HO273:=n3_;have HR256:=n4_;have HR264:=n5_;have HB:=n6_;clear n0_ n1_ n2_ n3_ n4_ n5_ n6_;clear hb ho37;obtain ⟨Ao38,co38,eo38⟩:=Kd.R_slice HO260.out;subst eo38;obtain ⟨Ao39,co39,eo39⟩:=Kd.R_slice HO273.out;subst eo39)|(go_at_call 32;(with_reducible refine (slices_Equal_int_int.calls k _ _ t257 _ _ y271 false _ ?side1 ?side2 ?side3 ?side4 A11.out).mono ?_);(case side1=>repeat (first|exact (Kd.R_reads' HO260.out).2.2|(with_reducible refine Kd.C_alloc ?_ _)|(with_reducible refine Kd.C_drewN ?_ _)|(with_reducible refine Kd.C_drew ?_)));(case side2=>exact (Kd.R_reads' HO260.out).2.1);(case side3=>repeat (first|exact (Kd.R_reads' HO273.out).2.2|(with_reducible refine Kd.C_alloc ?_ _)|(with_reducible refine Kd.C_drewN ?_ _)|(with_reducible refine Kd.C_drew ?_)));(case side4=>exact (Kd.R_reads' HO273.out).2.1);rintro e w' ⟨rfl,⟨nd,rfl⟩⟩))
       go_ret
       exact ⟨by first|rfl|(simp [errW_none,errW_some] <;> rfl)|(simp [*,errW_none,errW_some] <;> rfl),by repeat (first|(with_reducible first|exact HB.out|apply below_alloc|apply pw_below_drewN|apply below_drew1)|exact HB.out)⟩
     ·replace c10:=Bool.eq_false_iff.mpr c10
      subst c10
      have H1 : (some false) = some r:=by rw [if_neg (show ¬ (false = true) by decide)] at H;exact H
      clear H
      have H:=H1
      clear H1
      obtain rfl:=Option.some.inj H
      go_enter Try.func12,Try.ntmps12
      go_wp2_with (first|((with_reducible refine gate_callee (f:=39) rfl ?_);refine goesL_ (some 8) rfl rfl Try.func39 (by kernel_rfl) rfl #[] rfl (by (try simp only [List.map_toArray,List.map_cons,List.map_nil]);first|done|rfl|(simp only [List.length_drop,List.length_take];rfl)) ?_;(with_reducible refine (scarfjointlaw03_example.calls  t250 _ A1.out).mono ?_);rintro e w40 ⟨v251,rfl,ho0,hb⟩;refine ⟨_,rfl,?_⟩;have n0_:=Aside0.mk (Kd.R_lower ho0 (below_size (by repeat (first|(with_reducible first|exact HB.out|apply below_alloc|apply pw_below_drewN|apply below_drew1)|exact HB.out))));have n1_:=Aside0.mk (below_step (by repeat (first|(with_reducible first|exact HB.out|apply below_alloc|apply pw_below_drewN|apply below_drew1)|exact HB.out)) hb);clear HB;have HO252:=n0_;have HB:=n1_;clear n0_ n1_;(try clear hb);(try clear hb2);(try clear hk);(try clear hi);(try clear ho0);obtain ⟨Ao42,co42,eo42⟩:=Kd.R_slice HO252.out;subst eo42;have q41 : (2 : Int) ≤ ((t250.length : Int) : Int):=of_decide_eq_true (by first|(with_reducible assumption)|assumption);obtain ⟨i041,hi041,_,hsz41,_⟩:=info_parts info26;have hroom41 : t250.length ≤ co42:=(Kd.R_reads' HO252.out).2.1;have hC41 : Kd.C k26 _ Ao42 t250.length t250:=(Kd.R_reads' HO252.out).2.2;have hcut41:=cut_to (P:=Try.prog) 22 26 .i64 Try.underlying22 hi041 Ao42 t250.length co42 2 (by omega) q41 hroom41;have hr41:=Kd.C_take (m:=2) hC41 (by omega);have hy41 : y253.length = (2 : Int).toNat:=(by rw [Ny253.out,List.length_take];omega);rw [← Ny253.out] at hr41;rw [← hy41] at hcut41;have HR256:=Aside0.mk hr41;have HC256:=Aside0.mk (show y253.length ≤ co42 from by omega);clear hr41 hC41 hroom41 hi041 hsz41;have KY41:=Aside0.mk hy41;clear hy41;have KL41:=Aside0.mk (show 2 ≤ t250.length from by omega);replace q41:=eq_true q41)|((with_reducible refine gate_callee (f:=17) rfl ?_);refine goesL_ (some 12) rfl rfl Try.func17 (by kernel_rfl) rfl #[.int .i64 2,.slice Ao42 y253.length co42] rfl (by (try simp only [List.map_toArray,List.map_cons,List.map_nil]);first|done|rfl|(simp only [List.length_drop,List.length_take];rfl)) ?_;(with_reducible refine (difference_Solve.calls k 2 _ _ y253 t257 t258 _ ?side1 ?side2 A3.out).mono ?_);(case side1=>repeat (first|exact (by repeat (first|(with_reducible exact HR256.out)|(with_reducible refine Kd.C_alloc ?_ _)|(with_reducible refine Kd.C_drewN ?_ _)|(with_reducible refine Kd.C_drew ?_)|exact HR256.out))|(with_reducible refine Kd.C_alloc ?_ _)|(with_reducible refine Kd.C_drewN ?_ _)|(with_reducible refine Kd.C_drew ?_)));(case side2=>exact HC256.out);rintro e w43 ⟨v259,rfl,ho0,hb⟩;refine ⟨_,rfl,?_⟩;have n0_:=Aside0.mk (Kd.R_below (by (with_reducible repeat (first|apply Kd.R_alloc|apply Kd.R_drewN|apply Kd.R_drew));exact HO252.out) hb);have n1_:=Aside0.mk (Kd.R_lower ho0 (below_size (by repeat (first|(with_reducible first|exact HB.out|apply below_alloc|apply pw_below_drewN|apply below_drew1)|exact HB.out))));have n2_:=Aside0.mk (Kd.C_below (by repeat (first|(with_reducible exact HR256.out)|(with_reducible refine Kd.C_alloc ?_ _)|(with_reducible refine Kd.C_drewN ?_ _)|(with_reducible refine Kd.C_drew ?_)|exact HR256.out)) hb);have n3_:=Aside0.mk (below_step (by repeat (first|(with_reducible first|exact HB.out|apply below_alloc|apply pw_below_drewN|apply below_drew1)|exact HB.out)) hb);clear HO252;clear HR256;clear HB;have HO252:=n0_;have HO260:=n1_;have HR256:=n2_;have HB:=n3_;clear n0_ n1_ n2_ n3_;(try clear hb);(try clear hb2);(try clear hk);(try clear hi);(try clear ho0);have q44 : (2 : Int) ≤ ((t250.length : Int) : Int):=of_decide_eq_true (by first|(with_reducible assumption)|assumption);obtain ⟨i044,hi044,_,hsz44,_⟩:=info_parts info26;have hroom44 : t250.length ≤ co42:=(Kd.R_reads' HO252.out).2.1;have hC44 : Kd.C k26 _ Ao42 t250.length t250:=(Kd.R_reads' HO252.out).2.2;have hcut44:=cut_to (P:=Try.prog) 22 26 .i64 Try.underlying22 hi044 Ao42 t250.length co42 2 (by omega) q44 hroom44;have hr44:=Kd.C_take (m:=2) hC44 (by omega);have hy44 : y253.length = (2 : Int).toNat:=(by rw [Ny261.out,List.length_take];omega);rw [← Ny261.out] at hr44;rw [← hy44] at hcut44;have HR264:=Aside0.mk hr44;have HC264:=Aside0.mk (show y253.length ≤ co42 from by omega);clear hr44 hC44 hroom44 hi044 hsz44;have KY44:=Aside0.mk hy44;clear hy44;have KL44:=Aside0.mk (show 2 ≤ t250.length from by omega);replace q44:=eq_true q44)|((with_reducible refine gate_callee (f:=13) rfl ?_);refine goesL_ (some 21) rfl rfl Try.func13 (by kernel_rfl) rfl #[.int .i64 2,.slice Ao42 y253.length co42,.agg #[.int .i64 1,.int .i64 0,.int .i64 0,.int .i64 (-1),.int .i64 3]] rfl (by (try simp only [List.map_toArray,List.map_cons,List.map_nil]);first|done|rfl|(simp only [List.length_drop,List.length_take];rfl)) ?_;(with_reducible refine (difference_Implies.calls k 2 _ _ y253 1 0 0 (-1) 3 false t266 _ ?side1 ?side2 A5.out).mono ?_);(case side1=>repeat (first|exact (by repeat (first|(with_reducible exact HR264.out)|(with_reducible refine Kd.C_alloc ?_ _)|(with_reducible refine Kd.C_drewN ?_ _)|(with_reducible refine Kd.C_drew ?_)|exact HR264.out))|(with_reducible refine Kd.C_alloc ?_ _)|(with_reducible refine Kd.C_drewN ?_ _)|(with_reducible refine Kd.C_drew ?_)));(case side2=>exact HC264.out);rintro e w45 ⟨rfl,hb⟩;refine ⟨_,rfl,?_⟩;have n0_:=Aside0.mk (Kd.R_below (by (with_reducible repeat (first|apply Kd.R_alloc|apply Kd.R_drewN|apply Kd.R_drew));exact HO252.out) hb);have n1_:=Aside0.mk (Kd.R_below (by (with_reducible repeat (first|apply Kd.R_alloc|apply Kd.R_drewN|apply Kd.R_drew));exact HO260.out) hb);have n2_:=Aside0.mk (Kd.C_below (by repeat (first|(with_reducible exact HR256.out)|(with_reducible refine Kd.C_alloc ?_ _)|(with_reducible refine Kd.C_drewN ?_ _)|(with_reducible refine Kd.C_drew ?_)|exact HR256.out)) hb);have n3_:=Aside0.mk (Kd.C_below (by repeat (first|(with_reducible exact HR264.out)|(with_reducible refine Kd.C_alloc ?_ _)|(with_reducible refine Kd.C_drewN ?_ _)|(with_reducible refine Kd.C_drew ?_)|exact HR264.out)) hb);have n4_:=Aside0.mk (below_step (by repeat (first|(with_reducible first|exact HB.out|apply below_alloc|apply pw_below_drewN|apply below_drew1)|exact HB.out)) hb);clear HO252;clear HO260;clear HR256;clear HR264;clear HB;have HO252:=n0_;have HO260:=n1_;have HR256:=n2_;have HR264:=n3_;have HB:=n4_;clear n0_ n1_ n2_ n3_ n4_;(try clear hb);(try clear hb2);(try clear hk);(try clear hi))|((with_reducible refine gate_callee (f:=18) rfl ?_);refine goesL_ (some 26) rfl rfl Try.func18 (by kernel_rfl) rfl #[.int .i64 2,.slice Ao42 t250.length co42] rfl (by (try simp only [List.map_toArray,List.map_cons,List.map_nil]);first|done|rfl|(simp only [List.length_drop,List.length_take];rfl)) ?_;(with_reducible refine (difference_Refute.calls k 2 _ _ t250 t267 t268 _ ?side1 ?side2 A6.out).mono ?_);(case side1=>repeat (first|exact (Kd.R_reads' HO252.out).2.2|(with_reducible refine Kd.C_alloc ?_ _)|(with_reducible refine Kd.C_drewN ?_ _)|(with_reducible refine Kd.C_drew ?_)));(case side2=>exact (Kd.R_reads' HO252.out).2.1);rintro e w46 ⟨v269,rfl,ho0,hb⟩;refine ⟨_,rfl,?_⟩;have n0_:=Aside0.mk (Kd.R_below (by (with_reducible repeat (first|apply Kd.R_alloc|apply Kd.R_drewN|apply Kd.R_drew));exact HO252.out) hb);have n1_:=Aside0.mk (Kd.R_below (by (with_reducible repeat (first|apply Kd.R_alloc|apply Kd.R_drewN|apply Kd.R_drew));exact HO260.out) hb);have n2_:=Aside0.mk (Kd.R_lower ho0 (below_size (by repeat (first|(with_reducible first|exact HB.out|apply below_alloc|apply pw_below_drewN|apply below_drew1)|exact HB.out))));have n3_:=Aside0.mk (Kd.C_below (by repeat (first|(with_reducible exact HR256.out)|(with_reducible refine Kd.C_alloc ?_ _)|(with_reducible refine Kd.C_drewN ?_ _)|(with_reducible refine Kd.C_drew ?_)|exact HR256.out)) hb);have n4_:=Aside0.mk (Kd.C_below (by repeat (first|(with_reducible exact HR264.out)|(with_reducible refine Kd.C_alloc ?_ _)|(with_reducible refine Kd.C_drewN ?_ _)|(with_reducible refine Kd.C_drew ?_)|exact HR264.out)) hb);have n5_:=Aside0.mk (below_step (by repeat (first|(with_reducible first|exact HB.out|apply below_alloc|apply pw_below_drewN|apply below_drew1)|exact HB.out)) hb);clear HO252;clear HO260;clear HR256;clear HR264;clear HB;have HO252:=n0_;have HO260:=n1_;have HO270:=n2_;have HR256:=n3_;have HR264:=n4_;have HB:=n5_;clear n0_ n1_ n2_ n3_ n4_ n5_;(try clear hb);(try clear hb2);(try clear hk);(try clear hi);(try clear ho0)))
      go_ret
      exact ⟨by first|rfl|(simp [errW_none,errW_some] <;> rfl)|(simp [*,errW_none,errW_some] <;> rfl),by repeat (first|(with_reducible first|exact HB.out|apply below_alloc|apply pw_below_drewN|apply below_drew1)|exact HB.out)⟩
    ·rw [if_neg c9] at H
     have c9b0 : (t268 == 0) = false:=beq_eq_false_iff_ne.mpr c9
     have c9b1 : (t268 != 0) = true:=bne_iff_ne.mpr c9
     obtain rfl:=Option.some.inj H
     go_enter Try.func12,Try.ntmps12
     go_wp2_with (first|((with_reducible refine gate_callee (f:=39) rfl ?_);refine goesL_ (some 8) rfl rfl Try.func39 (by kernel_rfl) rfl #[] rfl (by (try simp only [List.map_toArray,List.map_cons,List.map_nil]);first|done|rfl|(simp only [List.length_drop,List.length_take];rfl)) ?_;(with_reducible refine (scarfjointlaw03_example.calls  t250 _ A1.out).mono ?_);rintro e w47 ⟨v251,rfl,ho0,hb⟩;refine ⟨_,rfl,?_⟩;have n0_:=Aside0.mk (Kd.R_lower ho0 (below_size (by repeat (first|(with_reducible first|exact HB.out|apply below_alloc|apply pw_below_drewN|apply below_drew1)|exact HB.out))));have n1_:=Aside0.mk (below_step (by repeat (first|(with_reducible first|exact HB.out|apply below_alloc|apply pw_below_drewN|apply below_drew1)|exact HB.out)) hb);clear HB;have HO252:=n0_;have HB:=n1_;clear n0_ n1_;(try clear hb);(try clear hb2);(try clear hk);(try clear hi);(try clear ho0);obtain ⟨Ao49,co49,eo49⟩:=Kd.R_slice HO252.out;subst eo49;have q48 : (2 : Int) ≤ ((t250.length : Int) : Int):=of_decide_eq_true (by first|(with_reducible assumption)|assumption);obtain ⟨i048,hi048,_,hsz48,_⟩:=info_parts info26;have hroom48 : t250.length ≤ co49:=(Kd.R_reads' HO252.out).2.1;have hC48 : Kd.C k26 _ Ao49 t250.length t250:=(Kd.R_reads' HO252.out).2.2;have hcut48:=cut_to (P:=Try.prog) 22 26 .i64 Try.underlying22 hi048 Ao49 t250.length co49 2 (by omega) q48 hroom48;have hr48:=Kd.C_take (m:=2) hC48 (by omega);have hy48 : y253.length = (2 : Int).toNat:=(by rw [Ny253.out,List.length_take];omega);rw [← Ny253.out] at hr48;rw [← hy48] at hcut48;have HR256:=Aside0.mk hr48;have HC256:=Aside0.mk (show y253.length ≤ co49 from by omega);clear hr48 hC48 hroom48 hi048 hsz48;have KY48:=Aside0.mk hy48;clear hy48;have KL48:=Aside0.mk (show 2 ≤ t250.length from by omega);replace q48:=eq_true q48)|((with_reducible refine gate_callee (f:=17) rfl ?_);refine goesL_ (some 12) rfl rfl Try.func17 (by kernel_rfl) rfl #[.int .i64 2,.slice Ao49 y253.length co49] rfl (by (try simp only [List.map_toArray,List.map_cons,List.map_nil]);first|done|rfl|(simp only [List.length_drop,List.length_take];rfl)) ?_;(with_reducible refine (difference_Solve.calls k 2 _ _ y253 t257 t258 _ ?side1 ?side2 A3.out).mono ?_);(case side1=>repeat (first|exact (by repeat (first|(with_reducible exact HR256.out)|(with_reducible refine Kd.C_alloc ?_ _)|(with_reducible refine Kd.C_drewN ?_ _)|(with_reducible refine Kd.C_drew ?_)|exact HR256.out))|(with_reducible refine Kd.C_alloc ?_ _)|(with_reducible refine Kd.C_drewN ?_ _)|(with_reducible refine Kd.C_drew ?_)));(case side2=>exact HC256.out);rintro e w50 ⟨v259,rfl,ho0,hb⟩;refine ⟨_,rfl,?_⟩;have n0_:=Aside0.mk (Kd.R_below (by (with_reducible repeat (first|apply Kd.R_alloc|apply Kd.R_drewN|apply Kd.R_drew));exact HO252.out) hb);have n1_:=Aside0.mk (Kd.R_lower ho0 (below_size (by repeat (first|(with_reducible first|exact HB.out|apply below_alloc|apply pw_below_drewN|apply below_drew1)|exact HB.out))));have n2_:=Aside0.mk (Kd.C_below (by repeat (first|(with_reducible exact HR256.out)|(with_reducible refine Kd.C_alloc ?_ _)|(with_reducible refine Kd.C_drewN ?_ _)|(with_reducible refine Kd.C_drew ?_)|exact HR256.out)) hb);have n3_:=Aside0.mk (below_step (by repeat (first|(with_reducible first|exact HB.out|apply below_alloc|apply pw_below_drewN|apply below_drew1)|exact HB.out)) hb);clear HO252;clear HR256;clear HB;have HO252:=n0_;have HO260:=n1_;have HR256:=n2_;have HB:=n3_;clear n0_ n1_ n2_ n3_;(try clear hb);(try clear hb2);(try clear hk);(try clear hi);(try clear ho0);have q51 : (2 : Int) ≤ ((t250.length : Int) : Int):=of_decide_eq_true (by first|(with_reducible assumption)|assumption);obtain ⟨i051,hi051,_,hsz51,_⟩:=info_parts info26;have hroom51 : t250.length ≤ co49:=(Kd.R_reads' HO252.out).2.1;have hC51 : Kd.C k26 _ Ao49 t250.length t250:=(Kd.R_reads' HO252.out).2.2;have hcut51:=cut_to (P:=Try.prog) 22 26 .i64 Try.underlying22 hi051 Ao49 t250.length co49 2 (by omega) q51 hroom51;have hr51:=Kd.C_take (m:=2) hC51 (by omega);have hy51 : y253.length = (2 : Int).toNat:=(by rw [Ny261.out,List.length_take];omega);rw [← Ny261.out] at hr51;rw [← hy51] at hcut51;have HR264:=Aside0.mk hr51;have HC264:=Aside0.mk (show y253.length ≤ co49 from by omega);clear hr51 hC51 hroom51 hi051 hsz51;have KY51:=Aside0.mk hy51;clear hy51;have KL51:=Aside0.mk (show 2 ≤ t250.length from by omega);replace q51:=eq_true q51)|((with_reducible refine gate_callee (f:=13) rfl ?_);refine goesL_ (some 21) rfl rfl Try.func13 (by kernel_rfl) rfl #[.int .i64 2,.slice Ao49 y253.length co49,.agg #[.int .i64 1,.int .i64 0,.int .i64 0,.int .i64 (-1),.int .i64 3]] rfl (by (try simp only [List.map_toArray,List.map_cons,List.map_nil]);first|done|rfl|(simp only [List.length_drop,List.length_take];rfl)) ?_;(with_reducible refine (difference_Implies.calls k 2 _ _ y253 1 0 0 (-1) 3 t265 t266 _ ?side1 ?side2 A5.out).mono ?_);(case side1=>repeat (first|exact (by repeat (first|(with_reducible exact HR264.out)|(with_reducible refine Kd.C_alloc ?_ _)|(with_reducible refine Kd.C_drewN ?_ _)|(with_reducible refine Kd.C_drew ?_)|exact HR264.out))|(with_reducible refine Kd.C_alloc ?_ _)|(with_reducible refine Kd.C_drewN ?_ _)|(with_reducible refine Kd.C_drew ?_)));(case side2=>exact HC264.out);rintro e w52 ⟨rfl,hb⟩;refine ⟨_,rfl,?_⟩;have n0_:=Aside0.mk (Kd.R_below (by (with_reducible repeat (first|apply Kd.R_alloc|apply Kd.R_drewN|apply Kd.R_drew));exact HO252.out) hb);have n1_:=Aside0.mk (Kd.R_below (by (with_reducible repeat (first|apply Kd.R_alloc|apply Kd.R_drewN|apply Kd.R_drew));exact HO260.out) hb);have n2_:=Aside0.mk (Kd.C_below (by repeat (first|(with_reducible exact HR256.out)|(with_reducible refine Kd.C_alloc ?_ _)|(with_reducible refine Kd.C_drewN ?_ _)|(with_reducible refine Kd.C_drew ?_)|exact HR256.out)) hb);have n3_:=Aside0.mk (Kd.C_below (by repeat (first|(with_reducible exact HR264.out)|(with_reducible refine Kd.C_alloc ?_ _)|(with_reducible refine Kd.C_drewN ?_ _)|(with_reducible refine Kd.C_drew ?_)|exact HR264.out)) hb);have n4_:=Aside0.mk (below_step (by repeat (first|(with_reducible first|exact HB.out|apply below_alloc|apply pw_below_drewN|apply below_drew1)|exact HB.out)) hb);clear HO252;clear HO260;clear HR256;clear HR264;clear HB;have HO252:=n0_;have HO260:=n1_;have HR256:=n2_;have HR264:=n3_;have HB:=n4_;clear n0_ n1_ n2_ n3_ n4_;(try clear hb);(try clear hb2);(try clear hk);(try clear hi))|((with_reducible refine gate_callee (f:=18) rfl ?_);refine goesL_ (some 26) rfl rfl Try.func18 (by kernel_rfl) rfl #[.int .i64 2,.slice Ao49 t250.length co49] rfl (by (try simp only [List.map_toArray,List.map_cons,List.map_nil]);first|done|rfl|(simp only [List.length_drop,List.length_take];rfl)) ?_;(with_reducible refine (difference_Refute.calls k 2 _ _ t250 t267 t268 _ ?side1 ?side2 A6.out).mono ?_);(case side1=>repeat (first|exact (Kd.R_reads' HO252.out).2.2|(with_reducible refine Kd.C_alloc ?_ _)|(with_reducible refine Kd.C_drewN ?_ _)|(with_reducible refine Kd.C_drew ?_)));(case side2=>exact (Kd.R_reads' HO252.out).2.1);rintro e w53 ⟨v269,rfl,ho0,hb⟩;refine ⟨_,rfl,?_⟩;have n0_:=Aside0.mk (Kd.R_below (by (with_reducible repeat (first|apply Kd.R_alloc|apply Kd.R_drewN|apply Kd.R_drew));exact HO252.out) hb);have n1_:=Aside0.mk (Kd.R_below (by (with_reducible repeat (first|apply Kd.R_alloc|apply Kd.R_drewN|apply Kd.R_drew));exact HO260.out) hb);have n2_:=Aside0.mk (Kd.R_lower ho0 (below_size (by repeat (first|(with_reducible first|exact HB.out|apply below_alloc|apply pw_below_drewN|apply below_drew1)|exact HB.out))));have n3_:=Aside0.mk (Kd.C_below (by repeat (first|(with_reducible exact HR256.out)|(with_reducible refine Kd.C_alloc ?_ _)|(with_reducible refine Kd.C_drewN ?_ _)|(with_reducible refine Kd.C_drew ?_)|exact HR256.out)) hb);have n4_:=Aside0.mk (Kd.C_below (by repeat (first|(with_reducible exact HR264.out)|(with_reducible refine Kd.C_alloc ?_ _)|(with_reducible refine Kd.C_drewN ?_ _)|(with_reducible refine Kd.C_drew ?_)|exact HR264.out)) hb);have n5_:=Aside0.mk (below_step (by repeat (first|(with_reducible first|exact HB.out|apply below_alloc|apply pw_below_drewN|apply below_drew1)|exact HB.out)) hb);clear HO252;clear HO260;clear HR256;clear HR264;clear HB;have HO252:=n0_;have HO260:=n1_;have HO270:=n2_;have HR256:=n3_;have HR264:=n4_;have HB:=n5_;clear n0_ n1_ n2_ n3_ n4_ n5_;(try clear hb);(try clear hb2);(try clear hk);(try clear hi);(try clear ho0)))
     go_ret
     exact ⟨by first|rfl|(simp [errW_none,errW_some] <;> rfl)|(simp [*,errW_none,errW_some] <;> rfl),by repeat (first|(with_reducible first|exact HB.out|apply below_alloc|apply pw_below_drewN|apply below_drew1)|exact HB.out)⟩
   ·rw [if_neg c8] at H
    have c8b0 : (t266 == 0) = false:=beq_eq_false_iff_ne.mpr c8
    have c8b1 : (t266 != 0) = true:=bne_iff_ne.mpr c8
    obtain rfl:=Option.some.inj H
    go_enter Try.func12,Try.ntmps12
    go_wp2_with (first|((with_reducible refine gate_callee (f:=39) rfl ?_);refine goesL_ (some 8) rfl rfl Try.func39 (by kernel_rfl) rfl #[] rfl (by (try simp only [List.map_toArray,List.map_cons,List.map_nil]);first|done|rfl|(simp only [List.length_drop,List.length_take];rfl)) ?_;(with_reducible refine (scarfjointlaw03_example.calls  t250 _ A1.out).mono ?_);rintro e w54 ⟨v251,rfl,ho0,hb⟩;refine ⟨_,rfl,?_⟩;have n0_:=Aside0.mk (Kd.R_lower ho0 (below_size (by repeat (first|(with_reducible first|exact HB.out|apply below_alloc|apply pw_below_drewN|apply below_drew1)|exact HB.out))));have n1_:=Aside0.mk (below_step (by repeat (first|(with_reducible first|exact HB.out|apply below_alloc|apply pw_below_drewN|apply below_drew1)|exact HB.out)) hb);clear HB;have HO252:=n0_;have HB:=n1_;clear n0_ n1_;(try clear hb);(try clear hb2);(try clear hk);(try clear hi);(try clear ho0);obtain ⟨Ao56,co56,eo56⟩:=Kd.R_slice HO252.out;subst eo56;have q55 : (2 : Int) ≤ ((t250.length : Int) : Int):=of_decide_eq_true (by first|(with_reducible assumption)|assumption);obtain ⟨i055,hi055,_,hsz55,_⟩:=info_parts info26;have hroom55 : t250.length ≤ co56:=(Kd.R_reads' HO252.out).2.1;have hC55 : Kd.C k26 _ Ao56 t250.length t250:=(Kd.R_reads' HO252.out).2.2;have hcut55:=cut_to (P:=Try.prog) 22 26 .i64 Try.underlying22 hi055 Ao56 t250.length co56 2 (by omega) q55 hroom55;have hr55:=Kd.C_take (m:=2) hC55 (by omega);have hy55 : y253.length = (2 : Int).toNat:=(by rw [Ny253.out,List.length_take];omega);rw [← Ny253.out] at hr55;rw [← hy55] at hcut55;have HR256:=Aside0.mk hr55;have HC256:=Aside0.mk (show y253.length ≤ co56 from by omega);clear hr55 hC55 hroom55 hi055 hsz55;have KY55:=Aside0.mk hy55;clear hy55;have KL55:=Aside0.mk (show 2 ≤ t250.length from by omega);replace q55:=eq_true q55)|((with_reducible refine gate_callee (f:=17) rfl ?_);refine goesL_ (some 12) rfl rfl Try.func17 (by kernel_rfl) rfl #[.int .i64 2,.slice Ao56 y253.length co56] rfl (by (try simp only [List.map_toArray,List.map_cons,List.map_nil]);first|done|rfl|(simp only [List.length_drop,List.length_take];rfl)) ?_;(with_reducible refine (difference_Solve.calls k 2 _ _ y253 t257 t258 _ ?side1 ?side2 A3.out).mono ?_);(case side1=>repeat (first|exact (by repeat (first|(with_reducible exact HR256.out)|(with_reducible refine Kd.C_alloc ?_ _)|(with_reducible refine Kd.C_drewN ?_ _)|(with_reducible refine Kd.C_drew ?_)|exact HR256.out))|(with_reducible refine Kd.C_alloc ?_ _)|(with_reducible refine Kd.C_drewN ?_ _)|(with_reducible refine Kd.C_drew ?_)));(case side2=>exact HC256.out);rintro e w57 ⟨v259,rfl,ho0,hb⟩;refine ⟨_,rfl,?_⟩;have n0_:=Aside0.mk (Kd.R_below (by (with_reducible repeat (first|apply Kd.R_alloc|apply Kd.R_drewN|apply Kd.R_drew));exact HO252.out) hb);have n1_:=Aside0.mk (Kd.R_lower ho0 (below_size (by repeat (first|(with_reducible first|exact HB.out|apply below_alloc|apply pw_below_drewN|apply below_drew1)|exact HB.out))));have n2_:=Aside0.mk (Kd.C_below (by repeat (first|(with_reducible exact HR256.out)|(with_reducible refine Kd.C_alloc ?_ _)|(with_reducible refine Kd.C_drewN ?_ _)|(with_reducible refine Kd.C_drew ?_)|exact HR256.out)) hb);have n3_:=Aside0.mk (below_step (by repeat (first|(with_reducible first|exact HB.out|apply below_alloc|apply pw_below_drewN|apply below_drew1)|exact HB.out)) hb);clear HO252;clear HR256;clear HB;have HO252:=n0_;have HO260:=n1_;have HR256:=n2_;have HB:=n3_;clear n0_ n1_ n2_ n3_;(try clear hb);(try clear hb2);(try clear hk);(try clear hi);(try clear ho0);have q58 : (2 : Int) ≤ ((t250.length : Int) : Int):=of_decide_eq_true (by first|(with_reducible assumption)|assumption);obtain ⟨i058,hi058,_,hsz58,_⟩:=info_parts info26;have hroom58 : t250.length ≤ co56:=(Kd.R_reads' HO252.out).2.1;have hC58 : Kd.C k26 _ Ao56 t250.length t250:=(Kd.R_reads' HO252.out).2.2;have hcut58:=cut_to (P:=Try.prog) 22 26 .i64 Try.underlying22 hi058 Ao56 t250.length co56 2 (by omega) q58 hroom58;have hr58:=Kd.C_take (m:=2) hC58 (by omega);have hy58 : y253.length = (2 : Int).toNat:=(by rw [Ny261.out,List.length_take];omega);rw [← Ny261.out] at hr58;rw [← hy58] at hcut58;have HR264:=Aside0.mk hr58;have HC264:=Aside0.mk (show y253.length ≤ co56 from by omega);clear hr58 hC58 hroom58 hi058 hsz58;have KY58:=Aside0.mk hy58;clear hy58;have KL58:=Aside0.mk (show 2 ≤ t250.length from by omega);replace q58:=eq_true q58)|((with_reducible refine gate_callee (f:=13) rfl ?_);refine goesL_ (some 21) rfl rfl Try.func13 (by kernel_rfl) rfl #[.int .i64 2,.slice Ao56 y253.length co56,.agg #[.int .i64 1,.int .i64 0,.int .i64 0,.int .i64 (-1),.int .i64 3]] rfl (by (try simp only [List.map_toArray,List.map_cons,List.map_nil]);first|done|rfl|(simp only [List.length_drop,List.length_take];rfl)) ?_;(with_reducible refine (difference_Implies.calls k 2 _ _ y253 1 0 0 (-1) 3 t265 t266 _ ?side1 ?side2 A5.out).mono ?_);(case side1=>repeat (first|exact (by repeat (first|(with_reducible exact HR264.out)|(with_reducible refine Kd.C_alloc ?_ _)|(with_reducible refine Kd.C_drewN ?_ _)|(with_reducible refine Kd.C_drew ?_)|exact HR264.out))|(with_reducible refine Kd.C_alloc ?_ _)|(with_reducible refine Kd.C_drewN ?_ _)|(with_reducible refine Kd.C_drew ?_)));(case side2=>exact HC264.out);rintro e w59 ⟨rfl,hb⟩;refine ⟨_,rfl,?_⟩;have n0_:=Aside0.mk (Kd.R_below (by (with_reducible repeat (first|apply Kd.R_alloc|apply Kd.R_drewN|apply Kd.R_drew));exact HO252.out) hb);have n1_:=Aside0.mk (Kd.R_below (by (with_reducible repeat (first|apply Kd.R_alloc|apply Kd.R_drewN|apply Kd.R_drew));exact HO260.out) hb);have n2_:=Aside0.mk (Kd.C_below (by repeat (first|(with_reducible exact HR256.out)|(with_reducible refine Kd.C_alloc ?_ _)|(with_reducible refine Kd.C_drewN ?_ _)|(with_reducible refine Kd.C_drew ?_)|exact HR256.out)) hb);have n3_:=Aside0.mk (Kd.C_below (by repeat (first|(with_reducible exact HR264.out)|(with_reducible refine Kd.C_alloc ?_ _)|(with_reducible refine Kd.C_drewN ?_ _)|(with_reducible refine Kd.C_drew ?_)|exact HR264.out)) hb);have n4_:=Aside0.mk (below_step (by repeat (first|(with_reducible first|exact HB.out|apply below_alloc|apply pw_below_drewN|apply below_drew1)|exact HB.out)) hb);clear HO252;clear HO260;clear HR256;clear HR264;clear HB;have HO252:=n0_;have HO260:=n1_;have HR256:=n2_;have HR264:=n3_;have HB:=n4_;clear n0_ n1_ n2_ n3_ n4_;(try clear hb);(try clear hb2);(try clear hk);(try clear hi))|((with_reducible refine gate_callee (f:=18) rfl ?_);refine goesL_ (some 26) rfl rfl Try.func18 (by kernel_rfl) rfl #[.int .i64 2,.slice Ao56 t250.length co56] rfl (by (try simp only [List.map_toArray,List.map_cons,List.map_nil]);first|done|rfl|(simp only [List.length_drop,List.length_take];rfl)) ?_;(with_reducible refine (difference_Refute.calls k 2 _ _ t250 t267 t268 _ ?side1 ?side2 A6.out).mono ?_);(case side1=>repeat (first|exact (Kd.R_reads' HO252.out).2.2|(with_reducible refine Kd.C_alloc ?_ _)|(with_reducible refine Kd.C_drewN ?_ _)|(with_reducible refine Kd.C_drew ?_)));(case side2=>exact (Kd.R_reads' HO252.out).2.1);rintro e w60 ⟨v269,rfl,ho0,hb⟩;refine ⟨_,rfl,?_⟩;have n0_:=Aside0.mk (Kd.R_below (by (with_reducible repeat (first|apply Kd.R_alloc|apply Kd.R_drewN|apply Kd.R_drew));exact HO252.out) hb);have n1_:=Aside0.mk (Kd.R_below (by (with_reducible repeat (first|apply Kd.R_alloc|apply Kd.R_drewN|apply Kd.R_drew));exact HO260.out) hb);have n2_:=Aside0.mk (Kd.R_lower ho0 (below_size (by repeat (first|(with_reducible first|exact HB.out|apply below_alloc|apply pw_below_drewN|apply below_drew1)|exact HB.out))));have n3_:=Aside0.mk (Kd.C_below (by repeat (first|(with_reducible exact HR256.out)|(with_reducible refine Kd.C_alloc ?_ _)|(with_reducible refine Kd.C_drewN ?_ _)|(with_reducible refine Kd.C_drew ?_)|exact HR256.out)) hb);have n4_:=Aside0.mk (Kd.C_below (by repeat (first|(with_reducible exact HR264.out)|(with_reducible refine Kd.C_alloc ?_ _)|(with_reducible refine Kd.C_drewN ?_ _)|(with_reducible refine Kd.C_drew ?_)|exact HR264.out)) hb);have n5_:=Aside0.mk (below_step (by repeat (first|(with_reducible first|exact HB.out|apply below_alloc|apply pw_below_drewN|apply below_drew1)|exact HB.out)) hb);clear HO252;clear HO260;clear HR256;clear HR264;clear HB;have HO252:=n0_;have HO260:=n1_;have HO270:=n2_;have HR256:=n3_;have HR264:=n4_;have HB:=n5_;clear n0_ n1_ n2_ n3_ n4_ n5_;(try clear hb);(try clear hb2);(try clear hk);(try clear hi);(try clear ho0)))
    go_ret
    exact ⟨by first|rfl|(simp [errW_none,errW_some] <;> rfl)|(simp [*,errW_none,errW_some] <;> rfl),by repeat (first|(with_reducible first|exact HB.out|apply below_alloc|apply pw_below_drewN|apply below_drew1)|exact HB.out)⟩
  ·rw [if_neg c7] at H
   have c7b0 : (t258 == 0) = false:=beq_eq_false_iff_ne.mpr c7
   have c7b1 : (t258 != 0) = true:=bne_iff_ne.mpr c7
   obtain rfl:=Option.some.inj H
   go_enter Try.func12,Try.ntmps12
   go_wp2_with (first|((with_reducible refine gate_callee (f:=39) rfl ?_);refine goesL_ (some 8) rfl rfl Try.func39 (by kernel_rfl) rfl #[] rfl (by (try simp only [List.map_toArray,List.map_cons,List.map_nil]);first|done|rfl|(simp only [List.length_drop,List.length_take];rfl)) ?_;(with_reducible refine (scarfjointlaw03_example.calls  t250 _ A1.out).mono ?_);rintro e w61 ⟨v251,rfl,ho0,hb⟩;refine ⟨_,rfl,?_⟩;have n0_:=Aside0.mk (Kd.R_lower ho0 (below_size (by repeat (first|(with_reducible first|exact HB.out|apply below_alloc|apply pw_below_drewN|apply below_drew1)|exact HB.out))));have n1_:=Aside0.mk (below_step (by repeat (first|(with_reducible first|exact HB.out|apply below_alloc|apply pw_below_drewN|apply below_drew1)|exact HB.out)) hb);clear HB;have HO252:=n0_;have HB:=n1_;clear n0_ n1_;(try clear hb);(try clear hb2);(try clear hk);(try clear hi);(try clear ho0);obtain ⟨Ao63,co63,eo63⟩:=Kd.R_slice HO252.out;subst eo63;have q62 : (2 : Int) ≤ ((t250.length : Int) : Int):=of_decide_eq_true (by first|(with_reducible assumption)|assumption);obtain ⟨i062,hi062,_,hsz62,_⟩:=info_parts info26;have hroom62 : t250.length ≤ co63:=(Kd.R_reads' HO252.out).2.1;have hC62 : Kd.C k26 _ Ao63 t250.length t250:=(Kd.R_reads' HO252.out).2.2;have hcut62:=cut_to (P:=Try.prog) 22 26 .i64 Try.underlying22 hi062 Ao63 t250.length co63 2 (by omega) q62 hroom62;have hr62:=Kd.C_take (m:=2) hC62 (by omega);have hy62 : y253.length = (2 : Int).toNat:=(by rw [Ny253.out,List.length_take];omega);rw [← Ny253.out] at hr62;rw [← hy62] at hcut62;have HR256:=Aside0.mk hr62;have HC256:=Aside0.mk (show y253.length ≤ co63 from by omega);clear hr62 hC62 hroom62 hi062 hsz62;have KY62:=Aside0.mk hy62;clear hy62;have KL62:=Aside0.mk (show 2 ≤ t250.length from by omega);replace q62:=eq_true q62)|((with_reducible refine gate_callee (f:=17) rfl ?_);refine goesL_ (some 12) rfl rfl Try.func17 (by kernel_rfl) rfl #[.int .i64 2,.slice Ao63 y253.length co63] rfl (by (try simp only [List.map_toArray,List.map_cons,List.map_nil]);first|done|rfl|(simp only [List.length_drop,List.length_take];rfl)) ?_;(with_reducible refine (difference_Solve.calls k 2 _ _ y253 t257 t258 _ ?side1 ?side2 A3.out).mono ?_);(case side1=>repeat (first|exact (by repeat (first|(with_reducible exact HR256.out)|(with_reducible refine Kd.C_alloc ?_ _)|(with_reducible refine Kd.C_drewN ?_ _)|(with_reducible refine Kd.C_drew ?_)|exact HR256.out))|(with_reducible refine Kd.C_alloc ?_ _)|(with_reducible refine Kd.C_drewN ?_ _)|(with_reducible refine Kd.C_drew ?_)));(case side2=>exact HC256.out);rintro e w64 ⟨v259,rfl,ho0,hb⟩;refine ⟨_,rfl,?_⟩;have n0_:=Aside0.mk (Kd.R_below (by (with_reducible repeat (first|apply Kd.R_alloc|apply Kd.R_drewN|apply Kd.R_drew));exact HO252.out) hb);have n1_:=Aside0.mk (Kd.R_lower ho0 (below_size (by repeat (first|(with_reducible first|exact HB.out|apply below_alloc|apply pw_below_drewN|apply below_drew1)|exact HB.out))));have n2_:=Aside0.mk (Kd.C_below (by repeat (first|(with_reducible exact HR256.out)|(with_reducible refine Kd.C_alloc ?_ _)|(with_reducible refine Kd.C_drewN ?_ _)|(with_reducible refine Kd.C_drew ?_)|exact HR256.out)) hb);have n3_:=Aside0.mk (below_step (by repeat (first|(with_reducible first|exact HB.out|apply below_alloc|apply pw_below_drewN|apply below_drew1)|exact HB.out)) hb);clear HO252;clear HR256;clear HB;have HO252:=n0_;have HO260:=n1_;have HR256:=n2_;have HB:=n3_;clear n0_ n1_ n2_ n3_;(try clear hb);(try clear hb2);(try clear hk);(try clear hi);(try clear ho0);have q65 : (2 : Int) ≤ ((t250.length : Int) : Int):=of_decide_eq_true (by first|(with_reducible assumption)|assumption);obtain ⟨i065,hi065,_,hsz65,_⟩:=info_parts info26;have hroom65 : t250.length ≤ co63:=(Kd.R_reads' HO252.out).2.1;have hC65 : Kd.C k26 _ Ao63 t250.length t250:=(Kd.R_reads' HO252.out).2.2;have hcut65:=cut_to (P:=Try.prog) 22 26 .i64 Try.underlying22 hi065 Ao63 t250.length co63 2 (by omega) q65 hroom65;have hr65:=Kd.C_take (m:=2) hC65 (by omega);have hy65 : y253.length = (2 : Int).toNat:=(by rw [Ny261.out,List.length_take];omega);rw [← Ny261.out] at hr65;rw [← hy65] at hcut65;have HR264:=Aside0.mk hr65;have HC264:=Aside0.mk (show y253.length ≤ co63 from by omega);clear hr65 hC65 hroom65 hi065 hsz65;have KY65:=Aside0.mk hy65;clear hy65;have KL65:=Aside0.mk (show 2 ≤ t250.length from by omega);replace q65:=eq_true q65)|((with_reducible refine gate_callee (f:=13) rfl ?_);refine goesL_ (some 21) rfl rfl Try.func13 (by kernel_rfl) rfl #[.int .i64 2,.slice Ao63 y253.length co63,.agg #[.int .i64 1,.int .i64 0,.int .i64 0,.int .i64 (-1),.int .i64 3]] rfl (by (try simp only [List.map_toArray,List.map_cons,List.map_nil]);first|done|rfl|(simp only [List.length_drop,List.length_take];rfl)) ?_;(with_reducible refine (difference_Implies.calls k 2 _ _ y253 1 0 0 (-1) 3 t265 t266 _ ?side1 ?side2 A5.out).mono ?_);(case side1=>repeat (first|exact (by repeat (first|(with_reducible exact HR264.out)|(with_reducible refine Kd.C_alloc ?_ _)|(with_reducible refine Kd.C_drewN ?_ _)|(with_reducible refine Kd.C_drew ?_)|exact HR264.out))|(with_reducible refine Kd.C_alloc ?_ _)|(with_reducible refine Kd.C_drewN ?_ _)|(with_reducible refine Kd.C_drew ?_)));(case side2=>exact HC264.out);rintro e w66 ⟨rfl,hb⟩;refine ⟨_,rfl,?_⟩;have n0_:=Aside0.mk (Kd.R_below (by (with_reducible repeat (first|apply Kd.R_alloc|apply Kd.R_drewN|apply Kd.R_drew));exact HO252.out) hb);have n1_:=Aside0.mk (Kd.R_below (by (with_reducible repeat (first|apply Kd.R_alloc|apply Kd.R_drewN|apply Kd.R_drew));exact HO260.out) hb);have n2_:=Aside0.mk (Kd.C_below (by repeat (first|(with_reducible exact HR256.out)|(with_reducible refine Kd.C_alloc ?_ _)|(with_reducible refine Kd.C_drewN ?_ _)|(with_reducible refine Kd.C_drew ?_)|exact HR256.out)) hb);have n3_:=Aside0.mk (Kd.C_below (by repeat (first|(with_reducible exact HR264.out)|(with_reducible refine Kd.C_alloc ?_ _)|(with_reducible refine Kd.C_drewN ?_ _)|(with_reducible refine Kd.C_drew ?_)|exact HR264.out)) hb);have n4_:=Aside0.mk (below_step (by repeat (first|(with_reducible first|exact HB.out|apply below_alloc|apply pw_below_drewN|apply below_drew1)|exact HB.out)) hb);clear HO252;clear HO260;clear HR256;clear HR264;clear HB;have HO252:=n0_;have HO260:=n1_;have HR256:=n2_;have HR264:=n3_;have HB:=n4_;clear n0_ n1_ n2_ n3_ n4_;(try clear hb);(try clear hb2);(try clear hk);(try clear hi))|((with_reducible refine gate_callee (f:=18) rfl ?_);refine goesL_ (some 26) rfl rfl Try.func18 (by kernel_rfl) rfl #[.int .i64 2,.slice Ao63 t250.length co63] rfl (by (try simp only [List.map_toArray,List.map_cons,List.map_nil]);first|done|rfl|(simp only [List.length_drop,List.length_take];rfl)) ?_;(with_reducible refine (difference_Refute.calls k 2 _ _ t250 t267 t268 _ ?side1 ?side2 A6.out).mono ?_);(case side1=>repeat (first|exact (Kd.R_reads' HO252.out).2.2|(with_reducible refine Kd.C_alloc ?_ _)|(with_reducible refine Kd.C_drewN ?_ _)|(with_reducible refine Kd.C_drew ?_)));(case side2=>exact (Kd.R_reads' HO252.out).2.1);rintro e w67 ⟨v269,rfl,ho0,hb⟩;refine ⟨_,rfl,?_⟩;have n0_:=Aside0.mk (Kd.R_below (by (with_reducible repeat (first|apply Kd.R_alloc|apply Kd.R_drewN|apply Kd.R_drew));exact HO252.out) hb);have n1_:=Aside0.mk (Kd.R_below (by (with_reducible repeat (first|apply Kd.R_alloc|apply Kd.R_drewN|apply Kd.R_drew));exact HO260.out) hb);have n2_:=Aside0.mk (Kd.R_lower ho0 (below_size (by repeat (first|(with_reducible first|exact HB.out|apply below_alloc|apply pw_below_drewN|apply below_drew1)|exact HB.out))));have n3_:=Aside0.mk (Kd.C_below (by repeat (first|(with_reducible exact HR256.out)|(with_reducible refine Kd.C_alloc ?_ _)|(with_reducible refine Kd.C_drewN ?_ _)|(with_reducible refine Kd.C_drew ?_)|exact HR256.out)) hb);have n4_:=Aside0.mk (Kd.C_below (by repeat (first|(with_reducible exact HR264.out)|(with_reducible refine Kd.C_alloc ?_ _)|(with_reducible refine Kd.C_drewN ?_ _)|(with_reducible refine Kd.C_drew ?_)|exact HR264.out)) hb);have n5_:=Aside0.mk (below_step (by repeat (first|(with_reducible first|exact HB.out|apply below_alloc|apply pw_below_drewN|apply below_drew1)|exact HB.out)) hb);clear HO252;clear HO260;clear HR256;clear HR264;clear HB;have HO252:=n0_;have HO260:=n1_;have HO270:=n2_;have HR256:=n3_;have HR264:=n4_;have HB:=n5_;clear n0_ n1_ n2_ n3_ n4_ n5_;(try clear hb);(try clear hb2);(try clear hk);(try clear hi);(try clear ho0)))
   go_ret
   exact ⟨by first|rfl|(simp [errW_none,errW_some] <;> rfl)|(simp [*,errW_none,errW_some] <;> rfl),by repeat (first|(with_reducible first|exact HB.out|apply below_alloc|apply pw_below_drewN|apply below_drew1)|exact HB.out)⟩
 ·rw [if_neg c2] at H
  exact absurd H (by simp)

end Go.Proofs.Yteebkkdbkkibmaa.Pr
