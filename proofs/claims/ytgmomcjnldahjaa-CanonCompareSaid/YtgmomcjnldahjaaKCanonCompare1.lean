/- Part 1 of what the law CanonCompare rests on: this project's own texts (Pr0, Q1, Q2, Pr2, Pr1, Pr3, Pr4, Q8, Ra, Rb, Rc, Rd), merged and without what is not used. Conditions: each theorem has its own. -/
import Derived.Test.YtgmomcjnldahjaaProg
import Derived.Below
import Derived.Deep.Draws
import Derived.Deep.AppendLies
import Derived.Maps.AppendAt
import Derived.OwnWalk
import Derived.Laws.BytesArg
import Derived.Laws.MakeOwn
import Derived.Laws.OwnMore
import Derived.Deep.OwnRows
import Derived.Tactics
import Derived.Lib.ConvBytes
import Derived.Laws.Slices
import Derived.WalkKit
import Derived.KernelRfl
import Derived.RowKit3
import Derived.Deep.LoopGhost
import Derived.Deep.QuietTactic
import Derived.BigQuiet
import Derived.WideLaws
import Derived.Deep.DeepCutAuto
import Derived.Deep.CutBlock
import Derived.Deep.RegionHeld3
import Derived.Laws.Rows
import Derived.Lib.AppendStr
import Derived.ArgAppend
import Derived.Laws.IdiomCopy
import Derived.OrdersHeld
import Derived.Laws.BitsLemmas
import Derived.RowKit
import Derived.WalkSpells
import Derived.Lib.SliceRun
import Derived.Laws.CopyOwn
import Derived.IntWalk
import Derived.Deep.RegionLaw
import Derived.Test.YtgmomcjnldahjaaKCanonCompare0
open List renaming setIfInBounds_toArray → zzA, set_cons_zero → zzB, set_cons_succ → zzC
open Go.Proofs.YtgmomcjnldahjaaW.PrintWords renaming below_alloc → zzD, pw_below_drewN → zzE, below_drew1 → zzF
namespace Go.Proofs.Ytgmomcjnldahjaa.Pr
open Go.RowKit Go.Proofs.YtgmomcjnldahjaaW.PrintWords Go.Proofs.YtgmomcjnldahjaaW.PrintLast Go.Proofs.YtgmomcjnldahjaaW.PrintMore
attribute [local go_sem] max2_int min2_int max_two min_two max_three min_three max_four min_four
set_option linter.unusedVariables false
set_option linter.unusedSimpArgs false
def errW : Option Int → Value
 | none => .nilIface
 | some c => .iface 0 (.int .i64 c)
theorem errW_none : errW none = .nilIface:=rfl
theorem errW_some (c : Int) : errW (some c) = .iface 0 (.int .i64 c):=rfl
theorem info3 : (Try.prog.info? 3).map (fun i=>(i.zero,i.size,i.bytes)) = some (some (.int .i64 0),1,8):=by kernel_rfl
theorem info34 : (Try.prog.info? 34).map (fun i=>(i.zero,i.size,i.bytes)) = some (some (.agg #[(.int .i64 0),(.int .i64 0),(.int .i64 0)]),3,24):=by kernel_rfl
structure S34 where
 f0 : Int
 f1 : Int
 f2 : Int
def z34 : S34:=⟨(0 : Int),(0 : Int),(0 : Int)⟩
def k34 : Kd S34:=Kd.iso (Kd.pair (Kd.int .i64) (Kd.pair (Kd.int .i64) (Kd.int .i64))) (fun x : S34=>(x.f0,x.f1,x.f2))
theorem k34_open {w : World} {x : S34} {cs : List Value} (h : k34.K w x cs) : cs = [.int .i64 x.f0,.int .i64 x.f1,.int .i64 x.f2]:=by
 obtain ⟨_,_,rfl,rfl,⟨_,_,rfl,rfl,rfl⟩⟩:=h
 exact rfl
theorem k34_mk (w : World) (x : S34)  : k34.K w x [.int .i64 x.f0,.int .i64 x.f1,.int .i64 x.f2]:=⟨[.int .i64 x.f0],[.int .i64 x.f1,.int .i64 x.f2],rfl,rfl,⟨[.int .i64 x.f1],[.int .i64 x.f2],rfl,rfl,rfl⟩⟩
theorem k34_mkM (w : World) (base : Nat) (ok : Nat → Prop) (x : S34)  : k34.M w base ok x [.int .i64 x.f0,.int .i64 x.f1,.int .i64 x.f2]:=⟨[.int .i64 x.f0],[.int .i64 x.f1,.int .i64 x.f2],rfl,rfl,⟨[.int .i64 x.f1],[.int .i64 x.f2],rfl,rfl,rfl⟩⟩
def rd_T34 (xs : List S34) (i : Int) : S34:=xs.getD i.toNat z34
theorem at_T34 {w : World} {A : Option Addr} {n : Nat} {xs : List S34} (h : Kd.C k34 w A n xs) (i : Int) (h0 : 0 ≤ i) (h1 : i < n) : ∃ ad ,A = some ad ∧ w.cell? (ad.add (i.toNat * 3)) = some (.int .i64 (rd_T34 xs i).f0) ∧ w.cell? ⟨(ad.add (i.toNat * 3)).block,(ad.add (i.toNat * 3)).off + 1,none⟩ = some (.int .i64 (rd_T34 xs i).f1) ∧ w.cell? ⟨(ad.add (i.toNat * 3)).block,(ad.add (i.toNat * 3)).off + 2,none⟩ = some (.int .i64 (rd_T34 xs i).f2):=by
 obtain ⟨ad,c,e,_,hK,hc0⟩:=Kd.C_get h z34 i h0 h1
 have hc : ∀ j u,c[j]? = some u → w.cell? (ad.add (i.toNat * 3 + j)) = some u:=hc0
 obtain rfl:=k34_open hK
 exact ⟨ad,e,hc 0 _ rfl,by rw [← add_field _ _ 1 (by omega)];exact hc 1 _ rfl,by rw [← add_field _ _ 2 (by omega)];exact hc 2 _ rfl⟩
def rd_L2 (xs : List (List Int)) (i : Int) : (List Int):=xs.getD i.toNat ([] : List Int)
theorem at_L2 {w : World} {A : Option Addr} {n : Nat} {xs : List (List Int)} (h : Kd.C (Kd.slice 3 (Kd.int .i64)) w A n xs) (i : Int) (h0 : 0 ≤ i) (h1 : i < n) : ∃ ad A0 c0,A = some ad ∧ w.cell? (ad.add i.toNat) = some (.slice A0 (rd_L2 xs i).length c0) ∧ (rd_L2 xs i).length ≤ c0 ∧ (Kd.int .i64).C w A0 (rd_L2 xs i).length (rd_L2 xs i):=by
 obtain ⟨ad,c,e,_,hK,hc0⟩:=Kd.C_get h ([] : List Int) i h0 h1
 have hc : ∀ j u,c[j]? = some u → w.cell? (ad.add (i.toNat * 1 + j)) = some u:=hc0
 obtain ⟨A0,c0,rfl,l0,g0⟩:=hK
 exact ⟨ad,A0,c0,e,by have hq:=hc 0 _ rfl;rwa [Nat.mul_one,Nat.add_zero] at hq,l0,g0⟩
def rd_L3 (xs : List (List (List Int))) (i : Int) : (List (List Int)):=xs.getD i.toNat ([] : List (List Int))
theorem at_L3 {w : World} {A : Option Addr} {n : Nat} {xs : List (List (List Int))} (h : Kd.C (Kd.slice 27 (Kd.slice 3 (Kd.int .i64))) w A n xs) (i : Int) (h0 : 0 ≤ i) (h1 : i < n) : ∃ ad A0 c0,A = some ad ∧ w.cell? (ad.add i.toNat) = some (.slice A0 (rd_L3 xs i).length c0) ∧ (rd_L3 xs i).length ≤ c0 ∧ (Kd.slice 3 (Kd.int .i64)).C w A0 (rd_L3 xs i).length (rd_L3 xs i):=by
 obtain ⟨ad,c,e,_,hK,hc0⟩:=Kd.C_get h ([] : List (List Int)) i h0 h1
 have hc : ∀ j u,c[j]? = some u → w.cell? (ad.add (i.toNat * 1 + j)) = some u:=hc0
 obtain ⟨A0,c0,rfl,l0,g0⟩:=hK
 exact ⟨ad,A0,c0,e,by have hq:=hc 0 _ rfl;rwa [Nat.mul_one,Nat.add_zero] at hq,l0,g0⟩
structure S30 where
 f0 : (List Int)
 f1 : (List S34)
def k30 : Kd S30:=Kd.iso (Kd.pair (Kd.slice 3 (Kd.int .i64)) (Kd.slice 34 k34)) (fun x : S30=>(x.f0,x.f1))
theorem k30_open {w : World} {x : S30} {cs : List Value} (h : k30.K w x cs) : ∃ A0 c0 A1 c1,cs = [.slice A0 x.f0.length c0,.slice A1 x.f1.length c1] ∧ x.f0.length ≤ c0 ∧ (Kd.int .i64).C w A0 x.f0.length x.f0 ∧ x.f1.length ≤ c1 ∧ k34.C w A1 x.f1.length x.f1:=by
 obtain ⟨_,_,rfl,⟨A0,c0,rfl,l0,g0⟩,⟨A1,c1,rfl,l1,g1⟩⟩:=h
 exact ⟨A0,c0,A1,c1,rfl,l0,g0,l1,g1⟩
structure S64 where
 f0 : Int
 f1 : Int
 f2 : Int
end Go.Proofs.Ytgmomcjnldahjaa.Pr
namespace Go.Proofs.Ytgmomcjnldahjaa.Pr
open Go.RowKit Go.Proofs.YtgmomcjnldahjaaW.PrintWords Go.Proofs.YtgmomcjnldahjaaW.PrintLast Go.Proofs.YtgmomcjnldahjaaW.PrintMore
attribute [local go_sem] max2_int min2_int max_two min_two max_three min_three max_four min_four
set_option linter.unusedVariables false
set_option linter.unusedSimpArgs false
def canon_table_types.l0 : Nat → List (S34) → List Int → List Int → Int → Int → Option (List Int)
 | 0,_,_,_,_,_ => none
 | k + 1,x3,x8,x24,x25,x26 => if x26 < x25 then (if 0 ≤ x26 then (if x26 < (x24.length : Int) then (if 0 ≤ (rd x24 x26) then (if (rd x24 x26) < (x3.length : Int) then (if x8.length < 17592186044416 then (canon_table_types.l0 k x3 (x8 ++ [(rd_T34 x3 (rd x24 x26)).f0]) x24 x25 (wrap64 (x26 + 1))) else (none)) else (none)) else (none)) else (none)) else (none)) else (some x8)
def canon_table_types.f (k : Nat) (l0 : List Int) (a1 : Int) (a2 : Int) (l3 : List (S34)) (l4 : List (List (List Int))) : Option (List Int):=if 0 ≤ a1 then (if a1 < (l4.length : Int) then (if 0 ≤ a2 then (if a2 < ((rd_L3 l4 a1).length : Int) then (canon_table_types.l0 k l3 (([((rd_L2 (rd_L3 l4 a1) a2).length : Int)] : List Int)) (rd_L2 (rd_L3 l4 a1) a2) ((rd_L2 (rd_L3 l4 a1) a2).length : Int) 0) else (none)) else (none)) else (none)) else (none)
set_option maxHeartbeats 8000000 in
set_option maxRecDepth 100000 in
theorem canon_table_types.calls (k : Nat) (A0 : Option Addr) (c0 : Nat) (l0 : List Int) (a1 : Int) (a2 : Int) (A3 : Option Addr) (c3 : Nat) (l3 : List (S34)) (A4 : Option Addr) (c4 : Nat) (l4 : List (List (List Int))) (r : List Int) (w : World) (hr0 : Kd.C (Kd.int .i64) w A0 l0.length l0) (hc0 : l0.length ≤ c0) (hr3 : Kd.C k34 w A3 l3.length l3) (hc3 : l3.length ≤ c3) (hr4 : Kd.C (Kd.slice 27 (Kd.slice 3 (Kd.int .i64))) w A4 l4.length l4) (hc4 : l4.length ≤ c4) (h : canon_table_types.f k l0 a1 a2 l3 l4 = some r) {gb : Nat} (hg0 : w.cell? ⟨gb,0,none⟩ = some (.slice A0 l0.length c0)) (hg1 : w.cell? ⟨gb,1,none⟩ = some (.slice A3 l3.length c3)) (hg2 : w.cell? ⟨gb,2,none⟩ = some (.slice A4 l4.length c4)) :
  Calls Try.prog 81 #[.pointer (some ⟨gb,0,none⟩),.int .i64 a1,.int .i64 a2] w fun e w'=>∃ v0_ : Value,e = .returned (v0_) ∧ Kd.R (Kd.int .i64) 3 w' w.heap.size (fun _=>True) v0_ r ∧ Below w.heap.size w w':=by
 have HR0:=Aside0.mk hr0
 have HC0:=Aside0.mk hc0
 clear hr0 hc0
 have HR3:=Aside0.mk hr3
 have HC3:=Aside0.mk hc3
 clear hr3 hc3
 have HR4:=Aside0.mk hr4
 have HC4:=Aside0.mk hc4
 clear hr4 hc4
 have HG0:=Aside0.mk hg0
 have HG1:=Aside0.mk hg1
 have HG2:=Aside0.mk hg2
 clear hg0 hg1 hg2
 have HB:=Aside0.mk (Below.refl w.heap.size w)
 have H : (if 0 ≤ a1 then (if a1 < (l4.length : Int) then (if 0 ≤ a2 then (if a2 < ((rd_L3 l4 a1).length : Int) then (canon_table_types.l0 k l3 (([((rd_L2 (rd_L3 l4 a1) a2).length : Int)] : List Int)) (rd_L2 (rd_L3 l4 a1) a2) ((rd_L2 (rd_L3 l4 a1) a2).length : Int) 0) else (none)) else (none)) else (none)) else (none)) = some r:=h
 clear h
 by_cases c6 : 0 ≤ a1
 ·rw [if_pos c6] at H
  have c6b0 : decide (0 ≤ a1) = true:=decide_eq_true c6
  clear c6
  by_cases c7 : a1 < (l4.length : Int)
  ·rw [if_pos c7] at H
   have c7b0 : decide (a1 < (l4.length : Int)) = true:=decide_eq_true c7
   clear c7
   by_cases c8 : 0 ≤ a2
   ·rw [if_pos c8] at H
    have c8b0 : decide (0 ≤ a2) = true:=decide_eq_true c8
    clear c8
    by_cases c9 : a2 < ((rd_L3 l4 a1).length : Int)
    ·rw [if_pos c9] at H
     have c9b0 : decide (a2 < ((rd_L3 l4 a1).length : Int)) = true:=decide_eq_true c9
     clear c9
     obtain ⟨y130,hy130⟩ : ∃ y_ : List Int,y_ = (([((rd_L2 (rd_L3 l4 a1) a2).length : Int)] : List Int)):=⟨_,rfl⟩
     replace H : (canon_table_types.l0 k l3 y130 (rd_L2 (rd_L3 l4 a1) a2) ((rd_L2 (rd_L3 l4 a1) a2).length : Int) 0) = some r:=by first|(rw [hy130];with_reducible exact H)|(have H2_:=(Option.bind_some _ _).symm.trans H;rw [hy130];with_reducible exact H2_)|(have H2_:=(Option.bind_some _ _).symm.trans H;with_reducible exact H2_)|with_reducible exact H|(rw [hy130];exact H)|exact H
     have Ny130:=Aside0.mk hy130
     clear hy130
     have H':=Aside0.mk H
     clear H
     have p128 : 0 ≤ (a1 : Int):=of_decide_eq_true (by first|(with_reducible assumption)|assumption)
     have q128 : a1 < (l4.length : Int):=of_decide_eq_true (by first|(with_reducible assumption)|assumption)
     obtain ⟨ad128,A128_0,c128_0,e128,hx128_0,hl128_0,hi128_0⟩:=at_L3 HR4.out a1 p128 q128
     cases e128
     have HR128_0:=Aside0.mk hi128_0
     have HC128_0:=Aside0.mk hl128_0
     clear hi128_0 hl128_0
     replace p128:=eq_true p128
     replace q128:=eq_true q128
     have p129 : 0 ≤ (a2 : Int):=of_decide_eq_true (by first|(with_reducible assumption)|assumption)
     have q129 : a2 < ((rd_L3 l4 a1).length : Int):=of_decide_eq_true (by first|(with_reducible assumption)|assumption)
     obtain ⟨ad129,A129_0,c129_0,e129,hx129_0,hl129_0,hi129_0⟩:=at_L2 HR128_0.out a2 p129 q129
     cases e129
     have HR129_0:=Aside0.mk hi129_0
     have HC129_0:=Aside0.mk hl129_0
     clear hi129_0 hl129_0
     replace p129:=eq_true p129
     replace q129:=eq_true q129
     go_enter Try.func81,Try.ntmps81
     have hcp2_0:=pw_cell_below HB.out HG0.out;have hcp2_1:=pw_cell_below HB.out HG1.out;have hcp2_2:=pw_cell_below HB.out HG2.out
     go_wp2_with (first|((with_reducible refine gate_dst (N:=23) rfl ?_);refine Kd.R_lit (Kd.int .i64) _ 3 ?hg (N:=23) ?hd (xs:=([((rd_L2 (rd_L3 l4 a1) a2).length : Int)] : List Int)) (inner:=[.int .i64 ((rd_L2 (rd_L3 l4 a1) a2).length : Int)]) (ok:=fun _=>True) (okp:=fun _=>True) ?hr ?hp (fun _ hk=>hk) trivial (Below.refl _ _) (Nat.le_refl _) (by simp) ?_;(case hd=>rfl);(case hg=>rfl);(case hr=>first|(go_simp;done)|(go_simp;rfl));(case hp=>exact (Reps.one (show Kd.M (Kd.int .i64) _ _ _ ((rd_L2 (rd_L3 l4 a1) a2).length : Int) [.int .i64 ((rd_L2 (rd_L3 l4 a1) a2).length : Int)] from rfl) (Reps.none _ _)));intro v131 w10 ho11 hb hg_ hnew_;clear hg_ hnew_;(first|rw [← Ny130.out] at ho11|(simp only [Int.reduceToNat] at ho11;rw [← Ny130.out] at ho11));have n0_:=Aside0.mk (Kd.R_lower ho11 (below_size (by repeat (first|(with_reducible first|exact HB.out|apply zzD|apply zzE|apply zzF)|exact HB.out))));have n1_:=Aside0.mk (below_step (by repeat (first|(with_reducible first|exact HB.out|apply zzD|apply zzE|apply zzF)|exact HB.out)) hb);clear HB;have HO132:=n0_;have HB:=n1_;clear n0_ n1_;have hcp1_0:=pw_cell_below HB.out HG0.out;have hcp1_1:=pw_cell_below HB.out HG1.out;have hcp1_2:=pw_cell_below HB.out HG2.out;clear hb ho11))
     go_loopg [8,26] k (fun kq v8 v26 w'=>∃ (x8_1 : List Int) (x26_1 : Int),v26 = .int .i64 x26_1 ∧ Aside0 (canon_table_types.l0 kq l3 x8_1 (rd_L2 (rd_L3 l4 a1) a2) ((rd_L2 (rd_L3 l4 a1) a2).length : Int) x26_1 = some r) ∧ Aside0 (kq ≤ k) ∧ Aside0 (Kd.R (Kd.int .i64) 3 w' w.heap.size (fun _=>True) v8 x8_1) ∧ Aside0 (Below w.heap.size w w'))
     case atStart=>exact ⟨(y130),(0),(by first|rfl|(simp;done)|(simp [*];done)),H',⟨Nat.le_refl _⟩,⟨by (with_reducible repeat (first|apply Kd.R_alloc|apply Kd.R_drewN|apply Kd.R_drew));exact HO132.out⟩,⟨by repeat (first|(with_reducible first|exact HB.out|apply zzD|apply zzE|apply zzF)|exact HB.out)⟩⟩
     case round =>
      clear H'
      try clear c1
      try clear p1
      try clear q1
      try clear hx1
      try clear p2
      try clear c3
      try clear c4
      try clear c6
      try clear c6b0
      try clear c7
      try clear c7b0
      try clear c8
      try clear c8b0
      try clear c9
      try clear c9b0
      try clear hx128_0
      try clear hx129_0
      try clear p128
      try clear p129
      try clear q128
      try clear q129
      obtain ⟨x8_1,x26_1,rfl,HA,HK1,HO_8,HB⟩:=hrel
      cases gk with
      | zero => exact absurd HA.out (by simp [canon_table_types.l0])
      | succ k1 =>
       have H:=HA.out
       clear HA
       simp only [canon_table_types.l0] at H
       by_cases c12 : x26_1 < ((rd_L2 (rd_L3 l4 a1) a2).length : Int)
       ·rw [if_pos c12] at H
        have c12b0 : decide (x26_1 < ((rd_L2 (rd_L3 l4 a1) a2).length : Int)) = true:=decide_eq_true c12
        clear c12
        by_cases c13 : 0 ≤ x26_1
        ·rw [if_pos c13] at H
         have c13b0 : decide (0 ≤ x26_1) = true:=decide_eq_true c13
         clear c13
         by_cases c14 : x26_1 < ((rd_L2 (rd_L3 l4 a1) a2).length : Int)
         ·rw [if_pos c14] at H
          have c14b0 : decide (x26_1 < ((rd_L2 (rd_L3 l4 a1) a2).length : Int)) = true:=decide_eq_true c14
          clear c14
          by_cases c15 : 0 ≤ (rd (rd_L2 (rd_L3 l4 a1) a2) x26_1)
          ·rw [if_pos c15] at H
           have c15b0 : decide (0 ≤ (rd (rd_L2 (rd_L3 l4 a1) a2) x26_1)) = true:=decide_eq_true c15
           clear c15
           by_cases c16 : (rd (rd_L2 (rd_L3 l4 a1) a2) x26_1) < (l3.length : Int)
           ·rw [if_pos c16] at H
            have c16b0 : decide ((rd (rd_L2 (rd_L3 l4 a1) a2) x26_1) < (l3.length : Int)) = true:=decide_eq_true c16
            clear c16
            by_cases c17 : x8_1.length < 17592186044416
            ·rw [if_pos c17] at H
             have LMc17:=Aside0.mk c17
             clear c17
             obtain ⟨y135,hy135⟩ : ∃ y_ : List Int,y_ = (x8_1 ++ [(rd_T34 l3 (rd (rd_L2 (rd_L3 l4 a1) a2) x26_1)).f0]):=⟨_,rfl⟩
             replace H : (canon_table_types.l0 k1 l3 y135 (rd_L2 (rd_L3 l4 a1) a2) ((rd_L2 (rd_L3 l4 a1) a2).length : Int) (wrap64 (x26_1 + 1))) = some r:=by first|(rw [hy135];with_reducible exact H)|(have H2_:=(Option.bind_some _ _).symm.trans H;rw [hy135];with_reducible exact H2_)|(have H2_:=(Option.bind_some _ _).symm.trans H;with_reducible exact H2_)|with_reducible exact H|(rw [hy135];exact H)|exact H
             have Ny135:=Aside0.mk hy135
             clear hy135
             have H':=Aside0.mk H
             clear H
             have p133 : 0 ≤ (x26_1 : Int):=of_decide_eq_true (by first|(with_reducible assumption)|assumption)
             have q133 : x26_1 < ((rd_L2 (rd_L3 l4 a1) a2).length : Int):=of_decide_eq_true (by first|(with_reducible assumption)|assumption)
             obtain ⟨ad133,e133,hx133_0⟩:=Kd.at_int HR129_0.out x26_1 p133 q133
             cases e133
             replace hx133_0:=(HB.out.cell (World.block_lt_of_cell? w _ hx133_0)).trans hx133_0
             replace p133:=eq_true p133
             replace q133:=eq_true q133
             have p134 : 0 ≤ ((rd (rd_L2 (rd_L3 l4 a1) a2) x26_1) : Int):=of_decide_eq_true (by first|(with_reducible assumption)|assumption)
             have q134 : (rd (rd_L2 (rd_L3 l4 a1) a2) x26_1) < (l3.length : Int):=of_decide_eq_true (by first|(with_reducible assumption)|assumption)
             obtain ⟨ad134,e134,hx134_0,hx134_1,hx134_2⟩:=at_T34 HR3.out (rd (rd_L2 (rd_L3 l4 a1) a2) x26_1) p134 q134
             cases e134
             replace hx134_0:=(HB.out.cell (World.block_lt_of_cell? w _ hx134_0)).trans hx134_0
             replace hx134_1:=(HB.out.cell (World.block_lt_of_cell? w _ hx134_1)).trans hx134_1
             replace hx134_2:=(HB.out.cell (World.block_lt_of_cell? w _ hx134_2)).trans hx134_2
             replace p134:=eq_true p134
             replace q134:=eq_true q134
             have hcp4_0:=pw_cell_below HB.out HG0.out;have hcp4_1:=pw_cell_below HB.out HG1.out;have hcp4_2:=pw_cell_below HB.out HG2.out
             go_wp2_with (first|((with_reducible refine gate_builtin (b:=.append) (xs:=#[.tmp 30,.tmp 40]) rfl ?_);at_builtin;refine Kd.R_append (Kd.int .i64) (w0:=w) w.heap.size rfl (.tmp 30) (.tmp 40) 27 3 (.int .i64 0) 8 rfl Try.underlying27 info3 rfl (by decide) (by omega) u8 x8_1 ((rd_T34 l3 (rd (rd_L2 (rd_L3 l4 a1) a2) x26_1)).f0) [.int .i64 ((rd_T34 l3 (rd (rd_L2 (rd_L3 l4 a1) a2) x26_1)).f0)] (fun _=>True) (fun _=>False) rfl rfl ?aP (fun _ hk=>hk.elim) ?aF ?aO ?aB ?aS ?aL ?_;(case aP=>exact rfl);(case aB=>exact (by repeat (first|(with_reducible first|exact HB.out|apply zzD|apply zzE|apply zzF)|exact HB.out)));(case aF=>exact (fun _ _=>trivial));(case aO=>exact (by (with_reducible repeat (first|apply Kd.R_alloc|apply Kd.R_drewN|apply Kd.R_drew));exact HO_8.out));(case aS=>exact (below_size (by repeat (first|(with_reducible first|exact HB.out|apply zzD|apply zzE|apply zzF)|exact HB.out))));(case aL=>have:=LMc17.out;omega);intro v136 w18 ho hb hg hat;rw [← Ny135.out] at ho;have n0_:=Aside0.mk (hb);have n1_:=Aside0.mk (ho);clear HB;clear HO_8;have HB:=n0_;have HO137:=n1_;clear n0_ n1_;have hcp3_0:=pw_cell_below HB.out HG0.out;have hcp3_1:=pw_cell_below HB.out HG1.out;have hcp3_2:=pw_cell_below HB.out HG2.out;clear ho hb hg hat))
             go_roundg k1
             case measure=>have:=HK1.out;omega
             case rel=>exact ⟨(y135),(wrap64 (x26_1 + 1)),(by first|rfl|(simp;done)|(simp [*];done)),H',⟨by have:=HK1.out;omega⟩,⟨by (with_reducible repeat (first|apply Kd.R_alloc|apply Kd.R_drewN|apply Kd.R_drew));exact HO137.out⟩,⟨by repeat (first|(with_reducible first|exact HB.out|apply zzD|apply zzE|apply zzF)|exact HB.out)⟩⟩
            ·rw [if_neg c17] at H
             exact absurd H (by simp)
           ·rw [if_neg c16] at H
            exact absurd H (by simp)
          ·rw [if_neg c15] at H
           exact absurd H (by simp)
         ·rw [if_neg c14] at H
          exact absurd H (by simp)
        ·rw [if_neg c13] at H
         exact absurd H (by simp)
       ·rw [if_neg c12] at H
        have c12b0 : decide (x26_1 < ((rd_L2 (rd_L3 l4 a1) a2).length : Int)) = false:=decide_eq_false c12
        clear c12
        obtain rfl:=Option.some.inj H
        have hcp5_0:=pw_cell_below HB.out HG0.out;have hcp5_1:=pw_cell_below HB.out HG1.out;have hcp5_2:=pw_cell_below HB.out HG2.out
        go_wp2
        go_ret
        exact ⟨_,by first|rfl|(simp [errW_none,errW_some] <;> rfl)|(simp [*,errW_none,errW_some] <;> rfl),by (with_reducible repeat (first|apply Kd.R_alloc|apply Kd.R_drewN|apply Kd.R_drew));exact HO_8.out,by repeat (first|(with_reducible first|exact HB.out|apply zzD|apply zzE|apply zzF)|exact HB.out)⟩
    ·rw [if_neg c9] at H
     exact absurd H (by simp)
   ·rw [if_neg c8] at H
    exact absurd H (by simp)
  ·rw [if_neg c7] at H
   exact absurd H (by simp)
 ·rw [if_neg c6] at H
  exact absurd H (by simp)
end Go.Proofs.Ytgmomcjnldahjaa.Pr
namespace Go.Proofs.Ytgmomcjnldahjaa.Pr
open Go.RowKit Go.Proofs.YtgmomcjnldahjaaW.PrintWords Go.Proofs.YtgmomcjnldahjaaW.PrintLast Go.Proofs.YtgmomcjnldahjaaW.PrintMore
attribute [local go_sem] max2_int min2_int max_two min_two max_three min_three max_four min_four
set_option linter.unusedVariables false
set_option linter.unusedSimpArgs false
def canon_table_place.l0 : Nat → List Int → List (S34) → List (List (List Int)) → Int → List Int → List Int → Int → Int → Option (List Int)
 | 0,_,_,_,_,_,_,_,_ => none
 | k + 1,x0,x2,x3,x6,x7,x28,x29,x30 => if x30 < x29 then (if 0 ≤ x30 then (if x30 < (x28.length : Int) then ((canon_table_types.f k x0 (rd x28 x30) x6 x2 x3).bind fun t145 => (if x7.length + t145.length < 17592186044416 then ((some (x7 ++ t145 : List Int)).bind fun y148 => ((canon_table_types.f k x0 x6 (rd x28 x30) x2 x3).bind fun t151 => (if y148.length + t151.length < 17592186044416 then (canon_table_place.l0 k x0 x2 x3 x6 (y148 ++ t151) x28 x29 (wrap64 (x30 + 1))) else (none)))) else (none))) else (none)) else (none)) else ((canon_table_types.f k x0 x6 x6 x2 x3).bind fun t157 => (if x7.length + t157.length < 17592186044416 then (some (x7 ++ t157)) else (none)))
def canon_table_place.f (k : Nat) (l0 : List Int) (l1 : List Int) (l2 : List (S34)) (l3 : List (List (List Int))) : Option (List Int):=if 0 ≤ (wrap64 ((l1.length : Int) - 1)) then (if (wrap64 ((l1.length : Int) - 1)) < (l1.length : Int) then (if 0 ≤ (rd l1 (wrap64 ((l1.length : Int) - 1))) then (if (rd l1 (wrap64 ((l1.length : Int) - 1))) < (l0.length : Int) then (if (wrap64 ((l1.length : Int) - 1)) ≤ (l1.length : Int) then (canon_table_place.l0 k l0 l2 l3 (rd l1 (wrap64 ((l1.length : Int) - 1))) (([rd l0 (rd l1 (wrap64 ((l1.length : Int) - 1)))] : List Int)) (l1.take ((wrap64 ((l1.length : Int) - 1)) : Int).toNat) ((l1.take ((wrap64 ((l1.length : Int) - 1)) : Int).toNat).length : Int) 0) else (none)) else (none)) else (none)) else (none)) else (none)
set_option maxHeartbeats 8000000 in
set_option maxRecDepth 100000 in
theorem canon_table_place.calls (k : Nat) (A0 : Option Addr) (c0 : Nat) (l0 : List Int) (A1 : Option Addr) (c1 : Nat) (l1 : List Int) (A2 : Option Addr) (c2 : Nat) (l2 : List (S34)) (A3 : Option Addr) (c3 : Nat) (l3 : List (List (List Int))) (r : List Int) (w : World) (hr0 : Kd.C (Kd.int .i64) w A0 l0.length l0) (hc0 : l0.length ≤ c0) (hr1 : Kd.C (Kd.int .i64) w A1 l1.length l1) (hc1 : l1.length ≤ c1) (hr2 : Kd.C k34 w A2 l2.length l2) (hc2 : l2.length ≤ c2) (hr3 : Kd.C (Kd.slice 27 (Kd.slice 3 (Kd.int .i64))) w A3 l3.length l3) (hc3 : l3.length ≤ c3) (h : canon_table_place.f k l0 l1 l2 l3 = some r) {gb : Nat} (hg0 : w.cell? ⟨gb,0,none⟩ = some (.slice A0 l0.length c0)) (hg1 : w.cell? ⟨gb,1,none⟩ = some (.slice A2 l2.length c2)) (hg2 : w.cell? ⟨gb,2,none⟩ = some (.slice A3 l3.length c3)) :
  Calls Try.prog 69 #[.pointer (some ⟨gb,0,none⟩),.slice A1 l1.length c1] w fun e w'=>∃ v0_ : Value,e = .returned (v0_) ∧ Kd.R (Kd.int .i64) 3 w' w.heap.size (fun _=>True) v0_ r ∧ Below w.heap.size w w':=by
 have HR0:=Aside0.mk hr0
 have HC0:=Aside0.mk hc0
 clear hr0 hc0
 have HR1:=Aside0.mk hr1
 have HC1:=Aside0.mk hc1
 clear hr1 hc1
 have HR2:=Aside0.mk hr2
 have HC2:=Aside0.mk hc2
 clear hr2 hc2
 have HR3:=Aside0.mk hr3
 have HC3:=Aside0.mk hc3
 clear hr3 hc3
 have HG0:=Aside0.mk hg0
 have HG1:=Aside0.mk hg1
 have HG2:=Aside0.mk hg2
 clear hg0 hg1 hg2
 have HB:=Aside0.mk (Below.refl w.heap.size w)
 have H : (if 0 ≤ (wrap64 ((l1.length : Int) - 1)) then (if (wrap64 ((l1.length : Int) - 1)) < (l1.length : Int) then (if 0 ≤ (rd l1 (wrap64 ((l1.length : Int) - 1))) then (if (rd l1 (wrap64 ((l1.length : Int) - 1))) < (l0.length : Int) then (if (wrap64 ((l1.length : Int) - 1)) ≤ (l1.length : Int) then (canon_table_place.l0 k l0 l2 l3 (rd l1 (wrap64 ((l1.length : Int) - 1))) (([rd l0 (rd l1 (wrap64 ((l1.length : Int) - 1)))] : List Int)) (l1.take ((wrap64 ((l1.length : Int) - 1)) : Int).toNat) ((l1.take ((wrap64 ((l1.length : Int) - 1)) : Int).toNat).length : Int) 0) else (none)) else (none)) else (none)) else (none)) else (none)) = some r:=h
 clear h
 obtain ⟨ji5,hji5⟩ : ∃ j_ : Int,(wrap64 ((l1.length : Int) - 1)) = j_:=⟨_,rfl⟩
 replace H : (if 0 ≤ (ji5) then (if (ji5) < (l1.length : Int) then (if 0 ≤ (rd l1 (ji5)) then (if (rd l1 (ji5)) < (l0.length : Int) then (if (ji5) ≤ (l1.length : Int) then (canon_table_place.l0 k l0 l2 l3 (rd l1 (ji5)) (([rd l0 (rd l1 (ji5))] : List Int)) (l1.take ((ji5) : Int).toNat) ((l1.take ((ji5) : Int).toNat).length : Int) 0) else (none)) else (none)) else (none)) else (none)) else (none)) = some r:=by first|(rw [hji5] at H;exact H)|(simp only [hji5] at H ⊢;exact H)
 have hji5w : (IntKind.i64.wrap ((l1.length : Int) - 1)) = ji5:=(i64_w _).trans hji5
 by_cases c6 : 0 ≤ (ji5)
 ·rw [if_pos c6] at H
  have c6b0 : decide (0 ≤ (ji5)) = true:=decide_eq_true c6
  clear c6
  by_cases c7 : (ji5) < (l1.length : Int)
  ·rw [if_pos c7] at H
   have c7b0 : decide ((ji5) < (l1.length : Int)) = true:=decide_eq_true c7
   clear c7
   by_cases c8 : 0 ≤ (rd l1 (ji5))
   ·rw [if_pos c8] at H
    have c8b0 : decide (0 ≤ (rd l1 (ji5))) = true:=decide_eq_true c8
    clear c8
    by_cases c9 : (rd l1 (ji5)) < (l0.length : Int)
    ·rw [if_pos c9] at H
     have c9b0 : decide ((rd l1 (ji5)) < (l0.length : Int)) = true:=decide_eq_true c9
     clear c9
     obtain ⟨y140,hy140⟩ : ∃ y_ : List Int,y_ = (([rd l0 (rd l1 (ji5))] : List Int)):=⟨_,rfl⟩
     replace H : (if (ji5) ≤ (l1.length : Int) then (canon_table_place.l0 k l0 l2 l3 (rd l1 (ji5)) y140 (l1.take ((ji5) : Int).toNat) ((l1.take ((ji5) : Int).toNat).length : Int) 0) else (none)) = some r:=by first|(rw [hy140];with_reducible exact H)|(have H2_:=(Option.bind_some _ _).symm.trans H;rw [hy140];with_reducible exact H2_)|(have H2_:=(Option.bind_some _ _).symm.trans H;with_reducible exact H2_)|with_reducible exact H|(rw [hy140];exact H)|exact H
     have Ny140:=Aside0.mk hy140
     clear hy140
     have c10b0:=eq_true (of_decide_eq_true (by first|(with_reducible assumption)|assumption) : 0 ≤ (ji5))
     by_cases c11 : (ji5) ≤ (l1.length : Int)
     ·rw [if_pos c11] at H
      have c11b0:=eq_true c11
      have c11b1 : decide ((ji5) ≤ (l1.length : Int)) = true:=decide_eq_true c11
      clear c11
      have H':=Aside0.mk H
      clear H
      have p138 : 0 ≤ ((ji5) : Int):=of_decide_eq_true (by first|(with_reducible assumption)|assumption)
      have q138 : (ji5) < (l1.length : Int):=of_decide_eq_true (by first|(with_reducible assumption)|assumption)
      have hmx_ : max ji5 0 = ji5:=by omega
      have htl_ : ((l1.take ((ji5) : Int).toNat).length : Int) = ji5:=by rw [List.length_take];omega
      obtain ⟨ad138,e138,hx138_0⟩:=Kd.at_int HR1.out (ji5) p138 q138
      cases e138
      replace p138:=eq_true p138
      replace q138:=eq_true q138
      have p139 : 0 ≤ ((rd l1 (ji5)) : Int):=of_decide_eq_true (by first|(with_reducible assumption)|assumption)
      have q139 : (rd l1 (ji5)) < (l0.length : Int):=of_decide_eq_true (by first|(with_reducible assumption)|assumption)
      obtain ⟨ad139,e139,hx139_0⟩:=Kd.at_int HR0.out (rd l1 (ji5)) p139 q139
      cases e139
      replace p139:=eq_true p139
      replace q139:=eq_true q139
      go_enter Try.func69,Try.ntmps69
      have hcp2_0:=pw_cell_below HB.out HG0.out;have hcp2_1:=pw_cell_below HB.out HG1.out;have hcp2_2:=pw_cell_below HB.out HG2.out
      go_wp2_with (first|((with_reducible refine gate_dst (N:=25) rfl ?_);refine Kd.R_lit (Kd.int .i64) _ 3 ?hg (N:=25) ?hd (xs:=([rd l0 (rd l1 (ji5))] : List Int)) (inner:=[.int .i64 (rd l0 (rd l1 (ji5)))]) (ok:=fun _=>True) (okp:=fun _=>True) ?hr ?hp (fun _ hk=>hk) trivial (Below.refl _ _) (Nat.le_refl _) (by simp) ?_;(case hd=>rfl);(case hg=>rfl);(case hr=>first|(go_simp;done)|(go_simp;rfl));(case hp=>exact (Reps.one (show Kd.M (Kd.int .i64) _ _ _ (rd l0 (rd l1 (ji5))) [.int .i64 (rd l0 (rd l1 (ji5)))] from rfl) (Reps.none _ _)));intro v141 w12 ho13 hb hg_ hnew_;clear hg_ hnew_;(first|rw [← Ny140.out] at ho13|(simp only [Int.reduceToNat] at ho13;rw [← Ny140.out] at ho13));have n0_:=Aside0.mk (Kd.R_lower ho13 (below_size (by repeat (first|(with_reducible first|exact HB.out|apply zzD|apply zzE|apply zzF)|exact HB.out))));have n1_:=Aside0.mk (below_step (by repeat (first|(with_reducible first|exact HB.out|apply zzD|apply zzE|apply zzF)|exact HB.out)) hb);clear HB;have HO142:=n0_;have HB:=n1_;clear n0_ n1_;have hcp1_0:=pw_cell_below HB.out HG0.out;have hcp1_1:=pw_cell_below HB.out HG1.out;have hcp1_2:=pw_cell_below HB.out HG2.out;clear hb ho13;obtain ⟨i014,hi014,_,hsz14,_⟩:=info_parts info3;obtain ⟨hcut14,hA14,hC14⟩:=print_take_of (P:=Try.prog) (Value.int .i64) 0 27 3 .i64 Try.underlying27 hi014 hsz14 (some ad138) c1 l1 (ji5) (of_decide_eq_true (by first|(with_reducible assumption)|assumption)) (of_decide_eq_true (by first|(with_reducible assumption)|assumption)) HC1.out;have HR143:=Aside0.mk (Kd.C_of_reads (h1:=fun _=>rfl) (hA14 _ (Kd.reads_of_C HR1.out)));have HC143:=Aside0.mk hC14;clear hA14 hC14 hi014 hsz14))
      go_loopg [7,30] k (fun kq v7 v30 w'=>∃ (x7_1 : List Int) (x30_1 : Int),v30 = .int .i64 x30_1 ∧ Aside0 (canon_table_place.l0 kq l0 l2 l3 (rd l1 (ji5)) x7_1 (l1.take ((ji5) : Int).toNat) ((l1.take ((ji5) : Int).toNat).length : Int) x30_1 = some r) ∧ Aside0 (kq ≤ k) ∧ Aside0 (Kd.R (Kd.int .i64) 3 w' w.heap.size (fun _=>True) v7 x7_1) ∧ Aside0 (Below w.heap.size w w'))
      case atStart=>exact ⟨(y140),(0),(by first|rfl|(simp;done)|(simp [*];done)),H',⟨Nat.le_refl _⟩,⟨by (with_reducible repeat (first|apply Kd.R_alloc|apply Kd.R_drewN|apply Kd.R_drew));exact HO142.out⟩,⟨by repeat (first|(with_reducible first|exact HB.out|apply zzD|apply zzE|apply zzF)|exact HB.out)⟩⟩
      case round =>
       clear H'
       try clear c1
       try clear p1
       try clear q1
       try clear hx1
       try clear c2
       try clear p2
       try clear c3
       try clear c6
       try clear c6b0
       try clear p6
       try clear c7
       try clear c7b0
       try clear c8
       try clear c8b0
       try clear c9
       try clear c9b0
       try clear c10
       try clear c10b0
       try clear c11
       try clear c11b0
       try clear c11b1
       try clear p13
       try clear q13
       try clear hx13
       try clear hx138_0
       try clear hx139_0
       try clear p138
       try clear p139
       try clear q138
       try clear q139
       obtain ⟨x7_1,x30_1,rfl,HA,HK1,HO_7,HB⟩:=hrel
       cases gk with
       | zero => exact absurd HA.out (by simp [canon_table_place.l0])
       | succ k1 =>
        have H:=HA.out
        clear HA
        simp only [canon_table_place.l0] at H
        by_cases c15 : x30_1 < ((l1.take ((ji5) : Int).toNat).length : Int)
        ·rw [if_pos c15] at H
         have c15b0 : decide (x30_1 < ((l1.take ((ji5) : Int).toNat).length : Int)) = true:=decide_eq_true c15
         have c15b0z : decide (x30_1 < ji5) = true:=by rw [← htl_];exact c15b0
         have c15b0y : decide (x30_1 < max ji5 0) = true:=by rw [hmx_];exact c15b0z
         have c15b0w:=eq_true (of_decide_eq_true c15b0z)
         clear c15
         by_cases c16 : 0 ≤ x30_1
         ·rw [if_pos c16] at H
          have c16b0 : decide (0 ≤ x30_1) = true:=decide_eq_true c16
          clear c16
          by_cases c17 : x30_1 < ((l1.take ((ji5) : Int).toNat).length : Int)
          ·rw [if_pos c17] at H
           have c17b0 : decide (x30_1 < ((l1.take ((ji5) : Int).toNat).length : Int)) = true:=decide_eq_true c17
           have c17b0z : decide (x30_1 < ji5) = true:=by rw [← htl_];exact c17b0
           have c17b0y : decide (x30_1 < max ji5 0) = true:=by rw [hmx_];exact c17b0z
           have c17b0w:=eq_true (of_decide_eq_true c17b0z)
           clear c17
           replace H:=Option.bind_eq_some_iff.mp H
           obtain ⟨t145,A180,H⟩:=H
           replace H : (if x7_1.length + t145.length < 17592186044416 then ((some (x7_1 ++ t145 : List Int)).bind fun y148=>((canon_table_types.f k1 l0 (rd l1 (ji5)) (rd (l1.take ((ji5) : Int).toNat) x30_1) l2 l3).bind fun t151=>(if y148.length + t151.length < 17592186044416 then (canon_table_place.l0 k1 l0 l2 l3 (rd l1 (ji5)) (y148 ++ t151) (l1.take ((ji5) : Int).toNat) ((l1.take ((ji5) : Int).toNat).length : Int) (wrap64 (x30_1 + 1))) else (none)))) else (none)) = some r:=H
           have A18:=Aside0.mk A180
           clear A180
           by_cases c19 : x7_1.length + t145.length < 17592186044416
           ·rw [if_pos c19] at H
            have LMc19:=Aside0.mk c19
            clear c19
            obtain ⟨y148,hy148⟩ : ∃ y_ : List Int,y_ = (x7_1 ++ t145):=⟨_,rfl⟩
            replace H : ((canon_table_types.f k1 l0 (rd l1 (ji5)) (rd (l1.take ((ji5) : Int).toNat) x30_1) l2 l3).bind fun t151=>(if y148.length + t151.length < 17592186044416 then (canon_table_place.l0 k1 l0 l2 l3 (rd l1 (ji5)) (y148 ++ t151) (l1.take ((ji5) : Int).toNat) ((l1.take ((ji5) : Int).toNat).length : Int) (wrap64 (x30_1 + 1))) else (none))) = some r:=by first|(rw [hy148];with_reducible exact H)|(have H2_:=(Option.bind_some _ _).symm.trans H;rw [hy148];with_reducible exact H2_)|(have H2_:=(Option.bind_some _ _).symm.trans H;with_reducible exact H2_)|with_reducible exact H|(rw [hy148];exact H)|exact H
            have Ny148:=Aside0.mk hy148
            clear hy148
            replace H:=Option.bind_eq_some_iff.mp H
            obtain ⟨t151,A200,H⟩:=H
            replace H : (if y148.length + t151.length < 17592186044416 then (canon_table_place.l0 k1 l0 l2 l3 (rd l1 (ji5)) (y148 ++ t151) (l1.take ((ji5) : Int).toNat) ((l1.take ((ji5) : Int).toNat).length : Int) (wrap64 (x30_1 + 1))) else (none)) = some r:=H
            have A20:=Aside0.mk A200
            clear A200
            by_cases c21 : y148.length + t151.length < 17592186044416
            ·rw [if_pos c21] at H
             have LMc21:=Aside0.mk c21
             clear c21
             obtain ⟨y154,hy154⟩ : ∃ y_ : List Int,y_ = (y148 ++ t151):=⟨_,rfl⟩
             replace H : (canon_table_place.l0 k1 l0 l2 l3 (rd l1 (ji5)) y154 (l1.take ((ji5) : Int).toNat) ((l1.take ((ji5) : Int).toNat).length : Int) (wrap64 (x30_1 + 1))) = some r:=by first|(rw [hy154];with_reducible exact H)|(have H2_:=(Option.bind_some _ _).symm.trans H;rw [hy154];with_reducible exact H2_)|(have H2_:=(Option.bind_some _ _).symm.trans H;with_reducible exact H2_)|with_reducible exact H|(rw [hy154];exact H)|exact H
             have Ny154:=Aside0.mk hy154
             clear hy154
             have H':=Aside0.mk H
             clear H
             have p144 : 0 ≤ (x30_1 : Int):=of_decide_eq_true (by first|(with_reducible assumption)|assumption)
             have q144 : x30_1 < ((l1.take ((ji5) : Int).toNat).length : Int):=of_decide_eq_true (by first|(with_reducible assumption)|assumption)
             obtain ⟨ad144,e144,hx144_0⟩:=Kd.at_int HR143.out x30_1 p144 q144
             obtain rfl : ad138 = ad144:=(by injection e144)
             replace hx144_0:=(HB.out.cell (World.block_lt_of_cell? w _ hx144_0)).trans hx144_0
             replace p144:=eq_true p144
             replace q144:=eq_true q144
             have hcp7_0:=pw_cell_below HB.out HG0.out;have hcp7_1:=pw_cell_below HB.out HG1.out;have hcp7_2:=pw_cell_below HB.out HG2.out
             go_wp2_with (first|((with_reducible refine gate_callee (f:=81) rfl ?_);refine goesL_ (some 38) rfl rfl Try.func81 (by kernel_rfl) rfl #[.pointer (some ⟨gb,0,none⟩),.int .i64 (rd (l1.take ((ji5) : Int).toNat) x30_1),.int .i64 (rd l1 (ji5))] rfl (by (try simp only [List.map_toArray,List.map_cons,List.map_nil]);first|done|(simp only [hji5];rfl)|rfl|(simp only [List.length_drop,List.length_take];rfl)) ?_;(with_reducible refine (canon_table_types.calls k1 (some ad139) c0 l0 (rd (l1.take ((ji5) : Int).toNat) x30_1) (rd l1 (ji5)) A2 c2 l2 A3 c3 l3 t145 _ ?side1 ?side2 ?side3 ?side4 ?side5 ?side6 A18.out ?sg0 ?sg1 ?sg2).mono ?_);(case sg0=>exact pw_cell_below (by repeat (first|(with_reducible first|exact HB.out|apply zzD|apply zzE|apply zzF)|exact HB.out)) HG0.out);(case sg1=>exact pw_cell_below (by repeat (first|(with_reducible first|exact HB.out|apply zzD|apply zzE|apply zzF)|exact HB.out)) HG1.out);(case sg2=>exact pw_cell_below (by repeat (first|(with_reducible first|exact HB.out|apply zzD|apply zzE|apply zzF)|exact HB.out)) HG2.out);(case side1=>repeat (first|exact (Kd.C_below HR0.out HB.out)|(with_reducible refine Kd.C_alloc ?_ _)|(with_reducible refine Kd.C_drewN ?_ _)|(with_reducible refine Kd.C_drew ?_)));(case side2=>exact HC0.out);(case side3=>repeat (first|exact (Kd.C_below HR2.out HB.out)|(with_reducible refine Kd.C_alloc ?_ _)|(with_reducible refine Kd.C_drewN ?_ _)|(with_reducible refine Kd.C_drew ?_)));(case side4=>exact HC2.out);(case side5=>repeat (first|exact (Kd.C_below HR3.out HB.out)|(with_reducible refine Kd.C_alloc ?_ _)|(with_reducible refine Kd.C_drewN ?_ _)|(with_reducible refine Kd.C_drew ?_)));(case side6=>exact HC3.out);rintro e w22 ⟨v146,rfl,ho0,hb⟩;refine ⟨_,rfl,?_⟩;have n0_:=Aside0.mk (Kd.R_elder' (by (with_reducible repeat (first|apply Kd.R_alloc|apply Kd.R_drewN|apply Kd.R_drew));exact HO_7.out) (Kd.R_base ho0) hb);have n1_:=Aside0.mk (Kd.R_lower (Kd.R_new' ho0 (Kd.R_lt (by (with_reducible repeat (first|apply Kd.R_alloc|apply Kd.R_drewN|apply Kd.R_drew));exact HO_7.out))) (below_size (by repeat (first|(with_reducible first|exact HB.out|apply zzD|apply zzE|apply zzF)|exact HB.out))));have n2_:=Aside0.mk (below_step (by repeat (first|(with_reducible first|exact HB.out|apply zzD|apply zzE|apply zzF)|exact HB.out)) hb);clear HO_7;clear HB;have HO_7:=n0_;have HO147:=n1_;have HB:=n2_;clear n0_ n1_ n2_;have hcp3_0:=pw_cell_below HB.out HG0.out;have hcp3_1:=pw_cell_below HB.out HG1.out;have hcp3_2:=pw_cell_below HB.out HG2.out;(try clear hb);(try clear hb2);(try clear hk);(try clear hi);(try clear ho0);obtain ⟨Ao24,co24,eo24⟩:=Kd.R_slice HO147.out;subst eo24)|((with_reducible refine gate_builtin (b:=.append) (xs:=#[.tmp 34,.tmp 38]) rfl ?_);at_builtin;refine Kd.R_append_rows (Kd.int .i64) (w0:=w) w.heap.size rfl (.tmp 34) (.tmp 38) 27 3 (.int .i64 0) 8 rfl Try.underlying27 info3 rfl (by decide) (by omega) u7 x7_1 t145 _ _ _ (fun k_=>some k_ ≠ (.slice Ao24 t145.length co24 : Value).ownBlock) (fun _=>False) rfl rfl ?aO ?aR (fun _ _ h=>h) (fun _ h=>h.elim) ?aF ?aB ?aS ?aL ?_;(case aR=>repeat (first|exact (Kd.R_reads' HO147.out).2.2|(with_reducible refine Kd.C_alloc ?_ _)|(with_reducible refine Kd.C_drewN ?_ _)|(with_reducible refine Kd.C_drew ?_)));(case aB=>exact (by repeat (first|(with_reducible first|exact HB.out|apply zzD|apply zzE|apply zzF)|exact HB.out)));(case aF=>exact (fun k_ hk=>Kd.fresh' (Kd.R_lt (by (with_reducible repeat (first|apply Kd.R_alloc|apply Kd.R_drewN|apply Kd.R_drew));exact HO147.out)) k_ hk));(case aO=>exact (by (with_reducible repeat (first|apply Kd.R_alloc|apply Kd.R_drewN|apply Kd.R_drew));exact Kd.R_mono HO_7.out (fun _ hk=>hk.2)));(case aS=>exact (below_size (by repeat (first|(with_reducible first|exact HB.out|apply zzD|apply zzE|apply zzF)|exact HB.out))));(case aL=>have:=LMc19.out;omega);intro v149 w23 ho hb hg hat;rw [← Ny148.out] at ho;have n0_:=Aside0.mk (Kd.R_after (ok:=(fun _=>True)) (by (with_reducible repeat (first|apply Kd.R_alloc|apply Kd.R_drewN|apply Kd.R_drew));exact HO147.out) hg hat);have n1_:=Aside0.mk (hb);have n2_:=Aside0.mk (ho);clear HO147;clear HB;clear HO_7;have HO147:=n0_;have HB:=n1_;have HO150:=n2_;clear n0_ n1_ n2_;have hcp4_0:=pw_cell_below HB.out HG0.out;have hcp4_1:=pw_cell_below HB.out HG1.out;have hcp4_2:=pw_cell_below HB.out HG2.out;clear ho hb hg hat)|((with_reducible refine gate_callee (f:=81) rfl ?_);refine goesL_ (some 44) rfl rfl Try.func81 (by kernel_rfl) rfl #[.pointer (some ⟨gb,0,none⟩),.int .i64 (rd l1 (ji5)),.int .i64 (rd (l1.take ((ji5) : Int).toNat) x30_1)] rfl (by (try simp only [List.map_toArray,List.map_cons,List.map_nil]);first|done|(simp only [hji5];rfl)|rfl|(simp only [List.length_drop,List.length_take];rfl)) ?_;(with_reducible refine (canon_table_types.calls k1 (some ad139) c0 l0 (rd l1 (ji5)) (rd (l1.take ((ji5) : Int).toNat) x30_1) A2 c2 l2 A3 c3 l3 t151 _ ?side1 ?side2 ?side3 ?side4 ?side5 ?side6 A20.out ?sg0 ?sg1 ?sg2).mono ?_);(case sg0=>exact pw_cell_below (by repeat (first|(with_reducible first|exact HB.out|apply zzD|apply zzE|apply zzF)|exact HB.out)) HG0.out);(case sg1=>exact pw_cell_below (by repeat (first|(with_reducible first|exact HB.out|apply zzD|apply zzE|apply zzF)|exact HB.out)) HG1.out);(case sg2=>exact pw_cell_below (by repeat (first|(with_reducible first|exact HB.out|apply zzD|apply zzE|apply zzF)|exact HB.out)) HG2.out);(case side1=>repeat (first|exact (Kd.C_below HR0.out HB.out)|(with_reducible refine Kd.C_alloc ?_ _)|(with_reducible refine Kd.C_drewN ?_ _)|(with_reducible refine Kd.C_drew ?_)));(case side2=>exact HC0.out);(case side3=>repeat (first|exact (Kd.C_below HR2.out HB.out)|(with_reducible refine Kd.C_alloc ?_ _)|(with_reducible refine Kd.C_drewN ?_ _)|(with_reducible refine Kd.C_drew ?_)));(case side4=>exact HC2.out);(case side5=>repeat (first|exact (Kd.C_below HR3.out HB.out)|(with_reducible refine Kd.C_alloc ?_ _)|(with_reducible refine Kd.C_drewN ?_ _)|(with_reducible refine Kd.C_drew ?_)));(case side6=>exact HC3.out);rintro e w25 ⟨v152,rfl,ho0,hb⟩;refine ⟨_,rfl,?_⟩;have n0_:=Aside0.mk (Kd.R_elder' (by (with_reducible repeat (first|apply Kd.R_alloc|apply Kd.R_drewN|apply Kd.R_drew));exact HO147.out) (Kd.R_base ho0) hb);have n1_:=Aside0.mk (Kd.R_elder' (by (with_reducible repeat (first|apply Kd.R_alloc|apply Kd.R_drewN|apply Kd.R_drew));exact HO150.out) (Kd.R_base ho0) hb);have n2_:=Aside0.mk (Kd.R_lower (Kd.R_new' (Kd.R_new' ho0 (Kd.R_lt (by (with_reducible repeat (first|apply Kd.R_alloc|apply Kd.R_drewN|apply Kd.R_drew));exact HO147.out))) (Kd.R_lt (by (with_reducible repeat (first|apply Kd.R_alloc|apply Kd.R_drewN|apply Kd.R_drew));exact HO150.out))) (below_size (by repeat (first|(with_reducible first|exact HB.out|apply zzD|apply zzE|apply zzF)|exact HB.out))));have n3_:=Aside0.mk (below_step (by repeat (first|(with_reducible first|exact HB.out|apply zzD|apply zzE|apply zzF)|exact HB.out)) hb);clear HO147;clear HO150;clear HB;have HO147:=n0_;have HO150:=n1_;have HO153:=n2_;have HB:=n3_;clear n0_ n1_ n2_ n3_;have hcp5_0:=pw_cell_below HB.out HG0.out;have hcp5_1:=pw_cell_below HB.out HG1.out;have hcp5_2:=pw_cell_below HB.out HG2.out;(try clear hb);(try clear hb2);(try clear hk);(try clear hi);(try clear ho0);obtain ⟨Ao27,co27,eo27⟩:=Kd.R_slice HO153.out;subst eo27)|((with_reducible refine gate_builtin (b:=.append) (xs:=#[.tmp 40,.tmp 44]) rfl ?_);at_builtin;refine Kd.R_append_rows (Kd.int .i64) (w0:=w) w.heap.size rfl (.tmp 40) (.tmp 44) 27 3 (.int .i64 0) 8 rfl Try.underlying27 info3 rfl (by decide) (by omega) v149 y148 t151 _ _ _ (fun k_=>some k_ ≠ (.slice Ao24 t145.length co24 : Value).ownBlock ∧ some k_ ≠ (.slice Ao27 t151.length co27 : Value).ownBlock) (fun _=>False) rfl rfl ?aO ?aR (fun _ _ h=>h) (fun _ h=>h.elim) ?aF ?aB ?aS ?aL ?_;(case aR=>repeat (first|exact (Kd.R_reads' HO153.out).2.2|(with_reducible refine Kd.C_alloc ?_ _)|(with_reducible refine Kd.C_drewN ?_ _)|(with_reducible refine Kd.C_drew ?_)));(case aB=>exact (by repeat (first|(with_reducible first|exact HB.out|apply zzD|apply zzE|apply zzF)|exact HB.out)));(case aF=>exact (fun k_ hk=>⟨Kd.fresh' (Kd.R_lt (by (with_reducible repeat (first|apply Kd.R_alloc|apply Kd.R_drewN|apply Kd.R_drew));exact HO147.out)) k_ hk,Kd.fresh' (Kd.R_lt (by (with_reducible repeat (first|apply Kd.R_alloc|apply Kd.R_drewN|apply Kd.R_drew));exact HO153.out)) k_ hk⟩));(case aO=>exact (by (with_reducible repeat (first|apply Kd.R_alloc|apply Kd.R_drewN|apply Kd.R_drew));exact HO150.out));(case aS=>exact (below_size (by repeat (first|(with_reducible first|exact HB.out|apply zzD|apply zzE|apply zzF)|exact HB.out))));(case aL=>have:=LMc21.out;omega);intro v155 w26 ho hb hg hat;rw [← Ny154.out] at ho;have n0_:=Aside0.mk (Kd.R_after (ok:=(fun k_=>some k_ ≠ (.slice Ao27 t151.length co27 : Value).ownBlock)) (by (with_reducible repeat (first|apply Kd.R_alloc|apply Kd.R_drewN|apply Kd.R_drew));exact Kd.R_mono HO147.out (fun _ hk=>⟨hk.2,hk.1.2⟩)) hg hat);have n1_:=Aside0.mk (Kd.R_after (ok:=(fun k_=>some k_ ≠ (.slice Ao24 t145.length co24 : Value).ownBlock)) (by (with_reducible repeat (first|apply Kd.R_alloc|apply Kd.R_drewN|apply Kd.R_drew));exact Kd.R_mono HO153.out (fun _ hk=>⟨hk.1.2,hk.2⟩)) hg hat);have n2_:=Aside0.mk (hb);have n3_:=Aside0.mk (ho);clear HO147;clear HO153;clear HB;clear HO150;have HO147:=n0_;have HO153:=n1_;have HB:=n2_;have HO156:=n3_;clear n0_ n1_ n2_ n3_;have hcp6_0:=pw_cell_below HB.out HG0.out;have hcp6_1:=pw_cell_below HB.out HG1.out;have hcp6_2:=pw_cell_below HB.out HG2.out;clear ho hb hg hat))
             go_roundg k1
             case measure=>have:=HK1.out;omega
             case rel=>exact ⟨(y154),(wrap64 (x30_1 + 1)),(by first|rfl|(simp;done)|(simp [*];done)),H',⟨by have:=HK1.out;omega⟩,⟨by (with_reducible repeat (first|apply Kd.R_alloc|apply Kd.R_drewN|apply Kd.R_drew));exact Kd.R_mono HO156.out (fun _ hk=>trivial)⟩,⟨by repeat (first|(with_reducible first|exact HB.out|apply zzD|apply zzE|apply zzF)|exact HB.out)⟩⟩
            ·rw [if_neg c21] at H
             exact absurd H (by simp)
           ·rw [if_neg c19] at H
            exact absurd H (by simp)
          ·rw [if_neg c17] at H
           exact absurd H (by simp)
         ·rw [if_neg c16] at H
          exact absurd H (by simp)
        ·rw [if_neg c15] at H
         have c15b0 : decide (x30_1 < ((l1.take ((ji5) : Int).toNat).length : Int)) = false:=decide_eq_false c15
         have c15b0z : decide (x30_1 < ji5) = false:=by rw [← htl_];exact c15b0
         have c15b0y : decide (x30_1 < max ji5 0) = false:=by rw [hmx_];exact c15b0z
         have c15b0w:=eq_false (of_decide_eq_false c15b0z)
         clear c15
         replace H:=Option.bind_eq_some_iff.mp H
         obtain ⟨t157,A280,H⟩:=H
         replace H : (if x7_1.length + t157.length < 17592186044416 then (some (x7_1 ++ t157)) else (none)) = some r:=H
         have A28:=Aside0.mk A280
         clear A280
         by_cases c29 : x7_1.length + t157.length < 17592186044416
         ·rw [if_pos c29] at H
          have LMc29:=Aside0.mk c29
          clear c29
          obtain ⟨y160,hy160⟩ : ∃ y_ : List Int,y_ = (x7_1 ++ t157):=⟨_,rfl⟩
          replace H : (some y160) = some r:=by first|(rw [hy160];with_reducible exact H)|(have H2_:=(Option.bind_some _ _).symm.trans H;rw [hy160];with_reducible exact H2_)|(have H2_:=(Option.bind_some _ _).symm.trans H;with_reducible exact H2_)|with_reducible exact H|(rw [hy160];exact H)|exact H
          have Ny160:=Aside0.mk hy160
          clear hy160
          obtain rfl:=Option.some.inj H
          have hcp10_0:=pw_cell_below HB.out HG0.out;have hcp10_1:=pw_cell_below HB.out HG1.out;have hcp10_2:=pw_cell_below HB.out HG2.out
          go_wp2_with (first|((with_reducible refine gate_callee (f:=81) rfl ?_);refine goesL_ (some 51) rfl rfl Try.func81 (by kernel_rfl) rfl #[.pointer (some ⟨gb,0,none⟩),.int .i64 (rd l1 (ji5)),.int .i64 (rd l1 (ji5))] rfl (by (try simp only [List.map_toArray,List.map_cons,List.map_nil]);first|done|(simp only [hji5];rfl)|rfl|(simp only [List.length_drop,List.length_take];rfl)) ?_;(with_reducible refine (canon_table_types.calls k1 (some ad139) c0 l0 (rd l1 (ji5)) (rd l1 (ji5)) A2 c2 l2 A3 c3 l3 t157 _ ?side1 ?side2 ?side3 ?side4 ?side5 ?side6 A28.out ?sg0 ?sg1 ?sg2).mono ?_);(case sg0=>exact pw_cell_below (by repeat (first|(with_reducible first|exact HB.out|apply zzD|apply zzE|apply zzF)|exact HB.out)) HG0.out);(case sg1=>exact pw_cell_below (by repeat (first|(with_reducible first|exact HB.out|apply zzD|apply zzE|apply zzF)|exact HB.out)) HG1.out);(case sg2=>exact pw_cell_below (by repeat (first|(with_reducible first|exact HB.out|apply zzD|apply zzE|apply zzF)|exact HB.out)) HG2.out);(case side1=>repeat (first|exact (Kd.C_below HR0.out HB.out)|(with_reducible refine Kd.C_alloc ?_ _)|(with_reducible refine Kd.C_drewN ?_ _)|(with_reducible refine Kd.C_drew ?_)));(case side2=>exact HC0.out);(case side3=>repeat (first|exact (Kd.C_below HR2.out HB.out)|(with_reducible refine Kd.C_alloc ?_ _)|(with_reducible refine Kd.C_drewN ?_ _)|(with_reducible refine Kd.C_drew ?_)));(case side4=>exact HC2.out);(case side5=>repeat (first|exact (Kd.C_below HR3.out HB.out)|(with_reducible refine Kd.C_alloc ?_ _)|(with_reducible refine Kd.C_drewN ?_ _)|(with_reducible refine Kd.C_drew ?_)));(case side6=>exact HC3.out);rintro e w30 ⟨v158,rfl,ho0,hb⟩;refine ⟨_,rfl,?_⟩;have n0_:=Aside0.mk (Kd.R_elder' (by (with_reducible repeat (first|apply Kd.R_alloc|apply Kd.R_drewN|apply Kd.R_drew));exact HO_7.out) (Kd.R_base ho0) hb);have n1_:=Aside0.mk (Kd.R_lower (Kd.R_new' ho0 (Kd.R_lt (by (with_reducible repeat (first|apply Kd.R_alloc|apply Kd.R_drewN|apply Kd.R_drew));exact HO_7.out))) (below_size (by repeat (first|(with_reducible first|exact HB.out|apply zzD|apply zzE|apply zzF)|exact HB.out))));have n2_:=Aside0.mk (below_step (by repeat (first|(with_reducible first|exact HB.out|apply zzD|apply zzE|apply zzF)|exact HB.out)) hb);clear HO_7;clear HB;have HO_7:=n0_;have HO159:=n1_;have HB:=n2_;clear n0_ n1_ n2_;have hcp8_0:=pw_cell_below HB.out HG0.out;have hcp8_1:=pw_cell_below HB.out HG1.out;have hcp8_2:=pw_cell_below HB.out HG2.out;(try clear hb);(try clear hb2);(try clear hk);(try clear hi);(try clear ho0);obtain ⟨Ao32,co32,eo32⟩:=Kd.R_slice HO159.out;subst eo32)|((with_reducible refine gate_builtin (b:=.append) (xs:=#[.tmp 47,.tmp 51]) rfl ?_);at_builtin;refine Kd.R_append_rows (Kd.int .i64) (w0:=w) w.heap.size rfl (.tmp 47) (.tmp 51) 27 3 (.int .i64 0) 8 rfl Try.underlying27 info3 rfl (by decide) (by omega) u7 x7_1 t157 _ _ _ (fun k_=>some k_ ≠ (.slice Ao32 t157.length co32 : Value).ownBlock) (fun _=>False) rfl rfl ?aO ?aR (fun _ _ h=>h) (fun _ h=>h.elim) ?aF ?aB ?aS ?aL ?_;(case aR=>repeat (first|exact (Kd.R_reads' HO159.out).2.2|(with_reducible refine Kd.C_alloc ?_ _)|(with_reducible refine Kd.C_drewN ?_ _)|(with_reducible refine Kd.C_drew ?_)));(case aB=>exact (by repeat (first|(with_reducible first|exact HB.out|apply zzD|apply zzE|apply zzF)|exact HB.out)));(case aF=>exact (fun k_ hk=>Kd.fresh' (Kd.R_lt (by (with_reducible repeat (first|apply Kd.R_alloc|apply Kd.R_drewN|apply Kd.R_drew));exact HO159.out)) k_ hk));(case aO=>exact (by (with_reducible repeat (first|apply Kd.R_alloc|apply Kd.R_drewN|apply Kd.R_drew));exact Kd.R_mono HO_7.out (fun _ hk=>hk.2)));(case aS=>exact (below_size (by repeat (first|(with_reducible first|exact HB.out|apply zzD|apply zzE|apply zzF)|exact HB.out))));(case aL=>have:=LMc29.out;omega);intro v161 w31 ho hb hg hat;rw [← Ny160.out] at ho;have n0_:=Aside0.mk (Kd.R_after (ok:=(fun _=>True)) (by (with_reducible repeat (first|apply Kd.R_alloc|apply Kd.R_drewN|apply Kd.R_drew));exact HO159.out) hg hat);have n1_:=Aside0.mk (hb);have n2_:=Aside0.mk (ho);clear HO159;clear HB;clear HO_7;have HO159:=n0_;have HB:=n1_;have HO162:=n2_;clear n0_ n1_ n2_;have hcp9_0:=pw_cell_below HB.out HG0.out;have hcp9_1:=pw_cell_below HB.out HG1.out;have hcp9_2:=pw_cell_below HB.out HG2.out;clear ho hb hg hat))
          go_ret
          exact ⟨_,by first|rfl|(simp [errW_none,errW_some] <;> rfl)|(simp only [← hji5];first|rfl|(simp [errW_none,errW_some] <;> rfl))|(simp [*,errW_none,errW_some] <;> rfl),by (with_reducible repeat (first|apply Kd.R_alloc|apply Kd.R_drewN|apply Kd.R_drew));exact Kd.R_mono HO162.out (fun _ hk=>trivial),by repeat (first|(with_reducible first|exact HB.out|apply zzD|apply zzE|apply zzF)|exact HB.out)⟩
         ·rw [if_neg c29] at H
          exact absurd H (by simp)
     ·rw [if_neg c11] at H
      exact absurd H (by simp)
    ·rw [if_neg c9] at H
     exact absurd H (by simp)
   ·rw [if_neg c8] at H
    exact absurd H (by simp)
  ·rw [if_neg c7] at H
   exact absurd H (by simp)
 ·rw [if_neg c6] at H
  exact absurd H (by simp)
def canon_table_code.l0 : Nat → List Int → List Int → List (S34) → List (List (List Int)) → List Int → Int → Int → Option (List Int)
 | 0,_,_,_,_,_,_,_ => none
 | k + 1,x0,x1,x2,x3,x5,x11,x12 => if x12 < x11 then (if 0 ≤ (wrap64 (x12 + 1)) then (if (wrap64 (x12 + 1)) ≤ (x1.length : Int) then ((canon_table_place.f k x0 (x1.take ((wrap64 (x12 + 1)) : Int).toNat) x2 x3).bind fun t167 => (if x5.length + t167.length < 17592186044416 then (canon_table_code.l0 k x0 x1 x2 x3 (x5 ++ t167) x11 (wrap64 (x12 + 1))) else (none))) else (none)) else (none)) else (some x5)
def canon_table_code.f (k : Nat) (l0 : List Int) (l1 : List Int) (l2 : List (S34)) (l3 : List (List (List Int))) : Option (List Int):=canon_table_code.l0 k l0 l1 l2 l3 (([(l1.length : Int)] : List Int)) (l1.length : Int) 0
set_option maxHeartbeats 8000000 in
set_option maxRecDepth 100000 in
theorem canon_table_code.calls (k : Nat) (A0 : Option Addr) (c0 : Nat) (l0 : List Int) (A1 : Option Addr) (c1 : Nat) (l1 : List Int) (A2 : Option Addr) (c2 : Nat) (l2 : List (S34)) (A3 : Option Addr) (c3 : Nat) (l3 : List (List (List Int))) (r : List Int) (w : World) (hr0 : Kd.C (Kd.int .i64) w A0 l0.length l0) (hc0 : l0.length ≤ c0) (hr1 : Kd.C (Kd.int .i64) w A1 l1.length l1) (hc1 : l1.length ≤ c1) (hr2 : Kd.C k34 w A2 l2.length l2) (hc2 : l2.length ≤ c2) (hr3 : Kd.C (Kd.slice 27 (Kd.slice 3 (Kd.int .i64))) w A3 l3.length l3) (hc3 : l3.length ≤ c3) (h : canon_table_code.f k l0 l1 l2 l3 = some r) {gb : Nat} (hg0 : w.cell? ⟨gb,0,none⟩ = some (.slice A0 l0.length c0)) (hg1 : w.cell? ⟨gb,1,none⟩ = some (.slice A2 l2.length c2)) (hg2 : w.cell? ⟨gb,2,none⟩ = some (.slice A3 l3.length c3)) :
  Calls Try.prog 50 #[.pointer (some ⟨gb,0,none⟩),.slice A1 l1.length c1] w fun e w'=>∃ v0_ : Value,e = .returned (v0_) ∧ Kd.R (Kd.int .i64) 3 w' w.heap.size (fun _=>True) v0_ r ∧ Below w.heap.size w w':=by
 have HR0:=Aside0.mk hr0
 have HC0:=Aside0.mk hc0
 clear hr0 hc0
 have HR1:=Aside0.mk hr1
 have HC1:=Aside0.mk hc1
 clear hr1 hc1
 have HR2:=Aside0.mk hr2
 have HC2:=Aside0.mk hc2
 clear hr2 hc2
 have HR3:=Aside0.mk hr3
 have HC3:=Aside0.mk hc3
 clear hr3 hc3
 have HG0:=Aside0.mk hg0
 have HG1:=Aside0.mk hg1
 have HG2:=Aside0.mk hg2
 clear hg0 hg1 hg2
 have HB:=Aside0.mk (Below.refl w.heap.size w)
 have H : (canon_table_code.l0 k l0 l1 l2 l3 (([(l1.length : Int)] : List Int)) (l1.length : Int) 0) = some r:=h
 clear h
 obtain ⟨y163,hy163⟩ : ∃ y_ : List Int,y_ = (([(l1.length : Int)] : List Int)):=⟨_,rfl⟩
 replace H : (canon_table_code.l0 k l0 l1 l2 l3 y163 (l1.length : Int) 0) = some r:=by first|(rw [hy163];with_reducible exact H)|(have H2_:=(Option.bind_some _ _).symm.trans H;rw [hy163];with_reducible exact H2_)|(have H2_:=(Option.bind_some _ _).symm.trans H;with_reducible exact H2_)|with_reducible exact H|(rw [hy163];exact H)|exact H
 have Ny163:=Aside0.mk hy163
 clear hy163
 have H':=Aside0.mk H
 clear H
 go_enter Try.func50,Try.ntmps50
 have hcp2_0:=pw_cell_below HB.out HG0.out;have hcp2_1:=pw_cell_below HB.out HG1.out;have hcp2_2:=pw_cell_below HB.out HG2.out
 go_wp2_with (first|((with_reducible refine gate_dst (N:=9) rfl ?_);refine Kd.R_lit (Kd.int .i64) _ 3 ?hg (N:=9) ?hd (xs:=([(l1.length : Int)] : List Int)) (inner:=[.int .i64 (l1.length : Int)]) (ok:=fun _=>True) (okp:=fun _=>True) ?hr ?hp (fun _ hk=>hk) trivial (Below.refl _ _) (Nat.le_refl _) (by simp) ?_;(case hd=>rfl);(case hg=>rfl);(case hr=>first|(go_simp;done)|(go_simp;rfl));(case hp=>exact (Reps.one (show Kd.M (Kd.int .i64) _ _ _ (l1.length : Int) [.int .i64 (l1.length : Int)] from rfl) (Reps.none _ _)));intro v164 w5 ho6 hb hg_ hnew_;clear hg_ hnew_;(first|rw [← Ny163.out] at ho6|(simp only [Int.reduceToNat] at ho6;rw [← Ny163.out] at ho6));have n0_:=Aside0.mk (Kd.R_lower ho6 (below_size (by repeat (first|(with_reducible first|exact HB.out|apply zzD|apply zzE|apply zzF)|exact HB.out))));have n1_:=Aside0.mk (below_step (by repeat (first|(with_reducible first|exact HB.out|apply zzD|apply zzE|apply zzF)|exact HB.out)) hb);clear HB;have HO165:=n0_;have HB:=n1_;clear n0_ n1_;have hcp1_0:=pw_cell_below HB.out HG0.out;have hcp1_1:=pw_cell_below HB.out HG1.out;have hcp1_2:=pw_cell_below HB.out HG2.out;clear hb ho6))
 go_loopg [5,12] k (fun kq v5 v12 w'=>∃ (x5_1 : List Int) (x12_1 : Int),v12 = .int .i64 x12_1 ∧ Aside0 (canon_table_code.l0 kq l0 l1 l2 l3 x5_1 (l1.length : Int) x12_1 = some r) ∧ Aside0 (kq ≤ k) ∧ Aside0 (Kd.R (Kd.int .i64) 3 w' w.heap.size (fun _=>True) v5 x5_1) ∧ Aside0 (Below w.heap.size w w'))
 case atStart=>exact ⟨(y163),(0),(by first|rfl|(simp;done)|(simp [*];done)),H',⟨Nat.le_refl _⟩,⟨by (with_reducible repeat (first|apply Kd.R_alloc|apply Kd.R_drewN|apply Kd.R_drew));exact HO165.out⟩,⟨by repeat (first|(with_reducible first|exact HB.out|apply zzD|apply zzE|apply zzF)|exact HB.out)⟩⟩
 case round =>
  clear H'
  try clear c1
  try clear c2
  try clear p2
  try clear c3
  try clear c5
  obtain ⟨x5_1,x12_1,rfl,HA,HK1,HO_5,HB⟩:=hrel
  cases gk with
  | zero => exact absurd HA.out (by simp [canon_table_code.l0])
  | succ k1 =>
   have H:=HA.out
   clear HA
   simp only [canon_table_code.l0] at H
   by_cases c7 : x12_1 < (l1.length : Int)
   ·rw [if_pos c7] at H
    have c7b0 : decide (x12_1 < (l1.length : Int)) = true:=decide_eq_true c7
    clear c7
    obtain ⟨ji8,hji8⟩ : ∃ j_ : Int,(wrap64 (x12_1 + 1)) = j_:=⟨_,rfl⟩
    replace H : (if 0 ≤ (ji8) then (if (ji8) ≤ (l1.length : Int) then ((canon_table_place.f k1 l0 (l1.take ((ji8) : Int).toNat) l2 l3).bind fun t167=>(if x5_1.length + t167.length < 17592186044416 then (canon_table_code.l0 k1 l0 l1 l2 l3 (x5_1 ++ t167) (l1.length : Int) ji8) else (none))) else (none)) else (none)) = some r:=by first|(rw [hji8] at H;exact H)|(simp only [hji8] at H ⊢;exact H)
    have hji8w : (IntKind.i64.wrap (x12_1 + 1)) = ji8:=(i64_w _).trans hji8
    by_cases c9 : 0 ≤ (ji8)
    ·rw [if_pos c9] at H
     have c9b0:=eq_true c9
     have c9b1 : decide (0 ≤ (ji8)) = true:=decide_eq_true c9
     clear c9
     by_cases c10 : (ji8) ≤ (l1.length : Int)
     ·rw [if_pos c10] at H
      have c10b0:=eq_true c10
      have c10b1 : decide ((ji8) ≤ (l1.length : Int)) = true:=decide_eq_true c10
      clear c10
      replace H:=Option.bind_eq_some_iff.mp H
      obtain ⟨t167,A110,H⟩:=H
      replace H : (if x5_1.length + t167.length < 17592186044416 then (canon_table_code.l0 k1 l0 l1 l2 l3 (x5_1 ++ t167) (l1.length : Int) ji8) else (none)) = some r:=H
      have A11:=Aside0.mk A110
      clear A110
      by_cases c12 : x5_1.length + t167.length < 17592186044416
      ·rw [if_pos c12] at H
       have LMc12:=Aside0.mk c12
       clear c12
       obtain ⟨y170,hy170⟩ : ∃ y_ : List Int,y_ = (x5_1 ++ t167):=⟨_,rfl⟩
       replace H : (canon_table_code.l0 k1 l0 l1 l2 l3 y170 (l1.length : Int) ji8) = some r:=by first|(rw [hy170];with_reducible exact H)|(have H2_:=(Option.bind_some _ _).symm.trans H;rw [hy170];with_reducible exact H2_)|(have H2_:=(Option.bind_some _ _).symm.trans H;with_reducible exact H2_)|with_reducible exact H|(rw [hy170];exact H)|exact H
       have Ny170:=Aside0.mk hy170
       clear hy170
       have H':=Aside0.mk H
       clear H
       obtain ⟨i013,hi013,_,hsz13,_⟩:=info_parts info3
       obtain ⟨hcut13,hA13,hC13⟩:=print_take_of (P:=Try.prog) (Value.int .i64) 0 27 3 .i64 Try.underlying27 hi013 hsz13 A1 c1 l1 (ji8) (of_decide_eq_true (by first|(with_reducible assumption)|assumption)) (of_decide_eq_true (by first|(with_reducible assumption)|assumption)) HC1.out
       have HR166:=Aside0.mk (Kd.C_of_reads (h1:=fun _=>rfl) (hA13 _ (Kd.reads_of_C HR1.out)))
       have HC166:=Aside0.mk hC13
       clear hA13 hC13 hi013 hsz13
       have hcp5_0:=pw_cell_below HB.out HG0.out;have hcp5_1:=pw_cell_below HB.out HG1.out;have hcp5_2:=pw_cell_below HB.out HG2.out
       go_wp2_with (first|((with_reducible refine gate_callee (f:=69) rfl ?_);refine goesL_ (some 21) rfl rfl Try.func69 (by kernel_rfl) rfl #[.pointer (some ⟨gb,0,none⟩),.slice A1 (l1.take ((ji8) : Int).toNat).length c1] rfl (by (try simp only [List.map_toArray,List.map_cons,List.map_nil]);first|done|(rw [show (l1.take ((ji8) : Int).toNat).length = (ji8).toNat from (by rw [List.length_take];have h_ : ((ji8) : Int) ≤ (l1.length : Int):=of_decide_eq_true (by first|(with_reducible assumption)|assumption);omega)] <;> rfl)|(simp only [hji8];rfl)|rfl|(simp only [List.length_drop,List.length_take];rfl)) ?_;(with_reducible refine (canon_table_place.calls k1 A0 c0 l0 _ _ (l1.take ((ji8) : Int).toNat) A2 c2 l2 A3 c3 l3 t167 _ ?side1 ?side2 ?side3 ?side4 ?side5 ?side6 ?side7 ?side8 A11.out ?sg0 ?sg1 ?sg2).mono ?_);(case sg0=>exact pw_cell_below (by repeat (first|(with_reducible first|exact HB.out|apply zzD|apply zzE|apply zzF)|exact HB.out)) HG0.out);(case sg1=>exact pw_cell_below (by repeat (first|(with_reducible first|exact HB.out|apply zzD|apply zzE|apply zzF)|exact HB.out)) HG1.out);(case sg2=>exact pw_cell_below (by repeat (first|(with_reducible first|exact HB.out|apply zzD|apply zzE|apply zzF)|exact HB.out)) HG2.out);(case side1=>repeat (first|exact (Kd.C_below HR0.out HB.out)|(with_reducible refine Kd.C_alloc ?_ _)|(with_reducible refine Kd.C_drewN ?_ _)|(with_reducible refine Kd.C_drew ?_)));(case side2=>exact HC0.out);(case side3=>repeat (first|exact (Kd.C_below HR166.out HB.out)|(with_reducible refine Kd.C_alloc ?_ _)|(with_reducible refine Kd.C_drewN ?_ _)|(with_reducible refine Kd.C_drew ?_)));(case side4=>exact HC166.out);(case side5=>repeat (first|exact (Kd.C_below HR2.out HB.out)|(with_reducible refine Kd.C_alloc ?_ _)|(with_reducible refine Kd.C_drewN ?_ _)|(with_reducible refine Kd.C_drew ?_)));(case side6=>exact HC2.out);(case side7=>repeat (first|exact (Kd.C_below HR3.out HB.out)|(with_reducible refine Kd.C_alloc ?_ _)|(with_reducible refine Kd.C_drewN ?_ _)|(with_reducible refine Kd.C_drew ?_)));(case side8=>exact HC3.out);rintro e w14 ⟨v168,rfl,ho0,hb⟩;refine ⟨_,rfl,?_⟩;have n0_:=Aside0.mk (Kd.R_elder' (by (with_reducible repeat (first|apply Kd.R_alloc|apply Kd.R_drewN|apply Kd.R_drew));exact HO_5.out) (Kd.R_base ho0) hb);have n1_:=Aside0.mk (Kd.R_lower (Kd.R_new' ho0 (Kd.R_lt (by (with_reducible repeat (first|apply Kd.R_alloc|apply Kd.R_drewN|apply Kd.R_drew));exact HO_5.out))) (below_size (by repeat (first|(with_reducible first|exact HB.out|apply zzD|apply zzE|apply zzF)|exact HB.out))));have n2_:=Aside0.mk (below_step (by repeat (first|(with_reducible first|exact HB.out|apply zzD|apply zzE|apply zzF)|exact HB.out)) hb);clear HO_5;clear HB;have HO_5:=n0_;have HO169:=n1_;have HB:=n2_;clear n0_ n1_ n2_;have hcp3_0:=pw_cell_below HB.out HG0.out;have hcp3_1:=pw_cell_below HB.out HG1.out;have hcp3_2:=pw_cell_below HB.out HG2.out;(try clear hb);(try clear hb2);(try clear hk);(try clear hi);(try clear ho0);obtain ⟨Ao16,co16,eo16⟩:=Kd.R_slice HO169.out;subst eo16)|((with_reducible refine gate_builtin (b:=.append) (xs:=#[.tmp 15,.tmp 21]) rfl ?_);at_builtin;refine Kd.R_append_rows (Kd.int .i64) (w0:=w) w.heap.size rfl (.tmp 15) (.tmp 21) 27 3 (.int .i64 0) 8 rfl Try.underlying27 info3 rfl (by decide) (by omega) u5 x5_1 t167 _ _ _ (fun k_=>some k_ ≠ (.slice Ao16 t167.length co16 : Value).ownBlock) (fun _=>False) rfl rfl ?aO ?aR (fun _ _ h=>h) (fun _ h=>h.elim) ?aF ?aB ?aS ?aL ?_;(case aR=>repeat (first|exact (Kd.R_reads' HO169.out).2.2|(with_reducible refine Kd.C_alloc ?_ _)|(with_reducible refine Kd.C_drewN ?_ _)|(with_reducible refine Kd.C_drew ?_)));(case aB=>exact (by repeat (first|(with_reducible first|exact HB.out|apply zzD|apply zzE|apply zzF)|exact HB.out)));(case aF=>exact (fun k_ hk=>Kd.fresh' (Kd.R_lt (by (with_reducible repeat (first|apply Kd.R_alloc|apply Kd.R_drewN|apply Kd.R_drew));exact HO169.out)) k_ hk));(case aO=>exact (by (with_reducible repeat (first|apply Kd.R_alloc|apply Kd.R_drewN|apply Kd.R_drew));exact Kd.R_mono HO_5.out (fun _ hk=>hk.2)));(case aS=>exact (below_size (by repeat (first|(with_reducible first|exact HB.out|apply zzD|apply zzE|apply zzF)|exact HB.out))));(case aL=>have:=LMc12.out;omega);intro v171 w15 ho hb hg hat;rw [← Ny170.out] at ho;have n0_:=Aside0.mk (Kd.R_after (ok:=(fun _=>True)) (by (with_reducible repeat (first|apply Kd.R_alloc|apply Kd.R_drewN|apply Kd.R_drew));exact HO169.out) hg hat);have n1_:=Aside0.mk (hb);have n2_:=Aside0.mk (ho);clear HO169;clear HB;clear HO_5;have HO169:=n0_;have HB:=n1_;have HO172:=n2_;clear n0_ n1_ n2_;have hcp4_0:=pw_cell_below HB.out HG0.out;have hcp4_1:=pw_cell_below HB.out HG1.out;have hcp4_2:=pw_cell_below HB.out HG2.out;clear ho hb hg hat))
       go_roundg k1
       case measure=>have:=HK1.out;omega
       case rel=>exact ⟨(y170),(ji8),(by first|rfl|(simp;done)|(simp only [← hji8] <;> (first|rfl|simp))|(simp [*];done)),H',⟨by have:=HK1.out;omega⟩,⟨by (with_reducible repeat (first|apply Kd.R_alloc|apply Kd.R_drewN|apply Kd.R_drew));exact Kd.R_mono HO172.out (fun _ hk=>trivial)⟩,⟨by repeat (first|(with_reducible first|exact HB.out|apply zzD|apply zzE|apply zzF)|exact HB.out)⟩⟩
      ·rw [if_neg c12] at H
       exact absurd H (by simp)
     ·rw [if_neg c10] at H
      exact absurd H (by simp)
    ·rw [if_neg c9] at H
     exact absurd H (by simp)
   ·rw [if_neg c7] at H
    have c7b0 : decide (x12_1 < (l1.length : Int)) = false:=decide_eq_false c7
    clear c7
    obtain rfl:=Option.some.inj H
    have hcp6_0:=pw_cell_below HB.out HG0.out;have hcp6_1:=pw_cell_below HB.out HG1.out;have hcp6_2:=pw_cell_below HB.out HG2.out
    go_wp2
    go_ret
    exact ⟨_,by first|rfl|(simp [errW_none,errW_some] <;> rfl)|(simp [*,errW_none,errW_some] <;> rfl),by (with_reducible repeat (first|apply Kd.R_alloc|apply Kd.R_drewN|apply Kd.R_drew));exact HO_5.out,by repeat (first|(with_reducible first|exact HB.out|apply zzD|apply zzE|apply zzF)|exact HB.out)⟩
end Go.Proofs.Ytgmomcjnldahjaa.Pr
namespace Go.Proofs.Ytgmomcjnldahjaa.Pr
open Go.RowKit Go.Proofs.YtgmomcjnldahjaaW.PrintWords Go.Proofs.YtgmomcjnldahjaaW.PrintLast Go.Proofs.YtgmomcjnldahjaaW.PrintMore
attribute [local go_sem] max2_int min2_int max_two min_two max_three min_three max_four min_four
set_option linter.unusedVariables false
set_option linter.unusedSimpArgs false
def slices_Equal_int_int.l0 : Nat → List Int → List Int → Int → Int → Option (Bool)
 | 0,_,_,_,_ => none
 | k + 1,x0,x1,x12,x13 => if x13 < x12 then (if 0 ≤ x13 then (if x13 < (x0.length : Int) then (if x13 < (x1.length : Int) then (if (rd x0 x13) = (rd x1 x13) then (slices_Equal_int_int.l0 k x0 x1 x12 (wrap64 (x13 + 1))) else (some false)) else (none)) else (none)) else (none)) else (some true)
def slices_Equal_int_int.f (k : Nat) (l0 : List Int) (l1 : List Int) : Option (Bool):=if (l0.length : Int) = (l1.length : Int) then (slices_Equal_int_int.l0 k l0 l1 (l0.length : Int) 0) else (some false)
set_option maxHeartbeats 8000000 in
set_option maxRecDepth 100000 in
theorem slices_Equal_int_int.calls (k : Nat) (A0 : Option Addr) (c0 : Nat) (l0 : List Int) (A1 : Option Addr) (c1 : Nat) (l1 : List Int) (r : Bool) (w : World) (hr0 : Kd.C (Kd.int .i64) w A0 l0.length l0) (hc0 : l0.length ≤ c0) (hr1 : Kd.C (Kd.int .i64) w A1 l1.length l1) (hc1 : l1.length ≤ c1) (h : slices_Equal_int_int.f k l0 l1 = some r) :
  Calls Try.prog 16 #[.slice A0 l0.length c0,.slice A1 l1.length c1] w fun e w'=>e = .returned (.bool r) ∧ Drawn0 w w':=by
 have HR0:=Aside0.mk hr0
 have HC0:=Aside0.mk hc0
 clear hr0 hc0
 have HR1:=Aside0.mk hr1
 have HC1:=Aside0.mk hc1
 clear hr1 hc1
 have H : (if (l0.length : Int) = (l1.length : Int) then (slices_Equal_int_int.l0 k l0 l1 (l0.length : Int) 0) else (some false)) = some r:=h
 clear h
 by_cases c3 : (l0.length : Int) = (l1.length : Int)
 ·rw [if_pos c3] at H
  have c3b0 : ((l0.length : Int) == (l1.length : Int)) = true:=beq_iff_eq.mpr c3
  have c3b1 : ((l0.length : Int) != (l1.length : Int)) = false:=bne_eq_false_iff_eq.mpr c3
  have c3b2 : (l0.length == l1.length) = true:=by first|simpa using c3|(simp at c3 ⊢;omega)
  clear c3
  have H':=Aside0.mk H
  clear H
  go_enter Try.func16,Try.ntmps16
  go_wp2
  repeat (go_quiet (fail);try go_wp2)
  go_loopg [13] k (fun kq v13 w'=>∃ (x13_1 : Int),v13 = .int .i64 x13_1 ∧ Aside0 (slices_Equal_int_int.l0 kq l0 l1 (l0.length : Int) x13_1 = some r) ∧ Aside0 (kq ≤ k) ∧ Drawn0 w w')
  case atStart=>exact ⟨(0),(by first|rfl|(simp;done)|(simp [*];done)),H',⟨Nat.le_refl _⟩,by repeat (first|exact Drawn0.refl _|apply Drawn0.step)⟩
  case round =>
   clear H'
   try clear c1
   try clear p2
   try clear c3
   try clear c3b0
   try clear c3b1
   try clear c3b2
   obtain ⟨x13_1,rfl,HA,HK1,⟨m1,rfl⟩⟩:=hrel
   cases gk with
   | zero => exact absurd HA.out (by simp [slices_Equal_int_int.l0])
   | succ k1 =>
    have H:=HA.out
    clear HA
    simp only [slices_Equal_int_int.l0] at H
    by_cases c4 : x13_1 < (l0.length : Int)
    ·rw [if_pos c4] at H
     have c4b0 : decide (x13_1 < (l0.length : Int)) = true:=decide_eq_true c4
     clear c4
     by_cases c5 : 0 ≤ x13_1
     ·rw [if_pos c5] at H
      have c5b0 : decide (0 ≤ x13_1) = true:=decide_eq_true c5
      clear c5
      by_cases c6 : x13_1 < (l0.length : Int)
      ·rw [if_pos c6] at H
       have c6b0 : decide (x13_1 < (l0.length : Int)) = true:=decide_eq_true c6
       clear c6
       by_cases c7 : x13_1 < (l1.length : Int)
       ·rw [if_pos c7] at H
        have c7b0 : decide (x13_1 < (l1.length : Int)) = true:=decide_eq_true c7
        clear c7
        by_cases c8 : (rd l0 x13_1) = (rd l1 x13_1)
        ·rw [if_pos c8] at H
         have c8b0 : ((rd l0 x13_1) == (rd l1 x13_1)) = true:=beq_iff_eq.mpr c8
         have c8b1 : ((rd l0 x13_1) != (rd l1 x13_1)) = false:=bne_eq_false_iff_eq.mpr c8
         clear c8
         have H':=Aside0.mk H
         clear H
         have p101 : 0 ≤ (x13_1 : Int):=of_decide_eq_true (by first|(with_reducible assumption)|assumption)
         have q101 : x13_1 < (l0.length : Int):=of_decide_eq_true (by first|(with_reducible assumption)|assumption)
         obtain ⟨ad101,e101,hx101_0⟩:=Kd.at_int HR0.out x13_1 p101 q101
         cases e101
         replace p101:=eq_true p101
         replace q101:=eq_true q101
         have p102 : 0 ≤ (x13_1 : Int):=of_decide_eq_true (by first|(with_reducible assumption)|assumption)
         have q102 : x13_1 < (l1.length : Int):=of_decide_eq_true (by first|(with_reducible assumption)|assumption)
         obtain ⟨ad102,e102,hx102_0⟩:=Kd.at_int HR1.out x13_1 p102 q102
         cases e102
         replace p102:=eq_true p102
         replace q102:=eq_true q102
         go_wp2
         repeat (go_quiet (fail);try go_wp2)
         go_roundg k1
         case measure=>have:=HK1.out;omega
         case rel=>exact ⟨(wrap64 (x13_1 + 1)),(by first|rfl|(simp;done)|(simp [*];done)),H',⟨by have:=HK1.out;omega⟩,by repeat (first|exact Drawn0.refl _|apply Drawn0.step)⟩
        ·rw [if_neg c8] at H
         have c8b0 : ((rd l0 x13_1) == (rd l1 x13_1)) = false:=beq_eq_false_iff_ne.mpr c8
         have c8b1 : ((rd l0 x13_1) != (rd l1 x13_1)) = true:=bne_iff_ne.mpr c8
         obtain rfl:=Option.some.inj H
         have p101 : 0 ≤ (x13_1 : Int):=of_decide_eq_true (by first|(with_reducible assumption)|assumption)
         have q101 : x13_1 < (l0.length : Int):=of_decide_eq_true (by first|(with_reducible assumption)|assumption)
         obtain ⟨ad101,e101,hx101_0⟩:=Kd.at_int HR0.out x13_1 p101 q101
         cases e101
         replace p101:=eq_true p101
         replace q101:=eq_true q101
         have p102 : 0 ≤ (x13_1 : Int):=of_decide_eq_true (by first|(with_reducible assumption)|assumption)
         have q102 : x13_1 < (l1.length : Int):=of_decide_eq_true (by first|(with_reducible assumption)|assumption)
         obtain ⟨ad102,e102,hx102_0⟩:=Kd.at_int HR1.out x13_1 p102 q102
         cases e102
         replace p102:=eq_true p102
         replace q102:=eq_true q102
         go_wp2
         repeat (go_quiet (fail);try go_wp2)
         go_ret
         exact ⟨by first|rfl|(simp;done)|(simp [*];done),by repeat (first|exact Drawn0.refl _|apply Drawn0.step)⟩
       ·rw [if_neg c7] at H
        exact absurd H (by simp)
      ·rw [if_neg c6] at H
       exact absurd H (by simp)
     ·rw [if_neg c5] at H
      exact absurd H (by simp)
    ·rw [if_neg c4] at H
     have c4b0 : decide (x13_1 < (l0.length : Int)) = false:=decide_eq_false c4
     clear c4
     obtain rfl:=Option.some.inj H
     go_wp2
     repeat (go_quiet (fail);try go_wp2)
     go_ret
     exact ⟨by first|rfl|(simp;done)|(simp [*];done),by repeat (first|exact Drawn0.refl _|apply Drawn0.step)⟩
 ·rw [if_neg c3] at H
  have c3b0 : ((l0.length : Int) == (l1.length : Int)) = false:=beq_eq_false_iff_ne.mpr c3
  have c3b1 : ((l0.length : Int) != (l1.length : Int)) = true:=bne_iff_ne.mpr c3
  have c3b2 : (l0.length == l1.length) = false:=by first|simpa using c3|(simp at c3 ⊢;omega)
  obtain rfl:=Option.some.inj H
  go_enter Try.func16,Try.ntmps16
  go_wp2
  repeat (go_quiet (fail);try go_wp2)
  go_ret
  exact ⟨by first|rfl|(simp;done)|(simp [*];done),by repeat (first|exact Drawn0.refl _|apply Drawn0.step)⟩
def scarfjointref05_SameInts.l0 : Nat → List Int → List Int → Int → Option (Bool)
 | 0,_,_,_ => none
 | k + 1,x0,x1,x5 => if x5 < (x0.length : Int) then (if 0 ≤ x5 then (if x5 < (x1.length : Int) then (if (rd x0 x5) = (rd x1 x5) then (scarfjointref05_SameInts.l0 k x0 x1 (wrap64 (x5 + 1))) else (some false)) else (none)) else (none)) else (some true)
def scarfjointref05_SameInts.f (k : Nat) (l0 : List Int) (l1 : List Int) : Option (Bool):=if (l0.length : Int) = (l1.length : Int) then (scarfjointref05_SameInts.l0 k l0 l1 0) else (some false)
set_option maxHeartbeats 8000000 in
set_option maxRecDepth 100000 in
theorem scarfjointref05_SameInts.calls (k : Nat) (A0 : Option Addr) (c0 : Nat) (l0 : List Int) (A1 : Option Addr) (c1 : Nat) (l1 : List Int) (r : Bool) (w : World) (hr0 : Kd.C (Kd.int .i64) w A0 l0.length l0) (hc0 : l0.length ≤ c0) (hr1 : Kd.C (Kd.int .i64) w A1 l1.length l1) (hc1 : l1.length ≤ c1) (h : scarfjointref05_SameInts.f k l0 l1 = some r) :
  Calls Try.prog 46 #[.slice A0 l0.length c0,.slice A1 l1.length c1] w fun e w'=>e = .returned (.bool r) ∧ Drawn0 w w':=by
 have HR0:=Aside0.mk hr0
 have HC0:=Aside0.mk hc0
 clear hr0 hc0
 have HR1:=Aside0.mk hr1
 have HC1:=Aside0.mk hc1
 clear hr1 hc1
 have H : (if (l0.length : Int) = (l1.length : Int) then (scarfjointref05_SameInts.l0 k l0 l1 0) else (some false)) = some r:=h
 clear h
 by_cases c3 : (l0.length : Int) = (l1.length : Int)
 ·rw [if_pos c3] at H
  have c3b0 : ((l0.length : Int) == (l1.length : Int)) = true:=beq_iff_eq.mpr c3
  have c3b1 : ((l0.length : Int) != (l1.length : Int)) = false:=bne_eq_false_iff_eq.mpr c3
  have c3b2 : (l0.length == l1.length) = true:=by first|simpa using c3|(simp at c3 ⊢;omega)
  clear c3
  have H':=Aside0.mk H
  clear H
  go_enter Try.func46,Try.ntmps46
  go_wp2
  repeat (go_quiet (fail);try go_wp2)
  go_loopg [5] k (fun kq v5 w'=>∃ (x5_1 : Int),v5 = .int .i64 x5_1 ∧ Aside0 (scarfjointref05_SameInts.l0 kq l0 l1 x5_1 = some r) ∧ Aside0 (kq ≤ k) ∧ Drawn0 w w')
  case atStart=>exact ⟨(0),(by first|rfl|(simp;done)|(simp [*];done)),H',⟨Nat.le_refl _⟩,by repeat (first|exact Drawn0.refl _|apply Drawn0.step)⟩
  case round =>
   clear H'
   try clear c1
   try clear p2
   try clear c3
   try clear c3b0
   try clear c3b1
   try clear c3b2
   obtain ⟨x5_1,rfl,HA,HK1,⟨m1,rfl⟩⟩:=hrel
   cases gk with
   | zero => exact absurd HA.out (by simp [scarfjointref05_SameInts.l0])
   | succ k1 =>
    have H:=HA.out
    clear HA
    simp only [scarfjointref05_SameInts.l0] at H
    by_cases c4 : x5_1 < (l0.length : Int)
    ·rw [if_pos c4] at H
     have c4b0 : decide (x5_1 < (l0.length : Int)) = true:=decide_eq_true c4
     clear c4
     by_cases c5 : 0 ≤ x5_1
     ·rw [if_pos c5] at H
      have c5b0 : decide (0 ≤ x5_1) = true:=decide_eq_true c5
      clear c5
      by_cases c6 : x5_1 < (l1.length : Int)
      ·rw [if_pos c6] at H
       have c6b0 : decide (x5_1 < (l1.length : Int)) = true:=decide_eq_true c6
       clear c6
       by_cases c7 : (rd l0 x5_1) = (rd l1 x5_1)
       ·rw [if_pos c7] at H
        have c7b0 : ((rd l0 x5_1) == (rd l1 x5_1)) = true:=beq_iff_eq.mpr c7
        have c7b1 : ((rd l0 x5_1) != (rd l1 x5_1)) = false:=bne_eq_false_iff_eq.mpr c7
        clear c7
        have H':=Aside0.mk H
        clear H
        have p103 : 0 ≤ (x5_1 : Int):=of_decide_eq_true (by first|(with_reducible assumption)|assumption)
        have q103 : x5_1 < (l0.length : Int):=of_decide_eq_true (by first|(with_reducible assumption)|assumption)
        obtain ⟨ad103,e103,hx103_0⟩:=Kd.at_int HR0.out x5_1 p103 q103
        cases e103
        replace p103:=eq_true p103
        replace q103:=eq_true q103
        have p104 : 0 ≤ (x5_1 : Int):=of_decide_eq_true (by first|(with_reducible assumption)|assumption)
        have q104 : x5_1 < (l1.length : Int):=of_decide_eq_true (by first|(with_reducible assumption)|assumption)
        obtain ⟨ad104,e104,hx104_0⟩:=Kd.at_int HR1.out x5_1 p104 q104
        cases e104
        replace p104:=eq_true p104
        replace q104:=eq_true q104
        go_wp2
        repeat (go_quiet (fail);try go_wp2)
        go_roundg k1
        case measure=>have:=HK1.out;omega
        case rel=>exact ⟨(wrap64 (x5_1 + 1)),(by first|rfl|(simp;done)|(simp [*];done)),H',⟨by have:=HK1.out;omega⟩,by repeat (first|exact Drawn0.refl _|apply Drawn0.step)⟩
       ·rw [if_neg c7] at H
        have c7b0 : ((rd l0 x5_1) == (rd l1 x5_1)) = false:=beq_eq_false_iff_ne.mpr c7
        have c7b1 : ((rd l0 x5_1) != (rd l1 x5_1)) = true:=bne_iff_ne.mpr c7
        obtain rfl:=Option.some.inj H
        have p103 : 0 ≤ (x5_1 : Int):=of_decide_eq_true (by first|(with_reducible assumption)|assumption)
        have q103 : x5_1 < (l0.length : Int):=of_decide_eq_true (by first|(with_reducible assumption)|assumption)
        obtain ⟨ad103,e103,hx103_0⟩:=Kd.at_int HR0.out x5_1 p103 q103
        cases e103
        replace p103:=eq_true p103
        replace q103:=eq_true q103
        have p104 : 0 ≤ (x5_1 : Int):=of_decide_eq_true (by first|(with_reducible assumption)|assumption)
        have q104 : x5_1 < (l1.length : Int):=of_decide_eq_true (by first|(with_reducible assumption)|assumption)
        obtain ⟨ad104,e104,hx104_0⟩:=Kd.at_int HR1.out x5_1 p104 q104
        cases e104
        replace p104:=eq_true p104
        replace q104:=eq_true q104
        go_wp2
        repeat (go_quiet (fail);try go_wp2)
        go_ret
        exact ⟨by first|rfl|(simp;done)|(simp [*];done),by repeat (first|exact Drawn0.refl _|apply Drawn0.step)⟩
      ·rw [if_neg c6] at H
       exact absurd H (by simp)
     ·rw [if_neg c5] at H
      exact absurd H (by simp)
    ·rw [if_neg c4] at H
     have c4b0 : decide (x5_1 < (l0.length : Int)) = false:=decide_eq_false c4
     clear c4
     obtain rfl:=Option.some.inj H
     go_wp2
     repeat (go_quiet (fail);try go_wp2)
     go_ret
     exact ⟨by first|rfl|(simp;done)|(simp [*];done),by repeat (first|exact Drawn0.refl _|apply Drawn0.step)⟩
 ·rw [if_neg c3] at H
  have c3b0 : ((l0.length : Int) == (l1.length : Int)) = false:=beq_eq_false_iff_ne.mpr c3
  have c3b1 : ((l0.length : Int) != (l1.length : Int)) = true:=bne_iff_ne.mpr c3
  have c3b2 : (l0.length == l1.length) = false:=by first|simpa using c3|(simp at c3 ⊢;omega)
  obtain rfl:=Option.some.inj H
  go_enter Try.func46,Try.ntmps46
  go_wp2
  repeat (go_quiet (fail);try go_wp2)
  go_ret
  exact ⟨by first|rfl|(simp;done)|(simp [*];done),by repeat (first|exact Drawn0.refl _|apply Drawn0.step)⟩
end Go.Proofs.Ytgmomcjnldahjaa.Pr
namespace Go.Proofs.Ytgmomcjnldahjaa.Pr
open Go.RowKit Go.Proofs.YtgmomcjnldahjaaW.PrintWords Go.Proofs.YtgmomcjnldahjaaW.PrintLast Go.Proofs.YtgmomcjnldahjaaW.PrintMore
attribute [local go_sem] max2_int min2_int max_two min_two max_three min_three max_four min_four
set_option linter.unusedVariables false
set_option linter.unusedSimpArgs false
theorem eqA34 (d : Nat) (w : World) (x0 y0 : Int) (x1 y1 : Int) (x2 y2 : Int) :
  (Op.equalIn (d + 2) 34 (.agg #[.int .i64 x0,.int .i64 x1,.int .i64 x2]) (.agg #[.int .i64 y0,.int .i64 y1,.int .i64 y2])).run Try.prog w = .ok (x0 == y0 && (x1 == y1 && (x2 == y2))) w:=by
 refine eqA_of Try.underlying34 (by kernel_rfl) ?_
 refine eqf_cons (by rfl) (by go_simp;rfl) (by go_simp;rfl) (by go_simp) ?_
 refine eqf_cons (by rfl) (by go_simp;rfl) (by go_simp;rfl) (by go_simp) ?_
 exact eqf_last (by rfl) (by go_simp;rfl) (by go_simp;rfl) (by go_simp)
end Go.Proofs.Ytgmomcjnldahjaa.Pr
namespace Go.Proofs.Ytgmomcjnldahjaa.Pr
open Go.RowKit Go.Proofs.YtgmomcjnldahjaaW.PrintWords Go.Proofs.YtgmomcjnldahjaaW.PrintLast Go.Proofs.YtgmomcjnldahjaaW.PrintMore
attribute [local go_sem] max2_int min2_int max_two min_two max_three min_three max_four min_four
set_option linter.unusedVariables false
set_option linter.unusedSimpArgs false
attribute [local go_sem high] eqA34
mutual
def scarfjointref05_Same.j0 : Nat → Bool → List Int → List (S34) → List Int → List (S34) → Option (Bool)
 | 0,_,_,_,_,_ => none
 | k + 1,x20,x106000,x106001,x107000,x107001 => if x20 = true then (some false) else (scarfjointref05_Same.l0 k 0 x106000 x106001 x107000 x107001)
def scarfjointref05_Same.l0 : Nat → Int → List Int → List (S34) → List Int → List (S34) → Option (Bool)
 | 0,_,_,_,_,_ => none
 | k + 1,x5,x106000,x106001,x107000,x107001 => if x5 < (x106001.length : Int) then (if 0 ≤ x5 then (if x5 < (x107001.length : Int) then (if (!(((rd_T34 x106001 x5).f0) == ((rd_T34 x107001 x5).f0)) || (!(((rd_T34 x106001 x5).f1) == ((rd_T34 x107001 x5).f1)) || (!(((rd_T34 x106001 x5).f2) == ((rd_T34 x107001 x5).f2))))) = true then (some false) else (scarfjointref05_Same.l0 k (wrap64 (x5 + 1)) x106000 x106001 x107000 x107001)) else (none)) else (none)) else (some true)
end
def scarfjointref05_Same.f (k : Nat) (l0_0 : List Int) (l0_1 : List (S34)) (l1_0 : List Int) (l1_1 : List (S34)) : Option (Bool):=(scarfjointref05_SameInts.f k l0_0 l1_0).bind fun t107=>(if t107 = true then (scarfjointref05_Same.j0 k ((l0_1.length : Int) != (l1_1.length : Int)) l0_0 l0_1 l1_0 l1_1) else (scarfjointref05_Same.j0 k true l0_0 l0_1 l1_0 l1_1))
set_option maxHeartbeats 8000000 in
set_option maxRecDepth 100000 in
theorem scarfjointref05_Same.calls (k : Nat) (A0_0 : Option Addr) (c0_0 : Nat) (l0_0 : List Int) (A0_1 : Option Addr) (c0_1 : Nat) (l0_1 : List (S34)) (A1_0 : Option Addr) (c1_0 : Nat) (l1_0 : List Int) (A1_1 : Option Addr) (c1_1 : Nat) (l1_1 : List (S34)) (r : Bool) (w : World) (hr0_0 : Kd.C (Kd.int .i64) w A0_0 l0_0.length l0_0) (hc0_0 : l0_0.length ≤ c0_0) (hr0_1 : Kd.C k34 w A0_1 l0_1.length l0_1) (hc0_1 : l0_1.length ≤ c0_1) (hr1_0 : Kd.C (Kd.int .i64) w A1_0 l1_0.length l1_0) (hc1_0 : l1_0.length ≤ c1_0) (hr1_1 : Kd.C k34 w A1_1 l1_1.length l1_1) (hc1_1 : l1_1.length ≤ c1_1) (h : scarfjointref05_Same.f k l0_0 l0_1 l1_0 l1_1 = some r) :
  Calls Try.prog 20 #[.agg #[.slice A0_0 l0_0.length c0_0,.slice A0_1 l0_1.length c0_1],.agg #[.slice A1_0 l1_0.length c1_0,.slice A1_1 l1_1.length c1_1]] w fun e w'=>e = .returned (.bool r) ∧ Below w.heap.size w w':=by
 have hu30:=Try.underlying30
 have hu34:=Try.underlying34
 have HR0_0:=Aside0.mk hr0_0
 have HC0_0:=Aside0.mk hc0_0
 clear hr0_0 hc0_0
 have HR0_1:=Aside0.mk hr0_1
 have HC0_1:=Aside0.mk hc0_1
 clear hr0_1 hc0_1
 have HR1_0:=Aside0.mk hr1_0
 have HC1_0:=Aside0.mk hc1_0
 clear hr1_0 hc1_0
 have HR1_1:=Aside0.mk hr1_1
 have HC1_1:=Aside0.mk hc1_1
 clear hr1_1 hc1_1
 have HB:=Aside0.mk (Below.refl w.heap.size w)
 have H : ((scarfjointref05_SameInts.f k l0_0 l1_0).bind fun t107=>(if t107 = true then (scarfjointref05_Same.j0 k ((l0_1.length : Int) != (l1_1.length : Int)) l0_0 l0_1 l1_0 l1_1) else (scarfjointref05_Same.j0 k true l0_0 l0_1 l1_0 l1_1))) = some r:=h
 clear h
 have HC3:=Aside0.mk H
 clear H
 go_enter Try.func20,Try.ntmps20
 go_upto_region 1 with (first|((with_reducible refine gate_dst (N:=2) rfl ?_);(try (refine gate_guard (by rfl) ?_;dsimp only));refine box_event ?hg (N:=2) ?hd (cs:=#[.slice A0_0 l0_0.length c0_0,.slice A0_1 l0_1.length c0_1]) (t:=30) ?hr ?_;(case hd=>rfl);(case hg=>rfl);(case hr=>first|(go_simp;done)|(go_simp;rfl));intro gb105 hg w4 hbox hb;have n0_:=Aside0.mk (below_step (by repeat (first|(with_reducible first|exact HB.out|apply zzD|apply zzE|apply zzF)|exact HB.out)) hb);have n1_:=Aside0.mk (hbox);have n2_:=Aside0.mk ((by rw [hg];exact (below_size (by repeat (first|(with_reducible first|exact HB.out|apply zzD|apply zzE|apply zzF)|exact HB.out))) : w.heap.size ≤ gb105));have n3_:=Aside0.mk ((by rw [hg];exact (below_size (by repeat (first|(with_reducible first|exact HB.out|apply zzD|apply zzE|apply zzF)|exact HB.out))) : w.heap.size ≤ gb105));clear HB;have HB:=n0_;have BK105:=n1_;have GW105:=n2_;have GE105:=n3_;clear n0_ n1_ n2_ n3_;clear hb hbox hg)|((with_reducible refine gate_dst (N:=3) rfl ?_);(try (refine gate_guard (by rfl) ?_;dsimp only));refine box_event ?hg (N:=3) ?hd (cs:=#[.slice A1_0 l1_0.length c1_0,.slice A1_1 l1_1.length c1_1]) (t:=30) ?hr ?_;(case hd=>rfl);(case hg=>rfl);(case hr=>first|(go_simp;done)|(go_simp;rfl));intro gb106 hg w5 hbox hb;have n0_:=Aside0.mk (blk_below (g:=gb105) (o:=.cells #[.slice A0_0 l0_0.length c0_0,.slice A0_1 l0_1.length c0_1] 30 (0,0)) (by (with_reducible repeat (first|refine blk_drewN ?_ _|refine blk_drew ?_|refine blk_alloc ?_ _));exact BK105.out) hb);have n1_:=Aside0.mk (below_step (by repeat (first|(with_reducible first|exact HB.out|apply zzD|apply zzE|apply zzF|refine below_set ?_ GE105.out)|exact HB.out)) hb);have n2_:=Aside0.mk (hbox);have n3_:=Aside0.mk ((by rw [hg];exact (below_size (by repeat (first|(with_reducible first|exact HB.out|apply zzD|apply zzE|apply zzF|refine below_set ?_ GE105.out)|exact HB.out))) : w.heap.size ≤ gb106));have n4_:=Aside0.mk ((by rw [hg];exact (below_size (by repeat (first|(with_reducible first|exact HB.out|apply zzD|apply zzE|apply zzF|refine below_set ?_ GE105.out)|exact HB.out))) : w.heap.size ≤ gb106));have n5_:=Aside0.mk ((by rw [hg];exact Nat.ne_of_lt (blk_lt (g:=gb105) (o:=.cells #[.slice A0_0 l0_0.length c0_0,.slice A0_1 l0_1.length c0_1] 30 (0,0)) (by (with_reducible repeat (first|refine blk_drewN ?_ _|refine blk_drew ?_|refine blk_alloc ?_ _));exact BK105.out)) : gb105 ≠ gb106));have n6_:=Aside0.mk ((by rw [hg];exact Nat.ne_of_gt (blk_lt (g:=gb105) (o:=.cells #[.slice A0_0 l0_0.length c0_0,.slice A0_1 l0_1.length c0_1] 30 (0,0)) (by (with_reducible repeat (first|refine blk_drewN ?_ _|refine blk_drew ?_|refine blk_alloc ?_ _));exact BK105.out)) : gb106 ≠ gb105));clear BK105;clear HB;have BK105:=n0_;have HB:=n1_;have BK106:=n2_;have GW106:=n3_;have GE106:=n4_;have NB105_106:=n5_;have NB106_105:=n6_;clear n0_ n1_ n2_ n3_ n4_ n5_ n6_;clear hb hbox hg))
 repeat (go_quiet (first|((with_reducible refine gate_dst (N:=2) rfl ?_);(try (refine gate_guard (by rfl) ?_;dsimp only));refine box_event ?hg (N:=2) ?hd (cs:=#[.slice A0_0 l0_0.length c0_0,.slice A0_1 l0_1.length c0_1]) (t:=30) ?hr ?_;(case hd=>rfl);(case hg=>rfl);(case hr=>first|(go_simp;done)|(go_simp;rfl));intro gb105 hg w4 hbox hb;have n0_:=Aside0.mk (below_step (by repeat (first|(with_reducible first|exact HB.out|apply zzD|apply zzE|apply zzF)|exact HB.out)) hb);have n1_:=Aside0.mk (hbox);have n2_:=Aside0.mk ((by rw [hg];exact (below_size (by repeat (first|(with_reducible first|exact HB.out|apply zzD|apply zzE|apply zzF)|exact HB.out))) : w.heap.size ≤ gb105));have n3_:=Aside0.mk ((by rw [hg];exact (below_size (by repeat (first|(with_reducible first|exact HB.out|apply zzD|apply zzE|apply zzF)|exact HB.out))) : w.heap.size ≤ gb105));clear HB;have HB:=n0_;have BK105:=n1_;have GW105:=n2_;have GE105:=n3_;clear n0_ n1_ n2_ n3_;clear hb hbox hg)|((with_reducible refine gate_dst (N:=3) rfl ?_);(try (refine gate_guard (by rfl) ?_;dsimp only));refine box_event ?hg (N:=3) ?hd (cs:=#[.slice A1_0 l1_0.length c1_0,.slice A1_1 l1_1.length c1_1]) (t:=30) ?hr ?_;(case hd=>rfl);(case hg=>rfl);(case hr=>first|(go_simp;done)|(go_simp;rfl));intro gb106 hg w5 hbox hb;have n0_:=Aside0.mk (blk_below (g:=gb105) (o:=.cells #[.slice A0_0 l0_0.length c0_0,.slice A0_1 l0_1.length c0_1] 30 (0,0)) (by (with_reducible repeat (first|refine blk_drewN ?_ _|refine blk_drew ?_|refine blk_alloc ?_ _));exact BK105.out) hb);have n1_:=Aside0.mk (below_step (by repeat (first|(with_reducible first|exact HB.out|apply zzD|apply zzE|apply zzF|refine below_set ?_ GE105.out)|exact HB.out)) hb);have n2_:=Aside0.mk (hbox);have n3_:=Aside0.mk ((by rw [hg];exact (below_size (by repeat (first|(with_reducible first|exact HB.out|apply zzD|apply zzE|apply zzF|refine below_set ?_ GE105.out)|exact HB.out))) : w.heap.size ≤ gb106));have n4_:=Aside0.mk ((by rw [hg];exact (below_size (by repeat (first|(with_reducible first|exact HB.out|apply zzD|apply zzE|apply zzF|refine below_set ?_ GE105.out)|exact HB.out))) : w.heap.size ≤ gb106));have n5_:=Aside0.mk ((by rw [hg];exact Nat.ne_of_lt (blk_lt (g:=gb105) (o:=.cells #[.slice A0_0 l0_0.length c0_0,.slice A0_1 l0_1.length c0_1] 30 (0,0)) (by (with_reducible repeat (first|refine blk_drewN ?_ _|refine blk_drew ?_|refine blk_alloc ?_ _));exact BK105.out)) : gb105 ≠ gb106));have n6_:=Aside0.mk ((by rw [hg];exact Nat.ne_of_gt (blk_lt (g:=gb105) (o:=.cells #[.slice A0_0 l0_0.length c0_0,.slice A0_1 l0_1.length c0_1] 30 (0,0)) (by (with_reducible repeat (first|refine blk_drewN ?_ _|refine blk_drew ?_|refine blk_alloc ?_ _));exact BK105.out)) : gb106 ≠ gb105));clear BK105;clear HB;have BK105:=n0_;have HB:=n1_;have BK106:=n2_;have GW106:=n3_;have GE106:=n4_;have NB105_106:=n5_;have NB106_105:=n6_;clear n0_ n1_ n2_ n3_ n4_ n5_ n6_;clear hb hbox hg));go_upto_region 1 with (first|((with_reducible refine gate_dst (N:=2) rfl ?_);(try (refine gate_guard (by rfl) ?_;dsimp only));refine box_event ?hg (N:=2) ?hd (cs:=#[.slice A0_0 l0_0.length c0_0,.slice A0_1 l0_1.length c0_1]) (t:=30) ?hr ?_;(case hd=>rfl);(case hg=>rfl);(case hr=>first|(go_simp;done)|(go_simp;rfl));intro gb105 hg w4 hbox hb;have n0_:=Aside0.mk (below_step (by repeat (first|(with_reducible first|exact HB.out|apply zzD|apply zzE|apply zzF)|exact HB.out)) hb);have n1_:=Aside0.mk (hbox);have n2_:=Aside0.mk ((by rw [hg];exact (below_size (by repeat (first|(with_reducible first|exact HB.out|apply zzD|apply zzE|apply zzF)|exact HB.out))) : w.heap.size ≤ gb105));have n3_:=Aside0.mk ((by rw [hg];exact (below_size (by repeat (first|(with_reducible first|exact HB.out|apply zzD|apply zzE|apply zzF)|exact HB.out))) : w.heap.size ≤ gb105));clear HB;have HB:=n0_;have BK105:=n1_;have GW105:=n2_;have GE105:=n3_;clear n0_ n1_ n2_ n3_;clear hb hbox hg)|((with_reducible refine gate_dst (N:=3) rfl ?_);(try (refine gate_guard (by rfl) ?_;dsimp only));refine box_event ?hg (N:=3) ?hd (cs:=#[.slice A1_0 l1_0.length c1_0,.slice A1_1 l1_1.length c1_1]) (t:=30) ?hr ?_;(case hd=>rfl);(case hg=>rfl);(case hr=>first|(go_simp;done)|(go_simp;rfl));intro gb106 hg w5 hbox hb;have n0_:=Aside0.mk (blk_below (g:=gb105) (o:=.cells #[.slice A0_0 l0_0.length c0_0,.slice A0_1 l0_1.length c0_1] 30 (0,0)) (by (with_reducible repeat (first|refine blk_drewN ?_ _|refine blk_drew ?_|refine blk_alloc ?_ _));exact BK105.out) hb);have n1_:=Aside0.mk (below_step (by repeat (first|(with_reducible first|exact HB.out|apply zzD|apply zzE|apply zzF|refine below_set ?_ GE105.out)|exact HB.out)) hb);have n2_:=Aside0.mk (hbox);have n3_:=Aside0.mk ((by rw [hg];exact (below_size (by repeat (first|(with_reducible first|exact HB.out|apply zzD|apply zzE|apply zzF|refine below_set ?_ GE105.out)|exact HB.out))) : w.heap.size ≤ gb106));have n4_:=Aside0.mk ((by rw [hg];exact (below_size (by repeat (first|(with_reducible first|exact HB.out|apply zzD|apply zzE|apply zzF|refine below_set ?_ GE105.out)|exact HB.out))) : w.heap.size ≤ gb106));have n5_:=Aside0.mk ((by rw [hg];exact Nat.ne_of_lt (blk_lt (g:=gb105) (o:=.cells #[.slice A0_0 l0_0.length c0_0,.slice A0_1 l0_1.length c0_1] 30 (0,0)) (by (with_reducible repeat (first|refine blk_drewN ?_ _|refine blk_drew ?_|refine blk_alloc ?_ _));exact BK105.out)) : gb105 ≠ gb106));have n6_:=Aside0.mk ((by rw [hg];exact Nat.ne_of_gt (blk_lt (g:=gb105) (o:=.cells #[.slice A0_0 l0_0.length c0_0,.slice A0_1 l0_1.length c0_1] 30 (0,0)) (by (with_reducible repeat (first|refine blk_drewN ?_ _|refine blk_drew ?_|refine blk_alloc ?_ _));exact BK105.out)) : gb106 ≠ gb105));clear BK105;clear HB;have BK105:=n0_;have HB:=n1_;have BK106:=n2_;have GW106:=n3_;have GE106:=n4_;have NB105_106:=n5_;have NB106_105:=n6_;clear n0_ n1_ n2_ n3_ n4_ n5_ n6_;clear hb hbox hg)))
 (try simp only [Act.put,zzA,zzB,zzC])
 go_cut [20] (fun v20 wc=>∃ (kq : Nat) (x20_2 : Bool),v20 = .bool x20_2 ∧ Aside0 (scarfjointref05_Same.j0 kq x20_2 l0_0 l0_1 l1_0 l1_1 = some r) ∧ Aside0 (kq ≤ k) ∧ Aside0 (wc.heap[gb105]? = some (.cells #[(.slice A0_0 l0_0.length c0_0),(.slice A0_1 l0_1.length c0_1)] 30 (0,0))) ∧ Aside0 (wc.heap[gb106]? = some (.cells #[(.slice A1_0 l1_0.length c1_0),(.slice A1_1 l1_1.length c1_1)] 30 (0,0))) ∧ Aside0 (Below w.heap.size w wc))
 case first =>
  have H:=HC3.out
  clear HC3
  replace H:=Option.bind_eq_some_iff.mp H
  obtain ⟨t107,A60,H⟩:=H
  replace H : (if t107 = true then (scarfjointref05_Same.j0 k ((l0_1.length : Int) != (l1_1.length : Int)) l0_0 l0_1 l1_0 l1_1) else (scarfjointref05_Same.j0 k true l0_0 l0_1 l1_0 l1_1)) = some r:=H
  have A6:=Aside0.mk A60
  clear A60
  by_cases c7 : t107 = true
  ·subst c7
   have H1 : (scarfjointref05_Same.j0 k ((l0_1.length : Int) != (l1_1.length : Int)) l0_0 l0_1 l1_0 l1_1) = some r:=by rw [if_pos rfl] at H;exact H
   clear H
   have H:=H1
   clear H1
   have H':=Aside0.mk H
   clear H
   have hnb8:=NB105_106.out
   have hnc8:=NB106_105.out
   have hcz9_0 : w5.cell? ⟨gb105,0,none⟩ = some (.slice A0_0 l0_0.length c0_0):=(blk_cell BK105.out 0).trans rfl
   have hcz9_1 : w5.cell? ⟨gb105,1,none⟩ = some (.slice A0_1 l0_1.length c0_1):=(blk_cell BK105.out 1).trans rfl
   have hfz9_0:=blk_frozen BK105.out 0
   have hfz9_1:=blk_frozen BK105.out 1
   have hcz10_0 : w5.cell? ⟨gb106,0,none⟩ = some (.slice A1_0 l1_0.length c1_0):=(blk_cell BK106.out 0).trans rfl
   have hcz10_1 : w5.cell? ⟨gb106,1,none⟩ = some (.slice A1_1 l1_1.length c1_1):=(blk_cell BK106.out 1).trans rfl
   have hfz10_0:=blk_frozen BK106.out 0
   have hfz10_1:=blk_frozen BK106.out 1
   go_wp2_with (first|(go_at_call 46;(with_reducible refine (scarfjointref05_SameInts.calls k _ _ l0_0 _ _ l1_0 true _ ?side1 ?side2 ?side3 ?side4 A6.out).mono ?_);(case side1=>repeat (first|exact (Kd.C_below HR0_0.out HB.out)|(with_reducible refine Kd.C_alloc ?_ _)|(with_reducible refine Kd.C_drewN ?_ _)|(with_reducible refine Kd.C_drew ?_)));(case side2=>exact HC0_0.out);(case side3=>repeat (first|exact (Kd.C_below HR1_0.out HB.out)|(with_reducible refine Kd.C_alloc ?_ _)|(with_reducible refine Kd.C_drewN ?_ _)|(with_reducible refine Kd.C_drew ?_)));(case side4=>exact HC1_0.out);rintro e w' ⟨rfl,⟨nd,rfl⟩⟩;(try first|exact ⟨rfl,_,World.drewN_drewN _ _ _⟩|exact ⟨rfl,_,Eq.trans (World.drewN_drewN _ _ _) (congrArg (World.drewN _) (Nat.add_assoc _ _ _))⟩)))
   repeat (go_quiet (first|(go_at_call 46;(with_reducible refine (scarfjointref05_SameInts.calls k _ _ l0_0 _ _ l1_0 true _ ?side1 ?side2 ?side3 ?side4 A6.out).mono ?_);(case side1=>repeat (first|exact (Kd.C_below HR0_0.out HB.out)|(with_reducible refine Kd.C_alloc ?_ _)|(with_reducible refine Kd.C_drewN ?_ _)|(with_reducible refine Kd.C_drew ?_)));(case side2=>exact HC0_0.out);(case side3=>repeat (first|exact (Kd.C_below HR1_0.out HB.out)|(with_reducible refine Kd.C_alloc ?_ _)|(with_reducible refine Kd.C_drewN ?_ _)|(with_reducible refine Kd.C_drew ?_)));(case side4=>exact HC1_0.out);rintro e w' ⟨rfl,⟨nd,rfl⟩⟩;(try first|exact ⟨rfl,_,World.drewN_drewN _ _ _⟩|exact ⟨rfl,_,Eq.trans (World.drewN_drewN _ _ _) (congrArg (World.drewN _) (Nat.add_assoc _ _ _))⟩)));try go_wp2_with (first|(go_at_call 46;(with_reducible refine (scarfjointref05_SameInts.calls k _ _ l0_0 _ _ l1_0 true _ ?side1 ?side2 ?side3 ?side4 A6.out).mono ?_);(case side1=>repeat (first|exact (Kd.C_below HR0_0.out HB.out)|(with_reducible refine Kd.C_alloc ?_ _)|(with_reducible refine Kd.C_drewN ?_ _)|(with_reducible refine Kd.C_drew ?_)));(case side2=>exact HC0_0.out);(case side3=>repeat (first|exact (Kd.C_below HR1_0.out HB.out)|(with_reducible refine Kd.C_alloc ?_ _)|(with_reducible refine Kd.C_drewN ?_ _)|(with_reducible refine Kd.C_drew ?_)));(case side4=>exact HC1_0.out);rintro e w' ⟨rfl,⟨nd,rfl⟩⟩;(try first|exact ⟨rfl,_,World.drewN_drewN _ _ _⟩|exact ⟨rfl,_,Eq.trans (World.drewN_drewN _ _ _) (congrArg (World.drewN _) (Nat.add_assoc _ _ _))⟩))))
   go_meet
   case rel=>exact ⟨_,(((l0_1.length : Int) != (l1_1.length : Int))),(by first|rfl|(simp;done)|(simp [*];done)),H',⟨by first|omega|exact Nat.le_refl _⟩,⟨by (with_reducible repeat (first|refine blk_drewN ?_ _|refine blk_drew ?_|refine blk_alloc ?_ _));exact BK105.out⟩,⟨by (with_reducible repeat (first|refine blk_drewN ?_ _|refine blk_drew ?_|refine blk_alloc ?_ _));exact BK106.out⟩,⟨by repeat (first|(with_reducible first|exact HB.out|apply zzD|apply zzE|apply zzF|refine below_set ?_ GE105.out|refine below_set ?_ GE106.out)|exact HB.out)⟩⟩
  ·replace c7:=Bool.eq_false_iff.mpr c7
   subst c7
   have H1 : (scarfjointref05_Same.j0 k true l0_0 l0_1 l1_0 l1_1) = some r:=by rw [if_neg (show ¬ (false = true) by decide)] at H;exact H
   clear H
   have H:=H1
   clear H1
   have H':=Aside0.mk H
   clear H
   have hnb11:=NB105_106.out
   have hnc11:=NB106_105.out
   have hcz12_0 : w5.cell? ⟨gb105,0,none⟩ = some (.slice A0_0 l0_0.length c0_0):=(blk_cell BK105.out 0).trans rfl
   have hcz12_1 : w5.cell? ⟨gb105,1,none⟩ = some (.slice A0_1 l0_1.length c0_1):=(blk_cell BK105.out 1).trans rfl
   have hfz12_0:=blk_frozen BK105.out 0
   have hfz12_1:=blk_frozen BK105.out 1
   have hcz13_0 : w5.cell? ⟨gb106,0,none⟩ = some (.slice A1_0 l1_0.length c1_0):=(blk_cell BK106.out 0).trans rfl
   have hcz13_1 : w5.cell? ⟨gb106,1,none⟩ = some (.slice A1_1 l1_1.length c1_1):=(blk_cell BK106.out 1).trans rfl
   have hfz13_0:=blk_frozen BK106.out 0
   have hfz13_1:=blk_frozen BK106.out 1
   go_wp2_with (first|(go_at_call 46;(with_reducible refine (scarfjointref05_SameInts.calls k _ _ l0_0 _ _ l1_0 false _ ?side1 ?side2 ?side3 ?side4 A6.out).mono ?_);(case side1=>repeat (first|exact (Kd.C_below HR0_0.out HB.out)|(with_reducible refine Kd.C_alloc ?_ _)|(with_reducible refine Kd.C_drewN ?_ _)|(with_reducible refine Kd.C_drew ?_)));(case side2=>exact HC0_0.out);(case side3=>repeat (first|exact (Kd.C_below HR1_0.out HB.out)|(with_reducible refine Kd.C_alloc ?_ _)|(with_reducible refine Kd.C_drewN ?_ _)|(with_reducible refine Kd.C_drew ?_)));(case side4=>exact HC1_0.out);rintro e w' ⟨rfl,⟨nd,rfl⟩⟩;(try first|exact ⟨rfl,_,World.drewN_drewN _ _ _⟩|exact ⟨rfl,_,Eq.trans (World.drewN_drewN _ _ _) (congrArg (World.drewN _) (Nat.add_assoc _ _ _))⟩)))
   repeat (go_quiet (first|(go_at_call 46;(with_reducible refine (scarfjointref05_SameInts.calls k _ _ l0_0 _ _ l1_0 false _ ?side1 ?side2 ?side3 ?side4 A6.out).mono ?_);(case side1=>repeat (first|exact (Kd.C_below HR0_0.out HB.out)|(with_reducible refine Kd.C_alloc ?_ _)|(with_reducible refine Kd.C_drewN ?_ _)|(with_reducible refine Kd.C_drew ?_)));(case side2=>exact HC0_0.out);(case side3=>repeat (first|exact (Kd.C_below HR1_0.out HB.out)|(with_reducible refine Kd.C_alloc ?_ _)|(with_reducible refine Kd.C_drewN ?_ _)|(with_reducible refine Kd.C_drew ?_)));(case side4=>exact HC1_0.out);rintro e w' ⟨rfl,⟨nd,rfl⟩⟩;(try first|exact ⟨rfl,_,World.drewN_drewN _ _ _⟩|exact ⟨rfl,_,Eq.trans (World.drewN_drewN _ _ _) (congrArg (World.drewN _) (Nat.add_assoc _ _ _))⟩)));try go_wp2_with (first|(go_at_call 46;(with_reducible refine (scarfjointref05_SameInts.calls k _ _ l0_0 _ _ l1_0 false _ ?side1 ?side2 ?side3 ?side4 A6.out).mono ?_);(case side1=>repeat (first|exact (Kd.C_below HR0_0.out HB.out)|(with_reducible refine Kd.C_alloc ?_ _)|(with_reducible refine Kd.C_drewN ?_ _)|(with_reducible refine Kd.C_drew ?_)));(case side2=>exact HC0_0.out);(case side3=>repeat (first|exact (Kd.C_below HR1_0.out HB.out)|(with_reducible refine Kd.C_alloc ?_ _)|(with_reducible refine Kd.C_drewN ?_ _)|(with_reducible refine Kd.C_drew ?_)));(case side4=>exact HC1_0.out);rintro e w' ⟨rfl,⟨nd,rfl⟩⟩;(try first|exact ⟨rfl,_,World.drewN_drewN _ _ _⟩|exact ⟨rfl,_,Eq.trans (World.drewN_drewN _ _ _) (congrArg (World.drewN _) (Nat.add_assoc _ _ _))⟩))))
   go_meet
   case rel=>exact ⟨_,(true),(by first|rfl|(simp;done)|(simp [*];done)),H',⟨by first|omega|exact Nat.le_refl _⟩,⟨by (with_reducible repeat (first|refine blk_drewN ?_ _|refine blk_drew ?_|refine blk_alloc ?_ _));exact BK105.out⟩,⟨by (with_reducible repeat (first|refine blk_drewN ?_ _|refine blk_drew ?_|refine blk_alloc ?_ _));exact BK106.out⟩,⟨by repeat (first|(with_reducible first|exact HB.out|apply zzD|apply zzE|apply zzF|refine below_set ?_ GE105.out|refine below_set ?_ GE106.out)|exact HB.out)⟩⟩
 case rest =>
  clear HC3
  try clear c1
  try clear c2
  try clear p2
  try clear c7
  try clear c8
  try clear c11
  try clear hcz10_0
  try clear hcz10_1
  try clear hcz12_0
  try clear hcz12_1
  try clear hcz13_0
  try clear hcz13_1
  try clear hcz9_0
  try clear hcz9_1
  try clear hfz10_0
  try clear hfz10_1
  try clear hfz12_0
  try clear hfz12_1
  try clear hfz13_0
  try clear hfz13_1
  try clear hfz9_0
  try clear hfz9_1
  obtain ⟨kq,x20_2,rfl,HA,HJ2,BK105,BK106,HB⟩:=hcut
  cases kq with
  | zero => exact absurd HA.out (by simp [scarfjointref05_Same.j0])
  | succ kj2 =>
   have H:=HA.out
   clear HA
   simp only [scarfjointref05_Same.j0] at H
   by_cases c14 : x20_2 = true
   ·subst c14
    have H1 : (some false) = some r:=by rw [if_pos rfl] at H;exact H
    clear H
    have H:=H1
    clear H1
    obtain rfl:=Option.some.inj H
    go_wp2
    repeat (go_quiet (fail);try go_wp2)
    go_ret
    exact ⟨by first|rfl|(simp [errW_none,errW_some] <;> rfl)|(simp [*,errW_none,errW_some] <;> rfl),by repeat (first|(with_reducible first|exact HB.out|apply zzD|apply zzE|apply zzF|refine below_set ?_ GE105.out|refine below_set ?_ GE106.out)|exact HB.out)⟩
   ·replace c14:=Bool.eq_false_iff.mpr c14
    subst c14
    have H1 : (scarfjointref05_Same.l0 kj2 0 l0_0 l0_1 l1_0 l1_1) = some r:=by rw [if_neg (show ¬ (false = true) by decide)] at H;exact H
    clear H
    have H:=H1
    clear H1
    have H':=Aside0.mk H
    clear H
    go_wp2
    repeat (go_quiet (fail);try go_wp2)
    go_loopg [5] kj2 (fun kq v5 w'=>∃ (x5_2 : Int),v5 = .int .i64 x5_2 ∧ Aside0 (scarfjointref05_Same.l0 kq x5_2 l0_0 l0_1 l1_0 l1_1 = some r) ∧ Aside0 (kq ≤ kj2) ∧ Aside0 (w'.heap[gb105]? = some (.cells #[(.slice A0_0 l0_0.length c0_0),(.slice A0_1 l0_1.length c0_1)] 30 (0,0))) ∧ Aside0 (w'.heap[gb106]? = some (.cells #[(.slice A1_0 l1_0.length c1_0),(.slice A1_1 l1_1.length c1_1)] 30 (0,0))) ∧ Aside0 (Below w.heap.size w w'))
    case atStart=>exact ⟨(0),(by first|rfl|(simp;done)|(simp [*];done)),H',⟨Nat.le_refl _⟩,⟨by (with_reducible repeat (first|refine blk_drewN ?_ _|refine blk_drew ?_|refine blk_alloc ?_ _));exact BK105.out⟩,⟨by (with_reducible repeat (first|refine blk_drewN ?_ _|refine blk_drew ?_|refine blk_alloc ?_ _));exact BK106.out⟩,⟨by repeat (first|(with_reducible first|exact HB.out|apply zzD|apply zzE|apply zzF|refine below_set ?_ GE105.out|refine below_set ?_ GE106.out)|exact HB.out)⟩⟩
    case round =>
     clear H'
     try clear c1
     try clear c2
     try clear p2
     try clear c7
     try clear c8
     try clear c11
     try clear c14
     try clear hcz10_0
     try clear hcz10_1
     try clear hcz12_0
     try clear hcz12_1
     try clear hcz13_0
     try clear hcz13_1
     try clear hcz9_0
     try clear hcz9_1
     try clear hfz10_0
     try clear hfz10_1
     try clear hfz12_0
     try clear hfz12_1
     try clear hfz13_0
     try clear hfz13_1
     try clear hfz9_0
     try clear hfz9_1
     try clear p2
     obtain ⟨x5_2,rfl,HA,HK2,BK105,BK106,HB⟩:=hrel
     cases gk with
     | zero => exact absurd HA.out (by simp [scarfjointref05_Same.l0])
     | succ k2 =>
      have H:=HA.out
      clear HA
      simp only [scarfjointref05_Same.l0] at H
      by_cases c15 : x5_2 < (l0_1.length : Int)
      ·rw [if_pos c15] at H
       have c15b0 : decide (x5_2 < (l0_1.length : Int)) = true:=decide_eq_true c15
       clear c15
       by_cases c16 : 0 ≤ x5_2
       ·rw [if_pos c16] at H
        have c16b0 : decide (0 ≤ x5_2) = true:=decide_eq_true c16
        clear c16
        by_cases c17 : x5_2 < (l1_1.length : Int)
        ·rw [if_pos c17] at H
         have c17b0 : decide (x5_2 < (l1_1.length : Int)) = true:=decide_eq_true c17
         clear c17
         by_cases c18 : (!(((rd_T34 l0_1 x5_2).f0) == ((rd_T34 l1_1 x5_2).f0)) || (!(((rd_T34 l0_1 x5_2).f1) == ((rd_T34 l1_1 x5_2).f1)) || (!(((rd_T34 l0_1 x5_2).f2) == ((rd_T34 l1_1 x5_2).f2))))) = true
         ·rw [if_pos c18] at H
          have c18b0 : (!(((rd_T34 l0_1 x5_2).f0) == ((rd_T34 l1_1 x5_2).f0)) || (!(((rd_T34 l0_1 x5_2).f1) == ((rd_T34 l1_1 x5_2).f1)) || (!(((rd_T34 l0_1 x5_2).f2) == ((rd_T34 l1_1 x5_2).f2))))) = true:=c18
          clear c18
          obtain rfl:=Option.some.inj H
          have hnb19:=NB105_106.out
          have hnc19:=NB106_105.out
          have hcz20_0 : wr.cell? ⟨gb105,0,none⟩ = some (.slice A0_0 l0_0.length c0_0):=(blk_cell BK105.out 0).trans rfl
          have hcz20_1 : wr.cell? ⟨gb105,1,none⟩ = some (.slice A0_1 l0_1.length c0_1):=(blk_cell BK105.out 1).trans rfl
          have hfz20_0:=blk_frozen BK105.out 0
          have hfz20_1:=blk_frozen BK105.out 1
          have p108 : 0 ≤ (x5_2 : Int):=of_decide_eq_true (by first|(with_reducible assumption)|assumption)
          have q108 : x5_2 < (l0_1.length : Int):=of_decide_eq_true (by first|(with_reducible assumption)|assumption)
          obtain ⟨ad108,e108,hx108_0,hx108_1,hx108_2⟩:=at_T34 HR0_1.out x5_2 p108 q108
          cases e108
          replace hx108_0:=(HB.out.cell (World.block_lt_of_cell? w _ hx108_0)).trans hx108_0
          replace hx108_1:=(HB.out.cell (World.block_lt_of_cell? w _ hx108_1)).trans hx108_1
          replace hx108_2:=(HB.out.cell (World.block_lt_of_cell? w _ hx108_2)).trans hx108_2
          replace p108:=eq_true p108
          replace q108:=eq_true q108
          have hcz21_0 : wr.cell? ⟨gb106,0,none⟩ = some (.slice A1_0 l1_0.length c1_0):=(blk_cell BK106.out 0).trans rfl
          have hcz21_1 : wr.cell? ⟨gb106,1,none⟩ = some (.slice A1_1 l1_1.length c1_1):=(blk_cell BK106.out 1).trans rfl
          have hfz21_0:=blk_frozen BK106.out 0
          have hfz21_1:=blk_frozen BK106.out 1
          have p109 : 0 ≤ (x5_2 : Int):=of_decide_eq_true (by first|(with_reducible assumption)|assumption)
          have q109 : x5_2 < (l1_1.length : Int):=of_decide_eq_true (by first|(with_reducible assumption)|assumption)
          obtain ⟨ad109,e109,hx109_0,hx109_1,hx109_2⟩:=at_T34 HR1_1.out x5_2 p109 q109
          cases e109
          replace hx109_0:=(HB.out.cell (World.block_lt_of_cell? w _ hx109_0)).trans hx109_0
          replace hx109_1:=(HB.out.cell (World.block_lt_of_cell? w _ hx109_1)).trans hx109_1
          replace hx109_2:=(HB.out.cell (World.block_lt_of_cell? w _ hx109_2)).trans hx109_2
          replace p109:=eq_true p109
          replace q109:=eq_true q109
          go_wp2
          repeat (go_quiet (fail);try go_wp2)
          go_ret
          exact ⟨by first|rfl|(simp [errW_none,errW_some] <;> rfl)|(simp [*,errW_none,errW_some] <;> rfl),by repeat (first|(with_reducible first|exact HB.out|apply zzD|apply zzE|apply zzF|refine below_set ?_ GE105.out|refine below_set ?_ GE106.out)|exact HB.out)⟩
         ·rw [if_neg c18] at H
          have c18b0 : (!(((rd_T34 l0_1 x5_2).f0) == ((rd_T34 l1_1 x5_2).f0)) || (!(((rd_T34 l0_1 x5_2).f1) == ((rd_T34 l1_1 x5_2).f1)) || (!(((rd_T34 l0_1 x5_2).f2) == ((rd_T34 l1_1 x5_2).f2))))) = false:=by simpa using c18
          clear c18
          have H':=Aside0.mk H
          clear H
          have hnb22:=NB105_106.out
          have hnc22:=NB106_105.out
          have hcz23_0 : wr.cell? ⟨gb105,0,none⟩ = some (.slice A0_0 l0_0.length c0_0):=(blk_cell BK105.out 0).trans rfl
          have hcz23_1 : wr.cell? ⟨gb105,1,none⟩ = some (.slice A0_1 l0_1.length c0_1):=(blk_cell BK105.out 1).trans rfl
          have hfz23_0:=blk_frozen BK105.out 0
          have hfz23_1:=blk_frozen BK105.out 1
          have p108 : 0 ≤ (x5_2 : Int):=of_decide_eq_true (by first|(with_reducible assumption)|assumption)
          have q108 : x5_2 < (l0_1.length : Int):=of_decide_eq_true (by first|(with_reducible assumption)|assumption)
          obtain ⟨ad108,e108,hx108_0,hx108_1,hx108_2⟩:=at_T34 HR0_1.out x5_2 p108 q108
          cases e108
          replace hx108_0:=(HB.out.cell (World.block_lt_of_cell? w _ hx108_0)).trans hx108_0
          replace hx108_1:=(HB.out.cell (World.block_lt_of_cell? w _ hx108_1)).trans hx108_1
          replace hx108_2:=(HB.out.cell (World.block_lt_of_cell? w _ hx108_2)).trans hx108_2
          replace p108:=eq_true p108
          replace q108:=eq_true q108
          have hcz24_0 : wr.cell? ⟨gb106,0,none⟩ = some (.slice A1_0 l1_0.length c1_0):=(blk_cell BK106.out 0).trans rfl
          have hcz24_1 : wr.cell? ⟨gb106,1,none⟩ = some (.slice A1_1 l1_1.length c1_1):=(blk_cell BK106.out 1).trans rfl
          have hfz24_0:=blk_frozen BK106.out 0
          have hfz24_1:=blk_frozen BK106.out 1
          have p109 : 0 ≤ (x5_2 : Int):=of_decide_eq_true (by first|(with_reducible assumption)|assumption)
          have q109 : x5_2 < (l1_1.length : Int):=of_decide_eq_true (by first|(with_reducible assumption)|assumption)
          obtain ⟨ad109,e109,hx109_0,hx109_1,hx109_2⟩:=at_T34 HR1_1.out x5_2 p109 q109
          cases e109
          replace hx109_0:=(HB.out.cell (World.block_lt_of_cell? w _ hx109_0)).trans hx109_0
          replace hx109_1:=(HB.out.cell (World.block_lt_of_cell? w _ hx109_1)).trans hx109_1
          replace hx109_2:=(HB.out.cell (World.block_lt_of_cell? w _ hx109_2)).trans hx109_2
          replace p109:=eq_true p109
          replace q109:=eq_true q109
          go_wp2
          repeat (go_quiet (fail);try go_wp2)
          go_roundg k2
          case measure=>have:=HJ2.out;have:=HK2.out;omega
          case rel=>exact ⟨(wrap64 (x5_2 + 1)),(by first|rfl|(simp;done)|(simp [*];done)),H',⟨by have:=HJ2.out;have:=HK2.out;omega⟩,⟨by (with_reducible repeat (first|refine blk_drewN ?_ _|refine blk_drew ?_|refine blk_alloc ?_ _));exact BK105.out⟩,⟨by (with_reducible repeat (first|refine blk_drewN ?_ _|refine blk_drew ?_|refine blk_alloc ?_ _));exact BK106.out⟩,⟨by repeat (first|(with_reducible first|exact HB.out|apply zzD|apply zzE|apply zzF|refine below_set ?_ GE105.out|refine below_set ?_ GE106.out)|exact HB.out)⟩⟩
        ·rw [if_neg c17] at H
         exact absurd H (by simp)
       ·rw [if_neg c16] at H
        exact absurd H (by simp)
      ·rw [if_neg c15] at H
       have c15b0 : decide (x5_2 < (l0_1.length : Int)) = false:=decide_eq_false c15
       clear c15
       obtain rfl:=Option.some.inj H
       have hnb25:=NB105_106.out
       have hnc25:=NB106_105.out
       have hcz26_0 : wr.cell? ⟨gb105,0,none⟩ = some (.slice A0_0 l0_0.length c0_0):=(blk_cell BK105.out 0).trans rfl
       have hcz26_1 : wr.cell? ⟨gb105,1,none⟩ = some (.slice A0_1 l0_1.length c0_1):=(blk_cell BK105.out 1).trans rfl
       have hfz26_0:=blk_frozen BK105.out 0
       have hfz26_1:=blk_frozen BK105.out 1
       go_wp2
       repeat (go_quiet (fail);try go_wp2)
       go_ret
       exact ⟨by first|rfl|(simp [errW_none,errW_some] <;> rfl)|(simp [*,errW_none,errW_some] <;> rfl),by repeat (first|(with_reducible first|exact HB.out|apply zzD|apply zzE|apply zzF|refine below_set ?_ GE105.out|refine below_set ?_ GE106.out)|exact HB.out)⟩
def slices_Index_int_int.l0 : Nat → List Int → Int → Int → Int → Option (Int)
 | 0,_,_,_,_ => none
 | k + 1,x0,x1,x7,x8 => if x8 < x7 then (if 0 ≤ x8 then (if x8 < (x0.length : Int) then (if x1 = (rd x0 x8) then (some x8) else (slices_Index_int_int.l0 k x0 x1 x7 (wrap64 (x8 + 1)))) else (none)) else (none)) else (some (-1))
def slices_Index_int_int.f (k : Nat) (l0 : List Int) (a1 : Int) : Option (Int):=slices_Index_int_int.l0 k l0 a1 (l0.length : Int) 0
set_option maxHeartbeats 8000000 in
set_option maxRecDepth 100000 in
theorem slices_Index_int_int.calls (k : Nat) (A0 : Option Addr) (c0 : Nat) (l0 : List Int) (a1 : Int) (r : Int) (w : World) (hr0 : Kd.C (Kd.int .i64) w A0 l0.length l0) (hc0 : l0.length ≤ c0) (h : slices_Index_int_int.f k l0 a1 = some r) :
  Calls Try.prog 68 #[.slice A0 l0.length c0,.int .i64 a1] w fun e w'=>e = .returned (.int .i64 r) ∧ Drawn0 w w':=by
 have HR0:=Aside0.mk hr0
 have HC0:=Aside0.mk hc0
 clear hr0 hc0
 have H : (slices_Index_int_int.l0 k l0 a1 (l0.length : Int) 0) = some r:=h
 clear h
 have H':=Aside0.mk H
 clear H
 go_enter Try.func68,Try.ntmps68
 go_wp2
 go_loopg [8] k (fun kq v8 w'=>∃ (x8_1 : Int),v8 = .int .i64 x8_1 ∧ Aside0 (slices_Index_int_int.l0 kq l0 a1 (l0.length : Int) x8_1 = some r) ∧ Aside0 (kq ≤ k) ∧ Drawn0 w w')
 case atStart=>exact ⟨(0),(by first|rfl|(simp;done)|(simp [*];done)),H',⟨Nat.le_refl _⟩,by repeat (first|exact Drawn0.refl _|apply Drawn0.step)⟩
 case round =>
  clear H'
  try clear p2
  obtain ⟨x8_1,rfl,HA,HK1,⟨m1,rfl⟩⟩:=hrel
  cases gk with
  | zero => exact absurd HA.out (by simp [slices_Index_int_int.l0])
  | succ k1 =>
   have H:=HA.out
   clear HA
   simp only [slices_Index_int_int.l0] at H
   by_cases c3 : x8_1 < (l0.length : Int)
   ·rw [if_pos c3] at H
    have c3b0 : decide (x8_1 < (l0.length : Int)) = true:=decide_eq_true c3
    clear c3
    by_cases c4 : 0 ≤ x8_1
    ·rw [if_pos c4] at H
     have c4b0 : decide (0 ≤ x8_1) = true:=decide_eq_true c4
     clear c4
     by_cases c5 : x8_1 < (l0.length : Int)
     ·rw [if_pos c5] at H
      have c5b0 : decide (x8_1 < (l0.length : Int)) = true:=decide_eq_true c5
      clear c5
      by_cases c6 : a1 = (rd l0 x8_1)
      ·rw [if_pos c6] at H
       have c6b0 : (a1 == (rd l0 x8_1)) = true:=beq_iff_eq.mpr c6
       have c6b1 : (a1 != (rd l0 x8_1)) = false:=bne_eq_false_iff_eq.mpr c6
       clear c6
       obtain rfl:=Option.some.inj H
       have p126 : 0 ≤ (x8_1 : Int):=of_decide_eq_true (by first|(with_reducible assumption)|assumption)
       have q126 : x8_1 < (l0.length : Int):=of_decide_eq_true (by first|(with_reducible assumption)|assumption)
       obtain ⟨ad126,e126,hx126_0⟩:=Kd.at_int HR0.out x8_1 p126 q126
       cases e126
       replace p126:=eq_true p126
       replace q126:=eq_true q126
       go_wp2
       go_ret
       exact ⟨by first|rfl|(simp;done)|(simp [*];done),by repeat (first|exact Drawn0.refl _|apply Drawn0.step)⟩
      ·rw [if_neg c6] at H
       have c6b0 : (a1 == (rd l0 x8_1)) = false:=beq_eq_false_iff_ne.mpr c6
       have c6b1 : (a1 != (rd l0 x8_1)) = true:=bne_iff_ne.mpr c6
       have H':=Aside0.mk H
       clear H
       have p126 : 0 ≤ (x8_1 : Int):=of_decide_eq_true (by first|(with_reducible assumption)|assumption)
       have q126 : x8_1 < (l0.length : Int):=of_decide_eq_true (by first|(with_reducible assumption)|assumption)
       obtain ⟨ad126,e126,hx126_0⟩:=Kd.at_int HR0.out x8_1 p126 q126
       cases e126
       replace p126:=eq_true p126
       replace q126:=eq_true q126
       go_wp2
       go_roundg k1
       case measure=>have:=HK1.out;omega
       case rel=>exact ⟨(wrap64 (x8_1 + 1)),(by first|rfl|(simp;done)|(simp [*];done)),H',⟨by have:=HK1.out;omega⟩,by repeat (first|exact Drawn0.refl _|apply Drawn0.step)⟩
     ·rw [if_neg c5] at H
      exact absurd H (by simp)
    ·rw [if_neg c4] at H
     exact absurd H (by simp)
   ·rw [if_neg c3] at H
    have c3b0 : decide (x8_1 < (l0.length : Int)) = false:=decide_eq_false c3
    clear c3
    obtain rfl:=Option.some.inj H
    go_wp2
    go_ret
    exact ⟨by first|rfl|(simp;done)|(simp [*];done),by repeat (first|exact Drawn0.refl _|apply Drawn0.step)⟩
def slices_Contains_int_int.f (k : Nat) (l0 : List Int) (a1 : Int) : Option (Bool):=(slices_Index_int_int.f k l0 a1).bind fun t127=>(some (decide (t127 ≥ 0)))
set_option maxHeartbeats 8000000 in
set_option maxRecDepth 100000 in
theorem slices_Contains_int_int.calls (k : Nat) (A0 : Option Addr) (c0 : Nat) (l0 : List Int) (a1 : Int) (r : Bool) (w : World) (hr0 : Kd.C (Kd.int .i64) w A0 l0.length l0) (hc0 : l0.length ≤ c0) (h : slices_Contains_int_int.f k l0 a1 = some r) :
  Calls Try.prog 49 #[.slice A0 l0.length c0,.int .i64 a1] w fun e w'=>e = .returned (.bool r) ∧ Drawn0 w w':=by
 have HR0:=Aside0.mk hr0
 have HC0:=Aside0.mk hc0
 clear hr0 hc0
 have H : ((slices_Index_int_int.f k l0 a1).bind fun t127=>(some (decide (t127 ≥ 0)))) = some r:=h
 clear h
 replace H:=Option.bind_eq_some_iff.mp H
 obtain ⟨t127,A30,H⟩:=H
 replace H : (some (decide (t127 ≥ 0))) = some r:=H
 have A3:=Aside0.mk A30
 clear A30
 obtain rfl:=Option.some.inj H
 go_enter Try.func49,Try.ntmps49
 go_wp2_with (first|((with_reducible refine gate_callee (f:=68) rfl ?_);refine goesL_ (some 7) rfl rfl Try.func68 (by kernel_rfl) rfl #[.slice A0 l0.length c0,.int .i64 a1] rfl (by (try simp only [List.map_toArray,List.map_cons,List.map_nil]);first|done|rfl|(simp only [List.length_drop,List.length_take];rfl)) ?_;(with_reducible refine (slices_Index_int_int.calls k _ _ l0 a1 t127 _ ?side1 ?side2 A3.out).mono ?_);(case side1=>repeat (first|exact HR0.out|(with_reducible refine Kd.C_alloc ?_ _)|(with_reducible refine Kd.C_drewN ?_ _)|(with_reducible refine Kd.C_drew ?_)));(case side2=>exact HC0.out);rintro e w' ⟨rfl,⟨nd,rfl⟩⟩;refine ⟨_,rfl,?_⟩))
 go_ret
 exact ⟨by first|rfl|(simp;done)|(simp [*];done),by repeat (first|exact Drawn0.refl _|apply Drawn0.step)⟩
end Go.Proofs.Ytgmomcjnldahjaa.Pr
namespace Go.Proofs.Ytgmomcjnldahjaa.Pr
open Go.RowKit Go.Proofs.YtgmomcjnldahjaaW.PrintWords Go.Proofs.YtgmomcjnldahjaaW.PrintLast Go.Proofs.YtgmomcjnldahjaaW.PrintMore
attribute [local go_sem] max2_int min2_int max_two min_two max_three min_three max_four min_four
set_option linter.unusedVariables false
set_option linter.unusedSimpArgs false
def slices_Clone_int_int.f (l0 : List Int) : Option (List Int):=(some (([] : List Int) : List Int)).bind fun y152=>(if y152.length + l0.length < 17592186044416 then (some (y152 ++ l0)) else (none))
set_option maxHeartbeats 8000000 in
set_option maxRecDepth 100000 in
theorem slices_Clone_int_int.calls (A0 : Option Addr) (c0 : Nat) (l0 : List Int) (r : List Int) (w : World) (hr0 : Kd.C (Kd.int .i64) w A0 l0.length l0) (hc0 : l0.length ≤ c0) (h : slices_Clone_int_int.f l0 = some r) :
  Calls Try.prog 18 #[.slice A0 l0.length c0] w fun e w'=>∃ v0_ : Value,e = .returned (v0_) ∧ Kd.R (Kd.int .i64) 3 w' w.heap.size (fun _=>True) v0_ r ∧ Below w.heap.size w w':=by
 have HR0:=Aside0.mk hr0
 have HC0:=Aside0.mk hc0
 clear hr0 hc0
 have HB:=Aside0.mk (Below.refl w.heap.size w)
 have H : ((some (([] : List Int) : List Int)).bind fun y152=>(if y152.length + l0.length < 17592186044416 then (some (y152 ++ l0)) else (none))) = some r:=h
 clear h
 rcases A0 with _|ad0
 ·obtain rfl : l0 = []:=by
   rcases Nat.eq_zero_or_pos l0.length with h0|h0
   ·exact List.eq_nil_of_length_eq_zero h0
   ·obtain ⟨_,e,_⟩:=HR0.out.2.2 h0;cases e
  have hr : r = []:=by simpa using H.symm
  clear H
  subst hr
  have hnil:=fun (W : World) (n c : Nat)=>Lib.run_eql_slice_nil (P:=Try.prog) W 27 3 none n c 0 0 Try.underlying27
  simp only [Option.isNone_none] at hnil
  go_enter Try.func18,Try.ntmps18
  go_wp2
  go_ret
  exact ⟨_,rfl,Kd.R_nil _ _ _ _ _,HB.out⟩
 have hnil:=fun (W : World) (n c : Nat)=>Lib.run_eql_slice_nil (P:=Try.prog) W 27 3 (some ad0) n c 0 0 Try.underlying27
 simp only [Option.isNone_some] at hnil
 obtain ⟨y152,hy152⟩ : ∃ y_ : List Int,y_ = (([] : List Int)):=⟨_,rfl⟩
 replace H : (if y152.length + l0.length < 17592186044416 then (some (y152 ++ l0)) else (none)) = some r:=by first|(rw [hy152];with_reducible exact H)|(have H2_:=(Option.bind_some _ _).symm.trans H;rw [hy152];with_reducible exact H2_)|(have H2_:=(Option.bind_some _ _).symm.trans H;with_reducible exact H2_)|with_reducible exact H|(rw [hy152];exact H)|exact H
 have Ny152:=Aside0.mk hy152
 clear hy152
 by_cases c2 : y152.length + l0.length < 17592186044416
 ·rw [if_pos c2] at H
  have LMc2:=Aside0.mk c2
  clear c2
  obtain ⟨y155,hy155⟩ : ∃ y_ : List Int,y_ = (y152 ++ l0):=⟨_,rfl⟩
  replace H : (some y155) = some r:=by first|(rw [hy155];with_reducible exact H)|(have H2_:=(Option.bind_some _ _).symm.trans H;rw [hy155];with_reducible exact H2_)|(have H2_:=(Option.bind_some _ _).symm.trans H;with_reducible exact H2_)|with_reducible exact H|(rw [hy155];exact H)|exact H
  have Ny155:=Aside0.mk hy155
  clear hy155
  obtain rfl:=Option.some.inj H
  go_enter Try.func18,Try.ntmps18
  go_wp2_with (first|((with_reducible refine gate_dst (N:=5) rfl ?_);refine Kd.R_lit (Kd.int .i64) _ 3 ?hg (N:=5) ?hd (xs:=([] : List Int)) (inner:=[]) (ok:=fun _=>True) (okp:=fun _=>True) ?hr ?hp (fun _ hk=>hk) trivial (Below.refl _ _) (Nat.le_refl _) (by simp) ?_;(case hd=>rfl);(case hg=>rfl);(case hr=>first|(go_simp;done)|(go_simp;rfl));(case hp=>exact (Reps.none _ _));intro v153 w3 ho4 hb hg_ hnew_;clear hg_ hnew_;(first|rw [← Ny152.out] at ho4|(simp only [Int.reduceToNat] at ho4;rw [← Ny152.out] at ho4));have n0_:=Aside0.mk (Kd.R_lower ho4 (below_size (by repeat (first|(with_reducible first|exact HB.out|apply zzD|apply zzE|apply zzF)|exact HB.out))));have n1_:=Aside0.mk (below_step (by repeat (first|(with_reducible first|exact HB.out|apply zzD|apply zzE|apply zzF)|exact HB.out)) hb);clear HB;have HO154:=n0_;have HB:=n1_;clear n0_ n1_;clear hb ho4)|((with_reducible refine gate_builtin (b:=.append) (xs:=#[.tmp 5,.tmp 6]) rfl ?_);at_builtin;refine Kd.R_append_rows (Kd.int .i64) (w0:=w) w.heap.size rfl (.tmp 5) (.tmp 6) 27 3 (.int .i64 0) 8 rfl Try.underlying27 info3 rfl (by decide) (by omega) v153 y152 l0 _ _ _ (fun _=>True) (fun _=>False) rfl rfl ?aO ?aR (fun _ _ h=>h) (fun _ h=>h.elim) ?aF ?aB ?aS ?aL ?_;(case aR=>repeat (first|exact (Kd.C_below HR0.out HB.out)|(with_reducible refine Kd.C_alloc ?_ _)|(with_reducible refine Kd.C_drewN ?_ _)|(with_reducible refine Kd.C_drew ?_)));(case aB=>exact (by repeat (first|(with_reducible first|exact HB.out|apply zzD|apply zzE|apply zzF)|exact HB.out)));(case aF=>exact (fun _ _=>trivial));(case aO=>exact (by (with_reducible repeat (first|apply Kd.R_alloc|apply Kd.R_drewN|apply Kd.R_drew));exact HO154.out));(case aS=>exact (below_size (by repeat (first|(with_reducible first|exact HB.out|apply zzD|apply zzE|apply zzF)|exact HB.out))));(case aL=>have:=LMc2.out;omega);intro v156 w5 ho hb hg hat;rw [← Ny155.out] at ho;have n0_:=Aside0.mk (hb);have n1_:=Aside0.mk (ho);clear HB;clear HO154;have HB:=n0_;have HO157:=n1_;clear n0_ n1_;clear ho hb hg hat))
  go_ret
  exact ⟨_,by first|rfl|(simp [errW_none,errW_some] <;> rfl)|(simp [*,errW_none,errW_some] <;> rfl),by (with_reducible repeat (first|apply Kd.R_alloc|apply Kd.R_drewN|apply Kd.R_drew));exact HO157.out,by repeat (first|(with_reducible first|exact HB.out|apply zzD|apply zzE|apply zzF)|exact HB.out)⟩
 ·rw [if_neg c2] at H
  exact absurd H (by simp)
def cmp_isNaN_int.f (a0 : Int) : Option (Bool):=some (a0 != a0)
set_option maxHeartbeats 8000000 in
set_option maxRecDepth 100000 in
theorem cmp_isNaN_int.calls (a0 : Int) (r : Bool) (w : World) (h : cmp_isNaN_int.f a0 = some r) :
  Calls Try.prog 71 #[.int .i64 a0] w fun e w'=>e = .returned (.bool r) ∧ Drawn0 w w':=by
 have H : (some (a0 != a0)) = some r:=h
 clear h
 obtain rfl:=Option.some.inj H
 go_enter Try.func71,Try.ntmps71
 go_wp2
 go_ret
 exact ⟨by first|rfl|(simp;done)|(simp [*];done),by repeat (first|exact Drawn0.refl _|apply Drawn0.step)⟩
def cmp_Compare_int.f (a0 : Int) (a1 : Int) : Option (Int):=(cmp_isNaN_int.f a0).bind fun t158=>((cmp_isNaN_int.f a1).bind fun t159=>(if t158 = true then (if t159 = true then (some 0) else (some (-1))) else (if t159 = true then (some 1) else (if a0 < a1 then (some (-1)) else (if a0 > a1 then (some 1) else (some 0))))))
set_option maxHeartbeats 8000000 in
set_option maxRecDepth 100000 in
theorem cmp_Compare_int.calls (a0 : Int) (a1 : Int) (r : Int) (w : World) (h : cmp_Compare_int.f a0 a1 = some r) :
  Calls Try.prog 54 #[.int .i64 a0,.int .i64 a1] w fun e w'=>e = .returned (.int .i64 r) ∧ Drawn0 w w':=by
 have H : ((cmp_isNaN_int.f a0).bind fun t158=>((cmp_isNaN_int.f a1).bind fun t159=>(if t158 = true then (if t159 = true then (some 0) else (some (-1))) else (if t159 = true then (some 1) else (if a0 < a1 then (some (-1)) else (if a0 > a1 then (some 1) else (some 0))))))) = some r:=h
 clear h
 replace H:=Option.bind_eq_some_iff.mp H
 obtain ⟨t158,A30,H⟩:=H
 replace H : ((cmp_isNaN_int.f a1).bind fun t159=>(if t158 = true then (if t159 = true then (some 0) else (some (-1))) else (if t159 = true then (some 1) else (if a0 < a1 then (some (-1)) else (if a0 > a1 then (some 1) else (some 0)))))) = some r:=H
 have A3:=Aside0.mk A30
 clear A30
 replace H:=Option.bind_eq_some_iff.mp H
 obtain ⟨t159,A40,H⟩:=H
 replace H : (if t158 = true then (if t159 = true then (some 0) else (some (-1))) else (if t159 = true then (some 1) else (if a0 < a1 then (some (-1)) else (if a0 > a1 then (some 1) else (some 0))))) = some r:=H
 have A4:=Aside0.mk A40
 clear A40
 by_cases c5 : t158 = true
 ·subst c5
  have H1 : (if t159 = true then (some 0) else (some (-1))) = some r:=by rw [if_pos rfl] at H;exact H
  clear H
  have H:=H1
  clear H1
  by_cases c6 : t159 = true
  ·subst c6
   have H1 : (some 0) = some r:=by rw [if_pos rfl] at H;exact H
   clear H
   have H:=H1
   clear H1
   obtain rfl:=Option.some.inj H
   go_enter Try.func54,Try.ntmps54
   go_wp2_with (first|((with_reducible refine gate_callee (f:=71) rfl ?_);refine goesL_ (some 8) rfl rfl Try.func71 (by kernel_rfl) rfl #[.int .i64 a0] rfl (by (try simp only [List.map_toArray,List.map_cons,List.map_nil]);first|done|rfl|(simp only [List.length_drop,List.length_take];rfl)) ?_;(with_reducible refine (cmp_isNaN_int.calls a0 true _ A3.out).mono ?_);rintro e w' ⟨rfl,⟨nd,rfl⟩⟩;refine ⟨_,rfl,?_⟩)|((with_reducible refine gate_callee (f:=71) rfl ?_);refine goesL_ (some 10) rfl rfl Try.func71 (by kernel_rfl) rfl #[.int .i64 a1] rfl (by (try simp only [List.map_toArray,List.map_cons,List.map_nil]);first|done|rfl|(simp only [List.length_drop,List.length_take];rfl)) ?_;(with_reducible refine (cmp_isNaN_int.calls a1 true _ A4.out).mono ?_);rintro e w' ⟨rfl,⟨nd,rfl⟩⟩;refine ⟨_,rfl,?_⟩))
   go_ret
   exact ⟨by first|rfl|(simp;done)|(simp [*];done),by repeat (first|exact Drawn0.refl _|apply Drawn0.step)⟩
  ·replace c6:=Bool.eq_false_iff.mpr c6
   subst c6
   have H1 : (some (-1)) = some r:=by rw [if_neg (show ¬ (false = true) by decide)] at H;exact H
   clear H
   have H:=H1
   clear H1
   obtain rfl:=Option.some.inj H
   go_enter Try.func54,Try.ntmps54
   go_wp2_with (first|((with_reducible refine gate_callee (f:=71) rfl ?_);refine goesL_ (some 8) rfl rfl Try.func71 (by kernel_rfl) rfl #[.int .i64 a0] rfl (by (try simp only [List.map_toArray,List.map_cons,List.map_nil]);first|done|rfl|(simp only [List.length_drop,List.length_take];rfl)) ?_;(with_reducible refine (cmp_isNaN_int.calls a0 true _ A3.out).mono ?_);rintro e w' ⟨rfl,⟨nd,rfl⟩⟩;refine ⟨_,rfl,?_⟩)|((with_reducible refine gate_callee (f:=71) rfl ?_);refine goesL_ (some 10) rfl rfl Try.func71 (by kernel_rfl) rfl #[.int .i64 a1] rfl (by (try simp only [List.map_toArray,List.map_cons,List.map_nil]);first|done|rfl|(simp only [List.length_drop,List.length_take];rfl)) ?_;(with_reducible refine (cmp_isNaN_int.calls a1 false _ A4.out).mono ?_);rintro e w' ⟨rfl,⟨nd,rfl⟩⟩;refine ⟨_,rfl,?_⟩))
   go_ret
   exact ⟨by first|rfl|(simp;done)|(simp [*];done),by repeat (first|exact Drawn0.refl _|apply Drawn0.step)⟩
 ·replace c5:=Bool.eq_false_iff.mpr c5
  subst c5
  have H1 : (if t159 = true then (some 1) else (if a0 < a1 then (some (-1)) else (if a0 > a1 then (some 1) else (some 0)))) = some r:=by rw [if_neg (show ¬ (false = true) by decide)] at H;exact H
  clear H
  have H:=H1
  clear H1
  by_cases c7 : t159 = true
  ·subst c7
   have H1 : (some 1) = some r:=by rw [if_pos rfl] at H;exact H
   clear H
   have H:=H1
   clear H1
   obtain rfl:=Option.some.inj H
   go_enter Try.func54,Try.ntmps54
   go_wp2_with (first|((with_reducible refine gate_callee (f:=71) rfl ?_);refine goesL_ (some 8) rfl rfl Try.func71 (by kernel_rfl) rfl #[.int .i64 a0] rfl (by (try simp only [List.map_toArray,List.map_cons,List.map_nil]);first|done|rfl|(simp only [List.length_drop,List.length_take];rfl)) ?_;(with_reducible refine (cmp_isNaN_int.calls a0 false _ A3.out).mono ?_);rintro e w' ⟨rfl,⟨nd,rfl⟩⟩;refine ⟨_,rfl,?_⟩)|((with_reducible refine gate_callee (f:=71) rfl ?_);refine goesL_ (some 10) rfl rfl Try.func71 (by kernel_rfl) rfl #[.int .i64 a1] rfl (by (try simp only [List.map_toArray,List.map_cons,List.map_nil]);first|done|rfl|(simp only [List.length_drop,List.length_take];rfl)) ?_;(with_reducible refine (cmp_isNaN_int.calls a1 true _ A4.out).mono ?_);rintro e w' ⟨rfl,⟨nd,rfl⟩⟩;refine ⟨_,rfl,?_⟩))
   go_ret
   exact ⟨by first|rfl|(simp;done)|(simp [*];done),by repeat (first|exact Drawn0.refl _|apply Drawn0.step)⟩
  ·replace c7:=Bool.eq_false_iff.mpr c7
   subst c7
   have H1 : (if a0 < a1 then (some (-1)) else (if a0 > a1 then (some 1) else (some 0))) = some r:=by rw [if_neg (show ¬ (false = true) by decide)] at H;exact H
   clear H
   have H:=H1
   clear H1
   by_cases c8 : a0 < a1
   ·rw [if_pos c8] at H
    have c8b0 : decide (a0 < a1) = true:=decide_eq_true c8
    clear c8
    obtain rfl:=Option.some.inj H
    go_enter Try.func54,Try.ntmps54
    go_wp2_with (first|((with_reducible refine gate_callee (f:=71) rfl ?_);refine goesL_ (some 8) rfl rfl Try.func71 (by kernel_rfl) rfl #[.int .i64 a0] rfl (by (try simp only [List.map_toArray,List.map_cons,List.map_nil]);first|done|rfl|(simp only [List.length_drop,List.length_take];rfl)) ?_;(with_reducible refine (cmp_isNaN_int.calls a0 false _ A3.out).mono ?_);rintro e w' ⟨rfl,⟨nd,rfl⟩⟩;refine ⟨_,rfl,?_⟩)|((with_reducible refine gate_callee (f:=71) rfl ?_);refine goesL_ (some 10) rfl rfl Try.func71 (by kernel_rfl) rfl #[.int .i64 a1] rfl (by (try simp only [List.map_toArray,List.map_cons,List.map_nil]);first|done|rfl|(simp only [List.length_drop,List.length_take];rfl)) ?_;(with_reducible refine (cmp_isNaN_int.calls a1 false _ A4.out).mono ?_);rintro e w' ⟨rfl,⟨nd,rfl⟩⟩;refine ⟨_,rfl,?_⟩))
    go_ret
    exact ⟨by first|rfl|(simp;done)|(simp [*];done),by repeat (first|exact Drawn0.refl _|apply Drawn0.step)⟩
   ·rw [if_neg c8] at H
    have c8b0 : decide (a0 < a1) = false:=decide_eq_false c8
    clear c8
    by_cases c9 : a0 > a1
    ·rw [if_pos c9] at H
     have c9b0 : decide (a1 < a0) = true:=decide_eq_true c9
     clear c9
     obtain rfl:=Option.some.inj H
     go_enter Try.func54,Try.ntmps54
     go_wp2_with (first|((with_reducible refine gate_callee (f:=71) rfl ?_);refine goesL_ (some 8) rfl rfl Try.func71 (by kernel_rfl) rfl #[.int .i64 a0] rfl (by (try simp only [List.map_toArray,List.map_cons,List.map_nil]);first|done|rfl|(simp only [List.length_drop,List.length_take];rfl)) ?_;(with_reducible refine (cmp_isNaN_int.calls a0 false _ A3.out).mono ?_);rintro e w' ⟨rfl,⟨nd,rfl⟩⟩;refine ⟨_,rfl,?_⟩)|((with_reducible refine gate_callee (f:=71) rfl ?_);refine goesL_ (some 10) rfl rfl Try.func71 (by kernel_rfl) rfl #[.int .i64 a1] rfl (by (try simp only [List.map_toArray,List.map_cons,List.map_nil]);first|done|rfl|(simp only [List.length_drop,List.length_take];rfl)) ?_;(with_reducible refine (cmp_isNaN_int.calls a1 false _ A4.out).mono ?_);rintro e w' ⟨rfl,⟨nd,rfl⟩⟩;refine ⟨_,rfl,?_⟩))
     go_ret
     exact ⟨by first|rfl|(simp;done)|(simp [*];done),by repeat (first|exact Drawn0.refl _|apply Drawn0.step)⟩
    ·rw [if_neg c9] at H
     have c9b0 : decide (a1 < a0) = false:=decide_eq_false c9
     clear c9
     obtain rfl:=Option.some.inj H
     go_enter Try.func54,Try.ntmps54
     go_wp2_with (first|((with_reducible refine gate_callee (f:=71) rfl ?_);refine goesL_ (some 8) rfl rfl Try.func71 (by kernel_rfl) rfl #[.int .i64 a0] rfl (by (try simp only [List.map_toArray,List.map_cons,List.map_nil]);first|done|rfl|(simp only [List.length_drop,List.length_take];rfl)) ?_;(with_reducible refine (cmp_isNaN_int.calls a0 false _ A3.out).mono ?_);rintro e w' ⟨rfl,⟨nd,rfl⟩⟩;refine ⟨_,rfl,?_⟩)|((with_reducible refine gate_callee (f:=71) rfl ?_);refine goesL_ (some 10) rfl rfl Try.func71 (by kernel_rfl) rfl #[.int .i64 a1] rfl (by (try simp only [List.map_toArray,List.map_cons,List.map_nil]);first|done|rfl|(simp only [List.length_drop,List.length_take];rfl)) ?_;(with_reducible refine (cmp_isNaN_int.calls a1 false _ A4.out).mono ?_);rintro e w' ⟨rfl,⟨nd,rfl⟩⟩;refine ⟨_,rfl,?_⟩))
     go_ret
     exact ⟨by first|rfl|(simp;done)|(simp [*];done),by repeat (first|exact Drawn0.refl _|apply Drawn0.step)⟩
def slices_Compare_int_int.l0 : Nat → List Int → List Int → List Int → Int → Int → Option (Int)
 | 0,_,_,_,_,_ => none
 | k + 1,x0,x1,x9,x10,x11 => if x11 < x10 then (if 0 ≤ x11 then (if x11 < (x9.length : Int) then (if x11 ≥ (x1.length : Int) then (some 1) else (if x11 < (x1.length : Int) then ((cmp_Compare_int.f (rd x9 x11) (rd x1 x11)).bind fun t162 => (if t162 = 0 then (slices_Compare_int_int.l0 k x0 x1 x9 x10 (wrap64 (x11 + 1))) else (some t162))) else (none))) else (none)) else (none)) else (if (x0.length : Int) < (x1.length : Int) then (some (-1)) else (some 0))
def slices_Compare_int_int.f (k : Nat) (l0 : List Int) (l1 : List Int) : Option (Int):=slices_Compare_int_int.l0 k l0 l1 l0 (l0.length : Int) 0
set_option maxHeartbeats 8000000 in
set_option maxRecDepth 100000 in
theorem slices_Compare_int_int.calls (k : Nat) (A0 : Option Addr) (c0 : Nat) (l0 : List Int) (A1 : Option Addr) (c1 : Nat) (l1 : List Int) (r : Int) (w : World) (hr0 : Kd.C (Kd.int .i64) w A0 l0.length l0) (hc0 : l0.length ≤ c0) (hr1 : Kd.C (Kd.int .i64) w A1 l1.length l1) (hc1 : l1.length ≤ c1) (h : slices_Compare_int_int.f k l0 l1 = some r) :
  Calls Try.prog 26 #[.slice A0 l0.length c0,.slice A1 l1.length c1] w fun e w'=>e = .returned (.int .i64 r) ∧ Drawn0 w w':=by
 have HR0:=Aside0.mk hr0
 have HC0:=Aside0.mk hc0
 clear hr0 hc0
 have HR1:=Aside0.mk hr1
 have HC1:=Aside0.mk hc1
 clear hr1 hc1
 have H : (slices_Compare_int_int.l0 k l0 l1 l0 (l0.length : Int) 0) = some r:=h
 clear h
 have H':=Aside0.mk H
 clear H
 go_enter Try.func26,Try.ntmps26
 go_wp2
 go_loopg [11] k (fun kq v11 w'=>∃ (x11_1 : Int),v11 = .int .i64 x11_1 ∧ Aside0 (slices_Compare_int_int.l0 kq l0 l1 l0 (l0.length : Int) x11_1 = some r) ∧ Aside0 (kq ≤ k) ∧ Drawn0 w w')
 case atStart=>exact ⟨(0),(by first|rfl|(simp;done)|(simp [*];done)),H',⟨Nat.le_refl _⟩,by repeat (first|exact Drawn0.refl _|apply Drawn0.step)⟩
 case round =>
  clear H'
  try clear c1
  try clear c2
  try clear p2
  obtain ⟨x11_1,rfl,HA,HK1,⟨m1,rfl⟩⟩:=hrel
  cases gk with
  | zero => exact absurd HA.out (by simp [slices_Compare_int_int.l0])
  | succ k1 =>
   have H:=HA.out
   clear HA
   simp only [slices_Compare_int_int.l0] at H
   by_cases c3 : x11_1 < (l0.length : Int)
   ·rw [if_pos c3] at H
    have c3b0 : decide (x11_1 < (l0.length : Int)) = true:=decide_eq_true c3
    clear c3
    by_cases c4 : 0 ≤ x11_1
    ·rw [if_pos c4] at H
     have c4b0 : decide (0 ≤ x11_1) = true:=decide_eq_true c4
     clear c4
     by_cases c5 : x11_1 < (l0.length : Int)
     ·rw [if_pos c5] at H
      have c5b0 : decide (x11_1 < (l0.length : Int)) = true:=decide_eq_true c5
      clear c5
      by_cases c6 : x11_1 ≥ (l1.length : Int)
      ·rw [if_pos c6] at H
       have c6b0 : decide ((l1.length : Int) ≤ x11_1) = true:=decide_eq_true c6
       clear c6
       obtain rfl:=Option.some.inj H
       have p160 : 0 ≤ (x11_1 : Int):=of_decide_eq_true (by first|(with_reducible assumption)|assumption)
       have q160 : x11_1 < (l0.length : Int):=of_decide_eq_true (by first|(with_reducible assumption)|assumption)
       obtain ⟨ad160,e160,hx160_0⟩:=Kd.at_int HR0.out x11_1 p160 q160
       cases e160
       replace p160:=eq_true p160
       replace q160:=eq_true q160
       go_wp2
       go_ret
       exact ⟨by first|rfl|(simp;done)|(simp [*];done),by repeat (first|exact Drawn0.refl _|apply Drawn0.step)⟩
      ·rw [if_neg c6] at H
       have c6b0 : decide ((l1.length : Int) ≤ x11_1) = false:=decide_eq_false c6
       clear c6
       by_cases c7 : x11_1 < (l1.length : Int)
       ·rw [if_pos c7] at H
        have c7b0 : decide (x11_1 < (l1.length : Int)) = true:=decide_eq_true c7
        clear c7
        replace H:=Option.bind_eq_some_iff.mp H
        obtain ⟨t162,A80,H⟩:=H
        replace H : (if t162 = 0 then (slices_Compare_int_int.l0 k1 l0 l1 l0 (l0.length : Int) (wrap64 (x11_1 + 1))) else (some t162)) = some r:=H
        have A8:=Aside0.mk A80
        clear A80
        by_cases c9 : t162 = 0
        ·rw [if_pos c9] at H
         have c9b0 : (t162 == 0) = true:=beq_iff_eq.mpr c9
         have c9b1 : (t162 != 0) = false:=bne_eq_false_iff_eq.mpr c9
         clear c9
         have H':=Aside0.mk H
         clear H
         have p160 : 0 ≤ (x11_1 : Int):=of_decide_eq_true (by first|(with_reducible assumption)|assumption)
         have q160 : x11_1 < (l0.length : Int):=of_decide_eq_true (by first|(with_reducible assumption)|assumption)
         obtain ⟨ad160,e160,hx160_0⟩:=Kd.at_int HR0.out x11_1 p160 q160
         cases e160
         replace p160:=eq_true p160
         replace q160:=eq_true q160
         have p161 : 0 ≤ (x11_1 : Int):=of_decide_eq_true (by first|(with_reducible assumption)|assumption)
         have q161 : x11_1 < (l1.length : Int):=of_decide_eq_true (by first|(with_reducible assumption)|assumption)
         obtain ⟨ad161,e161,hx161_0⟩:=Kd.at_int HR1.out x11_1 p161 q161
         cases e161
         replace p161:=eq_true p161
         replace q161:=eq_true q161
         go_wp2_with (first|((with_reducible refine gate_callee (f:=54) rfl ?_);refine goesL_ (some 26) rfl rfl Try.func54 (by kernel_rfl) rfl #[.int .i64 (rd l0 x11_1),.int .i64 (rd l1 x11_1)] rfl (by (try simp only [List.map_toArray,List.map_cons,List.map_nil]);first|done|rfl|(simp only [List.length_drop,List.length_take];rfl)) ?_;(with_reducible refine (cmp_Compare_int.calls (rd l0 x11_1) (rd l1 x11_1) t162 _ A8.out).mono ?_);rintro e w' ⟨rfl,⟨nd,rfl⟩⟩;refine ⟨_,rfl,?_⟩))
         go_roundg k1
         case measure=>have:=HK1.out;omega
         case rel=>exact ⟨(wrap64 (x11_1 + 1)),(by first|rfl|(simp;done)|(simp [*];done)),H',⟨by have:=HK1.out;omega⟩,by repeat (first|exact Drawn0.refl _|apply Drawn0.step)⟩
        ·rw [if_neg c9] at H
         have c9b0 : (t162 == 0) = false:=beq_eq_false_iff_ne.mpr c9
         have c9b1 : (t162 != 0) = true:=bne_iff_ne.mpr c9
         obtain rfl:=Option.some.inj H
         have p160 : 0 ≤ (x11_1 : Int):=of_decide_eq_true (by first|(with_reducible assumption)|assumption)
         have q160 : x11_1 < (l0.length : Int):=of_decide_eq_true (by first|(with_reducible assumption)|assumption)
         obtain ⟨ad160,e160,hx160_0⟩:=Kd.at_int HR0.out x11_1 p160 q160
         cases e160
         replace p160:=eq_true p160
         replace q160:=eq_true q160
         have p161 : 0 ≤ (x11_1 : Int):=of_decide_eq_true (by first|(with_reducible assumption)|assumption)
         have q161 : x11_1 < (l1.length : Int):=of_decide_eq_true (by first|(with_reducible assumption)|assumption)
         obtain ⟨ad161,e161,hx161_0⟩:=Kd.at_int HR1.out x11_1 p161 q161
         cases e161
         replace p161:=eq_true p161
         replace q161:=eq_true q161
         go_wp2_with (first|((with_reducible refine gate_callee (f:=54) rfl ?_);refine goesL_ (some 26) rfl rfl Try.func54 (by kernel_rfl) rfl #[.int .i64 (rd l0 x11_1),.int .i64 (rd l1 x11_1)] rfl (by (try simp only [List.map_toArray,List.map_cons,List.map_nil]);first|done|rfl|(simp only [List.length_drop,List.length_take];rfl)) ?_;(with_reducible refine (cmp_Compare_int.calls (rd l0 x11_1) (rd l1 x11_1) t162 _ A8.out).mono ?_);rintro e w' ⟨rfl,⟨nd,rfl⟩⟩;refine ⟨_,rfl,?_⟩))
         go_ret
         exact ⟨by first|rfl|(simp;done)|(simp [*];done),by repeat (first|exact Drawn0.refl _|apply Drawn0.step)⟩
       ·rw [if_neg c7] at H
        exact absurd H (by simp)
     ·rw [if_neg c5] at H
      exact absurd H (by simp)
    ·rw [if_neg c4] at H
     exact absurd H (by simp)
   ·rw [if_neg c3] at H
    have c3b0 : decide (x11_1 < (l0.length : Int)) = false:=decide_eq_false c3
    clear c3
    by_cases c10 : (l0.length : Int) < (l1.length : Int)
    ·rw [if_pos c10] at H
     have c10b0 : decide ((l0.length : Int) < (l1.length : Int)) = true:=decide_eq_true c10
     have c10b1 : decide (l0.length < l1.length) = true:=decide_eq_true (Int.ofNat_lt.mp c10)
     clear c10
     obtain rfl:=Option.some.inj H
     go_wp2
     go_ret
     exact ⟨by first|rfl|(simp;done)|(simp [*];done),by repeat (first|exact Drawn0.refl _|apply Drawn0.step)⟩
    ·rw [if_neg c10] at H
     have c10b0 : decide ((l0.length : Int) < (l1.length : Int)) = false:=decide_eq_false c10
     have c10b1 : decide (l0.length < l1.length) = false:=decide_eq_false (fun h=>c10 (Int.ofNat_lt.mpr h))
     clear c10
     obtain rfl:=Option.some.inj H
     go_wp2
     go_ret
     exact ⟨by first|rfl|(simp;done)|(simp [*];done),by repeat (first|exact Drawn0.refl _|apply Drawn0.step)⟩
end Go.Proofs.Ytgmomcjnldahjaa.Pr
namespace Go.Proofs.Ytgmomcjnldahjaa.Pr
open Go.RowKit Go.Proofs.YtgmomcjnldahjaaW.PrintWords Go.Proofs.YtgmomcjnldahjaaW.PrintLast Go.Proofs.YtgmomcjnldahjaaW.PrintMore
set_option linter.unusedVariables false
set_option linter.unusedSimpArgs false
def upd1 {α : Type} (f : Nat → α) (i : Nat) (x : α) : Nat → α:=fun a=>if a = i then x else f a
def upd2 {α : Type} (f : Nat → Nat → α) (i j : Nat) (x : α) : Nat → Nat → α:=fun a b=>if a = i ∧ b = j then x else f a b
def row0 : Value:=.slice none 0 0
def rowV (n g : Nat) : Value:=.slice (some ⟨g,0,none⟩) n n
theorem range_set {α : Type} (n i : Nat) (f : Nat → α) (x : α) : ((List.range n).map f).toArray.setIfInBounds i x = ((List.range n).map (upd1 f i x)).toArray:=by
 apply Array.toList_inj.1
 apply List.ext_getElem
 ·simp
 ·intro j h1 h2
  simp only [Array.toList_setIfInBounds,List.toList_toArray,List.getElem_set,List.getElem_map,List.getElem_range,upd1]
  by_cases h : i = j
  ·simp [h]
  ·rw [if_neg h,if_neg (fun e=>h e.symm)]
structure RowsI (w : World) (base gR n k : Nat) (gr : Nat → Nat) : Prop where
 hR : w.heap[gR]? = some (.cells ((List.range n).map fun i=>if i < k then rowV n (gr i) else row0).toArray 70 (0,0))
 hr : ∀ i,i < k → w.heap[gr i]? = some (.cells ((List.range n).map fun _=>row0).toArray 27 (0,0))
 bR : base ≤ gR
 br : ∀ i,i < k → base ≤ gr i
 inj : ∀ i j,i < k → j < k → gr i = gr j → i = j
structure TabI (w : World) (base gR n : Nat) (gr : Nat → Nat) (V : Nat → Nat → Value) (E : Nat → Nat → List Int) : Prop where
 hR : w.heap[gR]? = some (.cells ((List.range n).map fun i=>rowV n (gr i)).toArray 70 (0,0))
 hr : ∀ i,i < n → w.heap[gr i]? = some (.cells ((List.range n).map (V i)).toArray 27 (0,0))
 bR : base ≤ gR
 br : ∀ i,i < n → base ≤ gr i
 inj : ∀ i j,i < n → j < n → gr i = gr j → i = j
 ho : ∀ i j,i < n → j < n → Kd.R (Kd.int .i64) 3 w base (fun _=>True) (V i j) (E i j)
 sep : ∀ i j a b,i < n → j < n → a < n → b < n → ∀ k,(V i j).ownBlock = some k → (V a b).ownBlock = some k → i = a ∧ j = b
theorem ty_ne {w : World} {g h t u : Nat} {cs ds : Array Value} (h1 : w.heap[g]? = some (.cells cs t (0,0))) (h2 : w.heap[h]? = some (.cells ds u (0,0))) (hn : t ≠ u) : g ≠ h:=by
 rintro rfl
 rw [h1] at h2
 injection h2 with h2
 injection h2 with _ h2
 exact hn h2
theorem RowsI.below {w w1 : World} {base gR n k : Nat} {gr : Nat → Nat} (h : RowsI w base gR n k gr) (hb : Below w.heap.size w w1) : RowsI w1 base gR n k gr :=
 ⟨blk_below h.hR hb,fun i hi=>blk_below (h.hr i hi) hb,h.bR,h.br,h.inj⟩
theorem TabI.below {w w1 : World} {base gR n : Nat} {gr : Nat → Nat} {V : Nat → Nat → Value} {E : Nat → Nat → List Int} (h : TabI w base gR n gr V E) (hb : Below w.heap.size w w1) : TabI w1 base gR n gr V E :=
 ⟨blk_below h.hR hb,fun i hi=>blk_below (h.hr i hi) hb,h.bR,h.br,h.inj,fun i j hi hj=>Kd.R_below (h.ho i j hi hj) hb,h.sep⟩
theorem RowsI.cell {w : World} {base gR n k : Nat} {gr : Nat → Nat} (h : RowsI w base gR n k gr) {i : Nat} (hi : i < n) : w.cell? ⟨gR,i,none⟩ = some (if i < k then rowV n (gr i) else row0):=by
 rw [blk_cell h.hR i];simp [hi]
theorem RowsI.step {w : World} {base gR n k : Nat} {gr : Nat → Nat} (h : RowsI w base gR n k gr) (hk : k < n) (hbase : base ≤ w.heap.size) :
  RowsI ((w.alloc (.cells ((List.range n).map fun _=>row0).toArray 27)).setCell ⟨gR,k,none⟩ (rowV n w.heap.size)) base gR n (k + 1) (upd1 gr k w.heap.size):=by
 have hlt:=blk_lt h.hR
 refine ⟨?_,fun i hi=>?_,h.bR,fun i hi=>?_,fun i j hi hj he=>?_⟩
 ·refine blk_put (blk_alloc h.hR _) k _ ?_
  rw [range_set]
  congr 1
  apply List.map_congr_left
  intro i hi
  unfold upd1
  by_cases h1 : i = k
  ·simp [h1]
  ·rw [if_neg h1]
   dsimp only
   by_cases h2 : i < k
   ·rw [if_pos h2,if_pos (by omega),if_neg h1]
   ·rw [if_neg h2,if_neg (by omega)]
 ·unfold upd1
  by_cases h1 : i = k
  ·rw [if_pos h1]
   exact blk_far (blk_new w _) (by show w.heap.size ≠ gR;omega) _
  ·rw [if_neg h1]
   exact blk_far (blk_alloc (h.hr i (by omega)) _) (ty_ne (h.hr i (by omega)) h.hR (by decide)) _
 ·unfold upd1
  by_cases h1 : i = k
  ·rw [if_pos h1];exact hbase
  ·rw [if_neg h1];exact h.br i (by omega)
 ·unfold upd1 at he
  by_cases h1 : i = k
  ·by_cases h2 : j = k
   ·omega
   ·rw [if_pos h1,if_neg h2] at he
    have:=blk_lt (h.hr j (by omega));omega
  ·by_cases h2 : j = k
   ·rw [if_neg h1,if_pos h2] at he
    have:=blk_lt (h.hr i (by omega));omega
   ·rw [if_neg h1,if_neg h2] at he
    exact h.inj i j (by omega) (by omega) he
theorem RowsI.all {w : World} {base gR n : Nat} {gr : Nat → Nat} (h : RowsI w base gR n n gr) : TabI w base gR n gr (fun _ _=>row0) (fun _ _=>[]):=by
 refine ⟨?_,h.hr,h.bR,h.br,h.inj,fun i j hi hj=>Kd.R_nil _ _ _ _ _,fun i j a b _ _ _ _ k hk=>by simp [row0,Value.ownBlock] at hk⟩
 rw [h.hR]
 congr 2
 congr 1
 apply List.map_congr_left
 intro i hi
 rw [if_pos (List.mem_range.1 hi)]
theorem TabI.rowCell {w : World} {base gR n : Nat} {gr : Nat → Nat} {V : Nat → Nat → Value} {E : Nat → Nat → List Int} (h : TabI w base gR n gr V E) {i : Nat} (hi : i < n) : w.cell? ⟨gR,i,none⟩ = some (rowV n (gr i)):=by
 rw [blk_cell h.hR i];simp [hi]
theorem TabI.cell {w : World} {base gR n : Nat} {gr : Nat → Nat} {V : Nat → Nat → Value} {E : Nat → Nat → List Int} (h : TabI w base gR n gr V E) {i j : Nat} (hi : i < n) (hj : j < n) : w.cell? ⟨gr i,j,none⟩ = some (V i j):=by
 rw [blk_cell (h.hr i hi) j];simp [hj]
theorem TabI.apart {w : World} {base gR n : Nat} {gr : Nat → Nat} {V : Nat → Nat → Value} {E : Nat → Nat → List Int} (h : TabI w base gR n gr V E) {i j : Nat} (hi : i < n) (hj : j < n) : some gR ≠ (V i j).ownBlock ∧ ∀ a,a < n → some (gr a) ≠ (V i j).ownBlock :=
 ⟨Kd.R_ne (h.ho i j hi hj) h.hR (by decide),fun a ha=>Kd.R_ne (h.ho i j hi hj) (h.hr a ha) (by decide)⟩
theorem TabI.put {w w1 : World} {base gR n : Nat} {gr : Nat → Nat} {V : Nat → Nat → Value} {E : Nat → Nat → List Int} (h : TabI w base gR n gr V E) {f t : Nat} (hf : f < n) (ht : t < n) {v1 : Value} {xs : List Int}
  (hv : Kd.R (Kd.int .i64) 3 w1 base (fun _=>True) v1 xs) (hg : w.grownBy w1 (V f t).ownBlock) (hat : v1.ownBlock = (V f t).ownBlock ∨ ∃ b,v1.ownBlock = some b ∧ w.heap.size ≤ b) :
  TabI (w1.setCell ⟨gr f,t,none⟩ v1) base gR n gr (upd2 V f t v1) (upd2 E f t xs):=by
 obtain ⟨a1,a2⟩:=h.apart hf ht
 have hR1 : w1.heap[gR]? = _:=blk_grown h.hR hg a1
 have hr1 : ∀ i,i < n → w1.heap[gr i]? = _:=fun i hi=>blk_grown (h.hr i hi) hg (a2 i hi)
 refine ⟨blk_far hR1 (ty_ne hR1 (hr1 f hf) (by decide)) _,fun i hi=>?_,h.bR,h.br,h.inj,fun i j hi hj=>?_,fun i j a b hi hj ha hb k hk hk'=>?_⟩
 ·by_cases h1 : i = f
  ·subst h1
   refine blk_put (hr1 i hi) t _ ?_
   rw [range_set]
   congr 1
   apply List.map_congr_left
   intro j hj
   unfold upd1 upd2
   by_cases h2 : j = t
   ·rw [if_pos h2,if_pos ⟨rfl,h2⟩]
   ·rw [if_neg h2,if_neg (fun e=>h2 e.2)]
  ·have : upd2 V f t v1 i = V i:=by
    funext j;unfold upd2;rw [if_neg (fun e=>h1 e.1)]
   rw [this]
   exact blk_far (hr1 i hi) (by show gr i ≠ gr f;exact fun e=>h1 (h.inj i f hi hf e)) _
 ·have ht27 : ∀ q,q ∈ 3 :: (Kd.int IntKind.i64).E → q ≠ 27:=by intro q hq;simp [Kd.int,Kd.scalar] at hq;omega
  unfold upd2
  by_cases h1 : i = f ∧ j = t
  ·rw [if_pos h1,if_pos h1]
   exact Kd.R_drop (Kd.R_mono (Kd.R_set hv (hr1 f hf) ht27 t v1) (fun _ h=>⟨trivial,trivial⟩) : Kd.R (Kd.int .i64) 3 _ base (fun k=>True ∧ True) v1 xs)
  ·rw [if_neg h1,if_neg h1]
   have hR2 : Kd.R (Kd.int .i64) 3 w base (fun k=>some k = (V i j).ownBlock) (V i j) (E i j):=by
    have h0:=h.ho i j hi hj
    refine ⟨fun k hk=>hk.symm,?_⟩
    have h2:=h0.2
    exact h2.imp_ (fun _ _ hp=>hp)
   have h3 : Kd.R (Kd.int .i64) 3 w1 base (fun k=>some k = (V i j).ownBlock) (V i j) (E i j):=Kd.R_grown hR2 hg (fun k hk he=>h1 (h.sep i j f t hi hj hf ht k hk.symm he.symm))
   exact Kd.R_mono (Kd.R_set h3 (hr1 f hf) ht27 t v1) (fun _ _=>trivial)
 ·unfold upd2 at hk hk'
  have key : ∀ i j,i < n → j < n → ¬ (i = f ∧ j = t) → ∀ k,v1.ownBlock = some k → (V i j).ownBlock = some k → False:=fun i j hi hj hne k e1 e2=>by
   rcases hat with h1 | ⟨b,h1,h2⟩
   ·exact hne (h.sep i j f t hi hj hf ht k e2 (h1 ▸ e1))
   ·rw [h1] at e1
    have:=Kd.R_lt (h.ho i j hi hj) k e2
    injection e1 with e1
    omega
  by_cases h1 : i = f ∧ j = t
  ·by_cases h2 : a = f ∧ b = t
   ·omega
   ·rw [if_pos h1] at hk;rw [if_neg h2] at hk'
    exact (key a b ha hb h2 k hk hk').elim
  ·by_cases h2 : a = f ∧ b = t
   ·rw [if_neg h1] at hk;rw [if_pos h2] at hk'
    exact (key i j hi hj h1 k hk' hk).elim
   ·rw [if_neg h1] at hk;rw [if_neg h2] at hk'
    exact h.sep i j a b hi hj ha hb k hk hk'
theorem TabI.turn {w w1 : World} {base gR n : Nat} {gr : Nat → Nat} {V : Nat → Nat → Value} {E : Nat → Nat → List Int} (h : TabI w base gR n gr V E) {f t : Nat} (hf : f < n) (ht : t < n) {xs : List Int}
  (hv : Kd.R (Kd.int .i64) 3 w1 base (fun _=>True) (V f t) xs) (hk : Kept w w1 (fun k=>(V f t).ownBlock = some k)) : TabI w1 base gR n gr V (upd2 E f t xs):=by
 obtain ⟨a1,a2⟩:=h.apart hf ht
 have hR1 : w1.heap[gR]? = _:=(hk.2 gR (blk_lt h.hR) (fun e=>a1 e.symm)).trans h.hR
 have hr1 : ∀ i,i < n → w1.heap[gr i]? = _:=fun i hi=>(hk.2 (gr i) (blk_lt (h.hr i hi)) (fun e=>a2 i hi e.symm)).trans (h.hr i hi)
 refine ⟨hR1,hr1,h.bR,h.br,h.inj,fun i j hi hj=>?_,h.sep⟩
 unfold upd2
 by_cases h1 : i = f ∧ j = t
 ·rw [if_pos h1,h1.1,h1.2];exact hv
 ·rw [if_neg h1]
  have hR2 : Kd.R (Kd.int .i64) 3 w base (fun k=>some k = (V i j).ownBlock) (V i j) (E i j):=by
   have h0:=h.ho i j hi hj
   refine ⟨fun k hk=>hk.symm,?_⟩
   exact h0.2.imp_ (fun _ _ hp=>hp)
  exact Kd.R_mono (Kd.R_kept hR2 hk (fun k e1 e2=>h1 (h.sep i j f t hi hj hf ht k e1.symm e2))) (fun _ _=>trivial)
def tabL (n : Nat) (E : Nat → Nat → List Int) : List (List (List Int)):=(List.range n).map fun i=>(List.range n).map (E i)
theorem TabI.reads {w : World} {base gR n : Nat} {gr : Nat → Nat} {V : Nat → Nat → Value} {E : Nat → Nat → List Int} (h : TabI w base gR n gr V E) (hn : n ≤ 1000) : Kd.C (Kd.slice 27 (Kd.slice 3 (Kd.int .i64))) w (some ⟨gR,0,none⟩) n (tabL n E):=by
 refine ⟨by simp [tabL],by omega,fun _=>⟨_,rfl,fun j p hp=>?_⟩⟩
 have hj : j < n:=by
  have:=(List.getElem?_eq_some_iff.1 hp).1
  simpa [tabL] using this
 obtain rfl : (List.range n).map (E j) = p:=by
  have : (tabL n E)[j]? = some ((List.range n).map (E j)):=by simp [tabL,hj]
  rw [this] at hp
  exact Option.some.inj hp
 refine ⟨[rowV n (gr j)],rfl,⟨some ⟨gr j,0,none⟩,n,?_,by simp,?_⟩,?_⟩
 ·simp [rowV]
 ·rw [List.length_map,List.length_range]
  refine ⟨by simp,by omega,fun _=>⟨_,rfl,fun i q hq=>?_⟩⟩
  have hi : i < n:=by
   have:=(List.getElem?_eq_some_iff.1 hq).1
   simpa using this
  obtain rfl : E j i = q:=by
   have : ((List.range n).map (E j))[i]? = some (E j i):=by simp [hi]
   rw [this] at hq
   exact Option.some.inj hq
  obtain ⟨A,c,hv,hc,hr⟩:=Kd.R_reads (h.ho j i hj hi)
  refine ⟨[V j i],rfl,⟨A,c,by rw [hv],hc,hr⟩,fun a u hu=>?_⟩
  rcases a with _|a
  ·rw [← Option.some.inj hu,add_plain]
   simp only [Kd.slice,Nat.mul_one,Nat.add_zero]
   exact h.cell hj hi
  ·exact absurd hu (by simp)
 ·intro a u hu
  rcases a with _|a
  ·rw [← Option.some.inj hu,add_plain]
   simp only [Kd.slice,Nat.mul_one,Nat.add_zero]
   exact h.rowCell hj
  ·exact absurd hu (by simp)
end Go.Proofs.Ytgmomcjnldahjaa.Pr
namespace Go.Proofs.Ytgmomcjnldahjaa.Pr
open Go.RowKit Go.Proofs.YtgmomcjnldahjaaW.PrintWords Go.Proofs.YtgmomcjnldahjaaW.PrintLast Go.Proofs.YtgmomcjnldahjaaW.PrintMore
set_option linter.unusedVariables false
theorem Ev.ite_pos {α : Type} {c : Prop} [Decidable c] {g f : Nat → Option α} {r : α} (hc : c) (h : Ev g r) : Ev (fun k=>if c then g k else f k) r:=by simpa [if_pos hc] using h
theorem Ev.ite_neg {α : Type} {c : Prop} [Decidable c] {g f : Nat → Option α} {r : α} (hc : ¬ c) (h : Ev f r) : Ev (fun k=>if c then g k else f k) r:=by simpa [if_neg hc] using h
theorem Ev.const_bind {α β : Type} {g : Option α} {a : α} {f : Nat → α → Option β} {r : β} (hg : g = some a) (h : Ev (fun n=>f n a) r) : Ev (fun n=>g.bind (f n)) r:=by subst hg;exact h
theorem w64 {n : Int} (h : -9223372036854775808 ≤ n ∧ n ≤ 9223372036854775807) : wrap64 n = n:=by unfold wrap64;omega
theorem rd_at {l pre rest : List Int} {x : Int} (h : l = pre ++ x :: rest) : rd l (pre.length : Int) = x:=by
 subst h;simp [rd]
theorem cast_snoc {α : Type} (pre : List α) (x : α) : ((pre.length : Int) + 1) = ((pre ++ [x]).length : Int):=by simp
theorem eq_loop (a b : List Int) (ha : a.length ≤ 1000000) : ∀ (ra rb pa pb : List Int),a = pa ++ ra → b = pb ++ rb → pa = pb → ra.length = rb.length →
  Ev (fun q=>slices_Equal_int_int.l0 q a b (a.length : Int) (pa.length : Int)) (decide (ra = rb))
 | [],[],pa,pb,h1,h2,he,hl => by
  have : pa.length = a.length:=by rw [h1];simp
  refine Ev.step (f:=fun _=>some true) (fun q=>?_) (by simpa using Ev.now true)
  rw [slices_Equal_int_int.l0,if_neg (by omega)]
 | x :: ra,y :: rb,pa,pb,h1,h2,he,hl => by
  have l1 : pa.length < a.length:=by rw [h1];simp
  have l2 : pa.length < b.length:=by rw [h2,he];simp
  have e1:=rd_at h1
  have e2:=rd_at h2
  rw [← he] at e2
  by_cases hxy : x = y
  ·have ih:=eq_loop a b ha ra rb (pa ++ [x]) (pb ++ [y]) (by rw [h1];simp) (by rw [h2];simp) (by rw [he,hxy]) (by simpa using hl)
   have hd : decide (x :: ra = y :: rb) = decide (ra = rb):=by simp [hxy]
   rw [hd]
   refine Ev.step (fun q=>?_) ih
   rw [slices_Equal_int_int.l0,if_pos (by omega),if_pos (by omega),if_pos (by omega),if_pos (by omega),e1,e2,if_pos hxy,w64 (by omega),cast_snoc pa x]
  ·have hd : decide (x :: ra = y :: rb) = false:=by simp [hxy]
   rw [hd]
   refine Ev.step (f:=fun _=>some false) (fun q=>?_) (Ev.now false)
   rw [slices_Equal_int_int.l0,if_pos (by omega),if_pos (by omega),if_pos (by omega),if_pos (by omega),e1,e2,if_neg hxy]
theorem eq_ev (a b : List Int) (ha : a.length ≤ 1000000) : Ev (fun q=>slices_Equal_int_int.f q a b) (decide (a = b)):=by
 unfold slices_Equal_int_int.f
 by_cases h : a.length = b.length
 ·exact Ev.ite_pos (by omega) (eq_loop a b ha a b [] [] rfl rfl rfl h)
 ·refine Ev.ite_neg (by omega) ?_
  have : decide (a = b) = false:=decide_eq_false (fun e=>h (by rw [e]))
  rw [this];exact Ev.now false
theorem index_loop (a : List Int) (x : Int) (ha : a.length ≤ 1000000) : ∀ (rest pre : List Int),a = pre ++ rest → ∃ r,Ev (fun q=>slices_Index_int_int.l0 q a x (a.length : Int) (pre.length : Int)) r ∧ (r ≥ 0 ↔ x ∈ rest)
 | [],pre,h => by
  have : pre.length = a.length:=by rw [h];simp
  refine ⟨-1,Ev.step (f:=fun _=>some (-1)) (fun q=>?_) (Ev.now _),by simp⟩
  rw [slices_Index_int_int.l0,if_neg (by omega)]
 | y :: rest,pre,h => by
  have l1 : pre.length < a.length:=by rw [h];simp
  have e1:=rd_at h
  by_cases hx : x = y
  ·refine ⟨pre.length,Ev.step (f:=fun _=>some (pre.length : Int)) (fun q=>?_) (Ev.now _),by simp [hx]⟩
   rw [slices_Index_int_int.l0,if_pos (by omega),if_pos (by omega),if_pos (by omega),e1,if_pos hx]
  ·obtain ⟨r,h1,h2⟩:=index_loop a x ha rest (pre ++ [y]) (by rw [h];simp)
   refine ⟨r,Ev.step (fun q=>?_) h1,by rw [h2];simp [hx]⟩
   rw [slices_Index_int_int.l0,if_pos (by omega),if_pos (by omega),if_pos (by omega),e1,if_neg hx,w64 (by omega),cast_snoc pre y]
theorem contains_ev (a : List Int) (x : Int) (ha : a.length ≤ 1000000) : Ev (fun q=>slices_Contains_int_int.f q a x) (decide (x ∈ a)):=by
 obtain ⟨r,h1,h2⟩:=index_loop a x ha a [] rfl
 have hd : decide (x ∈ a) = decide (r ≥ 0):=by simp only [h2]
 rw [hd]
 exact Ev.bind h1 (Ev.now _)
theorem clone_eq (a : List Int) (ha : a.length ≤ 1000000) : slices_Clone_int_int.f a = some a:=by
 unfold slices_Clone_int_int.f
 simp only [Option.bind_some,List.length_nil,List.nil_append]
 rw [if_pos (by omega)]
def cmpL : List Int → List Int → Int
 | [],[] => 0
 | [],_ :: _ => -1
 | _ :: _,[] => 1
 | x :: a,y :: b => if x < y then -1 else if x > y then 1 else cmpL a b
theorem cmp_eq (a b : Int) : cmp_Compare_int.f a b = some (if a < b then -1 else if a > b then 1 else 0):=by
 unfold cmp_Compare_int.f cmp_isNaN_int.f
 simp
 split <;> (try split) <;> rfl
theorem compare_loop (a b : List Int) (ha : a.length ≤ 1000000) : ∀ (ra rb pa pb : List Int),a = pa ++ ra → b = pb ++ rb → pa = pb →
  Ev (fun q=>slices_Compare_int_int.l0 q a b a (a.length : Int) (pa.length : Int)) (cmpL ra rb)
 | [],rb,pa,pb,h1,h2,he => by
  have l1 : pa.length = a.length:=by rw [h1];simp
  have l2 : b.length = pa.length + rb.length:=by rw [h2,he];simp
  cases rb with
  | nil =>
   refine Ev.step (f:=fun _=>some 0) (fun q=>?_) (Ev.now _)
   rw [slices_Compare_int_int.l0,if_neg (by omega),if_neg (by simp at l2;omega)]
  | cons y rb =>
   refine Ev.step (f:=fun _=>some (-1)) (fun q=>?_) (Ev.now _)
   rw [slices_Compare_int_int.l0,if_neg (by omega),if_pos (by simp at l2;omega)]
 | x :: ra,[],pa,pb,h1,h2,he => by
  have l1 : pa.length < a.length:=by rw [h1];simp
  have l2 : b.length = pa.length:=by rw [h2,he];simp
  refine Ev.step (f:=fun _=>some 1) (fun q=>?_) (Ev.now _)
  rw [slices_Compare_int_int.l0,if_pos (by omega),if_pos (by omega),if_pos (by omega),if_pos (by omega)]
 | x :: ra,y :: rb,pa,pb,h1,h2,he => by
  have l1 : pa.length < a.length:=by rw [h1];simp
  have l2 : pa.length < b.length:=by rw [h2,he];simp
  have e1:=rd_at h1
  have e2:=rd_at h2
  rw [← he] at e2
  refine Ev.step (f:=fun q=>(cmp_Compare_int.f x y).bind fun t162=>(if t162 = 0 then (slices_Compare_int_int.l0 q a b a (a.length : Int) ((pa ++ [x]).length : Int)) else (some t162))) (fun q=>?_) ?_
  ·rw [slices_Compare_int_int.l0,if_pos (by omega),if_pos (by omega),if_pos (by omega),if_neg (by omega),if_pos (by omega),e1,e2,w64 (by omega),cast_snoc pa x]
  ·refine Ev.const_bind (cmp_eq x y) ?_
   unfold cmpL
   by_cases h3 : x < y
   ·rw [if_pos h3,if_pos h3];exact Ev.ite_neg (by decide) (Ev.now _)
   ·rw [if_neg h3,if_neg h3]
    by_cases h4 : x > y
    ·rw [if_pos h4,if_pos h4];exact Ev.ite_neg (by decide) (Ev.now _)
    ·rw [if_neg h4,if_neg h4]
     have hxy : x = y:=by omega
     exact Ev.ite_pos rfl (compare_loop a b ha ra rb (pa ++ [x]) (pb ++ [y]) (by rw [h1];simp) (by rw [h2];simp) (by rw [he,hxy]))
theorem compare_ev (a b : List Int) (ha : a.length ≤ 1000000) : Ev (fun q=>slices_Compare_int_int.f q a b) (cmpL a b):=by
 unfold slices_Compare_int_int.f
 exact compare_loop a b ha a b [] [] rfl rfl rfl
def typesS (L : List S34) (S : Nat → Nat → List Int) (i j : Nat) : List Int:=((S i j).length : Int) :: (S i j).map fun a=>(rd_T34 L a).f0
def placeS (N : List Int) (L : List S34) (S : Nat → Nat → List Int) (pre : List Nat) (k : Nat) : List Int:=rd N (k : Int) :: ((pre.flatMap fun j=>typesS L S j k ++ typesS L S k j) ++ typesS L S k k)
def codeL (N : List Int) (L : List S34) (S : Nat → Nat → List Int) (pre : List Nat) : List Nat → List Int
 | [] => []
 | k :: rest => placeS N L S pre k ++ codeL N L S (pre ++ [k]) rest
def codeS (N : List Int) (L : List S34) (S : Nat → Nat → List Int) (o : List Nat) : List Int:=(o.length : Int) :: codeL N L S [] o
def io (o : List Nat) : List Int:=o.map fun (a : Nat)=>(a : Int)
def Fits (n : Nat) (L : List S34) (S : Nat → Nat → List Int) : Prop:=∀ i j,i < n → j < n → (S i j).length ≤ 100 ∧ ∀ a ∈ S i j,0 ≤ a ∧ a < L.length
theorem io_len (o : List Nat) : (io o).length = o.length:=by simp [io]
theorem rd_row {n : Nat} {S : Nat → Nat → List Int} {i : Nat} (hi : i < n) : rd_L3 (tabL n S) (i : Int) = (List.range n).map (S i):=by
 simp [rd_L3,tabL,hi]
theorem rd_cell {n : Nat} {S : Nat → Nat → List Int} {i j : Nat} (hj : j < n) : rd_L2 ((List.range n).map (S i)) (j : Int) = S i j:=by
 simp [rd_L2,hj]
theorem tabL_len (n : Nat) (S : Nat → Nat → List Int) : (tabL n S).length = n:=by simp [tabL]
theorem types_len {n : Nat} {L : List S34} {S : Nat → Nat → List Int} (h : Fits n L S) {i j : Nat} (hi : i < n) (hj : j < n) : (typesS L S i j).length ≤ 101:=by
 have:=(h i j hi hj).1
 simp [typesS];omega
theorem types_loop {L : List S34} (hL : L.length ≤ 1000000) (row : List Int) (hr : row.length ≤ 1000000) (hb : ∀ a ∈ row,0 ≤ a ∧ a < L.length) (acc : List Int) (hacc : acc.length ≤ 1) : ∀ (rest pre : List Int),row = pre ++ rest →
  Ev (fun q=>canon_table_types.l0 q L (acc ++ pre.map fun a=>(rd_T34 L a).f0) row (row.length : Int) (pre.length : Int)) (acc ++ row.map fun a=>(rd_T34 L a).f0)
 | [],pre,h => by
  obtain rfl : row = pre:=by rw [h];simp
  refine Ev.step (f:=fun _=>some (acc ++ row.map fun a=>(rd_T34 L a).f0)) (fun q=>?_) (Ev.now _)
  rw [canon_table_types.l0,if_neg (by omega)]
 | x :: rest,pre,h => by
  have l1 : pre.length < row.length:=by rw [h];simp
  have e1:=rd_at h
  have hx:=hb x (by rw [h];simp)
  have ih:=types_loop hL row hr hb acc hacc rest (pre ++ [x]) (by rw [h];simp)
  rw [List.map_append,← List.append_assoc,← cast_snoc] at ih
  refine Ev.step (fun q=>?_) ih
  rw [canon_table_types.l0,if_pos (by omega),if_pos (by omega),if_pos (by omega),e1,if_pos hx.1,if_pos hx.2,if_pos (by simp;omega),w64 (by omega)]
  rfl
theorem types_ev {N : List Int} {L : List S34} {S : Nat → Nat → List Int} (h : Fits N.length L S) (hn : N.length ≤ 1000) (hL : L.length ≤ 1000000) {i j : Nat} (hi : i < N.length) (hj : j < N.length) :
  Ev (fun q=>canon_table_types.f q N (i : Int) (j : Int) L (tabL N.length S)) (typesS L S i j):=by
 obtain ⟨h1,h2⟩:=h i j hi hj
 unfold canon_table_types.f
 rw [rd_row hi,rd_cell hj]
 refine Ev.ite_pos (by omega) (Ev.ite_pos (by rw [tabL_len];omega) (Ev.ite_pos (by omega) (Ev.ite_pos (by simp;omega) ?_)))
 have:=types_loop hL (S i j) (by omega) h2 [((S i j).length : Int)] (by simp) (S i j) [] rfl
 simpa [typesS] using this
theorem rd_io {o : List Nat} {pre rest : List Nat} {x : Nat} (h : o = pre ++ x :: rest) : rd (io o) (pre.length : Int) = (x : Int):=by
 have:=rd_at (l:=io o) (pre:=io pre) (rest:=io rest) (x:=(x : Int)) (by rw [h];simp [io])
 rwa [io_len] at this
theorem pairs_len {n : Nat} {L : List S34} {S : Nat → Nat → List Int} (h : Fits n L S) {k : Nat} (hk : k < n) : ∀ pre : List Nat,(∀ j ∈ pre,j < n) → (pre.flatMap fun j=>typesS L S j k ++ typesS L S k j).length ≤ 202 * pre.length
 | [],_ => by simp
 | x :: pre,hp => by
  have ih:=pairs_len h hk pre (fun j hj=>hp j (by simp [hj]))
  have a:=types_len h (hp x (by simp)) hk
  have b:=types_len h hk (hp x (by simp))
  simp only [List.flatMap_cons,List.length_append,List.length_cons]
  omega
theorem place_len {N : List Int} {L : List S34} {S : Nat → Nat → List Int} (h : Fits N.length L S) {k : Nat} (hk : k < N.length) (pre : List Nat) (hp : ∀ j ∈ pre,j < N.length) : (placeS N L S pre k).length ≤ 202 * pre.length + 102:=by
 have a:=pairs_len h hk pre hp
 have b:=types_len h hk hk
 simp only [placeS,List.length_cons,List.length_append]
 omega
theorem place_loop {N : List Int} {L : List S34} {S : Nat → Nat → List Int} (h : Fits N.length L S) (hn : N.length ≤ 1000) (hL : L.length ≤ 1000000) {k : Nat} (hk : k < N.length) (o : List Nat) (ho : ∀ j ∈ o,j < N.length) (hol : o.length ≤ 1000) : ∀ (rest pre : List Nat),o = pre ++ rest →
  Ev (fun q=>canon_table_place.l0 q N L (tabL N.length S) (k : Int) (rd N (k : Int) :: (pre.flatMap fun j=>typesS L S j k ++ typesS L S k j)) (io o) (o.length : Int) (pre.length : Int)) (placeS N L S o k)
 | [],pre,he => by
  obtain rfl : o = pre:=by rw [he];simp
  have a:=pairs_len h hk o ho
  have b:=types_len h hk hk
  refine Ev.step (f:=fun q=>(canon_table_types.f q N (k : Int) (k : Int) L (tabL N.length S)).bind fun t157=>(if (rd N (k : Int) :: (o.flatMap fun j=>typesS L S j k ++ typesS L S k j)).length + t157.length < 17592186044416 then (some ((rd N (k : Int) :: (o.flatMap fun j=>typesS L S j k ++ typesS L S k j)) ++ t157)) else none)) (fun q=>?_) ?_
  ·rw [canon_table_place.l0,if_neg (by omega)]
  ·refine Ev.bind (types_ev h hn hL hk hk) (Ev.ite_pos ?_ (Ev.now _))
   simp only [List.length_cons];omega
 | x :: rest,pre,he => by
  have l1 : pre.length < o.length:=by rw [he];simp
  have hx : x < N.length:=ho x (by rw [he];simp)
  have e1:=rd_io he
  have a:=pairs_len h hk pre (fun j hj=>ho j (by rw [he];simp [hj]))
  have b:=types_len h hx hk
  have c:=types_len h hk hx
  have hpl : pre.length ≤ 1000:=by omega
  have ih:=place_loop h hn hL hk o ho hol rest (pre ++ [x]) (by rw [he];simp)
  rw [List.flatMap_append,← cast_snoc] at ih
  refine Ev.step (f:=fun q=>(canon_table_types.f q N (x : Int) (k : Int) L (tabL N.length S)).bind fun t145=>(if (rd N (k : Int) :: (pre.flatMap fun j=>typesS L S j k ++ typesS L S k j)).length + t145.length < 17592186044416 then ((some ((rd N (k : Int) :: (pre.flatMap fun j=>typesS L S j k ++ typesS L S k j)) ++ t145 : List Int)).bind fun y148=>((canon_table_types.f q N (k : Int) (x : Int) L (tabL N.length S)).bind fun t151=>(if y148.length + t151.length < 17592186044416 then (canon_table_place.l0 q N L (tabL N.length S) (k : Int) (y148 ++ t151) (io o) (o.length : Int) ((pre.length : Int) + 1)) else (none)))) else (none))) (fun q=>?_) ?_
  ·rw [canon_table_place.l0,io_len,if_pos (by omega),if_pos (by omega),if_pos (by omega),e1,w64 (by omega)]
  ·refine Ev.bind (types_ev h hn hL hx hk) (Ev.ite_pos (by simp only [List.length_cons];omega) ?_)
   refine Ev.const_bind rfl ?_
   refine Ev.bind (types_ev h hn hL hk hx) (Ev.ite_pos (by simp only [List.length_cons,List.length_append];omega) ?_)
   simpa using ih
theorem place_ev {N : List Int} {L : List S34} {S : Nat → Nat → List Int} (h : Fits N.length L S) (hn : N.length ≤ 1000) (hL : L.length ≤ 1000000) (pre : List Nat) {k : Nat} (hk : k < N.length) (hp : ∀ j ∈ pre,j < N.length) (hpl : pre.length ≤ 999) :
  Ev (fun q=>canon_table_place.f q N (io (pre ++ [k])) L (tabL N.length S)) (placeS N L S pre k):=by
 have hw : wrap64 (((io (pre ++ [k])).length : Int) - 1) = (pre.length : Int):=by rw [io_len,w64 (by simp;omega)];simp
 have hr : rd (io (pre ++ [k])) (pre.length : Int) = (k : Int):=rd_io (rest:=[]) rfl
 have ht : (io (pre ++ [k])).take ((pre.length : Int)).toNat = io pre:=by rw [Int.toNat_natCast];simp [io]
 unfold canon_table_place.f
 simp only [hw,hr,ht]
 refine Ev.ite_pos (by omega) (Ev.ite_pos (by rw [io_len];simp;omega) (Ev.ite_pos (by omega) (Ev.ite_pos (by omega) (Ev.ite_pos (by rw [io_len];simp;omega) ?_))))
 rw [io_len]
 exact place_loop h hn hL hk pre hp (by omega) pre [] rfl
end Go.Proofs.Ytgmomcjnldahjaa.Pr
namespace Go.Proofs.Ytgmomcjnldahjaa.Pr
open Go.RowKit Go.Proofs.YtgmomcjnldahjaaW.PrintWords Go.Proofs.YtgmomcjnldahjaaW.PrintLast Go.Proofs.YtgmomcjnldahjaaW.PrintMore
set_option linter.unusedVariables false
theorem code_loop {N : List Int} {L : List S34} {S : Nat → Nat → List Int} (h : Fits N.length L S) (hn : N.length ≤ 1000) (hL : L.length ≤ 1000000) (o : List Nat) (ho : ∀ j ∈ o,j < N.length) (hol : o.length ≤ 999) : ∀ (rest pre : List Nat) (acc : List Int),o = pre ++ rest → acc.length ≤ 1 + 202102 * pre.length →
  Ev (fun q=>canon_table_code.l0 q N (io o) L (tabL N.length S) acc (o.length : Int) (pre.length : Int)) (acc ++ codeL N L S pre rest)
 | [],pre,acc,he,ha => by
  have : pre.length = o.length:=by rw [he];simp
  refine Ev.step (f:=fun _=>some acc) (fun q=>?_) (by simpa [codeL] using Ev.now acc)
  rw [canon_table_code.l0,if_neg (by omega)]
 | k :: rest,pre,acc,he,ha => by
  have l1 : pre.length < o.length:=by rw [he];simp
  have hk : k < N.length:=ho k (by rw [he];simp)
  have hp : ∀ j ∈ pre,j < N.length:=fun j hj=>ho j (by rw [he];simp [hj])
  have hpl:=place_len h hk pre hp
  have ht : (io o).take ((pre.length : Int) + 1).toNat = io (pre ++ [k]):=by
   rw [show ((pre.length : Int) + 1).toNat = pre.length + 1 from by omega,he]
   simp [io,List.take_append]
   exact List.take_of_length_le (by simp)
  have ih:=code_loop h hn hL o ho hol rest (pre ++ [k]) (acc ++ placeS N L S pre k) (by rw [he];simp) (by simp only [List.length_append,List.length_cons,List.length_nil];omega)
  rw [← cast_snoc,List.append_assoc] at ih
  refine Ev.step (f:=fun q=>(canon_table_place.f q N (io (pre ++ [k])) L (tabL N.length S)).bind fun t167=>(if acc.length + t167.length < 17592186044416 then (canon_table_code.l0 q N (io o) L (tabL N.length S) (acc ++ t167) (o.length : Int) ((pre.length : Int) + 1)) else (none))) (fun q=>?_) ?_
  ·rw [canon_table_code.l0,w64 (by omega),io_len,if_pos (by omega),if_pos (by omega),if_pos (by omega),ht]
  ·exact Ev.bind (place_ev h hn hL pre hk hp (by omega)) (Ev.ite_pos (by omega) ih)
theorem code_ev {N : List Int} {L : List S34} {S : Nat → Nat → List Int} (h : Fits N.length L S) (hn : N.length ≤ 1000) (hL : L.length ≤ 1000000) (o : List Nat) (ho : ∀ j ∈ o,j < N.length) (hol : o.length ≤ 999) :
  Ev (fun q=>canon_table_code.f q N (io o) L (tabL N.length S)) (codeS N L S o):=by
 unfold canon_table_code.f
 rw [io_len]
 exact code_loop h hn hL o ho hol o [] [(o.length : Int)] rfl (by simp)
structure Tab (W : World) (gt : Nat) (A0 : Option Addr) (c0 : Nat) (N : List Int) (A1 : Option Addr) (c1 : Nat) (L : List S34) (gR : Nat) (S : Nat → Nat → List Int) : Prop where
 ht : W.heap[gt]? = some (.cells #[.slice A0 N.length c0,.slice A1 L.length c1,.slice (some ⟨gR,0,none⟩) N.length N.length] 89 (0,0))
 hN : Kd.C (Kd.int .i64) W A0 N.length N
 hL : Kd.C k34 W A1 L.length L
 hT : Kd.C (Kd.slice 27 (Kd.slice 3 (Kd.int .i64))) W (some ⟨gR,0,none⟩) N.length (tabL N.length S)
 cN : N.length ≤ c0
 cL : L.length ≤ c1
 bN : N.length ≤ 999
 bL : L.length ≤ 1000000
 fits : Fits N.length L S
section
variable {W W' : World} {gt : Nat} {A0 : Option Addr} {c0 : Nat} {N : List Int} {A1 : Option Addr} {c1 : Nat} {L : List S34} {gR : Nat} {S : Nat → Nat → List Int}
theorem Tab.below (h : Tab W gt A0 c0 N A1 c1 L gR S) (hb : Below W.heap.size W W') : Tab W' gt A0 c0 N A1 c1 L gR S :=
 ⟨blk_below h.ht hb,Kd.C_below h.hN hb,Kd.C_below h.hL hb,Kd.C_below h.hT hb,h.cN,h.cL,h.bN,h.bL,h.fits⟩
theorem Tab.types (h : Tab W gt A0 c0 N A1 c1 L gR S) {i j : Nat} (hi : i < N.length) (hj : j < N.length) :
  Calls Try.prog 81 #[.pointer (some ⟨gt,0,none⟩),.int .i64 (i : Int),.int .i64 (j : Int)] W fun e w'=>∃ v,e = .returned v ∧ Kd.R (Kd.int .i64) 3 w' W.heap.size (fun _=>True) v (typesS L S i j) ∧ Below W.heap.size W w':=by
 obtain ⟨k,hk⟩:=(types_ev h.fits (by have:=h.bN;omega) h.bL hi hj).rounds
 have hl:=tabL_len N.length S
 exact canon_table_types.calls k A0 c0 N (i : Int) (j : Int) A1 c1 L (some ⟨gR,0,none⟩) N.length (tabL N.length S) _ W h.hN h.cN h.hL h.cL (by rw [hl];exact h.hT) (by rw [hl];exact Nat.le_refl _) hk ((blk_cell h.ht 0).trans rfl) ((blk_cell h.ht 1).trans rfl) (by rw [hl];exact (blk_cell h.ht 2).trans rfl)
theorem Tab.place (h : Tab W gt A0 c0 N A1 c1 L gR S) {pre : List Nat} {k : Nat} (hk : k < N.length) (hp : ∀ j ∈ pre,j < N.length) (hpl : pre.length ≤ 999) {A : Option Addr} {c : Nat} (hr : Kd.C (Kd.int .i64) W A (io (pre ++ [k])).length (io (pre ++ [k]))) (hc : (io (pre ++ [k])).length ≤ c) :
  Calls Try.prog 69 #[.pointer (some ⟨gt,0,none⟩),.slice A (io (pre ++ [k])).length c] W fun e w'=>∃ v,e = .returned v ∧ Kd.R (Kd.int .i64) 3 w' W.heap.size (fun _=>True) v (placeS N L S pre k) ∧ Below W.heap.size W w':=by
 obtain ⟨q,hq⟩:=(place_ev h.fits (by have:=h.bN;omega) h.bL pre hk hp hpl).rounds
 have hl:=tabL_len N.length S
 exact canon_table_place.calls q A0 c0 N A c (io (pre ++ [k])) A1 c1 L (some ⟨gR,0,none⟩) N.length (tabL N.length S) _ W h.hN h.cN hr hc h.hL h.cL (by rw [hl];exact h.hT) (by rw [hl];exact Nat.le_refl _) hq ((blk_cell h.ht 0).trans rfl) ((blk_cell h.ht 1).trans rfl) (by rw [hl];exact (blk_cell h.ht 2).trans rfl)
theorem Tab.code (h : Tab W gt A0 c0 N A1 c1 L gR S) {o : List Nat} (ho : ∀ j ∈ o,j < N.length) (hol : o.length ≤ 999) {A : Option Addr} {c : Nat} (hr : Kd.C (Kd.int .i64) W A (io o).length (io o)) (hc : (io o).length ≤ c) :
  Calls Try.prog 50 #[.pointer (some ⟨gt,0,none⟩),.slice A (io o).length c] W fun e w'=>∃ v,e = .returned v ∧ Kd.R (Kd.int .i64) 3 w' W.heap.size (fun _=>True) v (codeS N L S o) ∧ Below W.heap.size W w':=by
 obtain ⟨q,hq⟩:=(code_ev h.fits (by have:=h.bN;omega) h.bL o ho hol).rounds
 have hl:=tabL_len N.length S
 exact canon_table_code.calls q A0 c0 N A c (io o) A1 c1 L (some ⟨gR,0,none⟩) N.length (tabL N.length S) _ W h.hN h.cN hr hc h.hL h.cL (by rw [hl];exact h.hT) (by rw [hl];exact Nat.le_refl _) hq ((blk_cell h.ht 0).trans rfl) ((blk_cell h.ht 1).trans rfl) (by rw [hl];exact (blk_cell h.ht 2).trans rfl)
end
theorem equal_c {W : World} {A B : Option Addr} {c d : Nat} {a b : List Int} (ha : Kd.C (Kd.int .i64) W A a.length a) (hc : a.length ≤ c) (hb : Kd.C (Kd.int .i64) W B b.length b) (hd : b.length ≤ d) (hl : a.length ≤ 1000000) :
  Calls Try.prog 16 #[.slice A a.length c,.slice B b.length d] W fun e w'=>e = .returned (.bool (decide (a = b))) ∧ Drawn0 W w':=by
 obtain ⟨q,hq⟩:=(eq_ev a b hl).rounds
 exact slices_Equal_int_int.calls q A c a B d b _ W ha hc hb hd hq
theorem contains_c {W : World} {A : Option Addr} {c : Nat} {a : List Int} (x : Int) (ha : Kd.C (Kd.int .i64) W A a.length a) (hc : a.length ≤ c) (hl : a.length ≤ 1000000) :
  Calls Try.prog 49 #[.slice A a.length c,.int .i64 x] W fun e w'=>e = .returned (.bool (decide (x ∈ a))) ∧ Drawn0 W w':=by
 obtain ⟨q,hq⟩:=(contains_ev a x hl).rounds
 exact slices_Contains_int_int.calls q A c a x _ W ha hc hq
theorem compare_c {W : World} {A B : Option Addr} {c d : Nat} {a b : List Int} (ha : Kd.C (Kd.int .i64) W A a.length a) (hc : a.length ≤ c) (hb : Kd.C (Kd.int .i64) W B b.length b) (hd : b.length ≤ d) (hl : a.length ≤ 1000000) :
  Calls Try.prog 26 #[.slice A a.length c,.slice B b.length d] W fun e w'=>e = .returned (.int .i64 (cmpL a b)) ∧ Drawn0 W w':=by
 obtain ⟨q,hq⟩:=(compare_ev a b hl).rounds
 exact slices_Compare_int_int.calls q A c a B d b _ W ha hc hb hd hq
theorem clone_c {W : World} {A : Option Addr} {c : Nat} {a : List Int} (ha : Kd.C (Kd.int .i64) W A a.length a) (hc : a.length ≤ c) (hl : a.length ≤ 1000000) :
  Calls Try.prog 18 #[.slice A a.length c] W fun e w'=>∃ v,e = .returned v ∧ Kd.R (Kd.int .i64) 3 w' W.heap.size (fun _=>True) v a ∧ Below W.heap.size W w' :=
 slices_Clone_int_int.calls A c a a W ha hc (clone_eq a hl)
end Go.Proofs.Ytgmomcjnldahjaa.Pr
namespace Go.Proofs.Ytgmomcjnldahjaa.Pr
open Go.RowKit Go.Proofs.YtgmomcjnldahjaaW.PrintWords Go.Proofs.YtgmomcjnldahjaaW.PrintLast Go.Proofs.YtgmomcjnldahjaaW.PrintMore
attribute [local go_sem] max2_int min2_int max_two min_two max_three min_three max_four min_four
set_option linter.unusedVariables false
set_option linter.unusedSimpArgs false
def tw.T1 : Bool × List (List Nat × List Nat):=(true,[([],[]),([0],[0]),([1],[1]),([2],[2]),([3],[3]),([],[]),([4,5],[4,5]),([6],[6]),([],[]),([8],[8]),([9],[9]),([10],[10]),([11],[11]),([],[]),([12,13],[12,13]),([14],[14]),([7,15],[7,15]),([16],[16]),([17],[17]),([17],[17]),([17],[17]),([18,19,20,17,17],[17,18,19,20]),([17],[17]),([17],[17]),([17],[17]),([22,23,24,21,17],[17,22,23,24]),([21,25,25,17],[17,21,25]),([26,17],[17,26]),([17,27],[17,27]),([28,26],[28]),([29],[29]),([29],[29]),([29],[29]),([30,31,32,29,29],[29,30,31,32]),([29],[29]),([29],[29]),([29],[29]),([34,35,36,33,29],[29,34,35,36]),([33,37,37,29],[29,33,37]),([38,29],[29,38]),([29,39],[29,39])])
def tw.B1 : List Nat:=[0,1,3,7,15,0,63,127,0,256,768,1792,3840,0,16128,32512,65535,131071,262143,262143,262143,2097151,262143,262143,262143,33554431,67108863,134217727,268435455,536870911,1073741823,1073741823,1073741823,8589934591,1073741823,1073741823,1073741823,137438953471,274877906943,549755813887,1099511627775]
theorem tw.tab1 : rtab .any (opsOf Try.f63 1) = tw.T1:=by kernel_rfl
theorem tw.bits1 : waitsOk tw.T1.2 tw.B1 = true:=by kernel_rfl
def tellB (L : List S34) (S : Nat → Nat → List Int) (a b c : Nat) : Bool:=decide (c ≠ a) && (decide (c ≠ b) && (!decide (typesS L S a c = typesS L S b c) || !decide (typesS L S c a = typesS L S c b)))
def twinB (N : List Int) (L : List S34) (S : Nat → Nat → List Int) (a b : Nat) : Bool :=
 decide (rd N (a : Int) = rd N (b : Int)) && (decide (typesS L S a a = typesS L S b b) && (decide (typesS L S a b = typesS L S b a) && !(List.range N.length).any (tellB L S a b)))
section
variable {gt : Nat} {A0 : Option Addr} {c0 : Nat} {N : List Int} {A1 : Option Addr} {c1 : Nat} {L : List S34} {gR : Nat} {S : Nat → Nat → List Int}
theorem Tab.cells {W : World} (h : Tab W gt A0 c0 N A1 c1 L gR S) {a b : Nat} (ha : a < N.length) (hb : b < N.length) : ∃ ad,A0 = some ad ∧ ∀ W',Tab W' gt A0 c0 N A1 c1 L gR S →
  W'.cell? ⟨gt,0,none⟩ = some (.slice A0 N.length c0) ∧ W'.cell? (ad.add a) = some (.int .i64 (rd N (a : Int))) ∧ W'.cell? (ad.add b) = some (.int .i64 (rd N (b : Int))) ∧ Tab W' gt A0 c0 N A1 c1 L gR S:=by
 obtain ⟨ad,e,_⟩:=Kd.at_int h.hN (a : Int) (by omega) (by omega)
 refine ⟨ad,e,fun W' h'=>?_⟩
 obtain ⟨ad1,e1,h1⟩:=Kd.at_int h'.hN (a : Int) (by omega) (by omega)
 obtain ⟨ad2,e2,h2⟩:=Kd.at_int h'.hN (b : Int) (by omega) (by omega)
 rw [e] at e1 e2
 cases e1
 cases e2
 rw [Int.toNat_natCast] at h1 h2
 exact ⟨(blk_cell h'.ht 0).trans rfl,h1,h2,h'⟩
set_option maxHeartbeats 8000000 in
set_option maxRecDepth 100000 in
theorem Tab.twins {w : World} (hT : Tab w gt A0 c0 N A1 c1 L gR S) {a b : Nat} (ha : a < N.length) (hb : b < N.length) (hab : a ≠ b) :
  Calls Try.prog 63 #[.pointer (some ⟨gt,0,none⟩),.int .i64 (a : Int),.int .i64 (b : Int)] w fun e w'=>e = .returned (.bool (twinB N L S a b)) ∧ Below w.heap.size w w':=by
 obtain ⟨ad,e0,hS⟩:=hT.cells ha hb
 subst e0
 have T0:=Aside0.mk (hT.below (zzF (Below.refl w.heap.size w)))
 have HS:=Aside0.mk hS
 have HB:=Aside0.mk (zzF (Below.refl w.heap.size w))
 have la:=Nat.le_trans (types_len hT.fits ha ha) (show 101 ≤ 1000000 by omega)
 have lab:=Nat.le_trans (types_len hT.fits ha hb) (show 101 ≤ 1000000 by omega)
 clear hT hS
 obtain ⟨p0,hp0⟩ : ∃ p0,(rd N (a : Int) != rd N (b : Int)) = p0:=⟨_,rfl⟩
 obtain ⟨p1,hp1⟩ : ∃ p1,decide (typesS L S a a = typesS L S b b) = p1:=⟨_,rfl⟩
 obtain ⟨p2,hp2⟩ : ∃ p2,decide (typesS L S a b = typesS L S b a) = p2:=⟨_,rfl⟩
 go_enter Try.func63,Try.ntmps63
 go_upto_region 1 with (fail)
 cases p0
 ·cases p1
  ·have HF:=Aside0.mk (show twinB N L S a b = false from by rw [twinB,hp1];simp)
   refine start_ (n:=41) (S:=fun w'=>w'.cell? ⟨gt,0,none⟩ = some (.slice (some ad) N.length c0) ∧ w'.cell? (ad.add a) = some (.int .i64 (rd N (a : Int))) ∧ w'.cell? (ad.add b) = some (.int .i64 (rd N (b : Int)))) (ds:=[]) #[false,false,false,false,false,false,false,false,false,false,false,false,false,false,false,false,false,false,false,false,false,false,false,false,false,false,false,false,false,false,false,false,false,false,false,false,false,false,false,false,false] (by kernel_rfl) rfl rfl ⟨(HS.out _ T0.out).1,(HS.out _ T0.out).2.1,(HS.out _ T0.out).2.2.1⟩ (fun hHeld=>?_)
   refine with_tabW tw.tab1 tw.bits1 (fun HT_ HW_=>?_)
   refine pure_ (i:=0) (N:=some 8) (v:=?_) (a':=?_) #[true,false,false,false,false,false,false,false,false,false,false,false,false,false,false,false,false,false,false,false,false,false,false,false,false,false,false,false,false,false,false,false,false,false,false,false,false,false,false,false,false] rfl rfl (any_of HT_.out (by kernel_rfl)) (fun _ _ _ h=>h) (Or.inl ⟨by rfl,?_⟩) ?_ ?_
   rotate_left
   ·intro w'
    go_simp
    with_reducible rfl
   rotate_left
   ·simp only [Act.put,zzA,zzB,zzC,i64_w,i32_w]
    rfl
   refine pure_ (i:=1) (N:=some 9) (v:=?_) (a':=?_) #[true,true,false,false,false,false,false,false,false,false,false,false,false,false,false,false,false,false,false,false,false,false,false,false,false,false,false,false,false,false,false,false,false,false,false,false,false,false,false,false,false] rfl rfl (any_of HT_.out (by kernel_rfl)) (fun _ _ _ h=>h) (Or.inl ⟨by rfl,?_⟩) ?_ ?_
   rotate_left
   ·intro w'
    go_simp
    with_reducible rfl
   rotate_left
   ·simp only [Act.put,zzA,zzB,zzC,i64_w,i32_w]
    rfl
   refine pure_ (i:=2) (N:=some 10) (v:=?_) (a':=?_) #[true,true,true,false,false,false,false,false,false,false,false,false,false,false,false,false,false,false,false,false,false,false,false,false,false,false,false,false,false,false,false,false,false,false,false,false,false,false,false,false,false] rfl rfl (any_of HT_.out (by kernel_rfl)) (fun _ _ _ h=>h) (Or.inl ⟨by rfl,?_⟩) ?_ ?_
   rotate_left
   ·intro w'
    go_simp
    with_reducible rfl
   rotate_left
   ·simp only [Act.put,zzA,zzB,zzC,i64_w,i32_w]
    rfl
   refine pure_ (i:=3) (N:=some 11) (v:=?_) (a':=?_) #[true,true,true,true,false,false,false,false,false,false,false,false,false,false,false,false,false,false,false,false,false,false,false,false,false,false,false,false,false,false,false,false,false,false,false,false,false,false,false,false,false] rfl rfl (any_of HT_.out (by kernel_rfl)) (fun _ _ _ h=>h) (Or.inl ⟨by rfl,?_⟩) ?_ ?_
   rotate_left
   ·intro w'
    go_simp
    with_reducible rfl
   rotate_left
   ·simp only [Act.put,zzA,zzB,zzC,i64_w,i32_w]
    rfl
   refine pure_ (i:=5) (N:=some 13) (v:=?_) (a':=?_) #[true,true,true,true,false,true,false,false,false,false,false,false,false,false,false,false,false,false,false,false,false,false,false,false,false,false,false,false,false,false,false,false,false,false,false,false,false,false,false,false,false] rfl rfl (any_of HT_.out (by kernel_rfl)) (fun _ _ _ h=>h) (Or.inl ⟨by rfl,?_⟩) ?_ ?_
   rotate_left
   ·intro w'
    go_simp
    with_reducible rfl
   rotate_left
   ·simp only [Act.put,zzA,zzB,zzC,i64_w,i32_w]
    rfl
   refine pure_ (i:=8) (N:=some 16) (v:=?_) (a':=?_) #[true,true,true,true,false,true,false,false,true,false,false,false,false,false,false,false,false,false,false,false,false,false,false,false,false,false,false,false,false,false,false,false,false,false,false,false,false,false,false,false,false] rfl rfl (any_of HT_.out (by kernel_rfl)) (fun _ _ _ h=>h) (Or.inl ⟨by rfl,?_⟩) ?_ ?_
   rotate_left
   ·intro w'
    go_simp
    with_reducible rfl
   rotate_left
   ·simp only [Act.put,zzA,zzB,zzC,i64_w,i32_w]
    rfl
   refine pure_ (i:=9) (N:=some 17) (v:=?_) (a':=?_) #[true,true,true,true,false,true,false,false,true,true,false,false,false,false,false,false,false,false,false,false,false,false,false,false,false,false,false,false,false,false,false,false,false,false,false,false,false,false,false,false,false] rfl rfl (any_of HT_.out (by kernel_rfl)) (fun _ _ _ h=>h) (Or.inl ⟨by rfl,?_⟩) ?_ ?_
   rotate_left
   ·intro w'
    go_simp
    with_reducible rfl
   rotate_left
   ·simp only [Act.put,zzA,zzB,zzC,i64_w,i32_w]
    rfl
   refine pure_ (i:=10) (N:=some 18) (v:=?_) (a':=?_) #[true,true,true,true,false,true,false,false,true,true,true,false,false,false,false,false,false,false,false,false,false,false,false,false,false,false,false,false,false,false,false,false,false,false,false,false,false,false,false,false,false] rfl rfl (any_of HT_.out (by kernel_rfl)) (fun _ _ _ h=>h) (Or.inl ⟨by rfl,?_⟩) ?_ ?_
   rotate_left
   ·intro w'
    go_simp
    with_reducible rfl
   rotate_left
   ·simp only [Act.put,zzA,zzB,zzC,i64_w,i32_w]
    rfl
   refine pure_ (i:=11) (N:=some 19) (v:=?_) (a':=?_) #[true,true,true,true,false,true,false,false,true,true,true,true,false,false,false,false,false,false,false,false,false,false,false,false,false,false,false,false,false,false,false,false,false,false,false,false,false,false,false,false,false] rfl rfl (any_of HT_.out (by kernel_rfl)) (fun _ _ _ h=>h) (Or.inl ⟨by rfl,?_⟩) ?_ ?_
   rotate_left
   ·intro w'
    go_simp
    with_reducible rfl
   rotate_left
   ·simp only [Act.put,zzA,zzB,zzC,i64_w,i32_w]
    rfl
   refine pure_ (i:=13) (N:=some 21) (v:=?_) (a':=?_) #[true,true,true,true,false,true,false,false,true,true,true,true,false,true,false,false,false,false,false,false,false,false,false,false,false,false,false,false,false,false,false,false,false,false,false,false,false,false,false,false,false] rfl rfl (any_of HT_.out (by kernel_rfl)) (fun _ _ _ h=>h) (Or.inl ⟨by rfl,?_⟩) ?_ ?_
   rotate_left
   ·intro w'
    go_simp
    with_reducible rfl
   rotate_left
   ·simp only [Act.put,zzA,zzB,zzC,i64_w,i32_w]
    rfl
   refine take_ (i:=4) (N:=some 12) (v:=?_) (a':=?_) #[true,true,true,true,true,true,false,false,true,true,true,true,false,true,false,false,false,false,false,false,false,false,false,false,false,false,false,false,false,false,false,false,false,false,false,false,false,false,false,false,false] rfl rfl (take_ofW HT_.out HW_.out (by kernel_rfl)) (fun _ _ _ h=>h) (Or.inl ⟨by rfl,?_⟩) hHeld ?_ ?_
   rotate_left
   ·rintro w' ⟨s0,s1,s2⟩
    go_simp
    with_reducible rfl
   rotate_left
   ·simp only [Act.put,zzA,zzB,zzC,i64_w,i32_w]
    rfl
   refine pure_ (i:=6) (N:=some 14) (v:=?_) (a':=?_) #[true,true,true,true,true,true,true,false,true,true,true,true,false,true,false,false,false,false,false,false,false,false,false,false,false,false,false,false,false,false,false,false,false,false,false,false,false,false,false,false,false] rfl rfl (any_of HT_.out (by kernel_rfl)) (fun _ _ _ h=>h) (Or.inl ⟨by rfl,?_⟩) ?_ ?_
   rotate_left
   ·intro w'
    go_simp
    with_reducible rfl
   rotate_left
   ·simp only [Act.put,zzA,zzB,zzC,i64_w,i32_w]
    rfl
   refine take_ (i:=7) (N:=some 15) (v:=?_) (a':=?_) #[true,true,true,true,true,true,true,true,true,true,true,true,false,true,false,false,false,false,false,false,false,false,false,false,false,false,false,false,false,false,false,false,false,false,false,false,false,false,false,false,false] rfl rfl (take_ofW HT_.out HW_.out (by kernel_rfl)) (fun _ _ _ h=>h) (Or.inl ⟨by rfl,?_⟩) hHeld ?_ ?_
   rotate_left
   ·rintro w' ⟨s0,s1,s2⟩
    go_simp
    with_reducible rfl
   rotate_left
   ·simp only [Act.put,zzA,zzB,zzC,i64_w,i32_w]
    rfl
   refine take_ (i:=12) (N:=some 20) (v:=?_) (a':=?_) #[true,true,true,true,true,true,true,true,true,true,true,true,true,true,false,false,false,false,false,false,false,false,false,false,false,false,false,false,false,false,false,false,false,false,false,false,false,false,false,false,false] rfl rfl (take_ofW HT_.out HW_.out (by kernel_rfl)) (fun _ _ _ h=>h) (Or.inl ⟨by rfl,?_⟩) hHeld ?_ ?_
   rotate_left
   ·rintro w' ⟨s0,s1,s2⟩
    go_simp
    with_reducible rfl
   rotate_left
   ·simp only [Act.put,zzA,zzB,zzC,i64_w,i32_w]
    rfl
   refine pure_ (i:=14) (N:=some 22) (v:=?_) (a':=?_) #[true,true,true,true,true,true,true,true,true,true,true,true,true,true,true,false,false,false,false,false,false,false,false,false,false,false,false,false,false,false,false,false,false,false,false,false,false,false,false,false,false] rfl rfl (any_of HT_.out (by kernel_rfl)) (fun _ _ _ h=>h) (Or.inl ⟨by rfl,?_⟩) ?_ ?_
   rotate_left
   ·intro w'
    go_simp
    with_reducible rfl
   rotate_left
   ·simp only [Act.put,zzA,zzB,zzC,i64_w,i32_w]
    rfl
   refine take_ (i:=15) (N:=some 23) (v:=?_) (a':=?_) #[true,true,true,true,true,true,true,true,true,true,true,true,true,true,true,true,false,false,false,false,false,false,false,false,false,false,false,false,false,false,false,false,false,false,false,false,false,false,false,false,false] rfl rfl (take_ofW HT_.out HW_.out (by kernel_rfl)) (fun _ _ _ h=>h) (Or.inl ⟨by rfl,?_⟩) hHeld ?_ ?_
   rotate_left
   ·rintro w' ⟨s0,s1,s2⟩
    go_simp
    with_reducible rfl
   rotate_left
   ·simp only [Act.put,zzA,zzB,zzC,i64_w,i32_w]
    rfl
   refine pure_ (i:=16) (N:=some 24) (v:=?_) (a':=?_) #[true,true,true,true,true,true,true,true,true,true,true,true,true,true,true,true,true,false,false,false,false,false,false,false,false,false,false,false,false,false,false,false,false,false,false,false,false,false,false,false,false] rfl rfl (any_of HT_.out (by kernel_rfl)) (fun _ _ _ h=>h) (Or.inl ⟨by rfl,?_⟩) ?_ ?_
   rotate_left
   ·intro w'
    go_simp
    with_reducible rfl
   rotate_left
   ·simp only [Act.put,zzA,zzB,zzC,i64_w,i32_w]
    rfl
   refine pure_ (i:=17) (N:=some 25) (v:=?_) (a':=?_) #[true,true,true,true,true,true,true,true,true,true,true,true,true,true,true,true,true,true,false,false,false,false,false,false,false,false,false,false,false,false,false,false,false,false,false,false,false,false,false,false,false] rfl rfl (any_of HT_.out (by kernel_rfl)) (fun _ _ _ h=>h) (Or.inl ⟨by rfl,?_⟩) ?_ ?_
   rotate_left
   ·intro w'
    go_simp
    with_reducible rfl
   rotate_left
   ·simp only [Act.put,zzA,zzB,zzC,i64_w,i32_w]
    rfl
   refine pure_ (i:=18) (N:=some 26) (v:=?_) (a':=?_) #[true,true,true,true,true,true,true,true,true,true,true,true,true,true,true,true,true,true,true,false,false,false,false,false,false,false,false,false,false,false,false,false,false,false,false,false,false,false,false,false,false] rfl rfl (any_of HT_.out (by kernel_rfl)) (fun _ _ _ h=>h) (Or.inl ⟨by rfl,?_⟩) ?_ ?_
   rotate_left
   ·intro w'
    go_simp
    with_reducible rfl
   rotate_left
   ·simp only [Act.put,zzA,zzB,zzC,i64_w,i32_w]
    rfl
   refine pure_ (i:=19) (N:=some 27) (v:=?_) (a':=?_) #[true,true,true,true,true,true,true,true,true,true,true,true,true,true,true,true,true,true,true,true,false,false,false,false,false,false,false,false,false,false,false,false,false,false,false,false,false,false,false,false,false] rfl rfl (any_of HT_.out (by kernel_rfl)) (fun _ _ _ h=>h) (Or.inl ⟨by rfl,?_⟩) ?_ ?_
   rotate_left
   ·intro w'
    go_simp
    with_reducible rfl
   rotate_left
   ·simp only [Act.put,zzA,zzB,zzC,i64_w,i32_w]
    rfl
   refine pure_ (i:=20) (N:=some 28) (v:=?_) (a':=?_) #[true,true,true,true,true,true,true,true,true,true,true,true,true,true,true,true,true,true,true,true,true,false,false,false,false,false,false,false,false,false,false,false,false,false,false,false,false,false,false,false,false] rfl rfl (any_of HT_.out (by kernel_rfl)) (fun _ _ _ h=>h) (Or.inl ⟨by rfl,?_⟩) ?_ ?_
   rotate_left
   ·intro w'
    go_simp
    with_reducible rfl
   rotate_left
   ·simp only [Act.put,zzA,zzB,zzC,i64_w,i32_w]
    rfl
   refine pure_ (i:=22) (N:=some 30) (v:=?_) (a':=?_) #[true,true,true,true,true,true,true,true,true,true,true,true,true,true,true,true,true,true,true,true,true,false,true,false,false,false,false,false,false,false,false,false,false,false,false,false,false,false,false,false,false] rfl rfl (any_of HT_.out (by kernel_rfl)) (fun _ _ _ h=>h) (Or.inl ⟨by rfl,?_⟩) ?_ ?_
   rotate_left
   ·intro w'
    go_simp
    with_reducible rfl
   rotate_left
   ·simp only [Act.put,zzA,zzB,zzC,i64_w,i32_w]
    rfl
   refine pure_ (i:=23) (N:=some 31) (v:=?_) (a':=?_) #[true,true,true,true,true,true,true,true,true,true,true,true,true,true,true,true,true,true,true,true,true,false,true,true,false,false,false,false,false,false,false,false,false,false,false,false,false,false,false,false,false] rfl rfl (any_of HT_.out (by kernel_rfl)) (fun _ _ _ h=>h) (Or.inl ⟨by rfl,?_⟩) ?_ ?_
   rotate_left
   ·intro w'
    go_simp
    with_reducible rfl
   rotate_left
   ·simp only [Act.put,zzA,zzB,zzC,i64_w,i32_w]
    rfl
   refine pure_ (i:=24) (N:=some 32) (v:=?_) (a':=?_) #[true,true,true,true,true,true,true,true,true,true,true,true,true,true,true,true,true,true,true,true,true,false,true,true,true,false,false,false,false,false,false,false,false,false,false,false,false,false,false,false,false] rfl rfl (any_of HT_.out (by kernel_rfl)) (fun _ _ _ h=>h) (Or.inl ⟨by rfl,?_⟩) ?_ ?_
   rotate_left
   ·intro w'
    go_simp
    with_reducible rfl
   rotate_left
   ·simp only [Act.put,zzA,zzB,zzC,i64_w,i32_w]
    rfl
   refine one_ (i:=21) (N:=some 29) #[true,true,true,true,true,true,true,true,true,true,true,true,true,true,true,true,true,true,true,true,true,true,true,true,true,false,false,false,false,false,false,false,false,false,false,false,false,false,false,false,false] rfl rfl (one_of HT_.out (by kernel_rfl)) (by decide) (fun K hK=>?_)
   refine goes_ Try.func81 (by kernel_rfl) rfl #[.pointer (some ⟨gt,0,none⟩),.int .i64 (a : Int),.int .i64 (a : Int)] (by rfl) rfl rfl (by simp only [List.map_toArray,List.map_cons,List.map_nil];rfl) ?_
   with_reducible refine (T0.out.types ha ha).mono ?_
   rintro e w1 ⟨v1,rfl,o1,b1⟩
   refine ⟨_,rfl,?_⟩
   have T1:=Aside0.mk (T0.out.below b1)
   have N_:=Aside0.mk (below_step HB.out b1)
   clear HB
   have HB:=N_
   clear N_
   have O1:=Aside0.mk o1
   clear o1 b1
   refine hK.out _ _ ⟨(HS.out _ T1.out).1,(HS.out _ T1.out).2.1,(HS.out _ T1.out).2.2.1⟩ (fun hHeld=>?_)
   clear hK K
   refine norm_ (a':=?_) ?_ ?_
   rotate_left
   ·show Act.put _ (some 29) _ = _
    simp only [Act.put,zzA,zzB,zzC,i64_w,i32_w]
    rfl
   refine one_ (i:=25) (N:=some 33) #[true,true,true,true,true,true,true,true,true,true,true,true,true,true,true,true,true,true,true,true,true,true,true,true,true,true,false,false,false,false,false,false,false,false,false,false,false,false,false,false,false] rfl rfl (one_of HT_.out (by kernel_rfl)) (by decide) (fun K hK=>?_)
   refine goes_ Try.func81 (by kernel_rfl) rfl #[.pointer (some ⟨gt,0,none⟩),.int .i64 (b : Int),.int .i64 (b : Int)] (by rfl) rfl rfl (by simp only [List.map_toArray,List.map_cons,List.map_nil];rfl) ?_
   with_reducible refine (T1.out.types hb hb).mono ?_
   rintro e w2 ⟨v2,rfl,o2,b2⟩
   refine ⟨_,rfl,?_⟩
   have T2:=Aside0.mk (T1.out.below b2)
   have N_:=Aside0.mk (below_step HB.out b2)
   clear HB
   have HB:=N_
   clear N_
   have O2:=Aside0.mk o2
   have O1n:=Aside0.mk (Kd.R_below O1.out b2)
   obtain ⟨A1_,c1_,e1_⟩:=Kd.R_slice O1n.out
   obtain ⟨A2_,c2_,e2_⟩:=Kd.R_slice O2.out
   subst e1_
   subst e2_
   clear o2 b2
   refine hK.out _ _ ⟨(HS.out _ T2.out).1,(HS.out _ T2.out).2.1,(HS.out _ T2.out).2.2.1⟩ (fun hHeld=>?_)
   clear hK K
   refine norm_ (a':=?_) ?_ ?_
   rotate_left
   ·show Act.put _ (some 33) _ = _
    simp only [Act.put,zzA,zzB,zzC,i64_w,i32_w]
    rfl
   refine one_ (i:=26) (N:=some 34) #[true,true,true,true,true,true,true,true,true,true,true,true,true,true,true,true,true,true,true,true,true,true,true,true,true,true,true,false,false,false,false,false,false,false,false,false,false,false,false,false,false] rfl rfl (one_of HT_.out (by kernel_rfl)) (by decide) (fun K hK=>?_)
   refine goes_ Try.func16 (by kernel_rfl) rfl #[.slice A1_ _ c1_,.slice A2_ _ c2_] (by rfl) rfl rfl (by simp only [List.map_toArray,List.map_cons,List.map_nil];rfl) ?_
   refine (equal_c (Kd.R_reads' O1n.out).2.2 (Kd.R_reads' O1n.out).2.1 (Kd.R_reads' O2.out).2.2 (Kd.R_reads' O2.out).2.1 la).mono ?_
   rw [hp1]
   rintro e w_ ⟨rfl,⟨nd,rfl⟩⟩
   refine ⟨_,rfl,?_⟩
   have N_:=Aside0.mk (T2.out.below (zzE (Below.refl _ _) nd))
   clear T2
   have T2:=N_
   clear N_
   have N_:=Aside0.mk (zzE HB.out nd)
   clear HB
   have HB:=N_
   clear N_
   refine hK.out _ _ ⟨(HS.out _ T2.out).1,(HS.out _ T2.out).2.1,(HS.out _ T2.out).2.2.1⟩ (fun hHeld=>?_)
   clear hK K
   refine norm_ (a':=?_) ?_ ?_
   rotate_left
   ·show Act.put _ (some 34) _ = _
    simp only [Act.put,zzA,zzB,zzC,i64_w,i32_w]
    rfl
   refine pure_ (i:=27) (N:=some 35) (v:=?_) (a':=?_) #[true,true,true,true,true,true,true,true,true,true,true,true,true,true,true,true,true,true,true,true,true,true,true,true,true,true,true,true,false,false,false,false,false,false,false,false,false,false,false,false,false] rfl rfl (any_of HT_.out (by kernel_rfl)) (fun _ _ _ h=>h) (Or.inl ⟨by rfl,?_⟩) ?_ ?_
   rotate_left
   ·intro w'
    go_simp
    with_reducible rfl
   rotate_left
   ·simp only [Act.put,zzA,zzB,zzC,i64_w,i32_w]
    rfl
   refine pure_ (i:=28) (N:=some 36) (v:=?_) (a':=?_) #[true,true,true,true,true,true,true,true,true,true,true,true,true,true,true,true,true,true,true,true,true,true,true,true,true,true,true,true,true,false,false,false,false,false,false,false,false,false,false,false,false] rfl rfl (any_of HT_.out (by kernel_rfl)) (fun _ _ _ h=>h) (Or.inl ⟨by rfl,?_⟩) ?_ ?_
   rotate_left
   ·intro w'
    go_simp
    with_reducible rfl
   rotate_left
   ·simp only [Act.put,zzA,zzB,zzC,i64_w,i32_w]
    rfl
   refine pure_ (i:=29) (N:=some 37) (v:=?_) (a':=?_) #[true,true,true,true,true,true,true,true,true,true,true,true,true,true,true,true,true,true,true,true,true,true,true,true,true,true,true,true,true,true,false,false,false,false,false,false,false,false,false,false,false] rfl rfl (any_of HT_.out (by kernel_rfl)) (fun _ _ _ h=>h) (Or.inl ⟨by rfl,?_⟩) ?_ ?_
   rotate_left
   ·intro w'
    go_simp
    with_reducible rfl
   rotate_left
   ·simp only [Act.put,zzA,zzB,zzC,i64_w,i32_w]
    rfl
   refine pure_ (i:=30) (N:=some 38) (v:=undef) (a':=?_) #[true,true,true,true,true,true,true,true,true,true,true,true,true,true,true,true,true,true,true,true,true,true,true,true,true,true,true,true,true,true,true,false,false,false,false,false,false,false,false,false,false] rfl rfl (any_of HT_.out (by kernel_rfl)) (fun _ _ _ h=>h) (Or.inr ⟨by rfl,rfl⟩) ?_ ?_
   rotate_left
   ·simp only [Act.put,zzA,zzB,zzC,i64_w,i32_w]
    rfl
   refine pure_ (i:=31) (N:=some 39) (v:=undef) (a':=?_) #[true,true,true,true,true,true,true,true,true,true,true,true,true,true,true,true,true,true,true,true,true,true,true,true,true,true,true,true,true,true,true,true,false,false,false,false,false,false,false,false,false] rfl rfl (any_of HT_.out (by kernel_rfl)) (fun _ _ _ h=>h) (Or.inr ⟨by rfl,rfl⟩) ?_ ?_
   rotate_left
   ·simp only [Act.put,zzA,zzB,zzC,i64_w,i32_w]
    rfl
   refine pure_ (i:=32) (N:=some 40) (v:=undef) (a':=?_) #[true,true,true,true,true,true,true,true,true,true,true,true,true,true,true,true,true,true,true,true,true,true,true,true,true,true,true,true,true,true,true,true,true,false,false,false,false,false,false,false,false] rfl rfl (any_of HT_.out (by kernel_rfl)) (fun _ _ _ h=>h) (Or.inr ⟨by rfl,rfl⟩) ?_ ?_
   rotate_left
   ·simp only [Act.put,zzA,zzB,zzC,i64_w,i32_w]
    rfl
   refine pure_ (i:=33) (N:=some 41) (v:=undef) (a':=?_) #[true,true,true,true,true,true,true,true,true,true,true,true,true,true,true,true,true,true,true,true,true,true,true,true,true,true,true,true,true,true,true,true,true,true,false,false,false,false,false,false,false] rfl rfl (any_of HT_.out (by kernel_rfl)) (fun _ _ _ h=>h) (Or.inr ⟨by rfl,rfl⟩) ?_ ?_
   rotate_left
   ·simp only [Act.put,zzA,zzB,zzC,i64_w,i32_w]
    rfl
   refine pure_ (i:=34) (N:=some 42) (v:=undef) (a':=?_) #[true,true,true,true,true,true,true,true,true,true,true,true,true,true,true,true,true,true,true,true,true,true,true,true,true,true,true,true,true,true,true,true,true,true,true,false,false,false,false,false,false] rfl rfl (any_of HT_.out (by kernel_rfl)) (fun _ _ _ h=>h) (Or.inr ⟨by rfl,rfl⟩) ?_ ?_
   rotate_left
   ·simp only [Act.put,zzA,zzB,zzC,i64_w,i32_w]
    rfl
   refine pure_ (i:=35) (N:=some 43) (v:=undef) (a':=?_) #[true,true,true,true,true,true,true,true,true,true,true,true,true,true,true,true,true,true,true,true,true,true,true,true,true,true,true,true,true,true,true,true,true,true,true,true,false,false,false,false,false] rfl rfl (any_of HT_.out (by kernel_rfl)) (fun _ _ _ h=>h) (Or.inr ⟨by rfl,rfl⟩) ?_ ?_
   rotate_left
   ·simp only [Act.put,zzA,zzB,zzC,i64_w,i32_w]
    rfl
   refine pure_ (i:=36) (N:=some 44) (v:=undef) (a':=?_) #[true,true,true,true,true,true,true,true,true,true,true,true,true,true,true,true,true,true,true,true,true,true,true,true,true,true,true,true,true,true,true,true,true,true,true,true,true,false,false,false,false] rfl rfl (any_of HT_.out (by kernel_rfl)) (fun _ _ _ h=>h) (Or.inr ⟨by rfl,rfl⟩) ?_ ?_
   rotate_left
   ·simp only [Act.put,zzA,zzB,zzC,i64_w,i32_w]
    rfl
   refine pure_ (i:=37) (N:=some 45) (v:=undef) (a':=?_) #[true,true,true,true,true,true,true,true,true,true,true,true,true,true,true,true,true,true,true,true,true,true,true,true,true,true,true,true,true,true,true,true,true,true,true,true,true,true,false,false,false] rfl rfl (any_of HT_.out (by kernel_rfl)) (fun _ _ _ h=>h) (Or.inr ⟨by rfl,rfl⟩) ?_ ?_
   rotate_left
   ·simp only [Act.put,zzA,zzB,zzC,i64_w,i32_w]
    rfl
   refine pure_ (i:=38) (N:=some 46) (v:=undef) (a':=?_) #[true,true,true,true,true,true,true,true,true,true,true,true,true,true,true,true,true,true,true,true,true,true,true,true,true,true,true,true,true,true,true,true,true,true,true,true,true,true,true,false,false] rfl rfl (any_of HT_.out (by kernel_rfl)) (fun _ _ _ h=>h) (Or.inr ⟨by rfl,rfl⟩) ?_ ?_
   rotate_left
   ·simp only [Act.put,zzA,zzB,zzC,i64_w,i32_w]
    rfl
   refine pure_ (i:=39) (N:=some 47) (v:=undef) (a':=?_) #[true,true,true,true,true,true,true,true,true,true,true,true,true,true,true,true,true,true,true,true,true,true,true,true,true,true,true,true,true,true,true,true,true,true,true,true,true,true,true,true,false] rfl rfl (any_of HT_.out (by kernel_rfl)) (fun _ _ _ h=>h) (Or.inr ⟨by rfl,rfl⟩) ?_ ?_
   rotate_left
   ·simp only [Act.put,zzA,zzB,zzC,i64_w,i32_w]
    rfl
   refine pure_ (i:=40) (N:=some 48) (v:=?_) (a':=?_) #[true,true,true,true,true,true,true,true,true,true,true,true,true,true,true,true,true,true,true,true,true,true,true,true,true,true,true,true,true,true,true,true,true,true,true,true,true,true,true,true,true] rfl rfl (any_of HT_.out (by kernel_rfl)) (fun _ _ _ h=>h) (Or.inl ⟨by rfl,?_⟩) ?_ ?_
   rotate_left
   ·intro w'
    go_simp
    with_reducible rfl
   rotate_left
   ·simp only [Act.put,zzA,zzB,zzC,i64_w,i32_w]
    rfl
   refine done_ (done_of HT_.out (by kernel_rfl)) ?_
   go_wp2
   go_ret
   exact ⟨by rw [HF.out];rfl,(by repeat (first|(with_reducible first|exact HB.out|apply zzD|apply zzE|apply zzF)|exact HB.out))⟩
  ·have hq0 : decide (rd N (a : Int) = rd N (b : Int)) = true:=by simpa using hp0
   have HF:=Aside0.mk (show twinB N L S a b = (p2 && !(List.range N.length).any (tellB L S a b)) from by rw [twinB,hq0,hp1,hp2];simp)
   clear hq0
   refine start_ (n:=41) (S:=fun w'=>w'.cell? ⟨gt,0,none⟩ = some (.slice (some ad) N.length c0) ∧ w'.cell? (ad.add a) = some (.int .i64 (rd N (a : Int))) ∧ w'.cell? (ad.add b) = some (.int .i64 (rd N (b : Int)))) (ds:=[]) #[false,false,false,false,false,false,false,false,false,false,false,false,false,false,false,false,false,false,false,false,false,false,false,false,false,false,false,false,false,false,false,false,false,false,false,false,false,false,false,false,false] (by kernel_rfl) rfl rfl ⟨(HS.out _ T0.out).1,(HS.out _ T0.out).2.1,(HS.out _ T0.out).2.2.1⟩ (fun hHeld=>?_)
   refine with_tabW tw.tab1 tw.bits1 (fun HT_ HW_=>?_)
   refine pure_ (i:=0) (N:=some 8) (v:=?_) (a':=?_) #[true,false,false,false,false,false,false,false,false,false,false,false,false,false,false,false,false,false,false,false,false,false,false,false,false,false,false,false,false,false,false,false,false,false,false,false,false,false,false,false,false] rfl rfl (any_of HT_.out (by kernel_rfl)) (fun _ _ _ h=>h) (Or.inl ⟨by rfl,?_⟩) ?_ ?_
   rotate_left
   ·intro w'
    go_simp
    with_reducible rfl
   rotate_left
   ·simp only [Act.put,zzA,zzB,zzC,i64_w,i32_w]
    rfl
   refine pure_ (i:=1) (N:=some 9) (v:=?_) (a':=?_) #[true,true,false,false,false,false,false,false,false,false,false,false,false,false,false,false,false,false,false,false,false,false,false,false,false,false,false,false,false,false,false,false,false,false,false,false,false,false,false,false,false] rfl rfl (any_of HT_.out (by kernel_rfl)) (fun _ _ _ h=>h) (Or.inl ⟨by rfl,?_⟩) ?_ ?_
   rotate_left
   ·intro w'
    go_simp
    with_reducible rfl
   rotate_left
   ·simp only [Act.put,zzA,zzB,zzC,i64_w,i32_w]
    rfl
   refine pure_ (i:=2) (N:=some 10) (v:=?_) (a':=?_) #[true,true,true,false,false,false,false,false,false,false,false,false,false,false,false,false,false,false,false,false,false,false,false,false,false,false,false,false,false,false,false,false,false,false,false,false,false,false,false,false,false] rfl rfl (any_of HT_.out (by kernel_rfl)) (fun _ _ _ h=>h) (Or.inl ⟨by rfl,?_⟩) ?_ ?_
   rotate_left
   ·intro w'
    go_simp
    with_reducible rfl
   rotate_left
   ·simp only [Act.put,zzA,zzB,zzC,i64_w,i32_w]
    rfl
   refine pure_ (i:=3) (N:=some 11) (v:=?_) (a':=?_) #[true,true,true,true,false,false,false,false,false,false,false,false,false,false,false,false,false,false,false,false,false,false,false,false,false,false,false,false,false,false,false,false,false,false,false,false,false,false,false,false,false] rfl rfl (any_of HT_.out (by kernel_rfl)) (fun _ _ _ h=>h) (Or.inl ⟨by rfl,?_⟩) ?_ ?_
   rotate_left
   ·intro w'
    go_simp
    with_reducible rfl
   rotate_left
   ·simp only [Act.put,zzA,zzB,zzC,i64_w,i32_w]
    rfl
   refine pure_ (i:=5) (N:=some 13) (v:=?_) (a':=?_) #[true,true,true,true,false,true,false,false,false,false,false,false,false,false,false,false,false,false,false,false,false,false,false,false,false,false,false,false,false,false,false,false,false,false,false,false,false,false,false,false,false] rfl rfl (any_of HT_.out (by kernel_rfl)) (fun _ _ _ h=>h) (Or.inl ⟨by rfl,?_⟩) ?_ ?_
   rotate_left
   ·intro w'
    go_simp
    with_reducible rfl
   rotate_left
   ·simp only [Act.put,zzA,zzB,zzC,i64_w,i32_w]
    rfl
   refine pure_ (i:=8) (N:=some 16) (v:=?_) (a':=?_) #[true,true,true,true,false,true,false,false,true,false,false,false,false,false,false,false,false,false,false,false,false,false,false,false,false,false,false,false,false,false,false,false,false,false,false,false,false,false,false,false,false] rfl rfl (any_of HT_.out (by kernel_rfl)) (fun _ _ _ h=>h) (Or.inl ⟨by rfl,?_⟩) ?_ ?_
   rotate_left
   ·intro w'
    go_simp
    with_reducible rfl
   rotate_left
   ·simp only [Act.put,zzA,zzB,zzC,i64_w,i32_w]
    rfl
   refine pure_ (i:=9) (N:=some 17) (v:=?_) (a':=?_) #[true,true,true,true,false,true,false,false,true,true,false,false,false,false,false,false,false,false,false,false,false,false,false,false,false,false,false,false,false,false,false,false,false,false,false,false,false,false,false,false,false] rfl rfl (any_of HT_.out (by kernel_rfl)) (fun _ _ _ h=>h) (Or.inl ⟨by rfl,?_⟩) ?_ ?_
   rotate_left
   ·intro w'
    go_simp
    with_reducible rfl
   rotate_left
   ·simp only [Act.put,zzA,zzB,zzC,i64_w,i32_w]
    rfl
   refine pure_ (i:=10) (N:=some 18) (v:=?_) (a':=?_) #[true,true,true,true,false,true,false,false,true,true,true,false,false,false,false,false,false,false,false,false,false,false,false,false,false,false,false,false,false,false,false,false,false,false,false,false,false,false,false,false,false] rfl rfl (any_of HT_.out (by kernel_rfl)) (fun _ _ _ h=>h) (Or.inl ⟨by rfl,?_⟩) ?_ ?_
   rotate_left
   ·intro w'
    go_simp
    with_reducible rfl
   rotate_left
   ·simp only [Act.put,zzA,zzB,zzC,i64_w,i32_w]
    rfl
   refine pure_ (i:=11) (N:=some 19) (v:=?_) (a':=?_) #[true,true,true,true,false,true,false,false,true,true,true,true,false,false,false,false,false,false,false,false,false,false,false,false,false,false,false,false,false,false,false,false,false,false,false,false,false,false,false,false,false] rfl rfl (any_of HT_.out (by kernel_rfl)) (fun _ _ _ h=>h) (Or.inl ⟨by rfl,?_⟩) ?_ ?_
   rotate_left
   ·intro w'
    go_simp
    with_reducible rfl
   rotate_left
   ·simp only [Act.put,zzA,zzB,zzC,i64_w,i32_w]
    rfl
   refine pure_ (i:=13) (N:=some 21) (v:=?_) (a':=?_) #[true,true,true,true,false,true,false,false,true,true,true,true,false,true,false,false,false,false,false,false,false,false,false,false,false,false,false,false,false,false,false,false,false,false,false,false,false,false,false,false,false] rfl rfl (any_of HT_.out (by kernel_rfl)) (fun _ _ _ h=>h) (Or.inl ⟨by rfl,?_⟩) ?_ ?_
   rotate_left
   ·intro w'
    go_simp
    with_reducible rfl
   rotate_left
   ·simp only [Act.put,zzA,zzB,zzC,i64_w,i32_w]
    rfl
   refine take_ (i:=4) (N:=some 12) (v:=?_) (a':=?_) #[true,true,true,true,true,true,false,false,true,true,true,true,false,true,false,false,false,false,false,false,false,false,false,false,false,false,false,false,false,false,false,false,false,false,false,false,false,false,false,false,false] rfl rfl (take_ofW HT_.out HW_.out (by kernel_rfl)) (fun _ _ _ h=>h) (Or.inl ⟨by rfl,?_⟩) hHeld ?_ ?_
   rotate_left
   ·rintro w' ⟨s0,s1,s2⟩
    go_simp
    with_reducible rfl
   rotate_left
   ·simp only [Act.put,zzA,zzB,zzC,i64_w,i32_w]
    rfl
   refine pure_ (i:=6) (N:=some 14) (v:=?_) (a':=?_) #[true,true,true,true,true,true,true,false,true,true,true,true,false,true,false,false,false,false,false,false,false,false,false,false,false,false,false,false,false,false,false,false,false,false,false,false,false,false,false,false,false] rfl rfl (any_of HT_.out (by kernel_rfl)) (fun _ _ _ h=>h) (Or.inl ⟨by rfl,?_⟩) ?_ ?_
   rotate_left
   ·intro w'
    go_simp
    with_reducible rfl
   rotate_left
   ·simp only [Act.put,zzA,zzB,zzC,i64_w,i32_w]
    rfl
   refine take_ (i:=7) (N:=some 15) (v:=?_) (a':=?_) #[true,true,true,true,true,true,true,true,true,true,true,true,false,true,false,false,false,false,false,false,false,false,false,false,false,false,false,false,false,false,false,false,false,false,false,false,false,false,false,false,false] rfl rfl (take_ofW HT_.out HW_.out (by kernel_rfl)) (fun _ _ _ h=>h) (Or.inl ⟨by rfl,?_⟩) hHeld ?_ ?_
   rotate_left
   ·rintro w' ⟨s0,s1,s2⟩
    go_simp
    with_reducible rfl
   rotate_left
   ·simp only [Act.put,zzA,zzB,zzC,i64_w,i32_w]
    rfl
   refine take_ (i:=12) (N:=some 20) (v:=?_) (a':=?_) #[true,true,true,true,true,true,true,true,true,true,true,true,true,true,false,false,false,false,false,false,false,false,false,false,false,false,false,false,false,false,false,false,false,false,false,false,false,false,false,false,false] rfl rfl (take_ofW HT_.out HW_.out (by kernel_rfl)) (fun _ _ _ h=>h) (Or.inl ⟨by rfl,?_⟩) hHeld ?_ ?_
   rotate_left
   ·rintro w' ⟨s0,s1,s2⟩
    go_simp
    with_reducible rfl
   rotate_left
   ·simp only [Act.put,zzA,zzB,zzC,i64_w,i32_w]
    rfl
   refine pure_ (i:=14) (N:=some 22) (v:=?_) (a':=?_) #[true,true,true,true,true,true,true,true,true,true,true,true,true,true,true,false,false,false,false,false,false,false,false,false,false,false,false,false,false,false,false,false,false,false,false,false,false,false,false,false,false] rfl rfl (any_of HT_.out (by kernel_rfl)) (fun _ _ _ h=>h) (Or.inl ⟨by rfl,?_⟩) ?_ ?_
   rotate_left
   ·intro w'
    go_simp
    with_reducible rfl
   rotate_left
   ·simp only [Act.put,zzA,zzB,zzC,i64_w,i32_w]
    rfl
   refine take_ (i:=15) (N:=some 23) (v:=?_) (a':=?_) #[true,true,true,true,true,true,true,true,true,true,true,true,true,true,true,true,false,false,false,false,false,false,false,false,false,false,false,false,false,false,false,false,false,false,false,false,false,false,false,false,false] rfl rfl (take_ofW HT_.out HW_.out (by kernel_rfl)) (fun _ _ _ h=>h) (Or.inl ⟨by rfl,?_⟩) hHeld ?_ ?_
   rotate_left
   ·rintro w' ⟨s0,s1,s2⟩
    go_simp
    with_reducible rfl
   rotate_left
   ·simp only [Act.put,zzA,zzB,zzC,i64_w,i32_w]
    rfl
   refine pure_ (i:=16) (N:=some 24) (v:=?_) (a':=?_) #[true,true,true,true,true,true,true,true,true,true,true,true,true,true,true,true,true,false,false,false,false,false,false,false,false,false,false,false,false,false,false,false,false,false,false,false,false,false,false,false,false] rfl rfl (any_of HT_.out (by kernel_rfl)) (fun _ _ _ h=>h) (Or.inl ⟨by rfl,?_⟩) ?_ ?_
   rotate_left
   ·intro w'
    go_simp
    with_reducible rfl
   rotate_left
   ·simp only [Act.put,zzA,zzB,zzC,i64_w,i32_w]
    rfl
   refine pure_ (i:=17) (N:=some 25) (v:=?_) (a':=?_) #[true,true,true,true,true,true,true,true,true,true,true,true,true,true,true,true,true,true,false,false,false,false,false,false,false,false,false,false,false,false,false,false,false,false,false,false,false,false,false,false,false] rfl rfl (any_of HT_.out (by kernel_rfl)) (fun _ _ _ h=>h) (Or.inl ⟨by rfl,?_⟩) ?_ ?_
   rotate_left
   ·intro w'
    go_simp
    with_reducible rfl
   rotate_left
   ·simp only [Act.put,zzA,zzB,zzC,i64_w,i32_w]
    rfl
   refine pure_ (i:=18) (N:=some 26) (v:=?_) (a':=?_) #[true,true,true,true,true,true,true,true,true,true,true,true,true,true,true,true,true,true,true,false,false,false,false,false,false,false,false,false,false,false,false,false,false,false,false,false,false,false,false,false,false] rfl rfl (any_of HT_.out (by kernel_rfl)) (fun _ _ _ h=>h) (Or.inl ⟨by rfl,?_⟩) ?_ ?_
   rotate_left
   ·intro w'
    go_simp
    with_reducible rfl
   rotate_left
   ·simp only [Act.put,zzA,zzB,zzC,i64_w,i32_w]
    rfl
   refine pure_ (i:=19) (N:=some 27) (v:=?_) (a':=?_) #[true,true,true,true,true,true,true,true,true,true,true,true,true,true,true,true,true,true,true,true,false,false,false,false,false,false,false,false,false,false,false,false,false,false,false,false,false,false,false,false,false] rfl rfl (any_of HT_.out (by kernel_rfl)) (fun _ _ _ h=>h) (Or.inl ⟨by rfl,?_⟩) ?_ ?_
   rotate_left
   ·intro w'
    go_simp
    with_reducible rfl
   rotate_left
   ·simp only [Act.put,zzA,zzB,zzC,i64_w,i32_w]
    rfl
   refine pure_ (i:=20) (N:=some 28) (v:=?_) (a':=?_) #[true,true,true,true,true,true,true,true,true,true,true,true,true,true,true,true,true,true,true,true,true,false,false,false,false,false,false,false,false,false,false,false,false,false,false,false,false,false,false,false,false] rfl rfl (any_of HT_.out (by kernel_rfl)) (fun _ _ _ h=>h) (Or.inl ⟨by rfl,?_⟩) ?_ ?_
   rotate_left
   ·intro w'
    go_simp
    with_reducible rfl
   rotate_left
   ·simp only [Act.put,zzA,zzB,zzC,i64_w,i32_w]
    rfl
   refine pure_ (i:=22) (N:=some 30) (v:=?_) (a':=?_) #[true,true,true,true,true,true,true,true,true,true,true,true,true,true,true,true,true,true,true,true,true,false,true,false,false,false,false,false,false,false,false,false,false,false,false,false,false,false,false,false,false] rfl rfl (any_of HT_.out (by kernel_rfl)) (fun _ _ _ h=>h) (Or.inl ⟨by rfl,?_⟩) ?_ ?_
   rotate_left
   ·intro w'
    go_simp
    with_reducible rfl
   rotate_left
   ·simp only [Act.put,zzA,zzB,zzC,i64_w,i32_w]
    rfl
   refine pure_ (i:=23) (N:=some 31) (v:=?_) (a':=?_) #[true,true,true,true,true,true,true,true,true,true,true,true,true,true,true,true,true,true,true,true,true,false,true,true,false,false,false,false,false,false,false,false,false,false,false,false,false,false,false,false,false] rfl rfl (any_of HT_.out (by kernel_rfl)) (fun _ _ _ h=>h) (Or.inl ⟨by rfl,?_⟩) ?_ ?_
   rotate_left
   ·intro w'
    go_simp
    with_reducible rfl
   rotate_left
   ·simp only [Act.put,zzA,zzB,zzC,i64_w,i32_w]
    rfl
   refine pure_ (i:=24) (N:=some 32) (v:=?_) (a':=?_) #[true,true,true,true,true,true,true,true,true,true,true,true,true,true,true,true,true,true,true,true,true,false,true,true,true,false,false,false,false,false,false,false,false,false,false,false,false,false,false,false,false] rfl rfl (any_of HT_.out (by kernel_rfl)) (fun _ _ _ h=>h) (Or.inl ⟨by rfl,?_⟩) ?_ ?_
   rotate_left
   ·intro w'
    go_simp
    with_reducible rfl
   rotate_left
   ·simp only [Act.put,zzA,zzB,zzC,i64_w,i32_w]
    rfl
   refine one_ (i:=21) (N:=some 29) #[true,true,true,true,true,true,true,true,true,true,true,true,true,true,true,true,true,true,true,true,true,true,true,true,true,false,false,false,false,false,false,false,false,false,false,false,false,false,false,false,false] rfl rfl (one_of HT_.out (by kernel_rfl)) (by decide) (fun K hK=>?_)
   refine goes_ Try.func81 (by kernel_rfl) rfl #[.pointer (some ⟨gt,0,none⟩),.int .i64 (a : Int),.int .i64 (a : Int)] (by rfl) rfl rfl (by simp only [List.map_toArray,List.map_cons,List.map_nil];rfl) ?_
   with_reducible refine (T0.out.types ha ha).mono ?_
   rintro e w1 ⟨v1,rfl,o1,b1⟩
   refine ⟨_,rfl,?_⟩
   have T1:=Aside0.mk (T0.out.below b1)
   have N_:=Aside0.mk (below_step HB.out b1)
   clear HB
   have HB:=N_
   clear N_
   have O1:=Aside0.mk o1
   clear o1 b1
   refine hK.out _ _ ⟨(HS.out _ T1.out).1,(HS.out _ T1.out).2.1,(HS.out _ T1.out).2.2.1⟩ (fun hHeld=>?_)
   clear hK K
   refine norm_ (a':=?_) ?_ ?_
   rotate_left
   ·show Act.put _ (some 29) _ = _
    simp only [Act.put,zzA,zzB,zzC,i64_w,i32_w]
    rfl
   refine one_ (i:=25) (N:=some 33) #[true,true,true,true,true,true,true,true,true,true,true,true,true,true,true,true,true,true,true,true,true,true,true,true,true,true,false,false,false,false,false,false,false,false,false,false,false,false,false,false,false] rfl rfl (one_of HT_.out (by kernel_rfl)) (by decide) (fun K hK=>?_)
   refine goes_ Try.func81 (by kernel_rfl) rfl #[.pointer (some ⟨gt,0,none⟩),.int .i64 (b : Int),.int .i64 (b : Int)] (by rfl) rfl rfl (by simp only [List.map_toArray,List.map_cons,List.map_nil];rfl) ?_
   with_reducible refine (T1.out.types hb hb).mono ?_
   rintro e w2 ⟨v2,rfl,o2,b2⟩
   refine ⟨_,rfl,?_⟩
   have T2:=Aside0.mk (T1.out.below b2)
   have N_:=Aside0.mk (below_step HB.out b2)
   clear HB
   have HB:=N_
   clear N_
   have O2:=Aside0.mk o2
   have O1n:=Aside0.mk (Kd.R_below O1.out b2)
   obtain ⟨A1_,c1_,e1_⟩:=Kd.R_slice O1n.out
   obtain ⟨A2_,c2_,e2_⟩:=Kd.R_slice O2.out
   subst e1_
   subst e2_
   clear o2 b2
   refine hK.out _ _ ⟨(HS.out _ T2.out).1,(HS.out _ T2.out).2.1,(HS.out _ T2.out).2.2.1⟩ (fun hHeld=>?_)
   clear hK K
   refine norm_ (a':=?_) ?_ ?_
   rotate_left
   ·show Act.put _ (some 33) _ = _
    simp only [Act.put,zzA,zzB,zzC,i64_w,i32_w]
    rfl
   refine one_ (i:=26) (N:=some 34) #[true,true,true,true,true,true,true,true,true,true,true,true,true,true,true,true,true,true,true,true,true,true,true,true,true,true,true,false,false,false,false,false,false,false,false,false,false,false,false,false,false] rfl rfl (one_of HT_.out (by kernel_rfl)) (by decide) (fun K hK=>?_)
   refine goes_ Try.func16 (by kernel_rfl) rfl #[.slice A1_ _ c1_,.slice A2_ _ c2_] (by rfl) rfl rfl (by simp only [List.map_toArray,List.map_cons,List.map_nil];rfl) ?_
   refine (equal_c (Kd.R_reads' O1n.out).2.2 (Kd.R_reads' O1n.out).2.1 (Kd.R_reads' O2.out).2.2 (Kd.R_reads' O2.out).2.1 la).mono ?_
   rw [hp1]
   rintro e w_ ⟨rfl,⟨nd,rfl⟩⟩
   refine ⟨_,rfl,?_⟩
   have N_:=Aside0.mk (T2.out.below (zzE (Below.refl _ _) nd))
   clear T2
   have T2:=N_
   clear N_
   have N_:=Aside0.mk (zzE HB.out nd)
   clear HB
   have HB:=N_
   clear N_
   refine hK.out _ _ ⟨(HS.out _ T2.out).1,(HS.out _ T2.out).2.1,(HS.out _ T2.out).2.2.1⟩ (fun hHeld=>?_)
   clear hK K
   refine norm_ (a':=?_) ?_ ?_
   rotate_left
   ·show Act.put _ (some 34) _ = _
    simp only [Act.put,zzA,zzB,zzC,i64_w,i32_w]
    rfl
   refine pure_ (i:=27) (N:=some 35) (v:=?_) (a':=?_) #[true,true,true,true,true,true,true,true,true,true,true,true,true,true,true,true,true,true,true,true,true,true,true,true,true,true,true,true,false,false,false,false,false,false,false,false,false,false,false,false,false] rfl rfl (any_of HT_.out (by kernel_rfl)) (fun _ _ _ h=>h) (Or.inl ⟨by rfl,?_⟩) ?_ ?_
   rotate_left
   ·intro w'
    go_simp
    with_reducible rfl
   rotate_left
   ·simp only [Act.put,zzA,zzB,zzC,i64_w,i32_w]
    rfl
   refine pure_ (i:=28) (N:=some 36) (v:=?_) (a':=?_) #[true,true,true,true,true,true,true,true,true,true,true,true,true,true,true,true,true,true,true,true,true,true,true,true,true,true,true,true,true,false,false,false,false,false,false,false,false,false,false,false,false] rfl rfl (any_of HT_.out (by kernel_rfl)) (fun _ _ _ h=>h) (Or.inl ⟨by rfl,?_⟩) ?_ ?_
   rotate_left
   ·intro w'
    go_simp
    with_reducible rfl
   rotate_left
   ·simp only [Act.put,zzA,zzB,zzC,i64_w,i32_w]
    rfl
   refine pure_ (i:=29) (N:=some 37) (v:=?_) (a':=?_) #[true,true,true,true,true,true,true,true,true,true,true,true,true,true,true,true,true,true,true,true,true,true,true,true,true,true,true,true,true,true,false,false,false,false,false,false,false,false,false,false,false] rfl rfl (any_of HT_.out (by kernel_rfl)) (fun _ _ _ h=>h) (Or.inl ⟨by rfl,?_⟩) ?_ ?_
   rotate_left
   ·intro w'
    go_simp
    with_reducible rfl
   rotate_left
   ·simp only [Act.put,zzA,zzB,zzC,i64_w,i32_w]
    rfl
   refine pure_ (i:=30) (N:=some 38) (v:=?_) (a':=?_) #[true,true,true,true,true,true,true,true,true,true,true,true,true,true,true,true,true,true,true,true,true,true,true,true,true,true,true,true,true,true,true,false,false,false,false,false,false,false,false,false,false] rfl rfl (any_of HT_.out (by kernel_rfl)) (fun _ _ _ h=>h) (Or.inl ⟨by rfl,?_⟩) ?_ ?_
   rotate_left
   ·intro w'
    go_simp
    with_reducible rfl
   rotate_left
   ·simp only [Act.put,zzA,zzB,zzC,i64_w,i32_w]
    rfl
   refine pure_ (i:=31) (N:=some 39) (v:=?_) (a':=?_) #[true,true,true,true,true,true,true,true,true,true,true,true,true,true,true,true,true,true,true,true,true,true,true,true,true,true,true,true,true,true,true,true,false,false,false,false,false,false,false,false,false] rfl rfl (any_of HT_.out (by kernel_rfl)) (fun _ _ _ h=>h) (Or.inl ⟨by rfl,?_⟩) ?_ ?_
   rotate_left
   ·intro w'
    go_simp
    with_reducible rfl
   rotate_left
   ·simp only [Act.put,zzA,zzB,zzC,i64_w,i32_w]
    rfl
   refine pure_ (i:=32) (N:=some 40) (v:=?_) (a':=?_) #[true,true,true,true,true,true,true,true,true,true,true,true,true,true,true,true,true,true,true,true,true,true,true,true,true,true,true,true,true,true,true,true,true,false,false,false,false,false,false,false,false] rfl rfl (any_of HT_.out (by kernel_rfl)) (fun _ _ _ h=>h) (Or.inl ⟨by rfl,?_⟩) ?_ ?_
   rotate_left
   ·intro w'
    go_simp
    with_reducible rfl
   rotate_left
   ·simp only [Act.put,zzA,zzB,zzC,i64_w,i32_w]
    rfl
   refine pure_ (i:=34) (N:=some 42) (v:=?_) (a':=?_) #[true,true,true,true,true,true,true,true,true,true,true,true,true,true,true,true,true,true,true,true,true,true,true,true,true,true,true,true,true,true,true,true,true,false,true,false,false,false,false,false,false] rfl rfl (any_of HT_.out (by kernel_rfl)) (fun _ _ _ h=>h) (Or.inl ⟨by rfl,?_⟩) ?_ ?_
   rotate_left
   ·intro w'
    go_simp
    with_reducible rfl
   rotate_left
   ·simp only [Act.put,zzA,zzB,zzC,i64_w,i32_w]
    rfl
   refine pure_ (i:=35) (N:=some 43) (v:=?_) (a':=?_) #[true,true,true,true,true,true,true,true,true,true,true,true,true,true,true,true,true,true,true,true,true,true,true,true,true,true,true,true,true,true,true,true,true,false,true,true,false,false,false,false,false] rfl rfl (any_of HT_.out (by kernel_rfl)) (fun _ _ _ h=>h) (Or.inl ⟨by rfl,?_⟩) ?_ ?_
   rotate_left
   ·intro w'
    go_simp
    with_reducible rfl
   rotate_left
   ·simp only [Act.put,zzA,zzB,zzC,i64_w,i32_w]
    rfl
   refine pure_ (i:=36) (N:=some 44) (v:=?_) (a':=?_) #[true,true,true,true,true,true,true,true,true,true,true,true,true,true,true,true,true,true,true,true,true,true,true,true,true,true,true,true,true,true,true,true,true,false,true,true,true,false,false,false,false] rfl rfl (any_of HT_.out (by kernel_rfl)) (fun _ _ _ h=>h) (Or.inl ⟨by rfl,?_⟩) ?_ ?_
   rotate_left
   ·intro w'
    go_simp
    with_reducible rfl
   rotate_left
   ·simp only [Act.put,zzA,zzB,zzC,i64_w,i32_w]
    rfl
   refine one_ (i:=33) (N:=some 41) #[true,true,true,true,true,true,true,true,true,true,true,true,true,true,true,true,true,true,true,true,true,true,true,true,true,true,true,true,true,true,true,true,true,true,true,true,true,false,false,false,false] rfl rfl (one_of HT_.out (by kernel_rfl)) (by decide) (fun K hK=>?_)
   refine goes_ Try.func81 (by kernel_rfl) rfl #[.pointer (some ⟨gt,0,none⟩),.int .i64 (a : Int),.int .i64 (b : Int)] (by rfl) rfl rfl (by simp only [List.map_toArray,List.map_cons,List.map_nil];rfl) ?_
   with_reducible refine (T2.out.types ha hb).mono ?_
   rintro e w3 ⟨v3,rfl,o3,b3⟩
   refine ⟨_,rfl,?_⟩
   have T3:=Aside0.mk (T2.out.below b3)
   have N_:=Aside0.mk (below_step HB.out b3)
   clear HB
   have HB:=N_
   clear N_
   have O3:=Aside0.mk o3
   clear o3 b3
   refine hK.out _ _ ⟨(HS.out _ T3.out).1,(HS.out _ T3.out).2.1,(HS.out _ T3.out).2.2.1⟩ (fun hHeld=>?_)
   clear hK K
   refine norm_ (a':=?_) ?_ ?_
   rotate_left
   ·show Act.put _ (some 41) _ = _
    simp only [Act.put,zzA,zzB,zzC,i64_w,i32_w]
    rfl
   refine one_ (i:=37) (N:=some 45) #[true,true,true,true,true,true,true,true,true,true,true,true,true,true,true,true,true,true,true,true,true,true,true,true,true,true,true,true,true,true,true,true,true,true,true,true,true,true,false,false,false] rfl rfl (one_of HT_.out (by kernel_rfl)) (by decide) (fun K hK=>?_)
   refine goes_ Try.func81 (by kernel_rfl) rfl #[.pointer (some ⟨gt,0,none⟩),.int .i64 (b : Int),.int .i64 (a : Int)] (by rfl) rfl rfl (by simp only [List.map_toArray,List.map_cons,List.map_nil];rfl) ?_
   with_reducible refine (T3.out.types hb ha).mono ?_
   rintro e w4 ⟨v4,rfl,o4,b4⟩
   refine ⟨_,rfl,?_⟩
   have T4:=Aside0.mk (T3.out.below b4)
   have N_:=Aside0.mk (below_step HB.out b4)
   clear HB
   have HB:=N_
   clear N_
   have O4:=Aside0.mk o4
   have O3n:=Aside0.mk (Kd.R_below O3.out b4)
   obtain ⟨A3_,c3_,e3_⟩:=Kd.R_slice O3n.out
   obtain ⟨A4_,c4_,e4_⟩:=Kd.R_slice O4.out
   subst e3_
   subst e4_
   clear o4 b4
   refine hK.out _ _ ⟨(HS.out _ T4.out).1,(HS.out _ T4.out).2.1,(HS.out _ T4.out).2.2.1⟩ (fun hHeld=>?_)
   clear hK K
   refine norm_ (a':=?_) ?_ ?_
   rotate_left
   ·show Act.put _ (some 45) _ = _
    simp only [Act.put,zzA,zzB,zzC,i64_w,i32_w]
    rfl
   refine one_ (i:=38) (N:=some 46) #[true,true,true,true,true,true,true,true,true,true,true,true,true,true,true,true,true,true,true,true,true,true,true,true,true,true,true,true,true,true,true,true,true,true,true,true,true,true,true,false,false] rfl rfl (one_of HT_.out (by kernel_rfl)) (by decide) (fun K hK=>?_)
   refine goes_ Try.func16 (by kernel_rfl) rfl #[.slice A3_ _ c3_,.slice A4_ _ c4_] (by rfl) rfl rfl (by simp only [List.map_toArray,List.map_cons,List.map_nil];rfl) ?_
   refine (equal_c (Kd.R_reads' O3n.out).2.2 (Kd.R_reads' O3n.out).2.1 (Kd.R_reads' O4.out).2.2 (Kd.R_reads' O4.out).2.1 lab).mono ?_
   rw [hp2]
   rintro e w_ ⟨rfl,⟨nd,rfl⟩⟩
   refine ⟨_,rfl,?_⟩
   have N_:=Aside0.mk (T4.out.below (zzE (Below.refl _ _) nd))
   clear T4
   have T4:=N_
   clear N_
   have N_:=Aside0.mk (zzE HB.out nd)
   clear HB
   have HB:=N_
   clear N_
   refine hK.out _ _ ⟨(HS.out _ T4.out).1,(HS.out _ T4.out).2.1,(HS.out _ T4.out).2.2.1⟩ (fun hHeld=>?_)
   clear hK K
   refine norm_ (a':=?_) ?_ ?_
   rotate_left
   ·show Act.put _ (some 46) _ = _
    simp only [Act.put,zzA,zzB,zzC,i64_w,i32_w]
    rfl
   refine pure_ (i:=39) (N:=some 47) (v:=?_) (a':=?_) #[true,true,true,true,true,true,true,true,true,true,true,true,true,true,true,true,true,true,true,true,true,true,true,true,true,true,true,true,true,true,true,true,true,true,true,true,true,true,true,true,false] rfl rfl (any_of HT_.out (by kernel_rfl)) (fun _ _ _ h=>h) (Or.inl ⟨by rfl,?_⟩) ?_ ?_
   rotate_left
   ·intro w'
    go_simp
    with_reducible rfl
   rotate_left
   ·simp only [Act.put,zzA,zzB,zzC,i64_w,i32_w]
    rfl
   refine pure_ (i:=40) (N:=some 48) (v:=?_) (a':=?_) #[true,true,true,true,true,true,true,true,true,true,true,true,true,true,true,true,true,true,true,true,true,true,true,true,true,true,true,true,true,true,true,true,true,true,true,true,true,true,true,true,true] rfl rfl (any_of HT_.out (by kernel_rfl)) (fun _ _ _ h=>h) (Or.inl ⟨by rfl,?_⟩) ?_ ?_
   rotate_left
   ·intro w'
    go_simp
    with_reducible rfl
   rotate_left
   ·simp only [Act.put,zzA,zzB,zzC,i64_w,i32_w]
    rfl
   refine done_ (done_of HT_.out (by kernel_rfl)) ?_
   cases p2
   ·go_wp2
    go_ret
    exact ⟨by rw [HF.out];rfl,(by repeat (first|(with_reducible first|exact HB.out|apply zzD|apply zzE|apply zzF)|exact HB.out))⟩
   ·have hct:=(HS.out _ T4.out).1
    clear T0 T1 T2 T3 O1 O1n O2 O3 O3n O4 hp0 hp1 hp2
    go_wp2
    go_loopw [55] (fun v wr=>∃ c : Nat,c ≤ N.length ∧ v = .int .i64 (c : Int) ∧ Aside0 (∀ d,d < c → tellB L S a b d = false) ∧ Aside0 (Tab wr gt (some ad) c0 N A1 c1 L gR S) ∧ Aside0 (Below w.heap.size w wr)) (fun v _=>N.length - (intOf v).toNat)
    case atStart=>exact ⟨0,by omega,rfl,⟨fun d hd=>by omega⟩,T4,HB⟩
    case round =>
     clear T4 HB hct
     obtain ⟨c,hcn,rfl,HA,TB,HB⟩:=hrel
     by_cases hc : c < N.length
     ·have k1 : decide ((c : Int) < (N.length : Int)) = true:=decide_eq_true (by omega)
      have k1' : decide (c < N.length) = true:=decide_eq_true hc
      have hnx : ∀ b',tellB L S a b c = b' → b' = false → Aside0 (∀ d,d < c + 1 → tellB L S a b d = false):=fun b' h1 h2=>⟨fun d hd=>by
       by_cases hdc : d = c
       ·rw [hdc,h1,h2]
       ·exact HA.out d (by omega)⟩
      have HNX:=Aside0.mk hnx
      have hbN : N.length ≤ 999:=TB.out.bN
      clear hnx
      by_cases h1 : c = a
      ·have e1 : ((c : Int) != (a : Int)) = false:=by rw [h1];simp
       have HA':=HNX.out _ rfl (by unfold tellB;simp [h1])
       clear h1
       go_wp2
       go_roundw
       case rel=>exact ⟨c + 1,by omega,by first|rfl|simp,HA',TB,HB⟩
       case measure=>show N.length - ((c : Int) + 1).toNat < N.length - ((c : Nat) : Int).toNat;omega
      ·have e1 : ((c : Int) != (a : Int)) = true:=by simp;omega
       by_cases h2 : c = b
       ·have e2 : ((c : Int) != (b : Int)) = false:=by rw [h2];simp
        have HA':=HNX.out _ rfl (by unfold tellB;simp [h2])
        clear h2
        go_wp2
        go_roundw
        case rel=>exact ⟨c + 1,by omega,by first|rfl|simp,HA',TB,HB⟩
        case measure=>show N.length - ((c : Int) + 1).toNat < N.length - ((c : Nat) : Int).toNat;omega
       ·have e2 : ((c : Int) != (b : Int)) = true:=by simp;omega
        have lac:=Nat.le_trans (types_len TB.out.fits ha hc) (show 101 ≤ 1000000 by omega)
        have lca:=Nat.le_trans (types_len TB.out.fits hc ha) (show 101 ≤ 1000000 by omega)
        obtain ⟨q1,hq1⟩ : ∃ q1,decide (typesS L S a c = typesS L S b c) = q1:=⟨_,rfl⟩
        obtain ⟨q2,hq2⟩ : ∃ q2,decide (typesS L S c a = typesS L S c b) = q2:=⟨_,rfl⟩
        have ht : tellB L S a b c = (!q1 || !q2):=by
         unfold tellB
         rw [hq1,hq2,decide_eq_true h1,decide_eq_true h2];rfl
        have HT:=Aside0.mk ht
        clear ht
        have hany : tellB L S a b c = true → twinB N L S a b = false:=fun h=>by
         have : (List.range N.length).any (tellB L S a b) = true:=List.any_eq_true.mpr ⟨c,List.mem_range.2 hc,h⟩
         rw [HF.out,this];rfl
        have HY:=Aside0.mk hany
        clear hany
        have nt1 : (!true) = false:=rfl
        have nf1 : (!false) = true:=rfl
        cases q1
        ·go_wp2_with (first|(go_at_call 81;with_reducible refine (TB.out.types ha hc).mono ?_;rintro e w5 ⟨v5,rfl,o5,b5⟩;have T5:=Aside0.mk (TB.out.below b5);have N_:=Aside0.mk (below_step HB.out b5);clear HB;have HB:=N_;clear N_;have O5:=Aside0.mk o5;clear o5 b5)|(go_at_call 81;with_reducible refine (T5.out.types hb hc).mono ?_;rintro e w6 ⟨v6,rfl,o6,b6⟩;have T6:=Aside0.mk (T5.out.below b6);have N_:=Aside0.mk (below_step HB.out b6);clear HB;have HB:=N_;clear N_;have O6:=Aside0.mk o6;have O5n:=Aside0.mk (Kd.R_below O5.out b6);obtain ⟨A5_,c5_,e5_⟩:=Kd.R_slice O5n.out;obtain ⟨A6_,c6_,e6_⟩:=Kd.R_slice O6.out;subst e5_;subst e6_;clear o6 b6)|(go_at_call 16;with_reducible refine (equal_c (Kd.R_reads' O5n.out).2.2 (Kd.R_reads' O5n.out).2.1 (Kd.R_reads' O6.out).2.2 (Kd.R_reads' O6.out).2.1 lac).mono ?_;rw [hq1];rintro e w_ ⟨rfl,⟨nd,rfl⟩⟩;have N_:=Aside0.mk (T6.out.below (zzE (Below.refl _ _) nd));clear T6;have T6:=N_;clear N_;have N_:=Aside0.mk (zzE HB.out nd);clear HB;have HB:=N_;clear N_))
         go_ret
         exact ⟨by rw [HY.out (by rw [HT.out];rfl)];rfl,(by repeat (first|(with_reducible first|exact HB.out|apply zzD|apply zzE|apply zzF)|exact HB.out))⟩
        ·cases q2
         ·go_wp2_with (first|(go_at_call 81;with_reducible refine (TB.out.types ha hc).mono ?_;rintro e w5 ⟨v5,rfl,o5,b5⟩;have T5:=Aside0.mk (TB.out.below b5);have N_:=Aside0.mk (below_step HB.out b5);clear HB;have HB:=N_;clear N_;have O5:=Aside0.mk o5;clear o5 b5)|(go_at_call 81;with_reducible refine (T5.out.types hb hc).mono ?_;rintro e w6 ⟨v6,rfl,o6,b6⟩;have T6:=Aside0.mk (T5.out.below b6);have N_:=Aside0.mk (below_step HB.out b6);clear HB;have HB:=N_;clear N_;have O6:=Aside0.mk o6;have O5n:=Aside0.mk (Kd.R_below O5.out b6);obtain ⟨A5_,c5_,e5_⟩:=Kd.R_slice O5n.out;obtain ⟨A6_,c6_,e6_⟩:=Kd.R_slice O6.out;subst e5_;subst e6_;clear o6 b6)|(go_at_call 16;with_reducible refine (equal_c (Kd.R_reads' O5n.out).2.2 (Kd.R_reads' O5n.out).2.1 (Kd.R_reads' O6.out).2.2 (Kd.R_reads' O6.out).2.1 lac).mono ?_;rw [hq1];rintro e w_ ⟨rfl,⟨nd,rfl⟩⟩;have N_:=Aside0.mk (T6.out.below (zzE (Below.refl _ _) nd));clear T6;have T6:=N_;clear N_;have N_:=Aside0.mk (zzE HB.out nd);clear HB;have HB:=N_;clear N_)|(go_at_call 81;with_reducible refine (T6.out.types hc ha).mono ?_;rintro e w7 ⟨v7,rfl,o7,b7⟩;have T7:=Aside0.mk (T6.out.below b7);have N_:=Aside0.mk (below_step HB.out b7);clear HB;have HB:=N_;clear N_;have O7:=Aside0.mk o7;clear o7 b7)|(go_at_call 81;with_reducible refine (T7.out.types hc hb).mono ?_;rintro e w8 ⟨v8,rfl,o8,b8⟩;have T8:=Aside0.mk (T7.out.below b8);have N_:=Aside0.mk (below_step HB.out b8);clear HB;have HB:=N_;clear N_;have O8:=Aside0.mk o8;have O7n:=Aside0.mk (Kd.R_below O7.out b8);obtain ⟨A7_,c7_,e7_⟩:=Kd.R_slice O7n.out;obtain ⟨A8_,c8_,e8_⟩:=Kd.R_slice O8.out;subst e7_;subst e8_;clear o8 b8)|(go_at_call 16;with_reducible refine (equal_c (Kd.R_reads' O7n.out).2.2 (Kd.R_reads' O7n.out).2.1 (Kd.R_reads' O8.out).2.2 (Kd.R_reads' O8.out).2.1 lca).mono ?_;rw [hq2];rintro e w_ ⟨rfl,⟨nd,rfl⟩⟩;have N_:=Aside0.mk (T8.out.below (zzE (Below.refl _ _) nd));clear T8;have T8:=N_;clear N_;have N_:=Aside0.mk (zzE HB.out nd);clear HB;have HB:=N_;clear N_))
          go_ret
          exact ⟨by rw [HY.out (by rw [HT.out];rfl)];rfl,(by repeat (first|(with_reducible first|exact HB.out|apply zzD|apply zzE|apply zzF)|exact HB.out))⟩
         ·have HA':=HNX.out _ rfl (by rw [HT.out];rfl)
          go_wp2_with (first|(go_at_call 81;with_reducible refine (TB.out.types ha hc).mono ?_;rintro e w5 ⟨v5,rfl,o5,b5⟩;have T5:=Aside0.mk (TB.out.below b5);have N_:=Aside0.mk (below_step HB.out b5);clear HB;have HB:=N_;clear N_;have O5:=Aside0.mk o5;clear o5 b5)|(go_at_call 81;with_reducible refine (T5.out.types hb hc).mono ?_;rintro e w6 ⟨v6,rfl,o6,b6⟩;have T6:=Aside0.mk (T5.out.below b6);have N_:=Aside0.mk (below_step HB.out b6);clear HB;have HB:=N_;clear N_;have O6:=Aside0.mk o6;have O5n:=Aside0.mk (Kd.R_below O5.out b6);obtain ⟨A5_,c5_,e5_⟩:=Kd.R_slice O5n.out;obtain ⟨A6_,c6_,e6_⟩:=Kd.R_slice O6.out;subst e5_;subst e6_;clear o6 b6)|(go_at_call 16;with_reducible refine (equal_c (Kd.R_reads' O5n.out).2.2 (Kd.R_reads' O5n.out).2.1 (Kd.R_reads' O6.out).2.2 (Kd.R_reads' O6.out).2.1 lac).mono ?_;rw [hq1];rintro e w_ ⟨rfl,⟨nd,rfl⟩⟩;have N_:=Aside0.mk (T6.out.below (zzE (Below.refl _ _) nd));clear T6;have T6:=N_;clear N_;have N_:=Aside0.mk (zzE HB.out nd);clear HB;have HB:=N_;clear N_)|(go_at_call 81;with_reducible refine (T6.out.types hc ha).mono ?_;rintro e w7 ⟨v7,rfl,o7,b7⟩;have T7:=Aside0.mk (T6.out.below b7);have N_:=Aside0.mk (below_step HB.out b7);clear HB;have HB:=N_;clear N_;have O7:=Aside0.mk o7;clear o7 b7)|(go_at_call 81;with_reducible refine (T7.out.types hc hb).mono ?_;rintro e w8 ⟨v8,rfl,o8,b8⟩;have T8:=Aside0.mk (T7.out.below b8);have N_:=Aside0.mk (below_step HB.out b8);clear HB;have HB:=N_;clear N_;have O8:=Aside0.mk o8;have O7n:=Aside0.mk (Kd.R_below O7.out b8);obtain ⟨A7_,c7_,e7_⟩:=Kd.R_slice O7n.out;obtain ⟨A8_,c8_,e8_⟩:=Kd.R_slice O8.out;subst e7_;subst e8_;clear o8 b8)|(go_at_call 16;with_reducible refine (equal_c (Kd.R_reads' O7n.out).2.2 (Kd.R_reads' O7n.out).2.1 (Kd.R_reads' O8.out).2.2 (Kd.R_reads' O8.out).2.1 lca).mono ?_;rw [hq2];rintro e w_ ⟨rfl,⟨nd,rfl⟩⟩;have N_:=Aside0.mk (T8.out.below (zzE (Below.refl _ _) nd));clear T8;have T8:=N_;clear N_;have N_:=Aside0.mk (zzE HB.out nd);clear HB;have HB:=N_;clear N_))
          refine ⟨⟨_,_,_,_,_,_,_,_,_,_,_,_,_,_,_,_,_,_,_,_,_,_,_,_,_,_,_,_,_,_,_,_,_,_,_,_,_,_,?rel,rfl⟩,?measure⟩
          case rel=>exact ⟨c + 1,by omega,by first|rfl|simp,HA',T8,HB⟩
          case measure=>show N.length - ((c : Int) + 1).toNat < N.length - ((c : Nat) : Int).toNat;omega
     ·have k1 : decide ((c : Int) < (N.length : Int)) = false:=decide_eq_false (by omega)
      have k1' : decide (c < N.length) = false:=decide_eq_false hc
      obtain rfl : c = N.length:=by omega
      have hn : (List.range N.length).any (tellB L S a b) = false:=by
       rw [List.any_eq_false]
       intro d hd
       rw [HA.out d (List.mem_range.1 hd)];simp
      rw [hn] at HF
      clear hn
      go_wp2
      go_ret
      exact ⟨by rw [HF.out];rfl,HB.out⟩
 ·have HF:=Aside0.mk (show twinB N L S a b = false from by
   have : decide (rd N (a : Int) = rd N (b : Int)) = false:=by simpa using hp0
   rw [twinB,this];rfl)
  refine start_ (n:=41) (S:=fun w'=>w'.cell? ⟨gt,0,none⟩ = some (.slice (some ad) N.length c0) ∧ w'.cell? (ad.add a) = some (.int .i64 (rd N (a : Int))) ∧ w'.cell? (ad.add b) = some (.int .i64 (rd N (b : Int)))) (ds:=[]) #[false,false,false,false,false,false,false,false,false,false,false,false,false,false,false,false,false,false,false,false,false,false,false,false,false,false,false,false,false,false,false,false,false,false,false,false,false,false,false,false,false] (by kernel_rfl) rfl rfl ⟨(HS.out _ T0.out).1,(HS.out _ T0.out).2.1,(HS.out _ T0.out).2.2.1⟩ (fun hHeld=>?_)
  refine with_tabW tw.tab1 tw.bits1 (fun HT_ HW_=>?_)
  refine pure_ (i:=0) (N:=some 8) (v:=?_) (a':=?_) #[true,false,false,false,false,false,false,false,false,false,false,false,false,false,false,false,false,false,false,false,false,false,false,false,false,false,false,false,false,false,false,false,false,false,false,false,false,false,false,false,false] rfl rfl (any_of HT_.out (by kernel_rfl)) (fun _ _ _ h=>h) (Or.inl ⟨by rfl,?_⟩) ?_ ?_
  rotate_left
  ·intro w'
   go_simp
   with_reducible rfl
  rotate_left
  ·simp only [Act.put,zzA,zzB,zzC,i64_w,i32_w]
   rfl
  refine pure_ (i:=1) (N:=some 9) (v:=?_) (a':=?_) #[true,true,false,false,false,false,false,false,false,false,false,false,false,false,false,false,false,false,false,false,false,false,false,false,false,false,false,false,false,false,false,false,false,false,false,false,false,false,false,false,false] rfl rfl (any_of HT_.out (by kernel_rfl)) (fun _ _ _ h=>h) (Or.inl ⟨by rfl,?_⟩) ?_ ?_
  rotate_left
  ·intro w'
   go_simp
   with_reducible rfl
  rotate_left
  ·simp only [Act.put,zzA,zzB,zzC,i64_w,i32_w]
   rfl
  refine pure_ (i:=2) (N:=some 10) (v:=?_) (a':=?_) #[true,true,true,false,false,false,false,false,false,false,false,false,false,false,false,false,false,false,false,false,false,false,false,false,false,false,false,false,false,false,false,false,false,false,false,false,false,false,false,false,false] rfl rfl (any_of HT_.out (by kernel_rfl)) (fun _ _ _ h=>h) (Or.inl ⟨by rfl,?_⟩) ?_ ?_
  rotate_left
  ·intro w'
   go_simp
   with_reducible rfl
  rotate_left
  ·simp only [Act.put,zzA,zzB,zzC,i64_w,i32_w]
   rfl
  refine pure_ (i:=3) (N:=some 11) (v:=?_) (a':=?_) #[true,true,true,true,false,false,false,false,false,false,false,false,false,false,false,false,false,false,false,false,false,false,false,false,false,false,false,false,false,false,false,false,false,false,false,false,false,false,false,false,false] rfl rfl (any_of HT_.out (by kernel_rfl)) (fun _ _ _ h=>h) (Or.inl ⟨by rfl,?_⟩) ?_ ?_
  rotate_left
  ·intro w'
   go_simp
   with_reducible rfl
  rotate_left
  ·simp only [Act.put,zzA,zzB,zzC,i64_w,i32_w]
   rfl
  refine pure_ (i:=5) (N:=some 13) (v:=?_) (a':=?_) #[true,true,true,true,false,true,false,false,false,false,false,false,false,false,false,false,false,false,false,false,false,false,false,false,false,false,false,false,false,false,false,false,false,false,false,false,false,false,false,false,false] rfl rfl (any_of HT_.out (by kernel_rfl)) (fun _ _ _ h=>h) (Or.inl ⟨by rfl,?_⟩) ?_ ?_
  rotate_left
  ·intro w'
   go_simp
   with_reducible rfl
  rotate_left
  ·simp only [Act.put,zzA,zzB,zzC,i64_w,i32_w]
   rfl
  refine pure_ (i:=8) (N:=some 16) (v:=?_) (a':=?_) #[true,true,true,true,false,true,false,false,true,false,false,false,false,false,false,false,false,false,false,false,false,false,false,false,false,false,false,false,false,false,false,false,false,false,false,false,false,false,false,false,false] rfl rfl (any_of HT_.out (by kernel_rfl)) (fun _ _ _ h=>h) (Or.inl ⟨by rfl,?_⟩) ?_ ?_
  rotate_left
  ·intro w'
   go_simp
   with_reducible rfl
  rotate_left
  ·simp only [Act.put,zzA,zzB,zzC,i64_w,i32_w]
   rfl
  refine pure_ (i:=9) (N:=some 17) (v:=?_) (a':=?_) #[true,true,true,true,false,true,false,false,true,true,false,false,false,false,false,false,false,false,false,false,false,false,false,false,false,false,false,false,false,false,false,false,false,false,false,false,false,false,false,false,false] rfl rfl (any_of HT_.out (by kernel_rfl)) (fun _ _ _ h=>h) (Or.inl ⟨by rfl,?_⟩) ?_ ?_
  rotate_left
  ·intro w'
   go_simp
   with_reducible rfl
  rotate_left
  ·simp only [Act.put,zzA,zzB,zzC,i64_w,i32_w]
   rfl
  refine pure_ (i:=10) (N:=some 18) (v:=?_) (a':=?_) #[true,true,true,true,false,true,false,false,true,true,true,false,false,false,false,false,false,false,false,false,false,false,false,false,false,false,false,false,false,false,false,false,false,false,false,false,false,false,false,false,false] rfl rfl (any_of HT_.out (by kernel_rfl)) (fun _ _ _ h=>h) (Or.inl ⟨by rfl,?_⟩) ?_ ?_
  rotate_left
  ·intro w'
   go_simp
   with_reducible rfl
  rotate_left
  ·simp only [Act.put,zzA,zzB,zzC,i64_w,i32_w]
   rfl
  refine pure_ (i:=11) (N:=some 19) (v:=?_) (a':=?_) #[true,true,true,true,false,true,false,false,true,true,true,true,false,false,false,false,false,false,false,false,false,false,false,false,false,false,false,false,false,false,false,false,false,false,false,false,false,false,false,false,false] rfl rfl (any_of HT_.out (by kernel_rfl)) (fun _ _ _ h=>h) (Or.inl ⟨by rfl,?_⟩) ?_ ?_
  rotate_left
  ·intro w'
   go_simp
   with_reducible rfl
  rotate_left
  ·simp only [Act.put,zzA,zzB,zzC,i64_w,i32_w]
   rfl
  refine pure_ (i:=13) (N:=some 21) (v:=?_) (a':=?_) #[true,true,true,true,false,true,false,false,true,true,true,true,false,true,false,false,false,false,false,false,false,false,false,false,false,false,false,false,false,false,false,false,false,false,false,false,false,false,false,false,false] rfl rfl (any_of HT_.out (by kernel_rfl)) (fun _ _ _ h=>h) (Or.inl ⟨by rfl,?_⟩) ?_ ?_
  rotate_left
  ·intro w'
   go_simp
   with_reducible rfl
  rotate_left
  ·simp only [Act.put,zzA,zzB,zzC,i64_w,i32_w]
   rfl
  refine take_ (i:=4) (N:=some 12) (v:=?_) (a':=?_) #[true,true,true,true,true,true,false,false,true,true,true,true,false,true,false,false,false,false,false,false,false,false,false,false,false,false,false,false,false,false,false,false,false,false,false,false,false,false,false,false,false] rfl rfl (take_ofW HT_.out HW_.out (by kernel_rfl)) (fun _ _ _ h=>h) (Or.inl ⟨by rfl,?_⟩) hHeld ?_ ?_
  rotate_left
  ·rintro w' ⟨s0,s1,s2⟩
   go_simp
   with_reducible rfl
  rotate_left
  ·simp only [Act.put,zzA,zzB,zzC,i64_w,i32_w]
   rfl
  refine pure_ (i:=6) (N:=some 14) (v:=?_) (a':=?_) #[true,true,true,true,true,true,true,false,true,true,true,true,false,true,false,false,false,false,false,false,false,false,false,false,false,false,false,false,false,false,false,false,false,false,false,false,false,false,false,false,false] rfl rfl (any_of HT_.out (by kernel_rfl)) (fun _ _ _ h=>h) (Or.inl ⟨by rfl,?_⟩) ?_ ?_
  rotate_left
  ·intro w'
   go_simp
   with_reducible rfl
  rotate_left
  ·simp only [Act.put,zzA,zzB,zzC,i64_w,i32_w]
   rfl
  refine take_ (i:=7) (N:=some 15) (v:=?_) (a':=?_) #[true,true,true,true,true,true,true,true,true,true,true,true,false,true,false,false,false,false,false,false,false,false,false,false,false,false,false,false,false,false,false,false,false,false,false,false,false,false,false,false,false] rfl rfl (take_ofW HT_.out HW_.out (by kernel_rfl)) (fun _ _ _ h=>h) (Or.inl ⟨by rfl,?_⟩) hHeld ?_ ?_
  rotate_left
  ·rintro w' ⟨s0,s1,s2⟩
   go_simp
   with_reducible rfl
  rotate_left
  ·simp only [Act.put,zzA,zzB,zzC,i64_w,i32_w]
   rfl
  refine take_ (i:=12) (N:=some 20) (v:=?_) (a':=?_) #[true,true,true,true,true,true,true,true,true,true,true,true,true,true,false,false,false,false,false,false,false,false,false,false,false,false,false,false,false,false,false,false,false,false,false,false,false,false,false,false,false] rfl rfl (take_ofW HT_.out HW_.out (by kernel_rfl)) (fun _ _ _ h=>h) (Or.inl ⟨by rfl,?_⟩) hHeld ?_ ?_
  rotate_left
  ·rintro w' ⟨s0,s1,s2⟩
   go_simp
   with_reducible rfl
  rotate_left
  ·simp only [Act.put,zzA,zzB,zzC,i64_w,i32_w]
   rfl
  refine pure_ (i:=14) (N:=some 22) (v:=?_) (a':=?_) #[true,true,true,true,true,true,true,true,true,true,true,true,true,true,true,false,false,false,false,false,false,false,false,false,false,false,false,false,false,false,false,false,false,false,false,false,false,false,false,false,false] rfl rfl (any_of HT_.out (by kernel_rfl)) (fun _ _ _ h=>h) (Or.inl ⟨by rfl,?_⟩) ?_ ?_
  rotate_left
  ·intro w'
   go_simp
   with_reducible rfl
  rotate_left
  ·simp only [Act.put,zzA,zzB,zzC,i64_w,i32_w]
   rfl
  refine take_ (i:=15) (N:=some 23) (v:=?_) (a':=?_) #[true,true,true,true,true,true,true,true,true,true,true,true,true,true,true,true,false,false,false,false,false,false,false,false,false,false,false,false,false,false,false,false,false,false,false,false,false,false,false,false,false] rfl rfl (take_ofW HT_.out HW_.out (by kernel_rfl)) (fun _ _ _ h=>h) (Or.inl ⟨by rfl,?_⟩) hHeld ?_ ?_
  rotate_left
  ·rintro w' ⟨s0,s1,s2⟩
   go_simp
   with_reducible rfl
  rotate_left
  ·simp only [Act.put,zzA,zzB,zzC,i64_w,i32_w]
   rfl
  refine pure_ (i:=16) (N:=some 24) (v:=?_) (a':=?_) #[true,true,true,true,true,true,true,true,true,true,true,true,true,true,true,true,true,false,false,false,false,false,false,false,false,false,false,false,false,false,false,false,false,false,false,false,false,false,false,false,false] rfl rfl (any_of HT_.out (by kernel_rfl)) (fun _ _ _ h=>h) (Or.inl ⟨by rfl,?_⟩) ?_ ?_
  rotate_left
  ·intro w'
   go_simp
   with_reducible rfl
  rotate_left
  ·simp only [Act.put,zzA,zzB,zzC,i64_w,i32_w]
   rfl
  refine pure_ (i:=17) (N:=some 25) (v:=?_) (a':=?_) #[true,true,true,true,true,true,true,true,true,true,true,true,true,true,true,true,true,true,false,false,false,false,false,false,false,false,false,false,false,false,false,false,false,false,false,false,false,false,false,false,false] rfl rfl (any_of HT_.out (by kernel_rfl)) (fun _ _ _ h=>h) (Or.inl ⟨by rfl,?_⟩) ?_ ?_
  rotate_left
  ·intro w'
   go_simp
   with_reducible rfl
  rotate_left
  ·simp only [Act.put,zzA,zzB,zzC,i64_w,i32_w]
   rfl
  refine pure_ (i:=18) (N:=some 26) (v:=undef) (a':=?_) #[true,true,true,true,true,true,true,true,true,true,true,true,true,true,true,true,true,true,true,false,false,false,false,false,false,false,false,false,false,false,false,false,false,false,false,false,false,false,false,false,false] rfl rfl (any_of HT_.out (by kernel_rfl)) (fun _ _ _ h=>h) (Or.inr ⟨by rfl,rfl⟩) ?_ ?_
  rotate_left
  ·simp only [Act.put,zzA,zzB,zzC,i64_w,i32_w]
   rfl
  refine pure_ (i:=19) (N:=some 27) (v:=undef) (a':=?_) #[true,true,true,true,true,true,true,true,true,true,true,true,true,true,true,true,true,true,true,true,false,false,false,false,false,false,false,false,false,false,false,false,false,false,false,false,false,false,false,false,false] rfl rfl (any_of HT_.out (by kernel_rfl)) (fun _ _ _ h=>h) (Or.inr ⟨by rfl,rfl⟩) ?_ ?_
  rotate_left
  ·simp only [Act.put,zzA,zzB,zzC,i64_w,i32_w]
   rfl
  refine pure_ (i:=20) (N:=some 28) (v:=undef) (a':=?_) #[true,true,true,true,true,true,true,true,true,true,true,true,true,true,true,true,true,true,true,true,true,false,false,false,false,false,false,false,false,false,false,false,false,false,false,false,false,false,false,false,false] rfl rfl (any_of HT_.out (by kernel_rfl)) (fun _ _ _ h=>h) (Or.inr ⟨by rfl,rfl⟩) ?_ ?_
  rotate_left
  ·simp only [Act.put,zzA,zzB,zzC,i64_w,i32_w]
   rfl
  refine pure_ (i:=21) (N:=some 29) (v:=undef) (a':=?_) #[true,true,true,true,true,true,true,true,true,true,true,true,true,true,true,true,true,true,true,true,true,true,false,false,false,false,false,false,false,false,false,false,false,false,false,false,false,false,false,false,false] rfl rfl (any_of HT_.out (by kernel_rfl)) (fun _ _ _ h=>h) (Or.inr ⟨by rfl,rfl⟩) ?_ ?_
  rotate_left
  ·simp only [Act.put,zzA,zzB,zzC,i64_w,i32_w]
   rfl
  refine pure_ (i:=22) (N:=some 30) (v:=undef) (a':=?_) #[true,true,true,true,true,true,true,true,true,true,true,true,true,true,true,true,true,true,true,true,true,true,true,false,false,false,false,false,false,false,false,false,false,false,false,false,false,false,false,false,false] rfl rfl (any_of HT_.out (by kernel_rfl)) (fun _ _ _ h=>h) (Or.inr ⟨by rfl,rfl⟩) ?_ ?_
  rotate_left
  ·simp only [Act.put,zzA,zzB,zzC,i64_w,i32_w]
   rfl
  refine pure_ (i:=23) (N:=some 31) (v:=undef) (a':=?_) #[true,true,true,true,true,true,true,true,true,true,true,true,true,true,true,true,true,true,true,true,true,true,true,true,false,false,false,false,false,false,false,false,false,false,false,false,false,false,false,false,false] rfl rfl (any_of HT_.out (by kernel_rfl)) (fun _ _ _ h=>h) (Or.inr ⟨by rfl,rfl⟩) ?_ ?_
  rotate_left
  ·simp only [Act.put,zzA,zzB,zzC,i64_w,i32_w]
   rfl
  refine pure_ (i:=24) (N:=some 32) (v:=undef) (a':=?_) #[true,true,true,true,true,true,true,true,true,true,true,true,true,true,true,true,true,true,true,true,true,true,true,true,true,false,false,false,false,false,false,false,false,false,false,false,false,false,false,false,false] rfl rfl (any_of HT_.out (by kernel_rfl)) (fun _ _ _ h=>h) (Or.inr ⟨by rfl,rfl⟩) ?_ ?_
  rotate_left
  ·simp only [Act.put,zzA,zzB,zzC,i64_w,i32_w]
   rfl
  refine pure_ (i:=25) (N:=some 33) (v:=undef) (a':=?_) #[true,true,true,true,true,true,true,true,true,true,true,true,true,true,true,true,true,true,true,true,true,true,true,true,true,true,false,false,false,false,false,false,false,false,false,false,false,false,false,false,false] rfl rfl (any_of HT_.out (by kernel_rfl)) (fun _ _ _ h=>h) (Or.inr ⟨by rfl,rfl⟩) ?_ ?_
  rotate_left
  ·simp only [Act.put,zzA,zzB,zzC,i64_w,i32_w]
   rfl
  refine pure_ (i:=26) (N:=some 34) (v:=undef) (a':=?_) #[true,true,true,true,true,true,true,true,true,true,true,true,true,true,true,true,true,true,true,true,true,true,true,true,true,true,true,false,false,false,false,false,false,false,false,false,false,false,false,false,false] rfl rfl (any_of HT_.out (by kernel_rfl)) (fun _ _ _ h=>h) (Or.inr ⟨by rfl,rfl⟩) ?_ ?_
  rotate_left
  ·simp only [Act.put,zzA,zzB,zzC,i64_w,i32_w]
   rfl
  refine pure_ (i:=27) (N:=some 35) (v:=undef) (a':=?_) #[true,true,true,true,true,true,true,true,true,true,true,true,true,true,true,true,true,true,true,true,true,true,true,true,true,true,true,true,false,false,false,false,false,false,false,false,false,false,false,false,false] rfl rfl (any_of HT_.out (by kernel_rfl)) (fun _ _ _ h=>h) (Or.inr ⟨by rfl,rfl⟩) ?_ ?_
  rotate_left
  ·simp only [Act.put,zzA,zzB,zzC,i64_w,i32_w]
   rfl
  refine pure_ (i:=28) (N:=some 36) (v:=?_) (a':=?_) #[true,true,true,true,true,true,true,true,true,true,true,true,true,true,true,true,true,true,true,true,true,true,true,true,true,true,true,true,true,false,false,false,false,false,false,false,false,false,false,false,false] rfl rfl (any_of HT_.out (by kernel_rfl)) (fun _ _ _ h=>h) (Or.inl ⟨by rfl,?_⟩) ?_ ?_
  rotate_left
  ·intro w'
   go_simp
   with_reducible rfl
  rotate_left
  ·simp only [Act.put,zzA,zzB,zzC,i64_w,i32_w]
   rfl
  refine pure_ (i:=29) (N:=some 37) (v:=?_) (a':=?_) #[true,true,true,true,true,true,true,true,true,true,true,true,true,true,true,true,true,true,true,true,true,true,true,true,true,true,true,true,true,true,false,false,false,false,false,false,false,false,false,false,false] rfl rfl (any_of HT_.out (by kernel_rfl)) (fun _ _ _ h=>h) (Or.inl ⟨by rfl,?_⟩) ?_ ?_
  rotate_left
  ·intro w'
   go_simp
   with_reducible rfl
  rotate_left
  ·simp only [Act.put,zzA,zzB,zzC,i64_w,i32_w]
   rfl
  refine pure_ (i:=30) (N:=some 38) (v:=undef) (a':=?_) #[true,true,true,true,true,true,true,true,true,true,true,true,true,true,true,true,true,true,true,true,true,true,true,true,true,true,true,true,true,true,true,false,false,false,false,false,false,false,false,false,false] rfl rfl (any_of HT_.out (by kernel_rfl)) (fun _ _ _ h=>h) (Or.inr ⟨by rfl,rfl⟩) ?_ ?_
  rotate_left
  ·simp only [Act.put,zzA,zzB,zzC,i64_w,i32_w]
   rfl
  refine pure_ (i:=31) (N:=some 39) (v:=undef) (a':=?_) #[true,true,true,true,true,true,true,true,true,true,true,true,true,true,true,true,true,true,true,true,true,true,true,true,true,true,true,true,true,true,true,true,false,false,false,false,false,false,false,false,false] rfl rfl (any_of HT_.out (by kernel_rfl)) (fun _ _ _ h=>h) (Or.inr ⟨by rfl,rfl⟩) ?_ ?_
  rotate_left
  ·simp only [Act.put,zzA,zzB,zzC,i64_w,i32_w]
   rfl
  refine pure_ (i:=32) (N:=some 40) (v:=undef) (a':=?_) #[true,true,true,true,true,true,true,true,true,true,true,true,true,true,true,true,true,true,true,true,true,true,true,true,true,true,true,true,true,true,true,true,true,false,false,false,false,false,false,false,false] rfl rfl (any_of HT_.out (by kernel_rfl)) (fun _ _ _ h=>h) (Or.inr ⟨by rfl,rfl⟩) ?_ ?_
  rotate_left
  ·simp only [Act.put,zzA,zzB,zzC,i64_w,i32_w]
   rfl
  refine pure_ (i:=33) (N:=some 41) (v:=undef) (a':=?_) #[true,true,true,true,true,true,true,true,true,true,true,true,true,true,true,true,true,true,true,true,true,true,true,true,true,true,true,true,true,true,true,true,true,true,false,false,false,false,false,false,false] rfl rfl (any_of HT_.out (by kernel_rfl)) (fun _ _ _ h=>h) (Or.inr ⟨by rfl,rfl⟩) ?_ ?_
  rotate_left
  ·simp only [Act.put,zzA,zzB,zzC,i64_w,i32_w]
   rfl
  refine pure_ (i:=34) (N:=some 42) (v:=undef) (a':=?_) #[true,true,true,true,true,true,true,true,true,true,true,true,true,true,true,true,true,true,true,true,true,true,true,true,true,true,true,true,true,true,true,true,true,true,true,false,false,false,false,false,false] rfl rfl (any_of HT_.out (by kernel_rfl)) (fun _ _ _ h=>h) (Or.inr ⟨by rfl,rfl⟩) ?_ ?_
  rotate_left
  ·simp only [Act.put,zzA,zzB,zzC,i64_w,i32_w]
   rfl
  refine pure_ (i:=35) (N:=some 43) (v:=undef) (a':=?_) #[true,true,true,true,true,true,true,true,true,true,true,true,true,true,true,true,true,true,true,true,true,true,true,true,true,true,true,true,true,true,true,true,true,true,true,true,false,false,false,false,false] rfl rfl (any_of HT_.out (by kernel_rfl)) (fun _ _ _ h=>h) (Or.inr ⟨by rfl,rfl⟩) ?_ ?_
  rotate_left
  ·simp only [Act.put,zzA,zzB,zzC,i64_w,i32_w]
   rfl
  refine pure_ (i:=36) (N:=some 44) (v:=undef) (a':=?_) #[true,true,true,true,true,true,true,true,true,true,true,true,true,true,true,true,true,true,true,true,true,true,true,true,true,true,true,true,true,true,true,true,true,true,true,true,true,false,false,false,false] rfl rfl (any_of HT_.out (by kernel_rfl)) (fun _ _ _ h=>h) (Or.inr ⟨by rfl,rfl⟩) ?_ ?_
  rotate_left
  ·simp only [Act.put,zzA,zzB,zzC,i64_w,i32_w]
   rfl
  refine pure_ (i:=37) (N:=some 45) (v:=undef) (a':=?_) #[true,true,true,true,true,true,true,true,true,true,true,true,true,true,true,true,true,true,true,true,true,true,true,true,true,true,true,true,true,true,true,true,true,true,true,true,true,true,false,false,false] rfl rfl (any_of HT_.out (by kernel_rfl)) (fun _ _ _ h=>h) (Or.inr ⟨by rfl,rfl⟩) ?_ ?_
  rotate_left
  ·simp only [Act.put,zzA,zzB,zzC,i64_w,i32_w]
   rfl
  refine pure_ (i:=38) (N:=some 46) (v:=undef) (a':=?_) #[true,true,true,true,true,true,true,true,true,true,true,true,true,true,true,true,true,true,true,true,true,true,true,true,true,true,true,true,true,true,true,true,true,true,true,true,true,true,true,false,false] rfl rfl (any_of HT_.out (by kernel_rfl)) (fun _ _ _ h=>h) (Or.inr ⟨by rfl,rfl⟩) ?_ ?_
  rotate_left
  ·simp only [Act.put,zzA,zzB,zzC,i64_w,i32_w]
   rfl
  refine pure_ (i:=39) (N:=some 47) (v:=undef) (a':=?_) #[true,true,true,true,true,true,true,true,true,true,true,true,true,true,true,true,true,true,true,true,true,true,true,true,true,true,true,true,true,true,true,true,true,true,true,true,true,true,true,true,false] rfl rfl (any_of HT_.out (by kernel_rfl)) (fun _ _ _ h=>h) (Or.inr ⟨by rfl,rfl⟩) ?_ ?_
  rotate_left
  ·simp only [Act.put,zzA,zzB,zzC,i64_w,i32_w]
   rfl
  refine pure_ (i:=40) (N:=some 48) (v:=?_) (a':=?_) #[true,true,true,true,true,true,true,true,true,true,true,true,true,true,true,true,true,true,true,true,true,true,true,true,true,true,true,true,true,true,true,true,true,true,true,true,true,true,true,true,true] rfl rfl (any_of HT_.out (by kernel_rfl)) (fun _ _ _ h=>h) (Or.inl ⟨by rfl,?_⟩) ?_ ?_
  rotate_left
  ·intro w'
   go_simp
   with_reducible rfl
  rotate_left
  ·simp only [Act.put,zzA,zzB,zzC,i64_w,i32_w]
   rfl
  refine done_ (done_of HT_.out (by kernel_rfl)) ?_
  go_wp2
  go_ret
  exact ⟨by rw [HF.out];rfl,(by repeat (first|(with_reducible first|exact HB.out|apply zzD|apply zzE|apply zzF)|exact HB.out))⟩
end
end Go.Proofs.Ytgmomcjnldahjaa.Pr
namespace Go.Proofs.Ytgmomcjnldahjaa.Pr
open Go.RowKit Go.Proofs.YtgmomcjnldahjaaW.PrintWords Go.Proofs.YtgmomcjnldahjaaW.PrintLast Go.Proofs.YtgmomcjnldahjaaW.PrintMore
attribute [local go_sem] max2_int min2_int max_two min_two max_three min_three max_four min_four
set_option linter.unusedVariables false
set_option linter.unusedSimpArgs false
abbrev Found:=Option (List Nat × List Int)
def worseS : Found → List Int → Bool
 | none,_ => false
 | some (_,d),c => decide (0 < cmpL (c.take (min c.length d.length)) (d.take (min c.length d.length)))
def BestV (W : World) (base : Nat) (ok : Nat → Prop) (ov cv : Value) : Found → Prop
 | none => ov = .slice none 0 0 ∧ cv = .slice none 0 0
 | some (o,d) => d ≠ [] ∧ d.length ≤ 1000000 ∧ Kd.R (Kd.int .i64) 3 W base ok ov (io o) ∧ Kd.R (Kd.int .i64) 3 W base ok cv d
structure Srch (W : World) (base : Nat) (ok : Nat → Prop) (gs gt : Nat) (tw : Value) (b : Found) : Prop where
 ex : ∃ ov cv,W.heap[gs]? = some (.cells #[.pointer (some ⟨gt,0,none⟩),tw,ov,cv] 96 (0,0)) ∧ BestV W base ok ov cv b
theorem BestV.below {W W' : World} {base : Nat} {ok : Nat → Prop} {ov cv : Value} {b : Found} (h : BestV W base ok ov cv b) (hb : Below W.heap.size W W') : BestV W' base ok ov cv b:=by
 cases b with
 | none => exact h
 | some p => exact ⟨h.1,h.2.1,Kd.R_below h.2.2.1 hb,Kd.R_below h.2.2.2 hb⟩
theorem BestV.mono {W : World} {base : Nat} {ok ok' : Nat → Prop} {ov cv : Value} {b : Found} (h : BestV W base ok ov cv b) (hk : ∀ k,ok k → ok' k) : BestV W base ok' ov cv b:=by
 cases b with
 | none => exact h
 | some p => exact ⟨h.1,h.2.1,Kd.R_mono h.2.2.1 hk,Kd.R_mono h.2.2.2 hk⟩
theorem Srch.mono {W : World} {base gs gt : Nat} {ok ok' : Nat → Prop} {tw : Value} {b : Found} (h : Srch W base ok gs gt tw b) (hk : ∀ k,ok k → ok' k) : Srch W base ok' gs gt tw b:=by
 obtain ⟨ov,cv,h1,h2⟩:=h.ex
 exact ⟨ov,cv,h1,h2.mono hk⟩
theorem Srch.grown {W W' : World} {base gs gt : Nat} {ok : Nat → Prop} {tw : Value} {b : Found} (h : Srch W base ok gs gt tw b) {row : Option Nat} (hg : W.grownBy W' row) (hok : ∀ k,ok k → some k ≠ row) (hs : some gs ≠ row) : Srch W' base ok gs gt tw b:=by
 obtain ⟨ov,cv,h1,h2⟩:=h.ex
 refine ⟨ov,cv,blk_grown h1 hg hs,?_⟩
 cases b with
 | none => exact h2
 | some p => exact ⟨h2.1,h2.2.1,Kd.R_grown h2.2.2.1 hg hok,Kd.R_grown h2.2.2.2 hg hok⟩
theorem Srch.below {W W' : World} {base gs gt : Nat} {ok : Nat → Prop} {tw : Value} {b : Found} (h : Srch W base ok gs gt tw b) (hb : Below W.heap.size W W') : Srch W' base ok gs gt tw b:=by
 obtain ⟨ov,cv,h1,h2⟩:=h.ex
 exact ⟨ov,cv,blk_below h1 hb,h2.below hb⟩
theorem take_len {l : List Int} {n : Nat} (h : n ≤ l.length) : (l.take n).length = n:=by rw [List.length_take];omega
def wr.T4 : Bool × List (List Nat × List Nat):=(true,[([],[]),([],[]),([0,1],[0,1]),([],[]),([3],[3]),([4],[4]),([5],[5]),([],[]),([6,7],[6,7]),([2,8],[2,8]),([9],[9]),([10,9,0,1,2,3,4,5,6,7,8,9,10],[10])])
def wr.B4 : List Nat:=[0,0,3,0,8,24,56,0,248,511,1023,2047]
theorem wr.tab4 : rtab .any (opsOf Try.f82 4) = wr.T4:=by kernel_rfl
theorem wr.bits4 : waitsOk wr.T4.2 wr.B4 = true:=by kernel_rfl
set_option maxHeartbeats 8000000 in
set_option maxRecDepth 100000 in
theorem worse_calls {w : World} {base gs gt : Nat} {ok : Nat → Prop} {tw : Value} {b : Found} (hS : Srch w base ok gs gt tw b) {A : Option Addr} {c : Nat} {l : List Int} (hr : Kd.C (Kd.int .i64) w A l.length l) (hc : l.length ≤ c) (hl : l.length ≤ 1000000) (hl0 : l ≠ []) :
  Calls Try.prog 82 #[.pointer (some ⟨gs,0,none⟩),.slice A l.length c] w fun e w'=>e = .returned (.bool (worseS b l)) ∧ Drawn0 w w':=by
 obtain ⟨ov,cv,h1,h2⟩:=hS.ex
 have hl1 : 0 < l.length:=List.length_pos_iff.2 hl0
 have hnil:=fun (W : World) (A : Option Addr) (n c : Nat)=>Lib.run_eql_slice_nil (P:=Try.prog) W 27 3 A n c 0 0 Try.underlying27
 cases b with
 | none =>
  obtain ⟨_,rfl⟩:=h2
  have hc3 : w.cell? ⟨gs,3,none⟩ = some (.slice none 0 0):=(blk_cell h1 3).trans rfl
  have hn:=fun (W : World) (n c : Nat)=>hnil W none n c
  simp only [Option.isNone_none] at hn
  clear hnil h1 hS hr
  go_enter Try.func82,Try.ntmps82
  go_wp2
  go_ret
  exact ⟨rfl,Drawn0.refl _⟩
 | some p =>
  obtain ⟨o,d⟩:=p
  obtain ⟨hd0,hdl,_,hd⟩:=h2
  have hd1 : 0 < d.length:=List.length_pos_iff.2 hd0
  obtain ⟨g,cd,rfl,_,_,_⟩:=Kd.R_form hd hd1
  have hc3 : w.cell? ⟨gs,3,none⟩ = some (.slice (some ⟨g,0,none⟩) d.length cd):=(blk_cell h1 3).trans rfl
  have hn:=fun (W : World) (A : Addr) (n c : Nat)=>hnil W (some A) n c
  simp only [Option.isNone_some] at hn
  obtain ⟨_,hdc,hdr⟩:=Kd.R_reads' hd
  obtain ⟨m,hm⟩ : ∃ m : Nat,m = min l.length d.length:=⟨_,rfl⟩
  have hm1 : m ≤ l.length:=by omega
  have hm2 : m ≤ d.length:=by omega
  have hmi : min (l.length : Int) (d.length : Int) = (m : Int):=by omega
  have hmi2 : (if d.length < l.length then (d.length : Int) else (l.length : Int)) = (m : Int):=by split <;> omega
  have hmc : m ≤ c:=by omega
  have hmd : m ≤ cd:=by omega
  have HR:=Aside0.mk hr
  have HD:=Aside0.mk hdr
  have HW:=Aside0.mk (show worseS (some (o,d)) l = decide (0 < cmpL (l.take m) (d.take m)) from by rw [hm];rfl)
  obtain ⟨z,hz⟩ : ∃ z,cmpL (l.take m) (d.take m) = z:=⟨_,rfl⟩
  rw [hz] at HW
  have HX:=Aside0.mk (show ∀ (W' : World),Drawn0 w W' → Calls Try.prog 26 #[.slice A m c,.slice (some ⟨g,0,none⟩) m cd] W' fun e w'=>e = .returned (.int .i64 z) ∧ Drawn0 W' w' from fun W' hw=>by
   obtain ⟨nd,rfl⟩:=hw.out
   have a1:=Kd.C_drewN (Kd.C_take (m:=m) hr hm1) nd
   have a2:=Kd.C_drewN (Kd.C_take (m:=m) hdr hm2) nd
   have:=compare_c (a:=l.take m) (b:=d.take m) (c:=c) (d:=cd) a1 (by rw [take_len hm1];omega) a2 (by rw [take_len hm2];omega) (by rw [take_len hm1];omega)
   rw [take_len hm1,take_len hm2,hz] at this
   exact this)
  have HXd:=Aside0.mk (HX.out w.drew (by repeat (first|exact Drawn0.refl _|apply Drawn0.step)))
  clear HX hnil h1 hS hr hdr hd hm
  go_enter Try.func82,Try.ntmps82
  go_upto_region 4 with (fail)
  refine start_ (n:=12) (S:=fun w'=>w'.cell? ⟨gs,3,none⟩ = some (.slice (some ⟨g,0,none⟩) d.length cd)) (ds:=[]) #[false,false,false,false,false,false,false,false,false,false,false,false] (by kernel_rfl) rfl rfl (hc3) (fun hHeld=>?_)
  refine with_tabW wr.tab4 wr.bits4 (fun HT_ HW_=>?_)
  refine pure_ (i:=0) (N:=some 19) (v:=?_) (a':=?_) #[true,false,false,false,false,false,false,false,false,false,false,false] rfl rfl (any_of HT_.out (by kernel_rfl)) (fun _ _ _ h=>h) (Or.inl ⟨by rfl,?_⟩) ?_ ?_
  rotate_left
  ·intro w'
   go_simp
   with_reducible rfl
  rotate_left
  ·simp only [Act.put,zzA,zzB,zzC,i64_w,i32_w]
   rfl
  refine pure_ (i:=1) (N:=some 20) (v:=?_) (a':=?_) #[true,true,false,false,false,false,false,false,false,false,false,false] rfl rfl (any_of HT_.out (by kernel_rfl)) (fun _ _ _ h=>h) (Or.inl ⟨by rfl,?_⟩) ?_ ?_
  rotate_left
  ·intro w'
   go_simp
   with_reducible rfl
  rotate_left
  ·simp only [Act.put,zzA,zzB,zzC,i64_w,i32_w]
   rfl
  refine pure_ (i:=2) (N:=some 21) (v:=?_) (a':=?_) #[true,true,true,false,false,false,false,false,false,false,false,false] rfl rfl (any_of HT_.out (by kernel_rfl)) (fun _ _ _ h=>h) (Or.inl ⟨by rfl,?_⟩) ?_ ?_
  rotate_left
  ·intro w'
   go_simp
   with_reducible rfl
  rotate_left
  ·simp only [Act.put,zzA,zzB,zzC,i64_w,i32_w]
   rfl
  refine pure_ (i:=3) (N:=some 22) (v:=?_) (a':=?_) #[true,true,true,true,false,false,false,false,false,false,false,false] rfl rfl (any_of HT_.out (by kernel_rfl)) (fun _ _ _ h=>h) (Or.inl ⟨by rfl,?_⟩) ?_ ?_
  rotate_left
  ·intro w'
   go_simp
   with_reducible rfl
  rotate_left
  ·simp only [Act.put,zzA,zzB,zzC,i64_w,i32_w]
   rfl
  refine pure_ (i:=4) (N:=some 23) (v:=?_) (a':=?_) #[true,true,true,true,true,false,false,false,false,false,false,false] rfl rfl (any_of HT_.out (by kernel_rfl)) (fun _ _ _ h=>h) (Or.inl ⟨by rfl,?_⟩) ?_ ?_
  rotate_left
  ·intro w'
   go_simp
   with_reducible rfl
  rotate_left
  ·simp only [Act.put,zzA,zzB,zzC,i64_w,i32_w]
   rfl
  refine pure_ (i:=5) (N:=some 24) (v:=?_) (a':=?_) #[true,true,true,true,true,true,false,false,false,false,false,false] rfl rfl (any_of HT_.out (by kernel_rfl)) (fun _ _ _ h=>h) (Or.inl ⟨by rfl,?_⟩) ?_ ?_
  rotate_left
  ·intro w'
   go_simp
   with_reducible rfl
  rotate_left
  ·simp only [Act.put,zzA,zzB,zzC,i64_w,i32_w]
   rfl
  refine pure_ (i:=7) (N:=some 26) (v:=?_) (a':=?_) #[true,true,true,true,true,true,false,true,false,false,false,false] rfl rfl (any_of HT_.out (by kernel_rfl)) (fun _ _ _ h=>h) (Or.inl ⟨by rfl,?_⟩) ?_ ?_
  rotate_left
  ·intro w'
   go_simp
   with_reducible rfl
  rotate_left
  ·simp only [Act.put,zzA,zzB,zzC,i64_w,i32_w]
   rfl
  refine take_ (i:=6) (N:=some 25) (v:=?_) (a':=?_) #[true,true,true,true,true,true,true,true,false,false,false,false] rfl rfl (take_ofW HT_.out HW_.out (by kernel_rfl)) (fun _ _ _ h=>h) (Or.inl ⟨by rfl,?_⟩) hHeld ?_ ?_
  rotate_left
  ·intro w' s0
   go_simp
   with_reducible rfl
  rotate_left
  ·simp only [Act.put,zzA,zzB,zzC,i64_w,i32_w]
   rfl
  refine pure_ (i:=8) (N:=some 27) (v:=?_) (a':=?_) #[true,true,true,true,true,true,true,true,true,false,false,false] rfl rfl (any_of HT_.out (by kernel_rfl)) (fun _ _ _ h=>h) (Or.inl ⟨by rfl,?_⟩) ?_ ?_
  rotate_left
  ·intro w'
   go_simp
   with_reducible rfl
  rotate_left
  ·simp only [Act.put,zzA,zzB,zzC,i64_w,i32_w]
   rfl
  refine one_ (i:=9) (N:=some 28) #[true,true,true,true,true,true,true,true,true,true,false,false] rfl rfl (one_of HT_.out (by kernel_rfl)) (by decide) (fun K hK=>?_)
  refine goes_ Try.func26 (by kernel_rfl) rfl #[.slice A m c,.slice (some ⟨g,0,none⟩) m cd] (by rfl) rfl rfl (by simp only [List.map_toArray,List.map_cons,List.map_nil];rfl) ?_
  with_reducible refine HXd.out.mono ?_
  rintro e w_ ⟨rfl,⟨nd,rfl⟩⟩
  refine ⟨_,rfl,?_⟩
  refine hK.out _ _ (hc3) (fun hHeld=>?_)
  clear hK K
  refine norm_ (a':=?_) ?_ ?_
  rotate_left
  ·show Act.put _ (some 28) _ = _
   simp only [Act.put,zzA,zzB,zzC,i64_w,i32_w]
   rfl
  refine pure_ (i:=10) (N:=some 29) (v:=?_) (a':=?_) #[true,true,true,true,true,true,true,true,true,true,true,false] rfl rfl (any_of HT_.out (by kernel_rfl)) (fun _ _ _ h=>h) (Or.inl ⟨by rfl,?_⟩) ?_ ?_
  rotate_left
  ·intro w'
   go_simp
   with_reducible rfl
  rotate_left
  ·simp only [Act.put,zzA,zzB,zzC,i64_w,i32_w]
   rfl
  refine pure_ (i:=11) (N:=some 4) (v:=?_) (a':=?_) #[true,true,true,true,true,true,true,true,true,true,true,true] rfl rfl (any_of HT_.out (by kernel_rfl)) (fun _ _ _ h=>h) (Or.inl ⟨by rfl,?_⟩) ?_ ?_
  rotate_left
  ·intro w'
   go_simp
   with_reducible rfl
  rotate_left
  ·simp only [Act.put,zzA,zzB,zzC,i64_w,i32_w]
   rfl
  refine done_ (done_of HT_.out (by kernel_rfl)) ?_
  go_wp2
  go_ret
  exact ⟨by rw [HW.out];rfl,by repeat (first|exact Drawn0.refl _|apply Drawn0.step)⟩
end Go.Proofs.Ytgmomcjnldahjaa.Pr
