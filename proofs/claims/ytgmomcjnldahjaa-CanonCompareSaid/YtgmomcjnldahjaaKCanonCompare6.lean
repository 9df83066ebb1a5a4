/- Part 6 of what the law CanonCompare rests on: this project's own texts (Wc), merged and without what is not used. Conditions: each theorem has its own. -/
import Derived.Test.YtgmomcjnldahjaaKCanonCompare5
open List renaming setIfInBounds_toArray → zzA, set_cons_zero → zzB, set_cons_succ → zzC
open Go.Proofs.YtgmomcjnldahjaaW.PrintWords renaming below_alloc → zzD, pw_below_drewN → zzE, below_drew1 → zzF
namespace Go.Proofs.Ytgmomcjnldahjaa.Pr
open Go.RowKit Go.Proofs.YtgmomcjnldahjaaW.PrintWords Go.Proofs.YtgmomcjnldahjaaW.PrintLast Go.Proofs.YtgmomcjnldahjaaW.PrintMore
attribute [local go_sem] max2_int min2_int max_two min_two max_three min_three max_four min_four
set_option linter.unusedVariables false
set_option linter.unusedSimpArgs false
theorem cmpL_neg : ∀ (a b : List Int),cmpL b a = -cmpL a b
 | [],[] => rfl
 | [],_ :: _ => rfl
 | _ :: _,[] => rfl
 | x :: a,y :: b => by
  unfold cmpL
  by_cases h1 : x < y
  ·rw [if_neg (by omega),if_pos (show y > x from h1),if_pos h1];rfl
  ·by_cases h2 : x > y
   ·rw [if_pos (show y < x from h2),if_neg h1,if_pos h2]
   ·rw [if_neg (by omega),if_neg (by omega),if_neg h1,if_neg h2];exact cmpL_neg a b
theorem cmpL_range : ∀ (a b : List Int),-1 ≤ cmpL a b ∧ cmpL a b ≤ 1
 | [],[] => by simp [cmpL]
 | [],_ :: _ => by simp [cmpL]
 | _ :: _,[] => by simp [cmpL]
 | x :: a,y :: b => by
  unfold cmpL
  have:=cmpL_range a b
  split
  ·omega
  ·split <;> omega
theorem cmpE_swap {N M : List Int} {L J : List S34} (h : (cmpE N L M J).2 = 0) : cmpE M J N L = (-(cmpE N L M J).1,0) ∧ -1 ≤ (cmpE N L M J).1 ∧ (cmpE N L M J).1 ≤ 1:=by
 unfold cmpE at *
 by_cases h1 : validE N L = 0
 ·by_cases h2 : validE M J = 0
  ·simp only [h1,h2,ne_eq,not_true_eq_false,if_false]
   exact ⟨by rw [cmpL_neg],cmpL_range _ _⟩
  ·simp [h1,h2] at h
 ·simp [h1] at h
def cp.T3 : Bool × List (List Nat × List Nat):=(true,[([],[]),([0],[0]),([],[]),([2,1],[2]),([1,3,3],[1,3]),([4],[4]),([5],[5]),([5],[5]),([6,4,0,1,2,3,4,5,6],[6]),([7,8,0,1,2,3,4,5,6,7,8],[7])])
def cp.B3 : List Nat:=[0,1,0,7,15,31,63,63,127,511]
theorem cp.tab3 : rtab .any (opsOf Try.f8 3) = cp.T3:=by kernel_rfl
theorem cp.bits3 : waitsOk cp.T3.2 cp.B3 = true:=by kernel_rfl
section
variable {w : World} {A0 : Option Addr} {c0 : Nat} {N : List Int} {A1 : Option Addr} {c1 : Nat} {L : List S34} {B0 : Option Addr} {d0 : Nat} {M : List Int} {B1 : Option Addr} {d1 : Nat} {J : List S34}
set_option maxHeartbeats 80000000 in
set_option maxRecDepth 100000 in
theorem lawCompare_calls (hr0 : Kd.C (Kd.int .i64) w A0 N.length N) (hc0 : N.length ≤ c0) (hr1 : Kd.C k34 w A1 L.length L) (hc1 : L.length ≤ c1) (hs0 : Kd.C (Kd.int .i64) w B0 M.length M) (hd0 : M.length ≤ d0) (hs1 : Kd.C k34 w B1 J.length J) (hd1 : J.length ≤ d1) :
  Calls Try.prog 8 #[.agg #[.slice A0 N.length c0,.slice A1 L.length c1],.agg #[.slice B0 M.length d0,.slice B1 J.length d1]] w fun e w'=>e = .returned (.bool true) ∧ Below w.heap.size w w':=by
 have HAW:=Aside0.mk awake_calls
 have HLA:=Aside0.mk (fun W (hw : Below w.heap.size w W)=>light_c (w:=W) (Kd.C_below hr0 hw) hc0 (Kd.C_below hr1 hw) hc1)
 have HLB:=Aside0.mk (fun W (hw : Below w.heap.size w W)=>light_c (w:=W) (Kd.C_below hs0 hw) hd0 (Kd.C_below hs1 hw) hd1)
 have HB:=Aside0.mk (Below.refl w.heap.size w)
 have hu30:=Try.underlying30
 cases hla : lightB N L
 ·rw [hla] at HLA
  clear hr0 hc0 hr1 hc1 hs0 hd0 hs1 hd1 hla
  go_enter Try.func8,Try.ntmps8
  go_wp2_with (first|((with_reducible refine gate_dst (N:=2) rfl ?_);refine box_event ?hg (N:=2) ?hd (cs:=#[.slice A0 N.length c0,.slice A1 L.length c1]) (t:=30) ?hr ?_;(case hd=>rfl);(case hg=>rfl);(case hr=>first|(go_simp;done)|(go_simp;rfl));intro ga hg w1 hbox hb;have n0_:=Aside0.mk (below_step HB.out hb);clear HB;have HB:=n0_;clear n0_ hb hg;have BA:=Aside0.mk hbox;have hcga0 : w1.cell? ⟨ga,0,none⟩ = some (.slice A0 N.length c0):=(blk_cell hbox 0).trans rfl;have hcga1 : w1.cell? ⟨ga,1,none⟩ = some (.slice A1 L.length c1):=(blk_cell hbox 1).trans rfl;clear hbox)|((with_reducible refine gate_dst (N:=3) rfl ?_);refine box_event ?hg (N:=3) ?hd (cs:=#[.slice B0 M.length d0,.slice B1 J.length d1]) (t:=30) ?hr ?_;(case hd=>rfl);(case hg=>rfl);(case hr=>first|(go_simp;done)|(go_simp;rfl));intro gb hg w2 hbox hb;have BBb:=Aside0.mk (show _ ≤ gb from by rw [hg];exact HB.out.size);have BA_:=Aside0.mk (blk_below (g:=ga) (o:=.cells #[.slice A0 N.length c0,.slice A1 L.length c1] 30 (0,0)) (by (with_reducible repeat (first|refine blk_drewN ?_ _|refine blk_drew ?_|refine blk_alloc ?_ _));exact BA.out) hb);have n0_:=Aside0.mk (below_step (by repeat (first|(with_reducible first|exact HB.out|apply zzD|apply zzE|apply zzF)|exact HB.out)) hb);clear HB BA;have HB:=n0_;have BA:=BA_;clear n0_ hb hg BA_;have BB:=Aside0.mk hbox;clear hbox;have hcw2ga0 : w2.cell? ⟨ga,0,none⟩ = some (.slice A0 N.length c0):=(blk_cell BA.out 0).trans rfl;have hcw2ga1 : w2.cell? ⟨ga,1,none⟩ = some (.slice A1 L.length c1):=(blk_cell BA.out 1).trans rfl;have hcw2gb0 : w2.cell? ⟨gb,0,none⟩ = some (.slice B0 M.length d0):=(blk_cell BB.out 0).trans rfl;have hcw2gb1 : w2.cell? ⟨gb,1,none⟩ = some (.slice B1 J.length d1):=(blk_cell BB.out 1).trans rfl)|(go_at_call 11;with_reducible refine (HAW.out _).mono ?_;rintro e w3 ⟨rfl,hb⟩;have BA_:=Aside0.mk (blk_below (g:=ga) (o:=.cells #[.slice A0 N.length c0,.slice A1 L.length c1] 30 (0,0)) (by (with_reducible repeat (first|refine blk_drewN ?_ _|refine blk_drew ?_|refine blk_alloc ?_ _));exact BA.out) hb);have BB_:=Aside0.mk (blk_below (g:=gb) (o:=.cells #[.slice B0 M.length d0,.slice B1 J.length d1] 30 (0,0)) (by (with_reducible repeat (first|refine blk_drewN ?_ _|refine blk_drew ?_|refine blk_alloc ?_ _));exact BB.out) hb);have n0_:=Aside0.mk (below_step (by repeat (first|(with_reducible first|exact HB.out|apply zzD|apply zzE|apply zzF)|exact HB.out)) hb);clear HB BA BB;have HB:=n0_;have BA:=BA_;have BB:=BB_;clear n0_ hb BA_ BB_;have hcw30 : w3.cell? ⟨ga,0,none⟩ = some (.slice A0 N.length c0):=(blk_cell BA.out 0).trans rfl;have hcw31 : w3.cell? ⟨ga,1,none⟩ = some (.slice A1 L.length c1):=(blk_cell BA.out 1).trans rfl;have hcw30 : w3.cell? ⟨gb,0,none⟩ = some (.slice B0 M.length d0):=(blk_cell BB.out 0).trans rfl;have hcw31 : w3.cell? ⟨gb,1,none⟩ = some (.slice B1 J.length d1):=(blk_cell BB.out 1).trans rfl)|(go_at_call 23;with_reducible refine (HLA.out _ (by repeat (first|(with_reducible first|exact HB.out|apply zzD|apply zzE|apply zzF)|exact HB.out))).mono ?_;rintro e w4 ⟨rfl,hb⟩;have BA_:=Aside0.mk (blk_below (g:=ga) (o:=.cells #[.slice A0 N.length c0,.slice A1 L.length c1] 30 (0,0)) (by (with_reducible repeat (first|refine blk_drewN ?_ _|refine blk_drew ?_|refine blk_alloc ?_ _));exact BA.out) hb);have BB_:=Aside0.mk (blk_below (g:=gb) (o:=.cells #[.slice B0 M.length d0,.slice B1 J.length d1] 30 (0,0)) (by (with_reducible repeat (first|refine blk_drewN ?_ _|refine blk_drew ?_|refine blk_alloc ?_ _));exact BB.out) hb);have n0_:=Aside0.mk (below_step (by repeat (first|(with_reducible first|exact HB.out|apply zzD|apply zzE|apply zzF)|exact HB.out)) hb);clear HB BA BB;have HB:=n0_;have BA:=BA_;have BB:=BB_;clear n0_ hb BA_ BB_))
  go_ret
  exact ⟨rfl,(by repeat (first|(with_reducible first|exact HB.out|apply zzD|apply zzE|apply zzF)|exact HB.out))⟩
 ·rw [hla] at HLA
  cases hlb : lightB M J
  ·rw [hlb] at HLB
   clear hr0 hc0 hr1 hc1 hs0 hd0 hs1 hd1 hla hlb
   go_enter Try.func8,Try.ntmps8
   go_wp2_with (first|((with_reducible refine gate_dst (N:=2) rfl ?_);refine box_event ?hg (N:=2) ?hd (cs:=#[.slice A0 N.length c0,.slice A1 L.length c1]) (t:=30) ?hr ?_;(case hd=>rfl);(case hg=>rfl);(case hr=>first|(go_simp;done)|(go_simp;rfl));intro ga hg w1 hbox hb;have n0_:=Aside0.mk (below_step HB.out hb);clear HB;have HB:=n0_;clear n0_ hb hg;have BA:=Aside0.mk hbox;have hcga0 : w1.cell? ⟨ga,0,none⟩ = some (.slice A0 N.length c0):=(blk_cell hbox 0).trans rfl;have hcga1 : w1.cell? ⟨ga,1,none⟩ = some (.slice A1 L.length c1):=(blk_cell hbox 1).trans rfl;clear hbox)|((with_reducible refine gate_dst (N:=3) rfl ?_);refine box_event ?hg (N:=3) ?hd (cs:=#[.slice B0 M.length d0,.slice B1 J.length d1]) (t:=30) ?hr ?_;(case hd=>rfl);(case hg=>rfl);(case hr=>first|(go_simp;done)|(go_simp;rfl));intro gb hg w2 hbox hb;have BBb:=Aside0.mk (show _ ≤ gb from by rw [hg];exact HB.out.size);have BA_:=Aside0.mk (blk_below (g:=ga) (o:=.cells #[.slice A0 N.length c0,.slice A1 L.length c1] 30 (0,0)) (by (with_reducible repeat (first|refine blk_drewN ?_ _|refine blk_drew ?_|refine blk_alloc ?_ _));exact BA.out) hb);have n0_:=Aside0.mk (below_step (by repeat (first|(with_reducible first|exact HB.out|apply zzD|apply zzE|apply zzF)|exact HB.out)) hb);clear HB BA;have HB:=n0_;have BA:=BA_;clear n0_ hb hg BA_;have BB:=Aside0.mk hbox;clear hbox;have hcw2ga0 : w2.cell? ⟨ga,0,none⟩ = some (.slice A0 N.length c0):=(blk_cell BA.out 0).trans rfl;have hcw2ga1 : w2.cell? ⟨ga,1,none⟩ = some (.slice A1 L.length c1):=(blk_cell BA.out 1).trans rfl;have hcw2gb0 : w2.cell? ⟨gb,0,none⟩ = some (.slice B0 M.length d0):=(blk_cell BB.out 0).trans rfl;have hcw2gb1 : w2.cell? ⟨gb,1,none⟩ = some (.slice B1 J.length d1):=(blk_cell BB.out 1).trans rfl)|(go_at_call 11;with_reducible refine (HAW.out _).mono ?_;rintro e w3 ⟨rfl,hb⟩;have BA_:=Aside0.mk (blk_below (g:=ga) (o:=.cells #[.slice A0 N.length c0,.slice A1 L.length c1] 30 (0,0)) (by (with_reducible repeat (first|refine blk_drewN ?_ _|refine blk_drew ?_|refine blk_alloc ?_ _));exact BA.out) hb);have BB_:=Aside0.mk (blk_below (g:=gb) (o:=.cells #[.slice B0 M.length d0,.slice B1 J.length d1] 30 (0,0)) (by (with_reducible repeat (first|refine blk_drewN ?_ _|refine blk_drew ?_|refine blk_alloc ?_ _));exact BB.out) hb);have n0_:=Aside0.mk (below_step (by repeat (first|(with_reducible first|exact HB.out|apply zzD|apply zzE|apply zzF)|exact HB.out)) hb);clear HB BA BB;have HB:=n0_;have BA:=BA_;have BB:=BB_;clear n0_ hb BA_ BB_;have hcw30 : w3.cell? ⟨ga,0,none⟩ = some (.slice A0 N.length c0):=(blk_cell BA.out 0).trans rfl;have hcw31 : w3.cell? ⟨ga,1,none⟩ = some (.slice A1 L.length c1):=(blk_cell BA.out 1).trans rfl;have hcw30 : w3.cell? ⟨gb,0,none⟩ = some (.slice B0 M.length d0):=(blk_cell BB.out 0).trans rfl;have hcw31 : w3.cell? ⟨gb,1,none⟩ = some (.slice B1 J.length d1):=(blk_cell BB.out 1).trans rfl)|(go_at_call 23;with_reducible refine (HLA.out _ (by repeat (first|(with_reducible first|exact HB.out|apply zzD|apply zzE|apply zzF)|exact HB.out))).mono ?_;rintro e w4 ⟨rfl,hb⟩;have BA_:=Aside0.mk (blk_below (g:=ga) (o:=.cells #[.slice A0 N.length c0,.slice A1 L.length c1] 30 (0,0)) (by (with_reducible repeat (first|refine blk_drewN ?_ _|refine blk_drew ?_|refine blk_alloc ?_ _));exact BA.out) hb);have BB_:=Aside0.mk (blk_below (g:=gb) (o:=.cells #[.slice B0 M.length d0,.slice B1 J.length d1] 30 (0,0)) (by (with_reducible repeat (first|refine blk_drewN ?_ _|refine blk_drew ?_|refine blk_alloc ?_ _));exact BB.out) hb);have n0_:=Aside0.mk (below_step (by repeat (first|(with_reducible first|exact HB.out|apply zzD|apply zzE|apply zzF)|exact HB.out)) hb);clear HB BA BB;have HB:=n0_;have BA:=BA_;have BB:=BB_;clear n0_ hb BA_ BB_;have hcw40 : w4.cell? ⟨ga,0,none⟩ = some (.slice A0 N.length c0):=(blk_cell BA.out 0).trans rfl;have hcw41 : w4.cell? ⟨ga,1,none⟩ = some (.slice A1 L.length c1):=(blk_cell BA.out 1).trans rfl;have hcw40 : w4.cell? ⟨gb,0,none⟩ = some (.slice B0 M.length d0):=(blk_cell BB.out 0).trans rfl;have hcw41 : w4.cell? ⟨gb,1,none⟩ = some (.slice B1 J.length d1):=(blk_cell BB.out 1).trans rfl)|(go_at_call 23;with_reducible refine (HLB.out _ (by repeat (first|(with_reducible first|exact HB.out|apply zzD|apply zzE|apply zzF)|exact HB.out))).mono ?_;rintro e w5 ⟨rfl,hb⟩;have BA_:=Aside0.mk (blk_below (g:=ga) (o:=.cells #[.slice A0 N.length c0,.slice A1 L.length c1] 30 (0,0)) (by (with_reducible repeat (first|refine blk_drewN ?_ _|refine blk_drew ?_|refine blk_alloc ?_ _));exact BA.out) hb);have BB_:=Aside0.mk (blk_below (g:=gb) (o:=.cells #[.slice B0 M.length d0,.slice B1 J.length d1] 30 (0,0)) (by (with_reducible repeat (first|refine blk_drewN ?_ _|refine blk_drew ?_|refine blk_alloc ?_ _));exact BB.out) hb);have n0_:=Aside0.mk (below_step (by repeat (first|(with_reducible first|exact HB.out|apply zzD|apply zzE|apply zzF)|exact HB.out)) hb);clear HB BA BB;have HB:=n0_;have BA:=BA_;have BB:=BB_;clear n0_ hb BA_ BB_))
   go_ret
   exact ⟨rfl,(by repeat (first|(with_reducible first|exact HB.out|apply zzD|apply zzE|apply zzF)|exact HB.out))⟩
  ·rw [hlb] at HLB
   obtain ⟨hn,hl,hv⟩:=light_is hla
   obtain ⟨hm,hk,hu⟩:=light_is hlb
   have HVA:=Aside0.mk (show validE N L = 0 → L.length < 20 from fun h=>by have:=hv h;omega)
   have HVB:=Aside0.mk (show validE M J = 0 → J.length < 20 from fun h=>by have:=hu h;omega)
   have HCA:=Aside0.mk (fun W (hw : Below w.heap.size w W)=>copied_c (w:=W) (Kd.C_below hr0 hw) hc0 (Kd.C_below hr1 hw) hc1 (by omega) (by omega))
   have HCB:=Aside0.mk (fun W (hw : Below w.heap.size w W)=>copied_c (w:=W) (Kd.C_below hs0 hw) hd0 (Kd.C_below hs1 hw) hd1 (by omega) (by omega))
   have HCR:=Aside0.mk (fun W (hw : Below w.heap.size w W)=>compareR_calls (w:=W) (Kd.C_below hr0 hw) hc0 (Kd.C_below hr1 hw) hc1 (Kd.C_below hs0 hw) hd0 (Kd.C_below hs1 hw) hd1 ⟨by omega,by omega,by omega,by omega⟩)
   have HSW:=Aside0.mk (fun W (hw : Below w.heap.size w W)=>compare_calls (w:=W) (Kd.C_below hs0 hw) hd0 (Kd.C_below hs1 hw) hd1 (Kd.C_below hr0 hw) hc0 (Kd.C_below hr1 hw) hc1 HVB.out HVA.out)
   obtain ⟨⟨x,E⟩,hx⟩ : ∃ p,cmpE N L M J = p:=⟨_,rfl⟩
   have hsw:=cmpE_swap (N:=N) (M:=M) (L:=L) (J:=J)
   rw [hx] at HCR hsw
   have HX:=Aside0.mk hx
   have kx : (x == x) = true:=by simp
   have kE : (E == E) = true:=by simp
   have kx' : (x != x) = false:=by simp
   have kE' : (E != E) = false:=by simp
   clear hr0 hc0 hr1 hc1 hs0 hd0 hs1 hd1 hla hlb hn hl hv hm hk hu hx
   go_enter Try.func8,Try.ntmps8
   go_upto_region 3 with (first|((with_reducible refine gate_dst (N:=2) rfl ?_);refine box_event ?hg (N:=2) ?hd (cs:=#[.slice A0 N.length c0,.slice A1 L.length c1]) (t:=30) ?hr ?_;(case hd=>rfl);(case hg=>rfl);(case hr=>first|(go_simp;done)|(go_simp;rfl));intro ga hg w1 hbox hb;have n0_:=Aside0.mk (below_step HB.out hb);clear HB;have HB:=n0_;clear n0_ hb hg;have BA:=Aside0.mk hbox;have hcga0 : w1.cell? ⟨ga,0,none⟩ = some (.slice A0 N.length c0):=(blk_cell hbox 0).trans rfl;have hcga1 : w1.cell? ⟨ga,1,none⟩ = some (.slice A1 L.length c1):=(blk_cell hbox 1).trans rfl;clear hbox)|((with_reducible refine gate_dst (N:=3) rfl ?_);refine box_event ?hg (N:=3) ?hd (cs:=#[.slice B0 M.length d0,.slice B1 J.length d1]) (t:=30) ?hr ?_;(case hd=>rfl);(case hg=>rfl);(case hr=>first|(go_simp;done)|(go_simp;rfl));intro gb hg w2 hbox hb;have BBb:=Aside0.mk (show _ ≤ gb from by rw [hg];exact HB.out.size);have BA_:=Aside0.mk (blk_below (g:=ga) (o:=.cells #[.slice A0 N.length c0,.slice A1 L.length c1] 30 (0,0)) (by (with_reducible repeat (first|refine blk_drewN ?_ _|refine blk_drew ?_|refine blk_alloc ?_ _));exact BA.out) hb);have n0_:=Aside0.mk (below_step (by repeat (first|(with_reducible first|exact HB.out|apply zzD|apply zzE|apply zzF)|exact HB.out)) hb);clear HB BA;have HB:=n0_;have BA:=BA_;clear n0_ hb hg BA_;have BB:=Aside0.mk hbox;clear hbox;have hcw2ga0 : w2.cell? ⟨ga,0,none⟩ = some (.slice A0 N.length c0):=(blk_cell BA.out 0).trans rfl;have hcw2ga1 : w2.cell? ⟨ga,1,none⟩ = some (.slice A1 L.length c1):=(blk_cell BA.out 1).trans rfl;have hcw2gb0 : w2.cell? ⟨gb,0,none⟩ = some (.slice B0 M.length d0):=(blk_cell BB.out 0).trans rfl;have hcw2gb1 : w2.cell? ⟨gb,1,none⟩ = some (.slice B1 J.length d1):=(blk_cell BB.out 1).trans rfl)|(go_at_call 11;with_reducible refine (HAW.out _).mono ?_;rintro e w3 ⟨rfl,hb⟩;have BA_:=Aside0.mk (blk_below (g:=ga) (o:=.cells #[.slice A0 N.length c0,.slice A1 L.length c1] 30 (0,0)) (by (with_reducible repeat (first|refine blk_drewN ?_ _|refine blk_drew ?_|refine blk_alloc ?_ _));exact BA.out) hb);have BB_:=Aside0.mk (blk_below (g:=gb) (o:=.cells #[.slice B0 M.length d0,.slice B1 J.length d1] 30 (0,0)) (by (with_reducible repeat (first|refine blk_drewN ?_ _|refine blk_drew ?_|refine blk_alloc ?_ _));exact BB.out) hb);have n0_:=Aside0.mk (below_step (by repeat (first|(with_reducible first|exact HB.out|apply zzD|apply zzE|apply zzF)|exact HB.out)) hb);clear HB BA BB;have HB:=n0_;have BA:=BA_;have BB:=BB_;clear n0_ hb BA_ BB_;have hcw30 : w3.cell? ⟨ga,0,none⟩ = some (.slice A0 N.length c0):=(blk_cell BA.out 0).trans rfl;have hcw31 : w3.cell? ⟨ga,1,none⟩ = some (.slice A1 L.length c1):=(blk_cell BA.out 1).trans rfl;have hcw30 : w3.cell? ⟨gb,0,none⟩ = some (.slice B0 M.length d0):=(blk_cell BB.out 0).trans rfl;have hcw31 : w3.cell? ⟨gb,1,none⟩ = some (.slice B1 J.length d1):=(blk_cell BB.out 1).trans rfl)|(go_at_call 23;with_reducible refine (HLA.out _ (by repeat (first|(with_reducible first|exact HB.out|apply zzD|apply zzE|apply zzF)|exact HB.out))).mono ?_;rintro e w4 ⟨rfl,hb⟩;have BA_:=Aside0.mk (blk_below (g:=ga) (o:=.cells #[.slice A0 N.length c0,.slice A1 L.length c1] 30 (0,0)) (by (with_reducible repeat (first|refine blk_drewN ?_ _|refine blk_drew ?_|refine blk_alloc ?_ _));exact BA.out) hb);have BB_:=Aside0.mk (blk_below (g:=gb) (o:=.cells #[.slice B0 M.length d0,.slice B1 J.length d1] 30 (0,0)) (by (with_reducible repeat (first|refine blk_drewN ?_ _|refine blk_drew ?_|refine blk_alloc ?_ _));exact BB.out) hb);have n0_:=Aside0.mk (below_step (by repeat (first|(with_reducible first|exact HB.out|apply zzD|apply zzE|apply zzF)|exact HB.out)) hb);clear HB BA BB;have HB:=n0_;have BA:=BA_;have BB:=BB_;clear n0_ hb BA_ BB_;have hcw40 : w4.cell? ⟨ga,0,none⟩ = some (.slice A0 N.length c0):=(blk_cell BA.out 0).trans rfl;have hcw41 : w4.cell? ⟨ga,1,none⟩ = some (.slice A1 L.length c1):=(blk_cell BA.out 1).trans rfl;have hcw40 : w4.cell? ⟨gb,0,none⟩ = some (.slice B0 M.length d0):=(blk_cell BB.out 0).trans rfl;have hcw41 : w4.cell? ⟨gb,1,none⟩ = some (.slice B1 J.length d1):=(blk_cell BB.out 1).trans rfl)|(go_at_call 23;with_reducible refine (HLB.out _ (by repeat (first|(with_reducible first|exact HB.out|apply zzD|apply zzE|apply zzF)|exact HB.out))).mono ?_;rintro e w5 ⟨rfl,hb⟩;have BA_:=Aside0.mk (blk_below (g:=ga) (o:=.cells #[.slice A0 N.length c0,.slice A1 L.length c1] 30 (0,0)) (by (with_reducible repeat (first|refine blk_drewN ?_ _|refine blk_drew ?_|refine blk_alloc ?_ _));exact BA.out) hb);have BB_:=Aside0.mk (blk_below (g:=gb) (o:=.cells #[.slice B0 M.length d0,.slice B1 J.length d1] 30 (0,0)) (by (with_reducible repeat (first|refine blk_drewN ?_ _|refine blk_drew ?_|refine blk_alloc ?_ _));exact BB.out) hb);have n0_:=Aside0.mk (below_step (by repeat (first|(with_reducible first|exact HB.out|apply zzD|apply zzE|apply zzF)|exact HB.out)) hb);clear HB BA BB;have HB:=n0_;have BA:=BA_;have BB:=BB_;clear n0_ hb BA_ BB_;have hcw50 : w5.cell? ⟨ga,0,none⟩ = some (.slice A0 N.length c0):=(blk_cell BA.out 0).trans rfl;have hcw51 : w5.cell? ⟨ga,1,none⟩ = some (.slice A1 L.length c1):=(blk_cell BA.out 1).trans rfl;have hcw50 : w5.cell? ⟨gb,0,none⟩ = some (.slice B0 M.length d0):=(blk_cell BB.out 0).trans rfl;have hcw51 : w5.cell? ⟨gb,1,none⟩ = some (.slice B1 J.length d1):=(blk_cell BB.out 1).trans rfl))
   have BA_:=Aside0.mk (blk_drew BA.out)
   have BB_:=Aside0.mk (blk_drew BB.out)
   have HB_:=Aside0.mk (zzF HB.out)
   clear BA BB HB
   have BA:=BA_
   have BB:=BB_
   have HB:=HB_
   clear BA_ BB_ HB_
   refine start_ (n:=10) (S:=fun w'=>w'.cell? ⟨ga,0,none⟩ = some (.slice A0 N.length c0) ∧ w'.cell? ⟨ga,1,none⟩ = some (.slice A1 L.length c1) ∧ w'.cell? ⟨gb,0,none⟩ = some (.slice B0 M.length d0) ∧ w'.cell? ⟨gb,1,none⟩ = some (.slice B1 J.length d1)) (ds:=[]) #[false,false,false,false,false,false,false,false,false,false] (by kernel_rfl) rfl rfl ⟨((blk_cell BA.out 0).trans rfl),((blk_cell BA.out 1).trans rfl),((blk_cell BB.out 0).trans rfl),((blk_cell BB.out 1).trans rfl)⟩ (fun hHeld=>?_)
   refine with_tabW cp.tab3 cp.bits3 (fun HT_ HW_=>?_)
   refine take_ (i:=0) (N:=some 25) (v:=?_) (a':=?_) #[true,false,false,false,false,false,false,false,false,false] rfl rfl (take_ofW HT_.out HW_.out (by kernel_rfl)) (fun _ _ _ h=>h) (Or.inl ⟨by rfl,?_⟩) hHeld ?_ ?_
   rotate_left
   ·rintro w' ⟨s0,s1,s2,s3⟩
    go_simp
    with_reducible rfl
   rotate_left
   ·simp only [Act.put,zzA,zzB,zzC,i64_w,i32_w]
    rfl
   refine take_ (i:=2) (N:=some 27) (v:=?_) (a':=?_) #[true,false,true,false,false,false,false,false,false,false] rfl rfl (take_ofW HT_.out HW_.out (by kernel_rfl)) (fun _ _ _ h=>h) (Or.inl ⟨by rfl,?_⟩) hHeld ?_ ?_
   rotate_left
   ·rintro w' ⟨s0,s1,s2,s3⟩
    go_simp
    with_reducible rfl
   rotate_left
   ·simp only [Act.put,zzA,zzB,zzC,i64_w,i32_w]
    rfl
   refine one_ (i:=1) (N:=some 26) #[true,true,true,false,false,false,false,false,false,false] rfl rfl (one_of HT_.out (by kernel_rfl)) (by decide) (fun K hK=>?_)
   refine goes_ Try.func13 (by kernel_rfl) rfl #[.agg #[.slice A0 N.length c0,.slice A1 L.length c1]] (by rfl) rfl rfl (by simp only [List.map_toArray,List.map_cons,List.map_nil];rfl) ?_
   with_reducible refine (HCA.out _ HB.out).mono ?_
   rintro e w4 ⟨X0,x0,X1,x1,rfl,q0,q1,q2,q3,hb⟩
   refine ⟨_,rfl,?_⟩
   have Q0:=Aside0.mk q0
   have Q1:=Aside0.mk q1
   have Q2:=Aside0.mk q2
   have Q3:=Aside0.mk q3
   clear q0 q1 q2 q3
   have BA_:=Aside0.mk (blk_below BA.out hb)
   have BB_:=Aside0.mk (blk_below BB.out hb)
   have HB_:=Aside0.mk (below_step HB.out hb)
   clear BA BB HB
   have BA:=BA_
   have BB:=BB_
   have HB:=HB_
   clear BA_ BB_ HB_
   clear hb
   refine hK.out _ _ ⟨((blk_cell BA.out 0).trans rfl),((blk_cell BA.out 1).trans rfl),((blk_cell BB.out 0).trans rfl),((blk_cell BB.out 1).trans rfl)⟩ (fun hHeld=>?_)
   clear hK K
   refine norm_ (a':=?_) ?_ ?_
   rotate_left
   ·show Act.put _ (some 26) _ = _
    simp only [Act.put,zzA,zzB,zzC,i64_w,i32_w]
    rfl
   refine one_ (i:=3) (N:=some 28) #[true,true,true,true,false,false,false,false,false,false] rfl rfl (one_of HT_.out (by kernel_rfl)) (by decide) (fun K hK=>?_)
   refine goes_ Try.func13 (by kernel_rfl) rfl #[.agg #[.slice B0 M.length d0,.slice B1 J.length d1]] (by rfl) rfl rfl (by simp only [List.map_toArray,List.map_cons,List.map_nil];rfl) ?_
   with_reducible refine (HCB.out _ HB.out).mono ?_
   rintro e w5 ⟨Y0,y0,Y1,y1,rfl,q0,q1,q2,q3,hb⟩
   refine ⟨_,rfl,?_⟩
   have KC:=Aside0.mk (compare_calls (w:=w5) (Kd.C_below Q0.out hb) Q1.out (Kd.C_below Q2.out hb) Q3.out q0 q1 q2 q3 HVA.out HVB.out)
   rw [HX.out] at KC
   clear q0 q1 q2 q3
   have BA_:=Aside0.mk (blk_below BA.out hb)
   have BB_:=Aside0.mk (blk_below BB.out hb)
   have HB_:=Aside0.mk (below_step HB.out hb)
   clear BA BB HB
   have BA:=BA_
   have BB:=BB_
   have HB:=HB_
   clear BA_ BB_ HB_
   clear hb
   refine hK.out _ _ ⟨((blk_cell BA.out 0).trans rfl),((blk_cell BA.out 1).trans rfl),((blk_cell BB.out 0).trans rfl),((blk_cell BB.out 1).trans rfl)⟩ (fun hHeld=>?_)
   clear hK K
   refine norm_ (a':=?_) ?_ ?_
   rotate_left
   ·show Act.put _ (some 28) _ = _
    simp only [Act.put,zzA,zzB,zzC,i64_w,i32_w]
    rfl
   refine one_ (i:=4) (N:=some 29) #[true,true,true,true,true,false,false,false,false,false] rfl rfl (one_of HT_.out (by kernel_rfl)) (by decide) (fun K hK=>?_)
   refine goes_ Try.func14 (by kernel_rfl) rfl #[.agg #[.slice X0 N.length x0,.slice X1 L.length x1],.agg #[.slice Y0 M.length y0,.slice Y1 J.length y1]] (by rfl) rfl rfl (by simp only [List.map_toArray,List.map_cons,List.map_nil];rfl) ?_
   with_reducible refine (KC.out).mono ?_
   rintro e w6 ⟨rfl,hb⟩
   refine ⟨_,rfl,?_⟩
   have BA_:=Aside0.mk (blk_below BA.out hb)
   have BB_:=Aside0.mk (blk_below BB.out hb)
   have HB_:=Aside0.mk (below_step HB.out hb)
   clear BA BB HB
   have BA:=BA_
   have BB:=BB_
   have HB:=HB_
   clear BA_ BB_ HB_
   clear hb
   refine hK.out _ _ ⟨((blk_cell BA.out 0).trans rfl),((blk_cell BA.out 1).trans rfl),((blk_cell BB.out 0).trans rfl),((blk_cell BB.out 1).trans rfl)⟩ (fun hHeld=>?_)
   clear hK K
   refine norm_ (a':=?_) ?_ ?_
   rotate_left
   ·show Act.put _ (some 29) _ = _
    simp only [Act.put,zzA,zzB,zzC,i64_w,i32_w]
    rfl
   refine pure_ (i:=5) (N:=some 24) (v:=?_) (a':=?_) #[true,true,true,true,true,true,false,false,false,false] rfl rfl (any_of HT_.out (by kernel_rfl)) (fun _ _ _ h=>h) (Or.inl ⟨by rfl,?_⟩) ?_ ?_
   rotate_left
   ·intro w'
    go_simp
    with_reducible rfl
   rotate_left
   ·simp only [Act.put,zzA,zzB,zzC,i64_w,i32_w]
    rfl
   refine pure_ (i:=6) (N:=some 30) (v:=?_) (a':=?_) #[true,true,true,true,true,true,true,false,false,false] rfl rfl (any_of HT_.out (by kernel_rfl)) (fun _ _ _ h=>h) (Or.inl ⟨by rfl,?_⟩) ?_ ?_
   rotate_left
   ·intro w'
    go_simp
    with_reducible rfl
   rotate_left
   ·simp only [Act.put,zzA,zzB,zzC,i64_w,i32_w]
    rfl
   refine pure_ (i:=7) (N:=some 31) (v:=?_) (a':=?_) #[true,true,true,true,true,true,true,true,false,false] rfl rfl (any_of HT_.out (by kernel_rfl)) (fun _ _ _ h=>h) (Or.inl ⟨by rfl,?_⟩) ?_ ?_
   rotate_left
   ·intro w'
    go_simp
    with_reducible rfl
   rotate_left
   ·simp only [Act.put,zzA,zzB,zzC,i64_w,i32_w]
    rfl
   refine pure_ (i:=8) (N:=some 5) (v:=?_) (a':=?_) #[true,true,true,true,true,true,true,true,true,false] rfl rfl (any_of HT_.out (by kernel_rfl)) (fun _ _ _ h=>h) (Or.inl ⟨by rfl,?_⟩) ?_ ?_
   rotate_left
   ·intro w'
    go_simp
    with_reducible rfl
   rotate_left
   ·simp only [Act.put,zzA,zzB,zzC,i64_w,i32_w]
    rfl
   refine pure_ (i:=9) (N:=some 6) (v:=?_) (a':=?_) #[true,true,true,true,true,true,true,true,true,true] rfl rfl (any_of HT_.out (by kernel_rfl)) (fun _ _ _ h=>h) (Or.inl ⟨by rfl,?_⟩) ?_ ?_
   rotate_left
   ·intro w'
    go_simp
    with_reducible rfl
   rotate_left
   ·simp only [Act.put,zzA,zzB,zzC,i64_w,i32_w]
    rfl
   refine done_ (done_of HT_.out (by kernel_rfl)) ?_
   have hcw60 : w6.cell? ⟨ga,0,none⟩ = some (.slice A0 N.length c0):=(blk_cell BA.out 0).trans rfl;have hcw61 : w6.cell? ⟨ga,1,none⟩ = some (.slice A1 L.length c1):=(blk_cell BA.out 1).trans rfl
   have hcw60 : w6.cell? ⟨gb,0,none⟩ = some (.slice B0 M.length d0):=(blk_cell BB.out 0).trans rfl;have hcw61 : w6.cell? ⟨gb,1,none⟩ = some (.slice B1 J.length d1):=(blk_cell BB.out 1).trans rfl
   by_cases hz : E = 0
   ·subst hz
    obtain ⟨h1,h2,h3⟩:=hsw rfl
    try dsimp only at h1 h2 h3
    rw [h1] at HSW
    have hw64 : wrap64 (-x) = -x:=w64 (by omega)
    have kn : (-x == -x) = true:=by simp
    clear h1 hsw
    go_wp2_with (first|(go_at_call 31;with_reducible refine (HCR.out _ (by repeat (first|(with_reducible first|exact HB.out|apply zzD|apply zzE|apply zzF)|exact HB.out))).mono ?_;rintro e w7 ⟨rfl,hb⟩;have BA_:=Aside0.mk (blk_below (g:=ga) (o:=.cells #[.slice A0 N.length c0,.slice A1 L.length c1] 30 (0,0)) (by (with_reducible repeat (first|refine blk_drewN ?_ _|refine blk_drew ?_|refine blk_alloc ?_ _));exact BA.out) hb);have BB_:=Aside0.mk (blk_below (g:=gb) (o:=.cells #[.slice B0 M.length d0,.slice B1 J.length d1] 30 (0,0)) (by (with_reducible repeat (first|refine blk_drewN ?_ _|refine blk_drew ?_|refine blk_alloc ?_ _));exact BB.out) hb);have n0_:=Aside0.mk (below_step (by repeat (first|(with_reducible first|exact HB.out|apply zzD|apply zzE|apply zzF)|exact HB.out)) hb);clear HB BA BB;have HB:=n0_;have BA:=BA_;have BB:=BB_;clear n0_ hb BA_ BB_;have hcw70 : w7.cell? ⟨ga,0,none⟩ = some (.slice A0 N.length c0):=(blk_cell BA.out 0).trans rfl;have hcw71 : w7.cell? ⟨ga,1,none⟩ = some (.slice A1 L.length c1):=(blk_cell BA.out 1).trans rfl;have hcw70 : w7.cell? ⟨gb,0,none⟩ = some (.slice B0 M.length d0):=(blk_cell BB.out 0).trans rfl;have hcw71 : w7.cell? ⟨gb,1,none⟩ = some (.slice B1 J.length d1):=(blk_cell BB.out 1).trans rfl)|(go_at_call 14;with_reducible refine (HSW.out _ (by repeat (first|(with_reducible first|exact HB.out|apply zzD|apply zzE|apply zzF)|exact HB.out))).mono ?_;rintro e w8 ⟨rfl,hb⟩;have BA_:=Aside0.mk (blk_below (g:=ga) (o:=.cells #[.slice A0 N.length c0,.slice A1 L.length c1] 30 (0,0)) (by (with_reducible repeat (first|refine blk_drewN ?_ _|refine blk_drew ?_|refine blk_alloc ?_ _));exact BA.out) hb);have BB_:=Aside0.mk (blk_below (g:=gb) (o:=.cells #[.slice B0 M.length d0,.slice B1 J.length d1] 30 (0,0)) (by (with_reducible repeat (first|refine blk_drewN ?_ _|refine blk_drew ?_|refine blk_alloc ?_ _));exact BB.out) hb);have n0_:=Aside0.mk (below_step (by repeat (first|(with_reducible first|exact HB.out|apply zzD|apply zzE|apply zzF)|exact HB.out)) hb);clear HB BA BB;have HB:=n0_;have BA:=BA_;have BB:=BB_;clear n0_ hb BA_ BB_))
    go_ret
    exact ⟨rfl,(by repeat (first|(with_reducible first|exact HB.out|apply zzD|apply zzE|apply zzF)|exact HB.out))⟩
   ·have k1 : (E != 0) = true:=bne_iff_ne.mpr hz
    have k1' : (E == 0) = false:=beq_eq_false_iff_ne.mpr hz
    clear hsw hz
    go_wp2_with (first|(go_at_call 31;with_reducible refine (HCR.out _ (by repeat (first|(with_reducible first|exact HB.out|apply zzD|apply zzE|apply zzF)|exact HB.out))).mono ?_;rintro e w7 ⟨rfl,hb⟩;have BA_:=Aside0.mk (blk_below (g:=ga) (o:=.cells #[.slice A0 N.length c0,.slice A1 L.length c1] 30 (0,0)) (by (with_reducible repeat (first|refine blk_drewN ?_ _|refine blk_drew ?_|refine blk_alloc ?_ _));exact BA.out) hb);have BB_:=Aside0.mk (blk_below (g:=gb) (o:=.cells #[.slice B0 M.length d0,.slice B1 J.length d1] 30 (0,0)) (by (with_reducible repeat (first|refine blk_drewN ?_ _|refine blk_drew ?_|refine blk_alloc ?_ _));exact BB.out) hb);have n0_:=Aside0.mk (below_step (by repeat (first|(with_reducible first|exact HB.out|apply zzD|apply zzE|apply zzF)|exact HB.out)) hb);clear HB BA BB;have HB:=n0_;have BA:=BA_;have BB:=BB_;clear n0_ hb BA_ BB_;have hcw70 : w7.cell? ⟨ga,0,none⟩ = some (.slice A0 N.length c0):=(blk_cell BA.out 0).trans rfl;have hcw71 : w7.cell? ⟨ga,1,none⟩ = some (.slice A1 L.length c1):=(blk_cell BA.out 1).trans rfl;have hcw70 : w7.cell? ⟨gb,0,none⟩ = some (.slice B0 M.length d0):=(blk_cell BB.out 0).trans rfl;have hcw71 : w7.cell? ⟨gb,1,none⟩ = some (.slice B1 J.length d1):=(blk_cell BB.out 1).trans rfl))
    go_ret
    exact ⟨rfl,(by repeat (first|(with_reducible first|exact HB.out|apply zzD|apply zzE|apply zzF)|exact HB.out))⟩
end
end Go.Proofs.Ytgmomcjnldahjaa.Pr
