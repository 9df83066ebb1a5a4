/- Part 4 of what the law CanonCodeIn rests on: this project's own texts (Tc, Td, Ub, Vb, Vc, Vd, Ve, Uc, Wa, Wb, Wc, Xa, Sf, Xb, Xc), merged and without what is not used. Conditions: each theorem has its own. -/
import Derived.Test.YtgmomcjnldahjaaKCanonCodeIn3
import Derived.Test.YtgmomcjnldahjaaKCanonCodeIn1
open List renaming setIfInBounds_toArray → zzA, set_cons_zero → zzB, set_cons_succ → zzC
open Go.Proofs.YtgmomcjnldahjaaW.PrintWords renaming below_alloc → zzD, pw_below_drewN → zzE, below_drew1 → zzF
namespace Go.Proofs.Ytgmomcjnldahjaa.Pr
open Go.RowKit Go.Proofs.YtgmomcjnldahjaaW.PrintWords Go.Proofs.YtgmomcjnldahjaaW.PrintLast Go.Proofs.YtgmomcjnldahjaaW.PrintMore
attribute [local go_sem] max2_int min2_int max_two min_two max_three min_three max_four min_four
set_option linter.unusedVariables false
set_option linter.unusedSimpArgs false
theorem below_thenB {B B2 : Nat} {w W W2 : World} (h : Below B w W) (h2 : Below B2 W W2) (hle : B ≤ B2) : Below B w W2 :=
 ⟨h2.os.trans h.os,h2.tape.trans h.tape,h2.output.trans h.output,Nat.le_trans h.size h2.size,fun k hk=>(h2.block k (Nat.lt_of_lt_of_le hk hle)).trans (h.block k hk)⟩
theorem below_setB {B : Nat} {w W : World} (h : Below B w W) {p : Addr} (hp : B ≤ p.block) (u : Value) : Below B w (W.setCell p u) :=
 below_thenB h ⟨rfl,rfl,rfl,by simp [World.setCell],fun k hk=>Below.heap_setCell W p u k (by omega)⟩ (Nat.le_refl B)
theorem below_drewNB {B : Nat} {w W : World} (h : Below B w W) (n : Nat) : Below B w (W.drewN n):=below_thenB h (zzE (Below.refl _ _) n) (Nat.le_refl B)
def put.T4 : Bool × List (List Nat × List Nat):=(true,[([],[]),([0],[0]),([],[]),([2],[2]),([],[]),([3,4],[3,4]),([5],[5]),([6],[6]),([],[]),([],[]),([7,8,9],[7,8,9]),([10],[10]),([1,11],[1,11]),([0,1,2,3,4,5,6,7,8,9,10,11,12],[]),([13,12,12,0,1,2,3,4,5,6,7,8,9,10,11,12],[12,13])])
def put.B4 : List Nat:=[0,1,0,4,0,28,60,124,0,0,1020,2044,4095,8191,16383]
theorem put.tab4 : rtab .any (opsOf Try.f56 4) = put.T4:=by kernel_rfl
theorem put.bits4 : waitsOk put.T4.2 put.B4 = true:=by kernel_rfl
theorem ent56 : Ent 56:=⟨_,Try.func56,rfl,rfl⟩
section
variable {Wb W0 : World} {gt gT gO g1 gM gX gp gq : Nat} {A0 : Option Addr} {c0 : Nat} {N : List Int} {A1 : Option Addr} {c1 : Nat} {L : List S34} {gR : Nat} {S : Nat → Nat → List Int} {Ao : Option Addr} {co : Nat} {o : List Nat}
theorem S4.of (hE : OfE Wb W0 gt gT gO g1 gM gX gp gq A0 c0 N A1 c1 L gR S Ao co o) {W : World} {i : Nat} (hk : Kept W0 W (PK gX gp gq)) (hx : ∃ cs : Array Value,i < cs.size ∧ W.heap[gX]? = some (.cells cs 30 (0,0))) {p : Addr} {e : Value} (he : Wb.cell? p = some e) :
  W.cell? ⟨gX,i,none⟩ = some (cellOr W ⟨gX,i,none⟩) ∧ W.frozen? ⟨gX,i,none⟩ = false ∧ W.cell? ⟨g1,0,none⟩ = some (.slice A0 N.length c0) ∧ W.cell? ⟨g1,1,none⟩ = some (.slice A1 L.length c1) ∧ W.cell? p = some e ∧ Kept W0 W (PK gX gp gq) ∧ ∃ cs : Array Value,i < cs.size ∧ W.heap[gX]? = some (.cells cs 30 (0,0)):=by
 obtain ⟨cs,h1,h2⟩:=hx
 have hb:=(hE.boxes hk).1
 exact ⟨cell_or ((blk_cell h2 i).trans (Array.getElem?_eq_getElem h1)),blk_frozen h2 i,(blk_cell hb 0).trans rfl,(blk_cell hb 1).trans rfl,hE.cell he hk,hk,cs,h1,h2⟩
theorem app34_drew {P : Program} {ops : Array Oper} {Q : Exit → Act → World → Prop} {Kc : Act → World → Prop} {o : Oper} {a : Act} {w0 W : World} (base : Nat) (hw : Region.wanted o (yielded ops a.tmps) = true) (s x : Operand) (t : TypeId)
  (ho : o.op = .call { callee:=.builtin .append,args:=#[s,x],argTypes:=#[t,t] }) (ht : P.underlying t = some (.slice 34)) (hinfo : (P.info? 34).map (fun i=>(i.zero,i.size,i.bytes)) = some (some (.agg #[.int .i64 0,.int .i64 0,.int .i64 0]),3,24))
  (v : Value) (xs : List S34) (p : S34) (hs : a.eval s = v) (hx : a.eval x = .slice (some ⟨W.heap.size,0,none⟩) 1 1) (HO : Kd.R k34 34 W base (fun _=>True) v xs) (HB : Below base w0 W) (hbase : base ≤ W.heap.size) (hl : (xs.length + 1) * 24 ≤ 140737488355328)
  (h : ∀ v1 w1,Kd.R k34 34 w1 base (fun _=>True) v1 (xs ++ [p]) → Below base w0 w1 → W.grownBy w1 v.ownBlock → (v1.ownBlock = v.ownBlock ∨ ∃ b,v1.ownBlock = some b ∧ W.heap.size ≤ b) → Kc (a.put o.dst v1) w1) :
  if Region.wanted o (yielded ops a.tmps) = true then Oper.wp P o a (W.alloc (.cells #[.int .i64 p.f0,.int .i64 p.f1,.int .i64 p.f2] 34 (0,0))).drew Kc Q else Kc (a.put o.dst undef) (W.alloc (.cells #[.int .i64 p.f0,.int .i64 p.f1,.int .i64 p.f2] 34 (0,0))).drew :=
 Kd.R_append_step k34 (w0:=w0) (W:=W.drew) base hw s x t 34 (.agg #[.int .i64 0,.int .i64 0,.int .i64 0]) 24 ho ht hinfo rfl (by decide) (by omega) v xs p [.int .i64 p.f0,.int .i64 p.f1,.int .i64 p.f2] (fun _=>True) (fun _=>False) hs hx (k34_mkM _ _ _ p) (fun _ hk=>hk.elim) (fun _ _=>trivial) (Kd.R_drew HO) (zzF HB) hbase hl
  (fun v1 w1 a1 a2 a3 a4=>h v1 w1 a1 a2 ⟨a3.os,a3.tape,a3.output,a3.size,a3.block⟩ a4)
set_option maxHeartbeats 8000000 in
set_option maxRecDepth 100000 in
theorem clo56_calls (hE : OfE Wb W0 gt gT gO g1 gM gX gp gq A0 c0 N A1 c1 L gR S Ao co o) {i j : Nat} (hi : i < N.length) (hj : j < N.length) {w : World} (hK : Kept W0 w (PK gX gp gq)) {vX vY : Value} {xs : List Int} {ys : List S34} {P Q : List Int} (hI : OfI w W0.heap.size gX gp gq N.length L.length vX vY xs ys P Q) (hy : ys.length ≤ 1000000) {Bs : Nat} {wB : World} (hBw : Below Bs wB w) (hs : ∀ k,PK gX gp gq k → Bs ≤ k) (hs0 : Bs ≤ W0.heap.size) :
  Calls Try.prog 56 #[.int .i64 (i : Int),.int .i64 (j : Int),.pointer (some ⟨gT,0,none⟩),.pointer (some ⟨gO,0,none⟩),.pointer (some ⟨gX,0,none⟩),.pointer (some ⟨gM,0,none⟩),.pointer (some ⟨g1,0,none⟩)] w fun e w'=>e = .returned (.tuple #[]) ∧ Kept W0 w' (PK gX gp gq) ∧ Below Bs wB w' ∧
   ∃ vY',OfI w' W0.heap.size gX gp gq N.length L.length vX vY' xs ((S (o.getD i 0) (o.getD j 0)).foldl (put1 L i j) (Q,ys)).2 P ((S (o.getD i 0) (o.getD j 0)).foldl (put1 L i j) (Q,ys)).1:=by
 have hT:=hE.hT
 have hC:=hE.hC
 obtain ⟨h1,hTb,hO,hM⟩:=hE.boxes hK
 have hoi : o.getD i 0 < N.length:=hE.ho _ (by rw [List.getD_eq_getElem?_getD,List.getElem?_eq_getElem (by rw [hE.hol];exact hi)];exact List.getElem_mem _)
 have hoj : o.getD j 0 < N.length:=hE.ho _ (by rw [List.getD_eq_getElem?_getD,List.getElem?_eq_getElem (by rw [hE.hol];exact hj)];exact List.getElem_mem _)
 have hri : rd (io o) (i : Int) = ((o.getD i 0 : Nat) : Int):=by
  have : i < o.length:=by rw [hE.hol];exact hi
  simp [rd,io,List.getD_eq_getElem?_getD,List.getElem?_eq_getElem this]
 have hrj : rd (io o) (j : Int) = ((o.getD j 0 : Nat) : Int):=by
  have : j < o.length:=by rw [hE.hol];exact hj
  simp [rd,io,List.getD_eq_getElem?_getD,List.getElem?_eq_getElem this]
 generalize o.getD i 0 = f at hoi hri ⊢
 generalize o.getD j 0 = t at hoj hrj ⊢
 have hol:=io_len o
 rw [hE.hol] at hol
 obtain ⟨ad,e1,hxi⟩:=Kd.at_int hC (i : Int) (by omega) (by omega)
 obtain ⟨ad',e1',hxj⟩:=Kd.at_int hC (j : Int) (by omega) (by omega)
 subst e1
 cases e1'
 rw [hri,Int.toNat_natCast] at hxi
 rw [hrj,Int.toNat_natCast] at hxj
 have hlen:=tabL_len N.length S
 obtain ⟨adR,AR,cR,eR,hxR,hlR,hiR⟩:=at_L3 hT.hT (f : Int) (by omega) (by omega)
 cases eR
 rw [rd_row hoi] at hxR hlR hiR
 rw [Int.toNat_natCast] at hxR
 obtain ⟨ad2,A2,c2,e2,hx2,hl2,hi2⟩:=at_L2 hiR (t : Int) (by omega) (by simp;omega)
 subst e2
 rw [rd_cell hoj] at hx2 hl2 hi2
 rw [Int.toNat_natCast] at hx2
 have hrl : ((List.range N.length).map (S f)).length = N.length:=by simp
 rw [hrl] at hxR hlR
 replace hxi:=hE.cell hxi hK
 replace hxj:=hE.cell hxj hK
 replace hxR:=hE.cell hxR hK
 replace hx2:=hE.cell hx2 hK
 have hxR2 : w.cell? ⟨gR,f,none⟩ = some (.slice (some ad2) N.length cR):=by rw [add_plain] at hxR;exact hxR
 have hi0 : 0 ≤ (i : Int):=by omega
 have hi1 : (i : Int) < (N.length : Int):=by omega
 have hj0 : 0 ≤ (j : Int):=by omega
 have hj1 : (j : Int) < (N.length : Int):=by omega
 have hf0 : 0 ≤ (f : Int):=by omega
 have hf1 : (f : Int) < (N.length : Int):=by omega
 have ht0 : 0 ≤ (t : Int):=by omega
 have ht1 : (t : Int) < (N.length : Int):=by omega
 have hcT : w.cell? ⟨gT,0,none⟩ = some (.pointer (some ⟨gt,0,none⟩)):=(blk_cell hTb 0).trans rfl
 have hct2 : w.cell? ⟨gt,2,none⟩ = some (.slice (some ⟨gR,0,none⟩) N.length N.length):=hE.cell ((blk_cell hT.ht 2).trans rfl) hK
 have hcO : w.cell? ⟨gO,0,none⟩ = some (.slice (some ad) N.length co):=(blk_cell hO 0).trans rfl
 obtain ⟨row,hrow⟩ : ∃ row,S f t = row:=⟨_,rfl⟩
 have hfit:=hT.fits f t hoi hoj
 rw [hrow] at hx2 hl2 hi2 hfit ⊢
 have hr100:=hfit.1
 have HE:=Aside0.mk hE
 have HRW:=Aside0.mk (fun W' (h : Kept W0 W' (PK gX gp gq))=>show Kd.C (Kd.int .i64) W' A2 row.length row from hE.reads (Kd.heap_int _) hi2 h)
 have HI:=Aside0.mk hI
 have HK:=Aside0.mk hK
 have HF:=Aside0.mk hfit
 have HY:=Aside0.mk hy
 have HBW:=Aside0.mk hBw
 have HS:=Aside0.mk hs
 have HS0:=Aside0.mk hs0
 clear hBw hs hs0 hT h1 hTb hO hM hC hri hrj hol hlen hiR hl2 hi2 hE hI hK hfit hy hrl hlR hrow
 go_enter Try.func56,Try.ntmps56
 go_wp2
 repeat (go_quiet (fail);try go_wp2)
 go_loopw [28] (fun v wr=>∃ (m : Nat) (vY' : Value),m ≤ row.length ∧ v = .int .i64 (m : Int) ∧ Aside0 (OfI wr W0.heap.size gX gp gq N.length L.length vX vY' xs ((row.take m).foldl (put1 L i j) (Q,ys)).2 P ((row.take m).foldl (put1 L i j) (Q,ys)).1) ∧ Aside0 (Kept W0 wr (PK gX gp gq)) ∧ Aside0 (Below Bs wB wr)) (fun v _=>row.length - (intOf v).toNat)
 case atStart=>exact ⟨0,vY,by omega,rfl,Aside0.mk (HI.out.below (zzE (Below.refl _ _) _)),Aside0.mk (HK.out.drewN _),Aside0.mk (below_drewNB HBW.out _)⟩
 case round =>
  clear HI HK HBW hxi hxj hxR hx2 hcT hct2 hcO hxR2 hi0 hi1 hj0 hj1 hf0 hf1 ht0 ht1
  obtain ⟨m,vY',hm,rfl,HI,HK,HBW⟩:=hrel
  by_cases c3 : m < row.length
  ·have k3 : decide ((m : Int) < (row.length : Int)) = true:=decide_eq_true (by omega)
   have k3' : decide (m < row.length) = true:=decide_eq_true c3
   obtain ⟨Q1,hQ1⟩ : ∃ z,((row.take m).foldl (put1 L i j) (Q,ys)).1 = z:=⟨_,rfl⟩
   obtain ⟨ys1,hy1⟩ : ∃ z,((row.take m).foldl (put1 L i j) (Q,ys)).2 = z:=⟨_,rfl⟩
   have HST:=Aside0.mk (show (row.take (m + 1)).foldl (put1 L i j) (Q,ys) = put1 L i j (Q1,ys1) (rd row (m : Int)) from by
    rw [take_snoc c3,List.foldl_append,← hQ1,← hy1];rfl)
   have hyl : ys1.length ≤ 1000100:=by rw [← hy1,put_len,List.length_take];have:=HF.out.1;have:=HY.out;dsimp only;omega
   rw [hQ1,hy1] at HI
   clear hQ1 hy1
   obtain ⟨ar,e3,hxm⟩:=Kd.at_int (HRW.out wr HK.out) (m : Int) (by omega) (by omega)
   cases e3
   have hxe:=HF.out.2 (rd row (m : Int)) (by rw [rd,Int.toNat_natCast,List.getD_eq_getElem?_getD,List.getElem?_eq_getElem c3];exact List.getElem_mem c3)
   rw [Int.toNat_natCast] at hxm
   generalize rd row (m : Int) = x at hxm hxe HST
   obtain ⟨a,rfl⟩:=Int.eq_ofNat_of_zero_le hxe.1
   have haL : a < L.length:=by omega
   obtain ⟨Ay,cy,e4⟩:=Kd.R_slice HI.out.rY
   subst e4
   obtain ⟨ae,e5,hxt,_,_⟩:=at_T34 HE.out.hT.hL (a : Int) (by omega) (by omega)
   subst e5
   rw [Int.toNat_natCast] at hxt
   have HXT:=Aside0.mk hxt
   have hcM : wr.cell? ⟨gM,1,none⟩ = some (.slice (some ⟨gq,0,none⟩) L.length L.length):=(blk_cell (HE.out.boxes HK.out).2.2.2 1).trans rfl
   have hcX : wr.cell? ⟨gX,1,none⟩ = some (.slice Ay ys1.length cy):=(blk_cell HI.out.hX 1).trans rfl
   have hfq : wr.frozen? ⟨gq,a,none⟩ = false:=blk_frozen HI.out.hQ a
   have hq1 : 0 ≤ (a : Int):=by omega
   have hq2 : (a : Int) < (L.length : Int):=by omega
   have hcq : ∃ z,wr.cell? ⟨gq,a,none⟩ = some z:=⟨_,(blk_cell HI.out.hQ a).trans (Array.getElem?_eq_getElem (by simp;rw [HI.out.lQ];exact haL))⟩
   obtain ⟨zq,hcq⟩:=hcq
   clear hxe hxt
   go_upto_region 4 with (first|((with_reducible refine gate_store (t:=3) (p:=38) rfl ?_);refine store_event (t:=3) (p:=38) (v:=?vo_) (w1:=wr.setCell ⟨gq,a,none⟩ (.int .i64 (ys1.length : Int))) ?hg ?ho ?hn ?hr ?_;(case ho=>rfl);(case hg=>rfl);(case hn=>rfl);(case hr=>first|(go_simp;done)|(go_simp;rfl));intro wS hw))
   have F1:=HI.out.setQ HE.out.xq HE.out.pq HE.out.bq a (ys1.length : Int)
   have F2 : Kept W0 (wr.setCell ⟨gq,a,none⟩ (.int .i64 (ys1.length : Int))) (PK gX gp gq):=HK.out.setCell (.inl (.inr (.inr rfl))) _
   have F0 : Below Bs wB (wr.setCell ⟨gq,a,none⟩ (.int .i64 (ys1.length : Int))):=below_setB HBW.out (HS.out _ (.inr (.inr rfl))) _
   rw [← hw] at F0 F1 F2
   clear HBW
   have HBW:=Aside0.mk F0
   clear F0 HI HK hcM hcX hfq hcq hw
   have hcX : wS.cell? ⟨gX,1,none⟩ = some (.slice Ay ys1.length cy):=(blk_cell F1.hX 1).trans rfl
   have hc1 : wS.cell? ⟨g1,1,none⟩ = some (.slice (some ae) L.length c1):=(blk_cell (HE.out.boxes F2).1 1).trans rfl
   have hxt : wS.cell? (ae.add (a * 3)) = some (.int .i64 (rd_T34 L (a : Int)).f0):=HE.out.cell HXT.out F2
   have BX:=Aside0.mk (Below.refl wS.heap.size wS)
   have HI:=Aside0.mk F1
   have HK:=Aside0.mk F2
   clear F1 F2
   refine start_ (n:=15) (S:=fun w'=>w'.cell? ⟨gX,1,none⟩ = some (.slice Ay ys1.length cy) ∧ w'.cell? ⟨g1,1,none⟩ = some (.slice (some ae) L.length c1) ∧ w'.cell? (ae.add (a * 3)) = some (.int .i64 (rd_T34 L (a : Int)).f0)) (ds:=[14]) #[false,false,false,false,false,false,false,false,false,false,false,false,false,false,false] (by kernel_rfl) rfl rfl ⟨hcX,hc1,hxt⟩ (fun hHeld=>?_)
   refine with_tabW put.tab4 put.bits4 (fun HT_ HW_=>?_)
   refine pure_ (i:=0) (N:=some 39) (v:=?_) (a':=?_) #[true,false,false,false,false,false,false,false,false,false,false,false,false,false,false] rfl rfl (any_of HT_.out (by kernel_rfl)) (fun _ _ _ h=>h) (Or.inl ⟨by rfl,?_⟩) ?_ ?_
   rotate_left
   ·intro w'
    go_simp
    with_reducible rfl
   rotate_left
   ·simp only [Act.put,zzA,zzB,zzC,i64_w,i32_w]
    rfl
   refine pure_ (i:=2) (N:=some 41) (v:=?_) (a':=?_) #[true,false,true,false,false,false,false,false,false,false,false,false,false,false,false] rfl rfl (any_of HT_.out (by kernel_rfl)) (fun _ _ _ h=>h) (Or.inl ⟨by rfl,?_⟩) ?_ ?_
   rotate_left
   ·intro w'
    go_simp
    with_reducible rfl
   rotate_left
   ·simp only [Act.put,zzA,zzB,zzC,i64_w,i32_w]
    rfl
   refine pure_ (i:=4) (N:=some 43) (v:=?_) (a':=?_) #[true,false,true,false,true,false,false,false,false,false,false,false,false,false,false] rfl rfl (any_of HT_.out (by kernel_rfl)) (fun _ _ _ h=>h) (Or.inl ⟨by rfl,?_⟩) ?_ ?_
   rotate_left
   ·intro w'
    go_simp
    with_reducible rfl
   rotate_left
   ·simp only [Act.put,zzA,zzB,zzC,i64_w,i32_w]
    rfl
   refine pure_ (i:=8) (N:=some 47) (v:=?_) (a':=?_) #[true,false,true,false,true,false,false,false,true,false,false,false,false,false,false] rfl rfl (any_of HT_.out (by kernel_rfl)) (fun _ _ _ h=>h) (Or.inl ⟨by rfl,?_⟩) ?_ ?_
   rotate_left
   ·intro w'
    go_simp
    with_reducible rfl
   rotate_left
   ·simp only [Act.put,zzA,zzB,zzC,i64_w,i32_w]
    rfl
   refine pure_ (i:=9) (N:=some 48) (v:=?_) (a':=?_) #[true,false,true,false,true,false,false,false,true,true,false,false,false,false,false] rfl rfl (any_of HT_.out (by kernel_rfl)) (fun _ _ _ h=>h) (Or.inl ⟨by rfl,?_⟩) ?_ ?_
   rotate_left
   ·intro w'
    go_simp
    with_reducible rfl
   rotate_left
   ·simp only [Act.put,zzA,zzB,zzC,i64_w,i32_w]
    rfl
   refine take_ (i:=1) (N:=some 40) (v:=?_) (a':=?_) #[true,true,true,false,true,false,false,false,true,true,false,false,false,false,false] rfl rfl (take_ofW HT_.out HW_.out (by kernel_rfl)) (fun _ _ _ h=>h) (Or.inl ⟨by rfl,?_⟩) hHeld ?_ ?_
   rotate_left
   ·rintro w' ⟨s0,s1,s2⟩
    go_simp
    with_reducible rfl
   rotate_left
   ·simp only [Act.put,zzA,zzB,zzC,i64_w,i32_w]
    rfl
   refine take_ (i:=3) (N:=some 42) (v:=?_) (a':=?_) #[true,true,true,true,true,false,false,false,true,true,false,false,false,false,false] rfl rfl (take_ofW HT_.out HW_.out (by kernel_rfl)) (fun _ _ _ h=>h) (Or.inl ⟨by rfl,?_⟩) hHeld ?_ ?_
   rotate_left
   ·rintro w' ⟨s0,s1,s2⟩
    go_simp
    with_reducible rfl
   rotate_left
   ·simp only [Act.put,zzA,zzB,zzC,i64_w,i32_w]
    rfl
   refine pure_ (i:=5) (N:=some 44) (v:=?_) (a':=?_) #[true,true,true,true,true,true,false,false,true,true,false,false,false,false,false] rfl rfl (any_of HT_.out (by kernel_rfl)) (fun _ _ _ h=>h) (Or.inl ⟨by rfl,?_⟩) ?_ ?_
   rotate_left
   ·intro w'
    go_simp
    with_reducible rfl
   rotate_left
   ·simp only [Act.put,zzA,zzB,zzC,i64_w,i32_w]
    rfl
   refine pure_ (i:=6) (N:=some 45) (v:=?_) (a':=?_) #[true,true,true,true,true,true,true,false,true,true,false,false,false,false,false] rfl rfl (any_of HT_.out (by kernel_rfl)) (fun _ _ _ h=>h) (Or.inl ⟨by rfl,?_⟩) ?_ ?_
   rotate_left
   ·intro w'
    go_simp
    with_reducible rfl
   rotate_left
   ·simp only [Act.put,zzA,zzB,zzC,i64_w,i32_w]
    rfl
   refine take_ (i:=7) (N:=some 46) (v:=?_) (a':=?_) #[true,true,true,true,true,true,true,true,true,true,false,false,false,false,false] rfl rfl (take_ofW HT_.out HW_.out (by kernel_rfl)) (fun _ _ _ h=>h) (Or.inl ⟨by rfl,?_⟩) hHeld ?_ ?_
   rotate_left
   ·rintro w' ⟨s0,s1,s2⟩
    go_simp
    with_reducible rfl
   rotate_left
   ·simp only [Act.put,zzA,zzB,zzC,i64_w,i32_w]
    rfl
   refine pure_ (i:=10) (N:=some 49) (v:=?_) (a':=?_) #[true,true,true,true,true,true,true,true,true,true,true,false,false,false,false] rfl rfl (any_of HT_.out (by kernel_rfl)) (fun _ _ _ h=>h) (Or.inl ⟨by rfl,?_⟩) ?_ ?_
   rotate_left
   ·intro w'
    go_simp
    with_reducible rfl
   rotate_left
   ·simp only [Act.put,zzA,zzB,zzC,i64_w,i32_w]
    rfl
   refine one_ (i:=11) (N:=some 50) #[true,true,true,true,true,true,true,true,true,true,true,true,false,false,false] rfl rfl (one_of HT_.out (by kernel_rfl)) (by decide) (fun K hK=>?_)
   refine value_ (w1:=?_) (v:=?_) (by rfl) rfl ?_ ?_
   rotate_left 2
   ·go_simp
    constructor
    ·rfl
    ·rfl
   refine hK.out _ _ ⟨(pw_cell_below (w:=wS) (by repeat (first|(with_reducible first|exact BX.out|apply zzD|apply zzE|apply zzF)|exact BX.out)) hcX),(pw_cell_below (w:=wS) (by repeat (first|(with_reducible first|exact BX.out|apply zzD|apply zzE|apply zzF)|exact BX.out)) hc1),(pw_cell_below (w:=wS) (by repeat (first|(with_reducible first|exact BX.out|apply zzD|apply zzE|apply zzF)|exact BX.out)) hxt)⟩ (fun hHeld=>?_)
   clear hK K
   refine norm_ (a':=?_) ?_ ?_
   rotate_left
   ·show Act.put _ (some 50) _ = _
    simp only [Act.put,zzA,zzB,zzC,i64_w,i32_w]
    rfl
   refine one_ (i:=12) (N:=some 51) #[true,true,true,true,true,true,true,true,true,true,true,true,true,false,false] rfl rfl (one_of HT_.out (by kernel_rfl)) (by decide) (fun K hK=>?_)
   refine app34_drew (w0:=wS) (W:=wS) W0.heap.size (by rfl) (.tmp 40) (.tmp 50) 28 rfl Try.underlying28 info34 (.slice Ay ys1.length cy) ys1 ⟨(rd_T34 L (a : Int)).f0,(i : Int),(j : Int)⟩ rfl rfl HI.out.rY (Below.refl _ _) HK.out.1 (by omega) ?_
   intro v1 w4 ho hb hg hat
   obtain ⟨Av,cv,ev⟩:=Kd.R_slice ho
   subst ev
   have QG:=Aside0.mk (show Kept W0 w4 (PK gX gp gq) from Kept.of_grown hg HK.out (fun k hk=>.inr (Kd.R_base HI.out.rY k hk)))
   have QX:=Aside0.mk (blk_grown HI.out.hX hg (fun he=>by have:=Kd.R_base HI.out.rY gX he.symm;have:=HE.out.bX;omega))
   have OW:=Aside0.mk ho
   have HB4:=Aside0.mk hb
   have HG4:=Aside0.mk hg
   clear ho hb hg hat
   have hcX4 : w4.cell? ⟨gX,1,none⟩ = some (.slice Ay ys1.length cy):=(blk_cell QX.out 1).trans rfl
   have hfX4:=blk_frozen QX.out 1
   refine hK.out _ _ ⟨hcX4,((blk_cell (HE.out.boxes QG.out).1 1).trans rfl),(HE.out.cell HXT.out QG.out)⟩ (fun hHeld=>?_)
   clear hK K
   refine norm_ (a':=?_) ?_ ?_
   rotate_left
   ·show Act.put _ (some 51) _ = _
    simp only [Act.put,zzA,zzB,zzC,i64_w,i32_w]
    rfl
   refine pure_ (i:=13) (N:=some 52) (v:=?_) (a':=?_) #[true,true,true,true,true,true,true,true,true,true,true,true,true,true,false] rfl rfl (any_of HT_.out (by kernel_rfl)) (fun _ _ _ h=>h) (Or.inl ⟨by rfl,?_⟩) ?_ ?_
   rotate_left
   ·intro w'
    go_simp
    with_reducible rfl
   rotate_left
   ·simp only [Act.put,zzA,zzB,zzC,i64_w,i32_w]
    rfl
   refine last_ (i:=14) (N:=none) #[true,true,true,true,true,true,true,true,true,true,true,true,true,true,true] rfl rfl (one_of HT_.out (by kernel_rfl)) (by decide) (fun K hK=>?_)
   refine skip_ (w1:=?_) (by rfl) rfl ?_ ?_
   rotate_left
   ·go_simp
    rfl
   refine hK.out _ _ ?_
   clear hK K
   refine done_ (done_of HT_.out (by kernel_rfl)) ?_
   have F1:=HI.out.putY HE.out.xp HE.out.xq HE.out.bX HE.out.bp HE.out.bq OW.out HG4.out
   have F2 : Kept W0 (w4.setCell ⟨gX,1,none⟩ (.slice Av (ys1 ++ [S34.mk (rd_T34 L (a : Int)).f0 (i : Int) (j : Int)]).length cv)) (PK gX gp gq):=QG.out.setCell (.inl (.inl rfl)) _
   have F3 : OfI (w4.setCell ⟨gX,1,none⟩ (.slice Av (ys1 ++ [S34.mk (rd_T34 L (a : Int)).f0 (i : Int) (j : Int)]).length cv)) W0.heap.size gX gp gq N.length L.length vX (.slice Av (ys1 ++ [S34.mk (rd_T34 L (a : Int)).f0 (i : Int) (j : Int)]).length cv) xs ((row.take (m + 1)).foldl (put1 L i j) (Q,ys)).2 P ((row.take (m + 1)).foldl (put1 L i j) (Q,ys)).1:=by
    rw [HST.out];exact F1
   have hln : (ys1 ++ [S34.mk (rd_T34 L (a : Int)).f0 (i : Int) (j : Int)]).length = ys1.length + 1:=by simp
   have F4 : Below Bs wB (w4.setCell ⟨gX,1,none⟩ (.slice Av (ys1 ++ [S34.mk (rd_T34 L (a : Int)).f0 (i : Int) (j : Int)]).length cv)):=below_setB (below_thenB HBW.out HB4.out HS0.out) (HS.out _ (.inl rfl)) _
   rw [hln] at F2 F3 F4
   have R4:=Aside0.mk F4
   clear F4 HB4 HBW
   have R2:=Aside0.mk F2
   have R3:=Aside0.mk F3
   clear hln
   clear F1 F2 F3 QG QX OW HG4 HI HK BX hcX4 hfX4
   go_wp2
   go_roundw
   case rel=>exact ⟨m + 1,_,by omega,by first|rfl|simp,R3,R2,R4⟩
   case measure=>show row.length - ((m : Int) + 1).toNat < row.length - ((m : Nat) : Int).toNat;omega
  ·have k3 : decide ((m : Int) < (row.length : Int)) = false:=decide_eq_false (by omega)
   have k3' : decide (m < row.length) = false:=decide_eq_false c3
   obtain rfl : m = row.length:=by omega
   go_wp2
   first|go_end0|((try simp only [Exit.inBlock,Exit.then]);refine bodyPost_ret (results_none rfl _ _ _) rfl ?_)
   refine ⟨rfl,HK.out,HBW.out,vY',?_⟩
   have:=HI.out
   rwa [List.take_length] at this
end
end Go.Proofs.Ytgmomcjnldahjaa.Pr
namespace Go.Proofs.Ytgmomcjnldahjaa.Pr
open Go.RowKit Go.Proofs.YtgmomcjnldahjaaW.PrintWords Go.Proofs.YtgmomcjnldahjaaW.PrintLast Go.Proofs.YtgmomcjnldahjaaW.PrintMore
attribute [local go_sem] max2_int min2_int max_two min_two max_three min_three max_four min_four
set_option linter.unusedVariables false
set_option linter.unusedSimpArgs false
def put2 (L : List S34) (S : Nat → Nat → List Int) (o : List Nat) (st : List Int × List S34) (p : Nat × Nat) : List Int × List S34:=(S (o.getD p.1 0) (o.getD p.2 0)).foldl (put1 L p.1 p.2) st
def pairsK (k j : Nat) : List (Nat × Nat):=(List.range j).flatMap fun i=>[(i,k),(k,i)]
def ofE (L : List S34) (S : Nat → Nat → List Int) (o : List Nat) (k : Nat) : List Int × List S34:=(List.range k).foldl (fun st i=>(pairsK i i ++ [(i,i)]).foldl (put2 L S o) st) (List.replicate L.length 0,[])
def ofP (n : Nat) (o : List Nat) (k : Nat) : List Int:=(List.range k).foldl (fun P i=>P.set (o.getD i 0) (i : Int)) (List.replicate n 0)
def ofX (N : List Int) (o : List Nat) (k : Nat) : List Int:=(o.take k).map fun (v : Nat)=>rd N (v : Int)
theorem C_full {W : World} {g n : Nat} {P : List Int} (h : W.heap[g]? = some (.cells (P.map (Value.int .i64)).toArray 3 (0,0))) (hn : P.length = n) (hl : n ≤ 1000000) : Kd.C (Kd.int .i64) W (some ⟨g,0,none⟩) n P:=by
 subst hn
 refine ⟨rfl,by omega,fun _=>⟨_,rfl,fun j p hp=>⟨[.int .i64 p],rfl,rfl,fun a u hu=>?_⟩⟩⟩
 rcases a with _|a
 ·have e1 : j * (Kd.int .i64).sz + 0 = j:=by show j * 1 + 0 = j;omega
  rw [← Option.some.inj hu,add_plain,blk_cell h,e1]
  simp only [List.getElem?_toArray,List.getElem?_map,hp];rfl
 ·exact absurd hu (by simp)
theorem BestV.opened {W : World} {base : Nat} {ok : Nat → Prop} {ov cv : Value} {o : List Nat} {code : List Int} (h : BestV W base ok ov cv (some (o,code))) : ∃ Ao co Ac cc,ov = .slice Ao o.length co ∧ cv = .slice Ac code.length cc ∧ (o.length ≤ co ∧ Kd.C (Kd.int .i64) W Ao o.length (io o)):=by
 obtain ⟨_,_,p1,p2⟩:=h
 obtain ⟨Ao,co,e1⟩:=Kd.R_slice p1
 obtain ⟨Ac,cc,e2⟩:=Kd.R_slice p2
 subst e1 e2
 have:=Kd.R_reads' p1
 exact ⟨Ao,co,Ac,cc,by rw [io_len],rfl,by rw [← io_len];exact this.2.1,by rw [← io_len];exact this.2.2⟩
theorem made_ints (n : Nat) : madeCells #[Value.int .i64 0] n = ((List.replicate n (0 : Int)).map (Value.int .i64)).toArray:=by
 apply Array.toList_inj.1
 apply List.ext_getElem
 ·simp [madeCells]
 ·intro i h1 h2
  simp [madeCells,Nat.mod_one]
theorem ofE_succ (L : List S34) (S : Nat → Nat → List Int) (o : List Nat) (k : Nat) : ofE L S o (k + 1) = (pairsK k k ++ [(k,k)]).foldl (put2 L S o) (ofE L S o k):=by
 rw [ofE,List.range_succ,List.foldl_append];rfl
theorem ofP_succ (n : Nat) (o : List Nat) (k : Nat) : ofP n o (k + 1) = (ofP n o k).set (o.getD k 0) (k : Int):=by
 rw [ofP,List.range_succ,List.foldl_append];rfl
theorem ofX_succ (N : List Int) (o : List Nat) {k : Nat} (hk : k < o.length) : ofX N o (k + 1) = ofX N o k ++ [rd N ((o.getD k 0 : Nat) : Int)]:=by
 rw [ofX,List.take_add_one,List.map_append,ofX,List.getD_eq_getElem?_getD,List.getElem?_eq_getElem hk];rfl
theorem ofP_len (n : Nat) (o : List Nat) : ∀ k,(ofP n o k).length = n
 | 0 => by simp [ofP]
 | k + 1 => by rw [ofP_succ,List.length_set,ofP_len n o k]
theorem pairsK_succ (k j : Nat) : pairsK k (j + 1) = pairsK k j ++ [(j,k),(k,j)]:=by
 rw [pairsK,List.range_succ,List.flatMap_append];rfl
theorem getD_lt {o : List Nat} {n : Nat} (ho : ∀ v ∈ o,v < n) (hol : o.length = n) {i : Nat} (hi : i < n) : o.getD i 0 < n :=
 ho _ (by rw [List.getD_eq_getElem?_getD,List.getElem?_eq_getElem (by rw [hol];exact hi)];exact List.getElem_mem _)
theorem put2_len {L : List S34} {S : Nat → Nat → List Int} {n : Nat} (hf : Fits n L S) {o : List Nat} (ho : ∀ v ∈ o,v < n) (hol : o.length = n) : ∀ (l : List (Nat × Nat)),(∀ p ∈ l,p.1 < n ∧ p.2 < n) → ∀ st,(l.foldl (put2 L S o) st).2.length ≤ st.2.length + 100 * l.length
 | [],_,st => by simp
 | p :: l,hp,st => by
  have ih:=put2_len hf ho hol l (fun q hq=>hp q (by simp [hq])) (put2 L S o st p)
  have h1 : (put2 L S o st p).2.length = st.2.length + (S (o.getD p.1 0) (o.getD p.2 0)).length:=put_len L p.1 p.2 _ st
  have h2:=(hf (o.getD p.1 0) (o.getD p.2 0) (getD_lt ho hol (hp p (by simp)).1) (getD_lt ho hol (hp p (by simp)).2)).1
  rw [List.foldl_cons,List.length_cons]
  omega
theorem pairsK_mem {k j n : Nat} (hk : k < n) (hj : j ≤ n) : ∀ p ∈ pairsK k j,p.1 < n ∧ p.2 < n:=fun p hp=>by
 obtain ⟨i,hi,h⟩:=List.mem_flatMap.1 hp
 have:=List.mem_range.1 hi
 simp at h
 rcases h with rfl|rfl <;> (constructor <;> simp <;> omega)
theorem pairsK_len (k : Nat) : ∀ j,(pairsK k j).length = 2 * j
 | 0 => rfl
 | j + 1 => by rw [pairsK_succ,List.length_append,pairsK_len k j];simp;omega
theorem ofE_len {L : List S34} {S : Nat → Nat → List Int} {n : Nat} (hf : Fits n L S) {o : List Nat} (ho : ∀ v ∈ o,v < n) (hol : o.length = n) (hn : n ≤ 9) : ∀ k,k ≤ n → (ofE L S o k).2.length ≤ 2000 * k
 | 0,_ => by simp [ofE]
 | k + 1,hk => by
  have ih:=ofE_len hf ho hol hn k (by omega)
  have:=put2_len hf ho hol (pairsK k k ++ [(k,k)]) (fun p hp=>by
   rcases List.mem_append.1 hp with h|h
   ·exact pairsK_mem (by omega) (by omega) p h
   ·simp at h;subst h;exact ⟨by omega,by omega⟩) (ofE L S o k)
  rw [ofE_succ]
  rw [List.length_append,pairsK_len] at this
  simp at this ⊢
  omega
structure MadeM (w9 W : World) (gp gq gM n m : Nat) : Prop where
 hp : W.heap[gp]? = some (.cells ((List.replicate n (0 : Int)).map (Value.int .i64)).toArray 3 (0,0))
 hq : W.heap[gq]? = some (.cells ((List.replicate m (0 : Int)).map (Value.int .i64)).toArray 3 (0,0))
 hM : W.heap[gM]? = some (.cells #[.slice (some ⟨gp,0,none⟩) n n,.slice (some ⟨gq,0,none⟩) m m] 55 (0,0))
 hb : Below w9.heap.size w9 W
 bp : w9.heap.size ≤ gp
 bq : w9.heap.size ≤ gq
 bM : w9.heap.size ≤ gM
 ne : gp ≠ gq
theorem blk3 (W : World) (a b c : Obj) : (((W.alloc a).alloc b).alloc c).drew.heap[W.heap.size]? = some a ∧ (((W.alloc a).alloc b).alloc c).drew.heap[W.heap.size + 1]? = some b ∧ (((W.alloc a).alloc b).alloc c).drew.heap[W.heap.size + 1 + 1]? = some c ∧ Below W.heap.size W (((W.alloc a).alloc b).alloc c).drew:=by
 have e1 : (W.alloc a).heap.size = W.heap.size + 1:=Array.size_push ..
 have e2 : ((W.alloc a).alloc b).heap.size = W.heap.size + 1 + 1:=by rw [← e1];exact Array.size_push ..
 refine ⟨blk_alloc (blk_alloc (blk_new W a) b) c,?_,?_,zzF (zzD (zzD (zzD (Below.refl _ _) _) _) _)⟩
 ·rw [← e1];exact blk_alloc (blk_new (W.alloc a) b) c
 ·rw [← e2];exact blk_new ((W.alloc a).alloc b) c
def putX.T13 : Bool × List (List Nat × List Nat):=(true,[([],[]),([0],[0]),([],[]),([2],[2]),([],[]),([3,4],[3,4]),([5],[5]),([6],[6]),([1,7],[1,7]),([0,1,2,3,4,5,6,7,8],[]),([9,8,8,0,1,2,3,4,5,6,7,8],[8,9])])
def putX.B13 : List Nat:=[0,1,0,4,0,28,60,124,255,511,1023]
theorem putX.tab13 : rtab .any (opsOf Try.f28 13) = putX.T13:=by kernel_rfl
theorem putX.bits13 : waitsOk putX.T13.2 putX.B13 = true:=by kernel_rfl
def of.T22 : Bool × List (List Nat × List Nat):=(true,[([],[]),([],[]),([0,0],[0]),([1,2,0,1,2],[1]),([3,0,1,2,3],[])])
def of.B22 : List Nat:=[0,0,1,7,15]
theorem of.tab22 : rtab .any (opsOf Try.f28 22) = of.T22:=by kernel_rfl
theorem of.bits22 : waitsOk of.T22.2 of.B22 = true:=by kernel_rfl
theorem results_of {P : Program} {fn : Func} {p q r : Tmp} {t1 t2 : TypeId} (h : fn.results = #[.cell p t1,.cell q t2,.tmp r]) (tmps : Array Value) (w : World) (g1 g2 : Nat) (cs1 cs2 : Array Value) (d1 d2 : TypeDesc)
  (hp : tmps.getD p undef = .pointer (some ⟨g1,0,none⟩)) (hq : tmps.getD q undef = .pointer (some ⟨g2,0,none⟩)) (h1 : w.heap[g1]? = some (.cells cs1 t1 (0,0))) (h2 : w.heap[g2]? = some (.cells cs2 t2 (0,0)))
  (hu1 : P.underlying t1 = some d1) (hd1 : (match d1 with | .struct _ | .array _ _=>true | _=>false) = true) (hi1 : (P.info? t1).map (·.size) = some cs1.size)
  (hu2 : P.underlying t2 = some d2) (hd2 : (match d2 with | .struct _ | .array _ _=>true | _=>false) = true) (hi2 : (P.info? t2).map (·.size) = some cs2.size) :
  (results fn tmps).run P w = .ok (.tuple #[.agg cs1,.agg cs2,tmps.getD r undef]) w:=by
 have hp' : tmps[p]?.getD undef = .pointer (some ⟨g1,0,none⟩):=by simpa using hp
 have hq' : tmps[q]?.getD undef = .pointer (some ⟨g2,0,none⟩):=by simpa using hq
 simp [results,h,hp',hq',asAddr,run_loadVar_row w g1 t1 t1 cs1 (0,0) d1 h1 hu1 hd1 hi1,run_loadVar_row w g2 t2 t2 cs2 (0,0) d2 h2 hu2 hd2 hi2]
theorem two_boxes {W W' : World} {g2 g3 : Nat} {a b c d x y : Value} (h2 : W.heap[g2]? = some (.cells #[a,b] 30 (0,0))) (h3 : W.heap[g3]? = some (.cells #[c,d] 55 (0,0))) (hw : W' = (W.setCell ⟨g2,0,none⟩ x).setCell ⟨g2,1,none⟩ y) :
  W'.heap[g2]? = some (.cells #[x,y] 30 (0,0)) ∧ W'.heap[g3]? = some (.cells #[c,d] 55 (0,0)) ∧ W'.cell? ⟨g3,0,none⟩ = some c ∧ W'.cell? ⟨g3,1,none⟩ = some d ∧ W'.frozen? ⟨g3,0,none⟩ = false ∧ W'.frozen? ⟨g3,1,none⟩ = false:=by
 have n : g3 ≠ g2:=ty_ne h3 h2 (by decide)
 have k3 : W'.heap[g3]? = some (.cells #[c,d] 55 (0,0)):=by rw [hw];exact blk_far (blk_far h3 n _) n _
 exact ⟨by rw [hw];exact blk_put (blk_put h2 0 _ rfl) 1 _ rfl,k3,(blk_cell k3 0).trans rfl,(blk_cell k3 1).trans rfl,blk_frozen k3 0,blk_frozen k3 1⟩
theorem two_boxes' {W W' : World} {g2 g3 : Nat} {a b c d x y : Value} (h2 : W.heap[g2]? = some (.cells #[a,b] 30 (0,0))) (h3 : W.heap[g3]? = some (.cells #[c,d] 55 (0,0))) (hw : W' = (W.setCell ⟨g3,0,none⟩ x).setCell ⟨g3,1,none⟩ y) :
  W'.heap[g2]? = some (.cells #[a,b] 30 (0,0)) ∧ W'.heap[g3]? = some (.cells #[x,y] 55 (0,0)):=by
 have n : g2 ≠ g3:=ty_ne h2 h3 (by decide)
 exact ⟨by rw [hw];exact blk_far (blk_far h2 n _) n _,by rw [hw];exact blk_put (blk_put h3 0 _ rfl) 1 _ rfl⟩
structure F22 (W : World) (gX gM g2 g3 : Nat) (a b c d : Value) : Prop where
 hX : W.heap[gX]? = some (.cells #[a,b] 30 (0,0))
 hM : W.heap[gM]? = some (.cells #[c,d] 55 (0,0))
 h2 : ∃ e f,W.heap[g2]? = some (.cells #[e,f] 30 (0,0))
 h3 : ∃ e f,W.heap[g3]? = some (.cells #[e,f] 55 (0,0))
 n2 : gX ≠ g2
 n3 : gM ≠ g3
theorem F22.set2 {W : World} {gX gM g2 g3 : Nat} {a b c d : Value} (h : F22 W gX gM g2 g3 a b c d) (x y : Value) : F22 ((W.setCell ⟨g2,0,none⟩ x).setCell ⟨g2,1,none⟩ y) gX gM g2 g3 a b c d:=by
 obtain ⟨e,f,h2⟩:=h.h2
 obtain ⟨e3,f3,h3⟩:=h.h3
 have m:=ty_ne h.hM h2 (by decide)
 have m3:=ty_ne h3 h2 (by decide)
 exact ⟨blk_far (blk_far h.hX h.n2 _) h.n2 _,blk_far (blk_far h.hM m _) m _,⟨_,_,blk_put (blk_put h2 0 _ rfl) 1 _ rfl⟩,⟨_,_,blk_far (blk_far h3 m3 _) m3 _⟩,h.n2,h.n3⟩
theorem F22.set3 {W : World} {gX gM g2 g3 : Nat} {a b c d : Value} (h : F22 W gX gM g2 g3 a b c d) (x y : Value) : F22 ((W.setCell ⟨g3,0,none⟩ x).setCell ⟨g3,1,none⟩ y) gX gM g2 g3 a b c d:=by
 obtain ⟨e,f,h2⟩:=h.h2
 obtain ⟨e3,f3,h3⟩:=h.h3
 have m:=ty_ne h.hX h3 (by decide)
 have m2:=ty_ne h2 h3 (by decide)
 exact ⟨blk_far (blk_far h.hX m _) m _,blk_far (blk_far h.hM h.n3 _) h.n3 _,⟨_,_,blk_far (blk_far h2 m2 _) m2 _⟩,⟨_,_,blk_put (blk_put h3 0 _ rfl) 1 _ rfl⟩,h.n2,h.n3⟩
theorem F22.drew {W : World} {gX gM g2 g3 : Nat} {a b c d : Value} (h : F22 W gX gM g2 g3 a b c d) : F22 W.drew gX gM g2 g3 a b c d:=⟨h.hX,h.hM,h.h2,h.h3,h.n2,h.n3⟩
section
variable {w : World} {A0 : Option Addr} {c0 : Nat} {N : List Int} {A1 : Option Addr} {c1 : Nat} {L : List S34} {S : Nat → Nat → List Int}
set_option maxHeartbeats 80000000 in
set_option maxRecDepth 100000 in
theorem of_err {E : Int} (hE : validE N L = E) (h1 : E ≠ 0) (hr0 : Kd.C (Kd.int .i64) w A0 N.length N) (hc0 : N.length ≤ c0) (hr1 : Kd.C k34 w A1 L.length L) (hc1 : L.length ≤ c1) :
  Calls Try.prog 28 #[.agg #[.slice A0 N.length c0,.slice A1 L.length c1]] w fun e w'=>Below w.heap.size w w' ∧ e = .returned (.tuple #[.agg #[.slice none 0 0,.slice none 0 0],.agg #[.slice none 0 0,.slice none 0 0],.int .i64 E]):=by
 have HV:=Aside0.mk (fun W (hw : Below w.heap.size w W)=>valid_calls A0 c0 N A1 c1 L W (Kd.C_below hr0 hw) hc0 (Kd.C_below hr1 hw) hc1)
 have HR0:=Aside0.mk hr0
 have HR1:=Aside0.mk hr1
 have HC0:=Aside0.mk hc0
 have HC1:=Aside0.mk hc1
 have hu30:=Try.underlying30
 have hu55:=Try.underlying55
 have hmf : ∀ (fn : Fn) (first cap : Array Value) (w : World),(Instr.makeFunc fn first cap).run Try.prog w = .ok (.func fn first cap) w:=fun _ _ _ _=>rfl
 have HB:=Aside0.mk (Below.refl w.heap.size w)
 rw [hE] at HV
 clear hr0 hr1 hc0 hc1
 have k1 : (E != 0) = true:=bne_iff_ne.mpr h1
 have k1' : (E == 0) = false:=beq_eq_false_iff_ne.mpr h1
 have H1:=Aside0.mk h1
 clear hE h1
 go_enter Try.func28,Try.ntmps28
 go_upto_region 3 with (first|((with_reducible refine gate_dst (N:=1) rfl ?_);refine box_event ?hg (N:=1) ?hd (cs:=#[.slice A0 N.length c0,.slice A1 L.length c1]) (t:=30) ?hr ?_;(case hd=>rfl);(case hg=>rfl);(case hr=>first|(go_simp;done)|(go_simp;rfl));intro g1 hg w1 hbox hb;have n0_:=Aside0.mk (below_step HB.out hb);clear HB;have HB:=n0_;clear n0_ hb hg;have BK:=Aside0.mk hbox;have hcg10 : w1.cell? ⟨g1,0,none⟩ = some (.slice A0 N.length c0):=(blk_cell hbox 0).trans rfl;have hcg11 : w1.cell? ⟨g1,1,none⟩ = some (.slice A1 L.length c1):=(blk_cell hbox 1).trans rfl;clear hbox)|((with_reducible refine gate_dst (N:=2) rfl ?_);refine box_event ?hg (N:=2) ?hd (cs:=#[.slice none 0 0,.slice none 0 0]) (t:=30) ?hr ?_;(case hd=>rfl);(case hg=>rfl);(case hr=>first|(go_simp;done)|(go_simp;rfl));intro g2 hg w2 hbox hb;have B2b:=Aside0.mk (show _ ≤ g2 from by rw [hg];exact HB.out.size);have BK_:=Aside0.mk (blk_below (g:=g1) (o:=.cells #[.slice A0 N.length c0,.slice A1 L.length c1] 30 (0,0)) (by (with_reducible repeat (first|refine blk_drewN ?_ _|refine blk_drew ?_|refine blk_alloc ?_ _));exact BK.out) hb);have n0_:=Aside0.mk (below_step (by repeat (first|(with_reducible first|exact HB.out|apply zzD|apply zzE|apply zzF)|exact HB.out)) hb);clear HB BK;have HB:=n0_;have BK:=BK_;clear n0_ hb hg BK_;have B2:=Aside0.mk hbox;clear hbox;have hcw2g10 : w2.cell? ⟨g1,0,none⟩ = some (.slice A0 N.length c0):=(blk_cell BK.out 0).trans rfl;have hcw2g11 : w2.cell? ⟨g1,1,none⟩ = some (.slice A1 L.length c1):=(blk_cell BK.out 1).trans rfl;have hcw2g20 : w2.cell? ⟨g2,0,none⟩ = some (.slice none 0 0):=(blk_cell B2.out 0).trans rfl;have hcw2g21 : w2.cell? ⟨g2,1,none⟩ = some (.slice none 0 0):=(blk_cell B2.out 1).trans rfl)|((with_reducible refine gate_dst (N:=3) rfl ?_);refine box_event ?hg (N:=3) ?hd (cs:=#[.slice none 0 0,.slice none 0 0]) (t:=55) ?hr ?_;(case hd=>rfl);(case hg=>rfl);(case hr=>first|(go_simp;done)|(go_simp;rfl));intro g3 hg w3 hbox hb;have B3b:=Aside0.mk (show _ ≤ g3 from by rw [hg];exact HB.out.size);have BK_:=Aside0.mk (blk_below (g:=g1) (o:=.cells #[.slice A0 N.length c0,.slice A1 L.length c1] 30 (0,0)) (by (with_reducible repeat (first|refine blk_drewN ?_ _|refine blk_drew ?_|refine blk_alloc ?_ _));exact BK.out) hb);have B2_:=Aside0.mk (blk_below (g:=g2) (o:=.cells #[.slice none 0 0,.slice none 0 0] 30 (0,0)) (by (with_reducible repeat (first|refine blk_drewN ?_ _|refine blk_drew ?_|refine blk_alloc ?_ _));exact B2.out) hb);have n0_:=Aside0.mk (below_step (by repeat (first|(with_reducible first|exact HB.out|apply zzD|apply zzE|apply zzF)|exact HB.out)) hb);clear HB BK B2;have HB:=n0_;have BK:=BK_;have B2:=B2_;clear n0_ hb hg BK_ B2_;have B3:=Aside0.mk hbox;clear hbox;have hcw3g10 : w3.cell? ⟨g1,0,none⟩ = some (.slice A0 N.length c0):=(blk_cell BK.out 0).trans rfl;have hcw3g11 : w3.cell? ⟨g1,1,none⟩ = some (.slice A1 L.length c1):=(blk_cell BK.out 1).trans rfl;have hcw3g20 : w3.cell? ⟨g2,0,none⟩ = some (.slice none 0 0):=(blk_cell B2.out 0).trans rfl;have hcw3g21 : w3.cell? ⟨g2,1,none⟩ = some (.slice none 0 0):=(blk_cell B2.out 1).trans rfl;have hcw3g30 : w3.cell? ⟨g3,0,none⟩ = some (.slice none 0 0):=(blk_cell B3.out 0).trans rfl;have hcw3g31 : w3.cell? ⟨g3,1,none⟩ = some (.slice none 0 0):=(blk_cell B3.out 1).trans rfl)|(go_at_call 37;with_reducible refine (HV.out _ (by repeat (first|(with_reducible first|exact HB.out|apply zzD|apply zzE|apply zzF)|exact HB.out))).mono ?_;rintro e w4 ⟨rfl,hb⟩;have BK_:=Aside0.mk (blk_below (g:=g1) (o:=.cells #[.slice A0 N.length c0,.slice A1 L.length c1] 30 (0,0)) (by (with_reducible repeat (first|refine blk_drewN ?_ _|refine blk_drew ?_|refine blk_alloc ?_ _));exact BK.out) hb);have B2_:=Aside0.mk (blk_below (g:=g2) (o:=.cells #[.slice none 0 0,.slice none 0 0] 30 (0,0)) (by (with_reducible repeat (first|refine blk_drewN ?_ _|refine blk_drew ?_|refine blk_alloc ?_ _));exact B2.out) hb);have B3_:=Aside0.mk (blk_below (g:=g3) (o:=.cells #[.slice none 0 0,.slice none 0 0] 55 (0,0)) (by (with_reducible repeat (first|refine blk_drewN ?_ _|refine blk_drew ?_|refine blk_alloc ?_ _));exact B3.out) hb);have n0_:=Aside0.mk (below_step (by repeat (first|(with_reducible first|exact HB.out|apply zzD|apply zzE|apply zzF)|exact HB.out)) hb);clear HB BK B2 B3;have HB:=n0_;have BK:=BK_;have B2:=B2_;have B3:=B3_;clear n0_ hb BK_ B2_ B3_;have hcw40 : w4.cell? ⟨g1,0,none⟩ = some (.slice A0 N.length c0):=(blk_cell BK.out 0).trans rfl;have hcw41 : w4.cell? ⟨g1,1,none⟩ = some (.slice A1 L.length c1):=(blk_cell BK.out 1).trans rfl;have hcw40 : w4.cell? ⟨g2,0,none⟩ = some (.slice none 0 0):=(blk_cell B2.out 0).trans rfl;have hcw41 : w4.cell? ⟨g2,1,none⟩ = some (.slice none 0 0):=(blk_cell B2.out 1).trans rfl;have hcw40 : w4.cell? ⟨g3,0,none⟩ = some (.slice none 0 0):=(blk_cell B3.out 0).trans rfl;have hcw41 : w4.cell? ⟨g3,1,none⟩ = some (.slice none 0 0):=(blk_cell B3.out 1).trans rfl))
 have hf20 : w4.frozen? ⟨g2,0,none⟩ = false:=blk_frozen B2.out 0
 have hf21 : w4.frozen? ⟨g2,1,none⟩ = false:=blk_frozen B2.out 1
 have hf30 : w4.frozen? ⟨g3,0,none⟩ = false:=blk_frozen B3.out 0
 have hf31 : w4.frozen? ⟨g3,1,none⟩ = false:=blk_frozen B3.out 1
 go_wp2_with (first|((with_reducible refine gate_store (t:=30) (p:=2) rfl ?_);refine store_event (t:=30) (p:=2) (v:=?vo2_1) (w1:=(w4.setCell ⟨g2,0,none⟩ (.slice none 0 0)).setCell ⟨g2,1,none⟩ (.slice none 0 0)) ?hg ?ho ?hn ?hr ?_;(case ho=>rfl);(case hg=>rfl);(case hn=>rfl);(case hr=>first|(go_simp;done)|(go_simp;rfl));intro w5 hw5;have TB:=Aside0.mk (two_boxes B2.out B3.out hw5);obtain ⟨_,_,hw5a,hw5b,hw5c,hw5d⟩:=TB.out;have HW5:=Aside0.mk hw5;clear hw5))
 ((try simp only [Exit.inBlock,Exit.then]);refine bodyPost_ret (results_of rfl _ _ g2 g3 _ _ _ _ rfl rfl (two_boxes' TB.out.1 TB.out.2.1 rfl).1 (two_boxes' TB.out.1 TB.out.2.1 rfl).2 Try.underlying30 rfl (by kernel_rfl) Try.underlying55 rfl (by kernel_rfl)) rfl ?_)
 refine ⟨?_,rfl⟩
 refine below_set (below_set ?_ B3b.out) B3b.out
 rw [HW5.out]
 exact below_set (below_set HB.out B2b.out) B2b.out
set_option maxHeartbeats 80000000 in
set_option maxRecDepth 100000 in
theorem of_ok {o : List Nat} {code : List Int} (hr0 : Kd.C (Kd.int .i64) w A0 N.length N) (hc0 : N.length ≤ c0) (hr1 : Kd.C k34 w A1 L.length L) (hc1 : L.length ≤ c1)
  (hE : validE N L = 0) (hok : L.length < 20 ∧ Fits N.length L S ∧ ∀ i j,i < N.length → j < N.length → ∃ k,slices_insertionSortCmpFunc_int.f k (rowE L L.length i j) 0 ((rowE L L.length i j).length : Int) L = some (S i j))
  (hb : srch N L S (twM N L S) N.length [] [(N.length : Int)] none = some (o,code) ∧ o.length = N.length ∧ ∀ v ∈ o,v < N.length) :
  Calls Try.prog 28 #[.agg #[.slice A0 N.length c0,.slice A1 L.length c1]] w fun e w'=>Below w.heap.size w w' ∧ ∃ Ax cx Ay cy Ap cp Aq cq,e = .returned (.tuple #[.agg #[.slice Ax N.length cx,.slice Ay (ofE L S o N.length).2.length cy],.agg #[.slice Ap N.length cp,.slice Aq L.length cq],.int .i64 0]) ∧
    Kd.C (Kd.int .i64) w' Ax N.length (ofX N o N.length) ∧ N.length ≤ cx ∧ Kd.C k34 w' Ay (ofE L S o N.length).2.length (ofE L S o N.length).2 ∧ (ofE L S o N.length).2.length ≤ cy ∧
    Kd.C (Kd.int .i64) w' Ap N.length (ofP N.length o N.length) ∧ N.length ≤ cp ∧ Kd.C (Kd.int .i64) w' Aq L.length (ofE L S o N.length).1 ∧ L.length ≤ cq:=by
 have HV:=Aside0.mk (fun W (hw : Below w.heap.size w W)=>valid_calls A0 c0 N A1 c1 L W (Kd.C_below hr0 hw) hc0 (Kd.C_below hr1 hw) hc1)
 have HR0:=Aside0.mk hr0
 have HR1:=Aside0.mk hr1
 have HC0:=Aside0.mk hc0
 have HC1:=Aside0.mk hc1
 have hu30:=Try.underlying30
 have hu55:=Try.underlying55
 have hmf : ∀ (fn : Fn) (first cap : Array Value) (w : World),(Instr.makeFunc fn first cap).run Try.prog w = .ok (.func fn first cap) w:=fun _ _ _ _=>rfl
 have HB:=Aside0.mk (Below.refl w.heap.size w)
 rw [hE] at HV
 clear hr0 hr1 hc0 hc1
 obtain ⟨hl20,hft,hsort⟩:=hok
 obtain ⟨hn8,hx⟩:=validE_zero hE
 obtain ⟨hb1,hb2,hb3⟩:=hb
 have HL20:=Aside0.mk hl20
 have HFT:=Aside0.mk hft
 have HN8:=Aside0.mk hn8
 have HO1:=Aside0.mk hb1
 have HO2:=Aside0.mk hb2
 have HO3:=Aside0.mk hb3
 have HTB:=Aside0.mk (fun W (hw : Below w.heap.size w W)=>tabled_calls A0 c0 N A1 c1 L W (Kd.C_below HR0.out hw) HC0.out (Kd.C_below HR1.out hw) HC1.out (by omega) hl20 (fun a ha=>hx _ (rd_mem34 ha)) S hsort)
 clear hl20 hft hsort hn8 hx hb1 hb2 hb3 hE
 go_enter Try.func28,Try.ntmps28
 go_upto_region 4 with (first|((with_reducible refine gate_dst (N:=1) rfl ?_);refine box_event ?hg (N:=1) ?hd (cs:=#[.slice A0 N.length c0,.slice A1 L.length c1]) (t:=30) ?hr ?_;(case hd=>rfl);(case hg=>rfl);(case hr=>first|(go_simp;done)|(go_simp;rfl));intro g1 hg w1 hbox hb;have n0_:=Aside0.mk (below_step HB.out hb);clear HB;have HB:=n0_;clear n0_ hb hg;have BK:=Aside0.mk hbox;have hcg10 : w1.cell? ⟨g1,0,none⟩ = some (.slice A0 N.length c0):=(blk_cell hbox 0).trans rfl;have hcg11 : w1.cell? ⟨g1,1,none⟩ = some (.slice A1 L.length c1):=(blk_cell hbox 1).trans rfl;clear hbox)|((with_reducible refine gate_dst (N:=2) rfl ?_);refine box_event ?hg (N:=2) ?hd (cs:=#[.slice none 0 0,.slice none 0 0]) (t:=30) ?hr ?_;(case hd=>rfl);(case hg=>rfl);(case hr=>first|(go_simp;done)|(go_simp;rfl));intro g2 hg w2 hbox hb;have B2b:=Aside0.mk (show _ ≤ g2 from by rw [hg];exact HB.out.size);have BK_:=Aside0.mk (blk_below (g:=g1) (o:=.cells #[.slice A0 N.length c0,.slice A1 L.length c1] 30 (0,0)) (by (with_reducible repeat (first|refine blk_drewN ?_ _|refine blk_drew ?_|refine blk_alloc ?_ _));exact BK.out) hb);have n0_:=Aside0.mk (below_step (by repeat (first|(with_reducible first|exact HB.out|apply zzD|apply zzE|apply zzF)|exact HB.out)) hb);clear HB BK;have HB:=n0_;have BK:=BK_;clear n0_ hb hg BK_;have B2:=Aside0.mk hbox;clear hbox;have hcw2g10 : w2.cell? ⟨g1,0,none⟩ = some (.slice A0 N.length c0):=(blk_cell BK.out 0).trans rfl;have hcw2g11 : w2.cell? ⟨g1,1,none⟩ = some (.slice A1 L.length c1):=(blk_cell BK.out 1).trans rfl;have hcw2g20 : w2.cell? ⟨g2,0,none⟩ = some (.slice none 0 0):=(blk_cell B2.out 0).trans rfl;have hcw2g21 : w2.cell? ⟨g2,1,none⟩ = some (.slice none 0 0):=(blk_cell B2.out 1).trans rfl)|((with_reducible refine gate_dst (N:=3) rfl ?_);refine box_event ?hg (N:=3) ?hd (cs:=#[.slice none 0 0,.slice none 0 0]) (t:=55) ?hr ?_;(case hd=>rfl);(case hg=>rfl);(case hr=>first|(go_simp;done)|(go_simp;rfl));intro g3 hg w3 hbox hb;have B3b:=Aside0.mk (show _ ≤ g3 from by rw [hg];exact HB.out.size);have BK_:=Aside0.mk (blk_below (g:=g1) (o:=.cells #[.slice A0 N.length c0,.slice A1 L.length c1] 30 (0,0)) (by (with_reducible repeat (first|refine blk_drewN ?_ _|refine blk_drew ?_|refine blk_alloc ?_ _));exact BK.out) hb);have B2_:=Aside0.mk (blk_below (g:=g2) (o:=.cells #[.slice none 0 0,.slice none 0 0] 30 (0,0)) (by (with_reducible repeat (first|refine blk_drewN ?_ _|refine blk_drew ?_|refine blk_alloc ?_ _));exact B2.out) hb);have n0_:=Aside0.mk (below_step (by repeat (first|(with_reducible first|exact HB.out|apply zzD|apply zzE|apply zzF)|exact HB.out)) hb);clear HB BK B2;have HB:=n0_;have BK:=BK_;have B2:=B2_;clear n0_ hb hg BK_ B2_;have B3:=Aside0.mk hbox;clear hbox;have hcw3g10 : w3.cell? ⟨g1,0,none⟩ = some (.slice A0 N.length c0):=(blk_cell BK.out 0).trans rfl;have hcw3g11 : w3.cell? ⟨g1,1,none⟩ = some (.slice A1 L.length c1):=(blk_cell BK.out 1).trans rfl;have hcw3g20 : w3.cell? ⟨g2,0,none⟩ = some (.slice none 0 0):=(blk_cell B2.out 0).trans rfl;have hcw3g21 : w3.cell? ⟨g2,1,none⟩ = some (.slice none 0 0):=(blk_cell B2.out 1).trans rfl;have hcw3g30 : w3.cell? ⟨g3,0,none⟩ = some (.slice none 0 0):=(blk_cell B3.out 0).trans rfl;have hcw3g31 : w3.cell? ⟨g3,1,none⟩ = some (.slice none 0 0):=(blk_cell B3.out 1).trans rfl)|(go_at_call 37;with_reducible refine (HV.out _ (by repeat (first|(with_reducible first|exact HB.out|apply zzD|apply zzE|apply zzF)|exact HB.out))).mono ?_;rintro e w4 ⟨rfl,hb⟩;have BK_:=Aside0.mk (blk_below (g:=g1) (o:=.cells #[.slice A0 N.length c0,.slice A1 L.length c1] 30 (0,0)) (by (with_reducible repeat (first|refine blk_drewN ?_ _|refine blk_drew ?_|refine blk_alloc ?_ _));exact BK.out) hb);have B2_:=Aside0.mk (blk_below (g:=g2) (o:=.cells #[.slice none 0 0,.slice none 0 0] 30 (0,0)) (by (with_reducible repeat (first|refine blk_drewN ?_ _|refine blk_drew ?_|refine blk_alloc ?_ _));exact B2.out) hb);have B3_:=Aside0.mk (blk_below (g:=g3) (o:=.cells #[.slice none 0 0,.slice none 0 0] 55 (0,0)) (by (with_reducible repeat (first|refine blk_drewN ?_ _|refine blk_drew ?_|refine blk_alloc ?_ _));exact B3.out) hb);have n0_:=Aside0.mk (below_step (by repeat (first|(with_reducible first|exact HB.out|apply zzD|apply zzE|apply zzF)|exact HB.out)) hb);clear HB BK B2 B3;have HB:=n0_;have BK:=BK_;have B2:=B2_;have B3:=B3_;clear n0_ hb BK_ B2_ B3_;have hcw40 : w4.cell? ⟨g1,0,none⟩ = some (.slice A0 N.length c0):=(blk_cell BK.out 0).trans rfl;have hcw41 : w4.cell? ⟨g1,1,none⟩ = some (.slice A1 L.length c1):=(blk_cell BK.out 1).trans rfl;have hcw40 : w4.cell? ⟨g2,0,none⟩ = some (.slice none 0 0):=(blk_cell B2.out 0).trans rfl;have hcw41 : w4.cell? ⟨g2,1,none⟩ = some (.slice none 0 0):=(blk_cell B2.out 1).trans rfl;have hcw40 : w4.cell? ⟨g3,0,none⟩ = some (.slice none 0 0):=(blk_cell B3.out 0).trans rfl;have hcw41 : w4.cell? ⟨g3,1,none⟩ = some (.slice none 0 0):=(blk_cell B3.out 1).trans rfl))
 go_upto_region 5 with (first|(go_at_call 39;with_reducible refine (HTB.out _ (by repeat (first|(with_reducible first|exact HB.out|apply zzD|apply zzE|apply zzF)|exact HB.out))).mono ?_;rintro e w5 ⟨gt,gR,rfl,q1,q2,hb⟩;rw [row_eq] at q1;have Q1:=Aside0.mk q1;have Q2:=Aside0.mk q2;clear q1 q2;have BK_:=Aside0.mk (blk_below (g:=g1) (o:=.cells #[.slice A0 N.length c0,.slice A1 L.length c1] 30 (0,0)) (by (with_reducible repeat (first|refine blk_drewN ?_ _|refine blk_drew ?_|refine blk_alloc ?_ _));exact BK.out) hb);have B2_:=Aside0.mk (blk_below (g:=g2) (o:=.cells #[.slice none 0 0,.slice none 0 0] 30 (0,0)) (by (with_reducible repeat (first|refine blk_drewN ?_ _|refine blk_drew ?_|refine blk_alloc ?_ _));exact B2.out) hb);have B3_:=Aside0.mk (blk_below (g:=g3) (o:=.cells #[.slice none 0 0,.slice none 0 0] 55 (0,0)) (by (with_reducible repeat (first|refine blk_drewN ?_ _|refine blk_drew ?_|refine blk_alloc ?_ _));exact B3.out) hb);have n0_:=Aside0.mk (below_step (by repeat (first|(with_reducible first|exact HB.out|apply zzD|apply zzE|apply zzF)|exact HB.out)) hb);clear HB BK B2 B3;have HB:=n0_;have BK:=BK_;have B2:=B2_;have B3:=B3_;clear n0_ hb BK_ B2_ B3_))
 obtain ⟨w7,hw7⟩ : ∃ w7,w7 = w5.alloc (.cells #[.pointer (some ⟨gt,0,none⟩)] 68):=⟨_,rfl⟩
 rw [← hw7]
 have H57 : Below w5.heap.size w5 w7:=by rw [hw7];exact zzD (Below.refl _ _) _
 have BT0 : w7.heap[w5.heap.size]? = some (.cells #[.pointer (some ⟨gt,0,none⟩)] 68 (0,0)):=by rw [hw7];exact blk_new _ _
 have BTb0 : w.heap.size ≤ w5.heap.size:=HB.out.size
 have TT:=Aside0.mk (show Tab w7 gt A0 c0 N A1 c1 L gR S from ⟨blk_below Q1.out H57,Kd.C_below HR0.out (below_step HB.out H57),Kd.C_below HR1.out (below_step HB.out H57),Kd.C_below Q2.out H57,HC0.out,HC1.out,by have:=HN8.out;omega,by have:=HL20.out;omega,HFT.out⟩)
 have BK_:=Aside0.mk (blk_below BK.out H57)
 have B2_:=Aside0.mk (blk_below B2.out H57)
 have B3_:=Aside0.mk (blk_below B3.out H57)
 have HB_:=Aside0.mk (below_step HB.out H57)
 clear BK B2 B3 HB H57 hw7 Q1 Q2
 generalize w5.heap.size = gT at BT0 BTb0 ⊢
 have BT:=Aside0.mk BT0
 have BTb:=Aside0.mk BTb0
 have BK:=BK_
 have B2:=B2_
 have B3:=B3_
 have HB:=HB_
 clear BT0 BTb0 BK_ B2_ B3_ HB_
 have hcT0 : w7.cell? ⟨gT,0,none⟩ = some (.pointer (some ⟨gt,0,none⟩)):=(blk_cell BT.out 0).trans rfl
 have HBS:=Aside0.mk (best_calls TT.out (by have:=HN8.out;omega))
 go_upto_region 6 with (first|(go_at_call 38;with_reducible refine HBS.out.mono ?_;rw [HO1.out];rintro e w8 ⟨ov,cv,rfl,q,hb⟩;obtain ⟨Ao,co,Ac,cc,eo,ec,p1⟩:=BestV.opened q;rw [HO2.out] at eo p1;subst eo ec;clear q;have P1:=Aside0.mk p1;clear p1;have TT_:=Aside0.mk (TT.out.below hb);clear TT;have TT:=TT_;clear TT_;have BK_:=Aside0.mk (blk_below (g:=g1) (o:=.cells #[.slice A0 N.length c0,.slice A1 L.length c1] 30 (0,0)) (by (with_reducible repeat (first|refine blk_drewN ?_ _|refine blk_drew ?_|refine blk_alloc ?_ _));exact BK.out) hb);have B2_:=Aside0.mk (blk_below (g:=g2) (o:=.cells #[.slice none 0 0,.slice none 0 0] 30 (0,0)) (by (with_reducible repeat (first|refine blk_drewN ?_ _|refine blk_drew ?_|refine blk_alloc ?_ _));exact B2.out) hb);have B3_:=Aside0.mk (blk_below (g:=g3) (o:=.cells #[.slice none 0 0,.slice none 0 0] 55 (0,0)) (by (with_reducible repeat (first|refine blk_drewN ?_ _|refine blk_drew ?_|refine blk_alloc ?_ _));exact B3.out) hb);have BT_:=Aside0.mk (blk_below (g:=gT) (o:=.cells #[.pointer (some ⟨gt,0,none⟩)] 68 (0,0)) (by (with_reducible repeat (first|refine blk_drewN ?_ _|refine blk_drew ?_|refine blk_alloc ?_ _));exact BT.out) hb);have n0_:=Aside0.mk (below_step (by repeat (first|(with_reducible first|exact HB.out|apply zzD|apply zzE|apply zzF)|exact HB.out)) hb);clear HB BK B2 B3 BT;have HB:=n0_;have BK:=BK_;have B2:=B2_;have B3:=B3_;have BT:=BT_;clear n0_ hb BK_ B2_ B3_ BT_))
 obtain ⟨w9,hw9⟩ : ∃ w9,w9 = w8.alloc (.cells #[.slice Ao N.length co] 27):=⟨_,rfl⟩
 rw [← hw9]
 have H89 : Below w8.heap.size w8 w9:=by rw [hw9];exact zzD (Below.refl _ _) _
 have BO0 : w9.heap[w8.heap.size]? = some (.cells #[.slice Ao N.length co] 27 (0,0)):=by rw [hw9];exact blk_new _ _
 have BOb0 : w.heap.size ≤ w8.heap.size:=HB.out.size
 have H89_:=Aside0.mk H89
 have BK_:=Aside0.mk (blk_below BK.out H89)
 have B2_:=Aside0.mk (blk_below B2.out H89)
 have B3_:=Aside0.mk (blk_below B3.out H89)
 have BT_:=Aside0.mk (blk_below BT.out H89)
 have HB_:=Aside0.mk (below_step HB.out H89)
 have GOe:=Aside0.mk (show w8.heap.size ≤ w8.heap.size from Nat.le_refl _)
 have HB8:=HB
 clear BK B2 B3 BT HB H89 hw9
 generalize hgO : w8.heap.size = gO at BO0 BOb0 GOe ⊢
 have GO8:=Aside0.mk hgO
 have BO:=Aside0.mk BO0
 have BOb:=Aside0.mk BOb0
 have BK:=BK_
 have B2:=B2_
 have B3:=B3_
 have BT:=BT_
 have HB:=HB_
 clear BO0 BOb0 BK_ B2_ B3_ BT_ HB_ hgO
 have hcK0 : w9.cell? ⟨g1,0,none⟩ = some (.slice A0 N.length c0):=(blk_cell BK.out 0).trans rfl
 have hcK1 : w9.cell? ⟨g1,1,none⟩ = some (.slice A1 L.length c1):=(blk_cell BK.out 1).trans rfl
 have hmk1:=print_make_of (P:=Try.prog) 27 3 (.int .i64 0) 8 Try.underlying27 info3 rfl (by omega) N.length (by have:=HN8.out;omega)
 have hmk2:=print_make_of (P:=Try.prog) 27 3 (.int .i64 0) 8 Try.underlying27 info3 rfl (by omega) L.length (by have:=HL20.out;omega)
 refine Code.wp_mono (Q:=fun e a W=>e = .normal ∧ ∃ gp gq gM,a = ⟨#[.agg #[.slice A0 N.length c0,.slice A1 L.length c1],.pointer (some ⟨g1,0,none⟩),.pointer (some ⟨g2,0,none⟩),.pointer (some ⟨g3,0,none⟩),.int .i64 0,.int .i64 0,.pointer (some ⟨gT,0,none⟩),.pointer (some ⟨gO,0,none⟩),.slice Ac code.length cc,.pointer (some ⟨gM,0,none⟩),undef,undef,undef,undef,undef,.agg #[.slice A0 N.length c0,.slice A1 L.length c1],.int .i64 0,.int .i64 0,.bool false,undef,undef,undef,.agg #[.slice A0 N.length c0,.slice A1 L.length c1],.pointer (some ⟨gt,0,none⟩),.tuple #[.slice Ao N.length co,.slice Ac code.length cc],.pointer (some ⟨gt,0,none⟩),.tuple #[.slice Ao N.length co,.slice Ac code.length cc],.slice Ao N.length co,.slice Ac code.length cc,.pointer (some ⟨g1,0,none⟩),.slice A0 N.length c0,.int .i64 (N.length : Int),.slice (some ⟨gp,0,none⟩) N.length N.length,.pointer (some ⟨g1,1,none⟩),.slice A1 L.length c1,.int .i64 (L.length : Int),.slice (some ⟨gq,0,none⟩) L.length L.length,.agg #[.slice (some ⟨gp,0,none⟩) N.length N.length,.slice (some ⟨gq,0,none⟩) L.length L.length],undef,undef,undef,undef,undef,undef,undef,undef,undef,undef,undef,undef,undef,undef,undef,undef,undef,undef,undef,undef,undef,undef,undef,undef,undef,undef,undef,undef,undef,undef,undef,undef,undef,undef,undef,undef,undef,undef,undef,undef,undef,undef,undef],[]⟩ ∧ MadeM w9 W gp gq gM N.length L.length) (fun e a W h=>?rest6) ?walk6
 case walk6 =>
  go_region_held3 (fun W : World=>W.cell? ⟨g1,0,none⟩ = some (.slice A0 N.length c0) ∧ W.cell? ⟨g1,1,none⟩ = some (.slice A1 L.length c1) ∧ W.heap[g1]? = some (.cells #[.slice A0 N.length c0,.slice A1 L.length c1] 30 (0,0))) (exact box2_S (by (with_reducible repeat (first|refine blk_drewN ?_ _|refine blk_drew ?_|refine blk_alloc ?_ _));first|exact BK.out|exact hHeld.2.2)) (fail)
  all_goals
   refine ⟨rfl,?_⟩
   simp only [made_ints]
   first
    | exact ⟨w9.heap.size,w9.heap.size + 1,w9.heap.size + 1 + 1,rfl,(blk3 _ _ _ _).1,(blk3 _ _ _ _).2.1,(blk3 _ _ _ _).2.2.1,(blk3 _ _ _ _).2.2.2,by omega,by omega,by omega,by omega⟩
    | exact ⟨w9.heap.size,w9.heap.size + 1 + 1,w9.heap.size + 1,rfl,(blk3 _ _ _ _).1,(blk3 _ _ _ _).2.2.1,(blk3 _ _ _ _).2.1,(blk3 _ _ _ _).2.2.2,by omega,by omega,by omega,by omega⟩
    | exact ⟨w9.heap.size + 1,w9.heap.size,w9.heap.size + 1 + 1,rfl,(blk3 _ _ _ _).2.1,(blk3 _ _ _ _).1,(blk3 _ _ _ _).2.2.1,(blk3 _ _ _ _).2.2.2,by omega,by omega,by omega,by omega⟩
    | exact ⟨w9.heap.size + 1,w9.heap.size + 1 + 1,w9.heap.size,rfl,(blk3 _ _ _ _).2.1,(blk3 _ _ _ _).2.2.1,(blk3 _ _ _ _).1,(blk3 _ _ _ _).2.2.2,by omega,by omega,by omega,by omega⟩
    | exact ⟨w9.heap.size + 1 + 1,w9.heap.size,w9.heap.size + 1,rfl,(blk3 _ _ _ _).2.2.1,(blk3 _ _ _ _).1,(blk3 _ _ _ _).2.1,(blk3 _ _ _ _).2.2.2,by omega,by omega,by omega,by omega⟩
    | exact ⟨w9.heap.size + 1 + 1,w9.heap.size + 1,w9.heap.size,rfl,(blk3 _ _ _ _).2.2.1,(blk3 _ _ _ _).2.1,(blk3 _ _ _ _).1,(blk3 _ _ _ _).2.2.2,by omega,by omega,by omega,by omega⟩
 obtain ⟨rfl,gp,gq,gM,rfl,hm⟩:=h
 dsimp only
 have lT : gT < w9.heap.size:=blk_lt BT.out
 have lO : gO < w9.heap.size:=blk_lt BO.out
 have g23 : g2 < w9.heap.size ∧ g3 < w9.heap.size:=⟨blk_lt B2.out,blk_lt B3.out⟩
 have HB9:=Aside0.mk HB.out.size
 have BT:=Aside0.mk (blk_below BT.out hm.hb)
 have BO:=Aside0.mk (blk_below BO.out hm.hb)
 have l1 : g1 < w9.heap.size:=blk_lt BK.out
 have BK:=Aside0.mk (blk_below BK.out hm.hb)
 have B2:=Aside0.mk (blk_below B2.out hm.hb)
 have B3:=Aside0.mk (blk_below B3.out hm.hb)
 have HB:=Aside0.mk (below_step HB.out hm.hb)
 have HM:=Aside0.mk hm
 clear hm
 go_upto_region 9 with (fail)
 obtain ⟨W0,hW0⟩ : ∃ W0,W0 = W.alloc (.cells #[.slice none 0 0,.slice none 0 0] 30):=⟨_,rfl⟩
 rw [← hW0]
 have HW0 : Below W.heap.size W W0:=by rw [hW0];exact zzD (Below.refl _ _) _
 have BX0 : W0.heap[W.heap.size]? = some (.cells #[.slice none 0 0,.slice none 0 0] 30 (0,0)):=by rw [hW0];exact blk_new _ _
 have lX0 : w9.heap.size ≤ W.heap.size:=HM.out.hb.size
 have pX : W.heap.size ≠ gp:=by have:=blk_lt HM.out.hp;omega
 have qX : W.heap.size ≠ gq:=by have:=blk_lt HM.out.hq;omega
 clear hW0
 have H8W : Below w8.heap.size w8 W0:=below_step (below_step H89_.out HM.out.hb) HW0
 have HE0 : OfE w8 W0 gt gT gO g1 gM W.heap.size gp gq A0 c0 N A1 c1 L gR S Ao co o:=by
  have l8 : w8.heap.size ≤ w9.heap.size:=H89_.out.size
  have bp:=HM.out.bp
  have bq:=HM.out.bq
  refine ⟨TT.out,P1.out.2,H8W,by omega,by omega,by omega,⟨blk_below BK.out HW0,?_⟩,⟨blk_below BT.out HW0,?_⟩,⟨blk_below BO.out HW0,?_⟩,⟨blk_below HM.out.hM HW0,?_⟩,HO3.out,HO2.out,by have:=HN8.out;omega,by have:=HL20.out;omega,?_,pX,qX,HM.out.ne,blk_lt BX0,blk_lt (blk_below HM.out.hp HW0),blk_lt (blk_below HM.out.hq HW0)⟩
  ·rintro (h|h|h) <;> omega
  ·rintro (h|h|h) <;> omega
  ·rintro (h|h|h) <;> omega
  ·have n1:=ty_ne HM.out.hM HM.out.hp (by decide)
   have n2:=ty_ne HM.out.hM HM.out.hq (by decide)
   have n3:=blk_lt HM.out.hM
   rintro (h|h|h) <;> omega
  ·exact P1.out.1
 have HI0 : OfI W0 W0.heap.size W.heap.size gp gq N.length L.length (.slice none 0 0) (.slice none 0 0) (ofX N o 0) (ofE L S o 0).2 (ofP N.length o 0) (ofE L S o 0).1 :=
  ⟨BX0,blk_below HM.out.hp HW0,blk_below HM.out.hq HW0,ofP_len _ _ _,by simp [ofE],Kd.R_nil _ _ _ _ _,Kd.R_nil _ _ _ _ _⟩
 have HBW0 : Below w.heap.size w W0:=below_step HB.out HW0
 have HS0 : ∀ k,PK W.heap.size gp gq k → w.heap.size ≤ k:=fun k hk=>by
  have l8 : w.heap.size ≤ W.heap.size:=HB.out.size
  have l9 : w.heap.size ≤ w9.heap.size:=HB9.out
  have bp:=HM.out.bp
  have bq:=HM.out.bq
  rcases hk with h|h|h <;> omega
 have B2:=Aside0.mk (blk_below B2.out HW0)
 have B3:=Aside0.mk (blk_below B3.out HW0)
 have NM3:=Aside0.mk (show gM ≠ g3 from by have:=HM.out.bM;omega)
 have l2 : ¬ PK W.heap.size gp gq g2:=by
  have bp:=HM.out.bp
  have bq:=HM.out.bq
  rintro (h|h|h) <;> omega
 have l3 : ¬ PK W.heap.size gp gq g3:=by
  have bp:=HM.out.bp
  have bq:=HM.out.bq
  rintro (h|h|h) <;> omega
 generalize W.heap.size = gX at HE0 HI0 HS0 l2 l3 ⊢
 have HE:=Aside0.mk HE0
 have HI:=Aside0.mk HI0
 have HBW:=Aside0.mk HBW0
 have HSS:=Aside0.mk HS0
 have L2:=Aside0.mk l2
 have L3:=Aside0.mk l3
 have HK:=Aside0.mk (Kept.refl W0 (PK gX gp gq))
 have hcO : W0.cell? ⟨gO,0,none⟩ = some (.slice Ao N.length co):=(blk_cell (HE.out.boxes HK.out).2.2.1 0).trans rfl
 clear HE0 HI0 HBW0 HS0 l2 l3 BK BT BO HM HB HW0 BX0 lX0 H8W l1 lT lO g23 TT P1 H89_ HB8 GO8 BOb BTb GOe HTB HBS HV pX qX HB9
 have HSB:=Aside0.mk (show w.heap.size ≤ W0.heap.size from HBW.out.size)
 go_wp2
 go_loopw [41] (fun v wr=>∃ (k : Nat) (vX vY : Value),k ≤ N.length ∧ v = .int .i64 (k : Int) ∧ Aside0 (OfI wr W0.heap.size gX gp gq N.length L.length vX vY (ofX N o k) (ofE L S o k).2 (ofP N.length o k) (ofE L S o k).1) ∧ Aside0 (Kept W0 wr (PK gX gp gq)) ∧ Aside0 (Below w.heap.size w wr)) (fun v _=>N.length - (intOf v).toNat)
 case atStart=>exact ⟨0,_,_,by omega,rfl,HI,HK,HBW⟩
 case round =>
  clear HI HK HBW hcO
  obtain ⟨k,vX,vY,hk,rfl,HI,HK,HBW⟩:=hrel
  have hcO : wr.cell? ⟨gO,0,none⟩ = some (.slice Ao N.length co):=(blk_cell (HE.out.boxes HK.out).2.2.1 0).trans rfl
  have hn9 : N.length ≤ 9:=HE.out.hn
  by_cases c3 : k < N.length
  ·have k3 : decide ((k : Int) < (N.length : Int)) = true:=decide_eq_true (by omega)
   have k3' : decide (k < N.length) = true:=decide_eq_true c3
   obtain ⟨ado,e1,hxo⟩:=Kd.at_int HE.out.hC (k : Int) (by omega) (by omega)
   cases e1
   have hko : rd (io o) (k : Int) = ((o.getD k 0 : Nat) : Int):=by
    have : k < o.length:=by rw [HE.out.hol];exact c3
    simp [rd,io,List.getD_eq_getElem?_getD,List.getElem?_eq_getElem this]
   rw [hko,Int.toNat_natCast] at hxo
   replace hxo:=HE.out.cell hxo HK.out
   have hvn : o.getD k 0 < N.length:=getD_lt HE.out.ho HE.out.hol c3
   have HPX:=Aside0.mk (ofP_succ N.length o k)
   have HXX:=Aside0.mk (ofX_succ N o (k:=k) (by rw [HE.out.hol];exact c3))
   generalize o.getD k 0 = v at hxo hvn HPX HXX
   clear hko
   obtain ⟨an,e2,hxn⟩:=Kd.at_int HE.out.hT.hN (v : Int) (by omega) (by omega)
   cases e2
   rw [Int.toNat_natCast] at hxn
   have HXN:=Aside0.mk hxn
   have hcM : wr.cell? ⟨gM,0,none⟩ = some (.slice (some ⟨gp,0,none⟩) N.length N.length):=(blk_cell (HE.out.boxes HK.out).2.2.2 0).trans rfl
   have hfp : wr.frozen? ⟨gp,v,none⟩ = false:=blk_frozen HI.out.hP v
   have hq1 : 0 ≤ (v : Int):=by omega
   have hq2 : (v : Int) < (N.length : Int):=by omega
   obtain ⟨zp,hcp⟩ : ∃ z,wr.cell? ⟨gp,v,none⟩ = some z:=⟨_,(blk_cell HI.out.hP v).trans (Array.getElem?_eq_getElem (by simp;rw [HI.out.lP];exact hvn))⟩
   clear hxn
   go_upto_region 13 with (first|((with_reducible refine gate_store (t:=3) (p:=50) rfl ?_);refine store_event (t:=3) (p:=50) (v:=?vo50_2) (w1:=wr.setCell ⟨gp,v,none⟩ (.int .i64 (k : Int))) ?hg ?ho ?hn ?hr ?_;(case ho=>rfl);(case hg=>rfl);(case hn=>rfl);(case hr=>first|(go_simp;done)|(go_simp;rfl));intro wS hw))
   have F0 : Below w.heap.size w (wr.setCell ⟨gp,v,none⟩ (.int .i64 (k : Int))):=below_setB HBW.out (HSS.out _ (.inr (.inl rfl))) _
   have F1:=HI.out.setP HE.out.xp HE.out.pq HE.out.bp v (k : Int)
   have F2 : Kept W0 (wr.setCell ⟨gp,v,none⟩ (.int .i64 (k : Int))) (PK gX gp gq):=HK.out.setCell (.inl (.inr (.inl rfl))) _
   rw [← hw] at F0 F1 F2
   rw [← HPX.out] at F1
   obtain ⟨Ax,cx,e4⟩:=Kd.R_slice F1.rX
   subst e4
   have hcX : wS.cell? ⟨gX,0,none⟩ = some (.slice Ax (ofX N o k).length cx):=(blk_cell F1.hX 0).trans rfl
   have hc1 : wS.cell? ⟨g1,0,none⟩ = some (.slice (some an) N.length c0):=(blk_cell (HE.out.boxes F2).1 0).trans rfl
   have hxn : wS.cell? (an.add v) = some (.int .i64 (rd N (v : Int))):=HE.out.cell HXN.out F2
   have hxl : (ofX N o k).length ≤ N.length:=by simp [ofX];omega
   have BX:=Aside0.mk (Below.refl wS.heap.size wS)
   clear HI HK HBW hw hcM hfp hcp hcO
   have HI:=Aside0.mk F1
   have HK:=Aside0.mk F2
   have HBW:=Aside0.mk F0
   clear F0 F1 F2
   refine start_ (n:=11) (S:=fun w'=>w'.cell? ⟨gX,0,none⟩ = some (.slice Ax (ofX N o k).length cx) ∧ w'.cell? ⟨g1,0,none⟩ = some (.slice (some an) N.length c0) ∧ w'.cell? (an.add v) = some (.int .i64 (rd N (v : Int)))) (ds:=[10]) #[false,false,false,false,false,false,false,false,false,false,false] (by kernel_rfl) rfl rfl ⟨hcX,hc1,hxn⟩ (fun hHeld=>?_)
   refine with_tabW putX.tab13 putX.bits13 (fun HT_ HW_=>?_)
   refine pure_ (i:=0) (N:=some 51) (v:=?_) (a':=?_) #[true,false,false,false,false,false,false,false,false,false,false] rfl rfl (any_of HT_.out (by kernel_rfl)) (fun _ _ _ h=>h) (Or.inl ⟨by rfl,?_⟩) ?_ ?_
   rotate_left
   ·intro w'
    go_simp
    with_reducible rfl
   rotate_left
   ·simp only [Act.put,zzA,zzB,zzC,i64_w,i32_w]
    rfl
   refine pure_ (i:=2) (N:=some 53) (v:=?_) (a':=?_) #[true,false,true,false,false,false,false,false,false,false,false] rfl rfl (any_of HT_.out (by kernel_rfl)) (fun _ _ _ h=>h) (Or.inl ⟨by rfl,?_⟩) ?_ ?_
   rotate_left
   ·intro w'
    go_simp
    with_reducible rfl
   rotate_left
   ·simp only [Act.put,zzA,zzB,zzC,i64_w,i32_w]
    rfl
   refine pure_ (i:=4) (N:=some 55) (v:=?_) (a':=?_) #[true,false,true,false,true,false,false,false,false,false,false] rfl rfl (any_of HT_.out (by kernel_rfl)) (fun _ _ _ h=>h) (Or.inl ⟨by rfl,?_⟩) ?_ ?_
   rotate_left
   ·intro w'
    go_simp
    with_reducible rfl
   rotate_left
   ·simp only [Act.put,zzA,zzB,zzC,i64_w,i32_w]
    rfl
   refine take_ (i:=1) (N:=some 52) (v:=?_) (a':=?_) #[true,true,true,false,true,false,false,false,false,false,false] rfl rfl (take_ofW HT_.out HW_.out (by kernel_rfl)) (fun _ _ _ h=>h) (Or.inl ⟨by rfl,?_⟩) hHeld ?_ ?_
   rotate_left
   ·rintro w' ⟨s0,s1,s2⟩
    go_simp
    with_reducible rfl
   rotate_left
   ·simp only [Act.put,zzA,zzB,zzC,i64_w,i32_w]
    rfl
   refine take_ (i:=3) (N:=some 54) (v:=?_) (a':=?_) #[true,true,true,true,true,false,false,false,false,false,false] rfl rfl (take_ofW HT_.out HW_.out (by kernel_rfl)) (fun _ _ _ h=>h) (Or.inl ⟨by rfl,?_⟩) hHeld ?_ ?_
   rotate_left
   ·rintro w' ⟨s0,s1,s2⟩
    go_simp
    with_reducible rfl
   rotate_left
   ·simp only [Act.put,zzA,zzB,zzC,i64_w,i32_w]
    rfl
   refine pure_ (i:=5) (N:=some 56) (v:=?_) (a':=?_) #[true,true,true,true,true,true,false,false,false,false,false] rfl rfl (any_of HT_.out (by kernel_rfl)) (fun _ _ _ h=>h) (Or.inl ⟨by rfl,?_⟩) ?_ ?_
   rotate_left
   ·intro w'
    go_simp
    with_reducible rfl
   rotate_left
   ·simp only [Act.put,zzA,zzB,zzC,i64_w,i32_w]
    rfl
   refine take_ (i:=6) (N:=some 57) (v:=?_) (a':=?_) #[true,true,true,true,true,true,true,false,false,false,false] rfl rfl (take_ofW HT_.out HW_.out (by kernel_rfl)) (fun _ _ _ h=>h) (Or.inl ⟨by rfl,?_⟩) hHeld ?_ ?_
   rotate_left
   ·rintro w' ⟨s0,s1,s2⟩
    go_simp
    with_reducible rfl
   rotate_left
   ·simp only [Act.put,zzA,zzB,zzC,i64_w,i32_w]
    rfl
   refine one_ (i:=7) (N:=some 58) #[true,true,true,true,true,true,true,true,false,false,false] rfl rfl (one_of HT_.out (by kernel_rfl)) (by decide) (fun K hK=>?_)
   refine value_ (w1:=?_) (v:=?_) (by rfl) rfl ?_ ?_
   rotate_left 2
   ·go_simp
    constructor
    ·rfl
    ·rfl
   refine hK.out _ _ ⟨(pw_cell_below (w:=wS) (by repeat (first|(with_reducible first|exact BX.out|apply zzD|apply zzE|apply zzF)|exact BX.out)) hcX),(pw_cell_below (w:=wS) (by repeat (first|(with_reducible first|exact BX.out|apply zzD|apply zzE|apply zzF)|exact BX.out)) hc1),(pw_cell_below (w:=wS) (by repeat (first|(with_reducible first|exact BX.out|apply zzD|apply zzE|apply zzF)|exact BX.out)) hxn)⟩ (fun hHeld=>?_)
   clear hK K
   refine norm_ (a':=?_) ?_ ?_
   rotate_left
   ·show Act.put _ (some 58) _ = _
    simp only [Act.put,zzA,zzB,zzC,i64_w,i32_w]
    rfl
   refine one_ (i:=8) (N:=some 59) #[true,true,true,true,true,true,true,true,true,false,false] rfl rfl (one_of HT_.out (by kernel_rfl)) (by decide) (fun K hK=>?_)
   refine app_drew (w0:=wS) (W:=wS) W0.heap.size (by rfl) (.tmp 52) (.tmp 58) 27 rfl Try.underlying27 info3 (.slice Ax (ofX N o k).length cx) (ofX N o k) (rd N (v : Int)) rfl rfl HI.out.rX (Below.refl _ _) HK.out.1 (by omega) ?_
   intro v1 w4 ho hb hg hat
   obtain ⟨Av,cv,ev⟩:=Kd.R_slice ho
   subst ev
   have QG:=Aside0.mk (show Kept W0 w4 (PK gX gp gq) from Kept.of_grown hg HK.out (fun k hk=>.inr (Kd.R_base HI.out.rX k hk)))
   have QX:=Aside0.mk (blk_grown HI.out.hX hg (fun he=>by have:=Kd.R_base HI.out.rX gX he.symm;have:=HE.out.bX;omega))
   have OW:=Aside0.mk ho
   have HB4:=Aside0.mk hb
   have HG4:=Aside0.mk hg
   clear ho hb hg hat
   have hcX4 : w4.cell? ⟨gX,0,none⟩ = some (.slice Ax (ofX N o k).length cx):=(blk_cell QX.out 0).trans rfl
   have hfX4:=blk_frozen QX.out 0
   refine hK.out _ _ ⟨hcX4,((blk_cell (HE.out.boxes QG.out).1 0).trans rfl),(HE.out.cell HXN.out QG.out)⟩ (fun hHeld=>?_)
   clear hK K
   refine norm_ (a':=?_) ?_ ?_
   rotate_left
   ·show Act.put _ (some 59) _ = _
    simp only [Act.put,zzA,zzB,zzC,i64_w,i32_w]
    rfl
   refine pure_ (i:=9) (N:=some 60) (v:=?_) (a':=?_) #[true,true,true,true,true,true,true,true,true,true,false] rfl rfl (any_of HT_.out (by kernel_rfl)) (fun _ _ _ h=>h) (Or.inl ⟨by rfl,?_⟩) ?_ ?_
   rotate_left
   ·intro w'
    go_simp
    with_reducible rfl
   rotate_left
   ·simp only [Act.put,zzA,zzB,zzC,i64_w,i32_w]
    rfl
   refine last_ (i:=10) (N:=none) #[true,true,true,true,true,true,true,true,true,true,true] rfl rfl (one_of HT_.out (by kernel_rfl)) (by decide) (fun K hK=>?_)
   refine skip_ (w1:=?_) (by rfl) rfl ?_ ?_
   rotate_left
   ·go_simp
    rfl
   refine hK.out _ _ ?_
   clear hK K
   refine done_ (done_of HT_.out (by kernel_rfl)) ?_
   simp only [List.length_append,List.length_cons,List.length_nil,Nat.zero_add]
   have F1:=HI.out.putX HE.out.xp HE.out.xq HE.out.bX HE.out.bp HE.out.bq OW.out HG4.out
   have F2 : Kept W0 (w4.setCell ⟨gX,0,none⟩ (.slice Av (ofX N o k ++ [rd N (v : Int)]).length cv)) (PK gX gp gq):=QG.out.setCell (.inl (.inl rfl)) _
   have F4 : Below w.heap.size w (w4.setCell ⟨gX,0,none⟩ (.slice Av (ofX N o k ++ [rd N (v : Int)]).length cv)):=below_setB (below_thenB HBW.out HB4.out HSB.out) (HSS.out _ (.inl rfl)) _
   rw [← HXX.out] at F1 F2 F4
   have hln : (ofX N o (k + 1)).length = (ofX N o k).length + 1:=by rw [HXX.out];simp
   rw [hln] at F1 F2 F4
   have R1:=Aside0.mk F1
   have R2:=Aside0.mk F2
   have R4:=Aside0.mk F4
   clear F1 F2 F4 QG QX OW HB4 HG4 HI HK HBW BX hln HPX HXX hcX4 hfX4
   generalize w4.setCell ⟨gX,0,none⟩ (.slice Av ((ofX N o k).length + 1) cv) = w5 at R1 R2 R4 ⊢
   have HN9:=Aside0.mk hn9
   have HFF:=Aside0.mk (show ∀ (l : List (Nat × Nat)),(∀ p ∈ l,p.1 < N.length ∧ p.2 < N.length) → ∀ st,(l.foldl (put2 L S o) st).2.length ≤ st.2.length + 100 * l.length from put2_len HE.out.hT.fits HE.out.ho HE.out.hol)
   have HEL:=Aside0.mk (ofE_len HE.out.hT.fits HE.out.ho HE.out.hol hn9 k (by omega))
   go_wp2
   go_loopw [62] (fun v wr=>∃ (j : Nat) (vY' : Value),j ≤ k ∧ v = .int .i64 (j : Int) ∧ Aside0 (OfI wr W0.heap.size gX gp gq N.length L.length (.slice Av ((ofX N o k).length + 1) cv) vY' (ofX N o (k + 1)) ((pairsK k j).foldl (put2 L S o) (ofE L S o k)).2 (ofP N.length o (k + 1)) ((pairsK k j).foldl (put2 L S o) (ofE L S o k)).1) ∧ Aside0 (Kept W0 wr (PK gX gp gq)) ∧ Aside0 (Below w.heap.size w wr)) (fun v _=>k - (intOf v).toNat)
   case atStart=>exact ⟨0,_,by omega,rfl,R1,R2,R4⟩
   case round =>
    clear R1 R2 R4
    obtain ⟨j,vY',hj,rfl,HI,HK,HBW⟩:=hrel
    by_cases c4 : j < k
    ·have k4 : decide ((j : Int) < (k : Int)) = true:=decide_eq_true (by omega)
     have k4' : decide (j < k) = true:=decide_eq_true c4
     have HPS:=Aside0.mk (show (pairsK k (j + 1)).foldl (put2 L S o) (ofE L S o k) = put2 L S o (put2 L S o ((pairsK k j).foldl (put2 L S o) (ofE L S o k)) (j,k)) (k,j) from by rw [pairsK_succ,List.foldl_append];rfl)
     have HLN:=Aside0.mk (show ((pairsK k j).foldl (put2 L S o) (ofE L S o k)).2.length ≤ 1000000 from by have:=HFF.out _ (pairsK_mem c3 (by omega : j ≤ N.length)) (ofE L S o k);rw [pairsK_len] at this;have:=HEL.out;omega)
     have HLN2:=Aside0.mk (show (put2 L S o ((pairsK k j).foldl (put2 L S o) (ofE L S o k)) (j,k)).2.length ≤ 1000000 from by have:=HFF.out (pairsK k j ++ [(j,k)]) (fun p hp=>by (rcases List.mem_append.1 hp with h|h);exact pairsK_mem c3 (by omega) p h;simp at h;subst h;exact ⟨by omega,by omega⟩) (ofE L S o k);rw [List.foldl_append,List.length_append,pairsK_len] at this;simp only [List.foldl_cons,List.foldl_nil,List.length_cons,List.length_nil] at this;have:=HEL.out;omega)
     go_wp2_with (first|((with_reducible refine gate_dst (N:=68) rfl ?_);refine goesV (some 68) rfl rfl ent56 #[.int .i64 (j : Int),.int .i64 (k : Int)] rfl rfl (by (try simp only [List.map_toArray,List.map_cons,List.map_nil]);rfl) ?_;refine (clo56_calls HE.out (i:=j) (j:=k) (by omega) (by omega) HK.out HI.out (by first|exact HLN.out|(have:=HLN2.out;exact this)) HBW.out HSS.out HSB.out).mono ?_;rintro e wA ⟨rfl,hk_,hb_,vZ68,hi_⟩;refine ⟨_,rfl,?_⟩;clear HK HBW HI;have HK:=Aside0.mk hk_;have HBW:=Aside0.mk hb_;have HI:=Aside0.mk hi_;clear hk_ hb_ hi_)|((with_reducible refine gate_dst (N:=72) rfl ?_);refine goesV (some 72) rfl rfl ent56 #[.int .i64 (k : Int),.int .i64 (j : Int)] rfl rfl (by (try simp only [List.map_toArray,List.map_cons,List.map_nil]);rfl) ?_;refine (clo56_calls HE.out (i:=k) (j:=j) (by omega) (by omega) HK.out HI.out (by first|exact HLN.out|(have:=HLN2.out;exact this)) HBW.out HSS.out HSB.out).mono ?_;rintro e wB ⟨rfl,hk_,hb_,vZ72,hi_⟩;refine ⟨_,rfl,?_⟩;clear HK HBW HI;have HK:=Aside0.mk hk_;have HBW:=Aside0.mk hb_;have HI:=Aside0.mk hi_;clear hk_ hb_ hi_))
     go_roundw
     case rel=>exact ⟨j + 1,_,by omega,by first|rfl|simp,Aside0.mk (by rw [HPS.out];exact HI.out),HK,HBW⟩
     case measure=>show k - ((j : Int) + 1).toNat < k - ((j : Nat) : Int).toNat;omega
    ·have k4 : decide ((j : Int) < (k : Int)) = false:=decide_eq_false (by omega)
     have k4' : decide (j < k) = false:=decide_eq_false c4
     obtain rfl : j = k:=by omega
     have HLN:=Aside0.mk (show ((pairsK j j).foldl (put2 L S o) (ofE L S o j)).2.length ≤ 1000000 from by have:=HFF.out _ (pairsK_mem c3 (by omega : j ≤ N.length)) (ofE L S o j);rw [pairsK_len] at this;have:=HEL.out;omega)
     have HPS:=Aside0.mk (show ofE L S o (j + 1) = put2 L S o ((pairsK j j).foldl (put2 L S o) (ofE L S o j)) (j,j) from by rw [ofE_succ,List.foldl_append];rfl)
     go_wp2_with (first|((with_reducible refine gate_dst (N:=77) rfl ?_);refine goesV (some 77) rfl rfl ent56 #[.int .i64 (j : Int),.int .i64 (j : Int)] rfl rfl (by (try simp only [List.map_toArray,List.map_cons,List.map_nil]);rfl) ?_;refine (clo56_calls HE.out (i:=j) (j:=j) (by omega) (by omega) HK.out HI.out (by first|exact HLN.out|(have:=HLN2.out;exact this)) HBW.out HSS.out HSB.out).mono ?_;rintro e wC ⟨rfl,hk_,hb_,vZ77,hi_⟩;refine ⟨_,rfl,?_⟩;clear HK HBW HI;have HK:=Aside0.mk hk_;have HBW:=Aside0.mk hb_;have HI:=Aside0.mk hi_;clear hk_ hb_ hi_))
     go_roundw
     case rel=>exact ⟨j + 1,_,_,by omega,by first|rfl|simp,Aside0.mk (by rw [HPS.out];exact HI.out),HK,HBW⟩
     case measure=>show N.length - ((j : Int) + 1).toNat < N.length - ((j : Nat) : Int).toNat;omega
  ·have k3 : decide ((k : Int) < (N.length : Int)) = false:=decide_eq_false (by omega)
   have k3' : decide (k < N.length) = false:=decide_eq_false c3
   obtain rfl : k = N.length:=by omega
   obtain ⟨Ax,cx,e4⟩:=Kd.R_slice HI.out.rX
   obtain ⟨Ay,cy,e5⟩:=Kd.R_slice HI.out.rY
   subst e4 e5
   have hol : (ofX N o N.length).length = N.length:=by simp [ofX,HE.out.hol]
   rw [hol] at HI
   have b2:=blk_kept B2.out HK.out L2.out
   have b3:=blk_kept B3.out HK.out L3.out
   have B2w:=Aside0.mk b2
   have B3w:=Aside0.mk b3
   have bM:=(HE.out.boxes HK.out).2.2.2
   have BMw:=Aside0.mk bM
   have HF22:=Aside0.mk (show F22 wr gX gM g2 g3 (.slice Ax N.length cx) (.slice Ay (ofE L S o N.length).2.length cy) (.slice (some ⟨gp,0,none⟩) N.length N.length) (.slice (some ⟨gq,0,none⟩) L.length L.length) from ⟨HI.out.hX,bM,⟨_,_,b2⟩,⟨_,_,b3⟩,fun h=>L2.out (.inl h.symm),NM3.out⟩)
   have HFD:=Aside0.mk (F22.drew HF22.out)
   have hcX0 : wr.cell? ⟨gX,0,none⟩ = some (.slice Ax N.length cx):=(blk_cell HI.out.hX 0).trans rfl
   have hcX1 : wr.cell? ⟨gX,1,none⟩ = some (.slice Ay (ofE L S o N.length).2.length cy):=(blk_cell HI.out.hX 1).trans rfl
   have hcM0 : wr.cell? ⟨gM,0,none⟩ = some (.slice (some ⟨gp,0,none⟩) N.length N.length):=(blk_cell bM 0).trans rfl
   have hcM1 : wr.cell? ⟨gM,1,none⟩ = some (.slice (some ⟨gq,0,none⟩) L.length L.length):=(blk_cell bM 1).trans rfl
   have hc20 : wr.cell? ⟨g2,0,none⟩ = some (.slice none 0 0):=(blk_cell b2 0).trans rfl
   have hc21 : wr.cell? ⟨g2,1,none⟩ = some (.slice none 0 0):=(blk_cell b2 1).trans rfl
   have hf20 : wr.frozen? ⟨g2,0,none⟩ = false:=blk_frozen b2 0
   have hf21 : wr.frozen? ⟨g2,1,none⟩ = false:=blk_frozen b2 1
   have TB:=Aside0.mk (two_boxes (W':=((wr.setCell ⟨g2,0,none⟩ (.slice Ax N.length cx)).setCell ⟨g2,1,none⟩ (.slice Ay (ofE L S o N.length).2.length cy))) b2 b3 rfl)
   obtain ⟨_,_,hw5a,hw5b,hw5c,hw5d⟩:=TB.out
   clear b2 b3 bM hcO
   go_upto_region 22 with (fail)
   refine start_ (n:=5) (S:=fun w'=>w'.cell? ⟨gX,0,none⟩ = some (.slice Ax N.length cx) ∧ w'.cell? ⟨gX,1,none⟩ = some (.slice Ay (ofE L S o N.length).2.length cy) ∧ w'.cell? ⟨gM,0,none⟩ = some (.slice (some ⟨gp,0,none⟩) N.length N.length) ∧ w'.cell? ⟨gM,1,none⟩ = some (.slice (some ⟨gq,0,none⟩) L.length L.length)) (ds:=[]) #[false,false,false,false,false] (by kernel_rfl) rfl rfl ⟨((blk_cell (HFD.out).hX 0).trans rfl),((blk_cell (HFD.out).hX 1).trans rfl),((blk_cell (HFD.out).hM 0).trans rfl),((blk_cell (HFD.out).hM 1).trans rfl)⟩ (fun hHeld=>?_)
   refine with_tabW of.tab22 of.bits22 (fun HT_ HW_=>?_)
   refine take_ (i:=0) (N:=some 79) (v:=?_) (a':=?_) #[true,false,false,false,false] rfl rfl (take_ofW HT_.out HW_.out (by kernel_rfl)) (fun _ _ _ h=>h) (Or.inl ⟨by rfl,?_⟩) hHeld ?_ ?_
   rotate_left
   ·rintro w' ⟨s0,s1,s2,s3⟩
    go_simp
    with_reducible rfl
   rotate_left
   ·simp only [Act.put,zzA,zzB,zzC,i64_w,i32_w]
    rfl
   refine take_ (i:=1) (N:=some 80) (v:=?_) (a':=?_) #[true,true,false,false,false] rfl rfl (take_ofW HT_.out HW_.out (by kernel_rfl)) (fun _ _ _ h=>h) (Or.inl ⟨by rfl,?_⟩) hHeld ?_ ?_
   rotate_left
   ·rintro w' ⟨s0,s1,s2,s3⟩
    go_simp
    with_reducible rfl
   rotate_left
   ·simp only [Act.put,zzA,zzB,zzC,i64_w,i32_w]
    rfl
   refine one_ (i:=2) (N:=none) #[true,true,true,false,false] rfl rfl (one_of HT_.out (by kernel_rfl)) (by decide) (fun K hK=>?_)
   refine skip_ (w1:=?_) (by rfl) rfl ?_ ?_
   rotate_left
   ·go_simp
    rfl
   refine hK.out _ _ ⟨((blk_cell (F22.drew (F22.set2 HF22.out _ _)).hX 0).trans rfl),((blk_cell (F22.drew (F22.set2 HF22.out _ _)).hX 1).trans rfl),((blk_cell (F22.drew (F22.set2 HF22.out _ _)).hM 0).trans rfl),((blk_cell (F22.drew (F22.set2 HF22.out _ _)).hM 1).trans rfl)⟩ (fun hHeld=>?_)
   clear hK K
   refine one_ (i:=3) (N:=none) #[true,true,true,true,false] rfl rfl (one_of HT_.out (by kernel_rfl)) (by decide) (fun K hK=>?_)
   refine skip_ (w1:=?_) (by rfl) rfl ?_ ?_
   rotate_left
   ·go_simp
    rfl
   refine hK.out _ _ ⟨((blk_cell (F22.drew (F22.set3 (F22.set2 HF22.out _ _) _ _)).hX 0).trans rfl),((blk_cell (F22.drew (F22.set3 (F22.set2 HF22.out _ _) _ _)).hX 1).trans rfl),((blk_cell (F22.drew (F22.set3 (F22.set2 HF22.out _ _) _ _)).hM 0).trans rfl),((blk_cell (F22.drew (F22.set3 (F22.set2 HF22.out _ _) _ _)).hM 1).trans rfl)⟩ (fun hHeld=>?_)
   clear hK K
   refine pure_ (i:=4) (N:=some 4) (v:=?_) (a':=?_) #[true,true,true,true,true] rfl rfl (any_of HT_.out (by kernel_rfl)) (fun _ _ _ h=>h) (Or.inl ⟨by rfl,?_⟩) ?_ ?_
   rotate_left
   ·intro w'
    go_simp
    with_reducible rfl
   rotate_left
   ·simp only [Act.put,zzA,zzB,zzC,i64_w,i32_w]
    rfl
   refine done_ (done_of HT_.out (by kernel_rfl)) ?_
   go_wp2
   have b2:=blk_kept B2.out HK.out L2.out
   have b3:=blk_kept B3.out HK.out L3.out
   have TC:=two_boxes' (W':=((((wr.setCell ⟨g2,0,none⟩ (.slice Ax N.length cx)).setCell ⟨g2,1,none⟩ (.slice Ay (ofE L S o N.length).2.length cy)).setCell ⟨g3,0,none⟩ (.slice (some ⟨gp,0,none⟩) N.length N.length)).setCell ⟨g3,1,none⟩ (.slice (some ⟨gq,0,none⟩) L.length L.length))) TB.out.1 TB.out.2.1 rfl
   ((try simp only [Exit.inBlock,Exit.then]);refine bodyPost_ret (results_of rfl _ _ g2 g3 _ _ _ _ rfl rfl TC.1 TC.2 Try.underlying30 rfl (by kernel_rfl) Try.underlying55 rfl (by kernel_rfl)) rfl ?_)
   have l2:=blk_lt B2.out
   have l3:=blk_lt B3.out
   have n2 : ∀ k,W0.heap.size ≤ k → k ≠ g2 ∧ k ≠ g3:=fun k hk=>by omega
   have mv : ∀ k,k ≠ g2 → k ≠ g3 → ((((wr.setCell ⟨g2,0,none⟩ (.slice Ax N.length cx)).setCell ⟨g2,1,none⟩ (.slice Ay (ofE L S o N.length).2.length cy)).setCell ⟨g3,0,none⟩ (.slice (some ⟨gp,0,none⟩) N.length N.length)).setCell ⟨g3,1,none⟩ (.slice (some ⟨gq,0,none⟩) L.length L.length)).heap[k]? = wr.heap[k]?:=fun k h2 h3 =>
    (Below.heap_setCell _ _ _ k h3).trans ((Below.heap_setCell _ _ _ k h3).trans ((Below.heap_setCell _ _ _ k h2).trans (Below.heap_setCell _ _ _ k h2)))
   have rX:=Kd.R_reads' (R_over HI.out.rX (fun k hk _=>mv k (n2 k hk).1 (n2 k hk).2))
   have rY:=Kd.R_reads' (R_over HI.out.rY (fun k hk _=>mv k (n2 k hk).1 (n2 k hk).2))
   rw [hol] at rX
   have hn9:=HE.out.hn
   have hl9:=HE.out.hL
   refine ⟨Below.drew (below_setB (below_setB (below_setB (below_setB HBW.out B2b.out _) B2b.out _) B3b.out _) B3b.out _),Ax,cx,Ay,cy,some ⟨gp,0,none⟩,N.length,some ⟨gq,0,none⟩,L.length,rfl,rX.2.2,rX.2.1,rY.2.2,rY.2.1,C_full ((mv gp ?_ ?_).trans HI.out.hP) HI.out.lP (by omega),Nat.le_refl _,C_full ((mv gq ?_ ?_).trans HI.out.hQ) HI.out.lQ (by omega),Nat.le_refl _⟩
   ·exact ty_ne HI.out.hP b2 (by decide)
   ·exact ty_ne HI.out.hP b3 (by decide)
   ·exact ty_ne HI.out.hQ b2 (by decide)
   ·exact ty_ne HI.out.hQ b3 (by decide)
theorem of_calls {o : List Nat} {code : List Int} (hr0 : Kd.C (Kd.int .i64) w A0 N.length N) (hc0 : N.length ≤ c0) (hr1 : Kd.C k34 w A1 L.length L) (hc1 : L.length ≤ c1)
  (hok : validE N L = 0 → L.length < 20 ∧ Fits N.length L S ∧ ∀ i j,i < N.length → j < N.length → ∃ k,slices_insertionSortCmpFunc_int.f k (rowE L L.length i j) 0 ((rowE L L.length i j).length : Int) L = some (S i j))
  (hb : validE N L = 0 → srch N L S (twM N L S) N.length [] [(N.length : Int)] none = some (o,code) ∧ o.length = N.length ∧ ∀ v ∈ o,v < N.length) :
  Calls Try.prog 28 #[.agg #[.slice A0 N.length c0,.slice A1 L.length c1]] w fun e w'=>Below w.heap.size w w' ∧ ((validE N L ≠ 0 ∧ e = .returned (.tuple #[.agg #[.slice none 0 0,.slice none 0 0],.agg #[.slice none 0 0,.slice none 0 0],.int .i64 (validE N L)])) ∨
   (validE N L = 0 ∧ ∃ Ax cx Ay cy Ap cp Aq cq,e = .returned (.tuple #[.agg #[.slice Ax N.length cx,.slice Ay (ofE L S o N.length).2.length cy],.agg #[.slice Ap N.length cp,.slice Aq L.length cq],.int .i64 0]) ∧
    Kd.C (Kd.int .i64) w' Ax N.length (ofX N o N.length) ∧ N.length ≤ cx ∧ Kd.C k34 w' Ay (ofE L S o N.length).2.length (ofE L S o N.length).2 ∧ (ofE L S o N.length).2.length ≤ cy ∧
    Kd.C (Kd.int .i64) w' Ap N.length (ofP N.length o N.length) ∧ N.length ≤ cp ∧ Kd.C (Kd.int .i64) w' Aq L.length (ofE L S o N.length).1 ∧ L.length ≤ cq)):=by
 by_cases h1 : validE N L = 0
 ·exact (of_ok hr0 hc0 hr1 hc1 h1 (hok h1) (hb h1)).mono fun e w' h=>⟨h.1,.inr ⟨h1,h.2⟩⟩
 ·exact (of_err rfl h1 hr0 hc0 hr1 hc1).mono fun e w' h=>⟨h.1,.inl ⟨h1,h.2⟩⟩
end
end Go.Proofs.Ytgmomcjnldahjaa.Pr
namespace Go.Proofs.Ytgmomcjnldahjaa.Pr
open Go.RowKit Go.Proofs.YtgmomcjnldahjaaW.PrintWords Go.Proofs.YtgmomcjnldahjaaW.PrintLast Go.Proofs.YtgmomcjnldahjaaW.PrintMore
set_option linter.unusedVariables false
set_option linter.unusedSimpArgs false
theorem nodup_le : ∀ (n : Nat) (l : List Nat),l.Nodup → (∀ x ∈ l,x < n) → l.length ≤ n
 | 0,l,_,hb => by
  cases l with
  | nil => simp
  | cons x l => exact absurd (hb x (by simp)) (by omega)
 | n + 1,l,h,hb => by
  by_cases hm : n ∈ l
  ·have h1:=nodup_le n (l.erase n) (h.erase n) (fun x hx=>by
    have h2:=(h.mem_erase_iff).1 hx
    have:=hb x h2.2
    have:=h2.1
    omega)
   rw [List.length_erase_of_mem hm] at h1
   omega
  ·have h1:=nodup_le n l h (fun x hx=>by
    have:=hb x hx
    have : x ≠ n:=fun e=>hm (e ▸ hx)
    omega)
   omega
theorem nodup_all {n : Nat} {l : List Nat} (h : l.Nodup) (hb : ∀ x ∈ l,x < n) (hl : l.length = n) {v : Nat} (hv : v < n) : v ∈ l:=by
 apply Classical.byContradiction
 intro hn
 have:=nodup_le n (v :: l) (List.nodup_cons.2 ⟨hn,h⟩) (fun x hx=>by rcases List.mem_cons.1 hx with rfl|hx;exact hv;exact hb x hx)
 simp at this;omega
theorem some_left : ∀ (n : Nat) (l : List Nat),l.length < n → ∃ v,v < n ∧ v ∉ l
 | 0,l,h => absurd h (by omega)
 | n + 1,l,h => by
  by_cases hm : n ∈ l
  ·obtain ⟨v,h1,h2⟩:=some_left n (l.filter (· ≠ n)) (by
    have : (l.filter (· ≠ n)).length < l.length:=by
     rw [← List.countP_eq_length_filter]
     refine Nat.lt_of_le_of_ne List.countP_le_length (fun e=>?_)
     have:=List.countP_eq_length.1 e n hm
     simp at this
    omega)
   refine ⟨v,by omega,fun hv=>h2 (List.mem_filter.2 ⟨hv,by simp;omega⟩)⟩
  ·exact ⟨n,by omega,hm⟩
def GoodO (n : Nat) (o : List Nat) : Prop:=o.Nodup ∧ ∀ v ∈ o,v < n
section
variable {N : List Int} {L : List S34} {S : Nat → Nat → List Int} {B : Nat → Nat → Bool}
theorem codeL_app (N : List Int) (L : List S34) (S : Nat → Nat → List Int) : ∀ (o pre : List Nat) (r : List Nat),codeL N L S pre (o ++ r) = codeL N L S pre o ++ codeL N L S (pre ++ o) r
 | [],pre,r => by simp [codeL]
 | k :: o,pre,r => by
  rw [List.cons_append,codeL,codeL,codeL_app N L S o (pre ++ [k]) r,List.append_assoc]
  simp
theorem codeL_snoc (N : List Int) (L : List S34) (S : Nat → Nat → List Int) (o : List Nat) (v : Nat) : codeL N L S [] (o ++ [v]) = codeL N L S [] o ++ placeS N L S o v:=by
 rw [codeL_app];simp [codeL]
def FoundOk (N : List Int) (L : List S34) (S : Nat → Nat → List Int) (b : Found) : Prop:=∀ p x,b = some (p,x) → GoodO N.length p ∧ p.length = N.length ∧ x = codeS N L S p
theorem good_snoc {n : Nat} {o : List Nat} (h : GoodO n o) {v : Nat} (hv : v < n) (hn : v ∉ o) : GoodO n (o ++ [v]) :=
 ⟨nodup_snoc h.1 hn,fun x hx=>by rcases List.mem_append.1 hx with hx|hx;exact h.2 x hx;rw [List.mem_singleton.1 hx];exact hv⟩
theorem srch_ok : ∀ (d : Nat) (o : List Nat) (c : List Int) (b : Found),o.length + d = N.length → GoodO N.length o → c = (N.length : Int) :: codeL N L S [] o → FoundOk N L S b → FoundOk N L S (srch N L S B d o c b)
 | 0,o,c,b,hd,ho,hc,hb => by
  have hme : FoundOk N L S (some (o,c)):=fun p x e=>by
   injection e with e;injection e with e1 e2;subst e1 e2
   exact ⟨ho,by omega,by rw [hc,codeS];congr 2;omega⟩
  unfold srch
  split
  ·exact hb
  ·split
   ·exact hme
   ·split
    ·exact hme
    ·exact hb
 | d + 1,o,c,b,hd,ho,hc,hb => by
  by_cases hw : worseS b c = true
  ·rw [srch_worse _ _ _ _ _ _ _ _ hw];exact hb
  ·rw [srch_succ _ _ _ _ _ _ _ _ (by simpa using hw)]
   have key : ∀ (l : List Nat) (st : List Nat × Found),(∀ v ∈ l,v < N.length) → FoundOk N L S st.2 → FoundOk N L S (l.foldl (stepS N L S B d o c) st).2:=fun l=>by
    induction l with
    | nil => intro st _ h;exact h
    | cons v l ih =>
     intro st hl h
     refine ih _ (fun u hu=>hl u (by simp [hu])) ?_
     unfold stepS
     split
     ·exact h
     ·rename_i hv
      exact srch_ok d (o ++ [v]) _ st.2 (by simp;omega) (good_snoc ho (hl v (by simp)) (fun hm=>hv (.inl hm))) (by rw [hc,codeL_snoc,List.cons_append]) h
   exact key (List.range N.length) ([],b) (fun v hv=>List.mem_range.1 hv) hb
theorem srch_keep : ∀ (d : Nat) (o : List Nat) (c : List Int) (b : Found),b.isSome = true → (srch N L S B d o c b).isSome = true
 | 0,o,c,b,hb => by
  unfold srch
  split
  ·exact hb
  ·split
   ·rfl
   ·split <;> rfl
 | d + 1,o,c,b,hb => by
  by_cases hw : worseS b c = true
  ·rw [srch_worse _ _ _ _ _ _ _ _ hw];exact hb
  ·rw [srch_succ _ _ _ _ _ _ _ _ (by simpa using hw)]
   have key : ∀ (l : List Nat) (st : List Nat × Found),st.2.isSome = true → (l.foldl (stepS N L S B d o c) st).2.isSome = true:=fun l=>by
    induction l with
    | nil => intro st h;exact h
    | cons v l ih =>
     intro st h
     refine ih _ ?_
     unfold stepS
     split
     ·exact h
     ·exact srch_keep d _ _ _ h
   exact key _ _ hb
theorem srch_isSome : ∀ (d : Nat) (o : List Nat) (c : List Int) (b : Found),o.length + d = N.length → (srch N L S B d o c b).isSome = true
 | 0,o,c,b,hd => by
  cases b with
  | some p => exact srch_keep 0 o c _ rfl
  | none => rw [srch_none];rfl
 | d + 1,o,c,b,hd => by
  cases b with
  | some p => exact srch_keep (d + 1) o c _ rfl
  | none =>
   rw [srch_succ _ _ _ _ _ _ _ _ rfl]
   have key : ∀ (l : List Nat) (st : List Nat × Found),(st.1 = [] ∨ st.2.isSome = true) → (st.2.isSome = true ∨ ∃ v ∈ l,v ∉ o) → (l.foldl (stepS N L S B d o c) st).2.isSome = true:=fun l=>by
    induction l with
    | nil => intro st _ h;rcases h with h | ⟨v,hv,_⟩;exact h;exact absurd hv (by simp)
    | cons v l ih =>
     intro st h1 h2
     by_cases hm : v ∈ o
     ·have e : stepS N L S B d o c st v = st:=by unfold stepS;rw [if_pos (.inl hm)]
      rw [List.foldl_cons,e]
      refine ih st h1 ?_
      rcases h2 with h2 | ⟨u,hu,hn⟩
      ·exact .inl h2
      ·rcases List.mem_cons.1 hu with rfl|hu
       ·exact absurd hm hn
       ·exact .inr ⟨u,hu,hn⟩
     ·have e : (stepS N L S B d o c st v).2.isSome = true:=by
       unfold stepS
       split
       ·rename_i hx
        rcases hx with hx|hx
        ·exact absurd hx hm
        ·rcases h1 with h1|h1
         ·rw [h1] at hx;simp at hx
         ·exact h1
       ·exact srch_isSome d _ _ _ (by simp;omega)
      exact ih _ (.inr e) (.inl e)
   obtain ⟨v,h1,h2⟩:=some_left N.length o (by omega)
   exact key (List.range N.length) ([],none) (.inl rfl) (.inr ⟨v,List.mem_range.2 h1,h2⟩)
def bestS (N : List Int) (L : List S34) (S : Nat → Nat → List Int) : Found:=srch N L S (twM N L S) N.length [] [(N.length : Int)] none
theorem best_is (N : List Int) (L : List S34) (S : Nat → Nat → List Int) : ∃ o,bestS N L S = some (o,codeS N L S o) ∧ GoodO N.length o ∧ o.length = N.length:=by
 have h1 : (bestS N L S).isSome = true:=srch_isSome N.length [] [(N.length : Int)] none (by simp)
 have h2 : FoundOk N L S (bestS N L S):=srch_ok N.length [] [(N.length : Int)] none (by simp) ⟨List.nodup_nil,fun v hv=>absurd hv (by simp)⟩ rfl (fun p x e=>by cases e)
 obtain ⟨⟨o,c⟩,e⟩:=Option.isSome_iff_exists.1 h1
 obtain ⟨g,l,hc⟩:=h2 o c e
 exact ⟨o,by rw [e,hc],g,l⟩
end
end Go.Proofs.Ytgmomcjnldahjaa.Pr
namespace Go.Proofs.Ytgmomcjnldahjaa.Pr
open Go.RowKit Go.Proofs.YtgmomcjnldahjaaW.PrintWords Go.Proofs.YtgmomcjnldahjaaW.PrintLast Go.Proofs.YtgmomcjnldahjaaW.PrintMore
attribute [local go_sem] max2_int min2_int max_two min_two max_three min_three max_four min_four
set_option linter.unusedVariables false
set_option linter.unusedSimpArgs false
def openB (N : List Int) (L : List S34) (o : List Nat) (v : Nat) : Bool:=!(decide (v ∈ o) || (List.range v).any fun u=>!decide (u ∈ o) && twinB N L (SB L) u v)
def worseR : Found → List Int → Bool
 | none,_ => false
 | some (_,d),c => decide (0 < cmpL c (d.take (min c.length d.length)))
def srchR (N : List Int) (L : List S34) : Nat → List Nat → List Int → Found → Found
 | 0,o,c,b => if worseR b c = true then b else (match b with
  | none => some (o,c)
  | some (p,x) => if cmpL c x < 0 then some (o,c) else some (p,x))
 | d + 1,o,c,b => if worseR b c = true then b else (List.range N.length).foldl (fun b v => if openB N L o v = true then srchR N L d (o ++ [v]) (c ++ placeS N L (SB L) o v) b else b) b
def stepR (N : List Int) (L : List S34) (d : Nat) (o : List Nat) (c : List Int) (b : Found) (v : Nat) : Found:=if openB N L o v = true then srchR N L d (o ++ [v]) (c ++ placeS N L (SB L) o v) b else b
theorem srchR_worse (N : List Int) (L : List S34) (d : Nat) (o : List Nat) (c : List Int) (b : Found) (h : worseR b c = true) : srchR N L d o c b = b:=by
 cases d <;> unfold srchR <;> rw [if_pos h]
theorem srchR_none (N : List Int) (L : List S34) (o : List Nat) (c : List Int) : srchR N L 0 o c none = some (o,c):=by
 unfold srchR;rw [if_neg (by simp [worseR])]
theorem srchR_some (N : List Int) (L : List S34) (o : List Nat) (c : List Int) (p : List Nat) (x : List Int) (h : worseR (some (p,x)) c = false) : srchR N L 0 o c (some (p,x)) = if cmpL c x < 0 then some (o,c) else some (p,x):=by
 unfold srchR;rw [if_neg (by rw [h];simp)]
theorem srchR_succ (N : List Int) (L : List S34) (d : Nat) (o : List Nat) (c : List Int) (b : Found) (h : worseR b c = false) : srchR N L (d + 1) o c b = (List.range N.length).foldl (stepR N L d o c) b:=by
 rw [srchR,if_neg (by rw [h];simp)];rfl
structure Fnd (W : World) (base gx : Nat) (A0 : Option Addr) (c0 : Nat) (N : List Int) (A1 : Option Addr) (c1 : Nat) (L : List S34) (b : Found) : Prop where
 ex : ∃ ov cv,W.heap[gx]? = some (.cells #[.slice A0 N.length c0,.slice A1 L.length c1,ov,cv,.bool b.isSome] 105 (0,0)) ∧ BestV W base (fun _=>True) ov cv b
section
variable {W W' : World} {base gx : Nat} {A0 : Option Addr} {c0 : Nat} {N : List Int} {A1 : Option Addr} {c1 : Nat} {L : List S34} {b : Found}
theorem Fnd.below (h : Fnd W base gx A0 c0 N A1 c1 L b) (hb : Below W.heap.size W W') : Fnd W' base gx A0 c0 N A1 c1 L b:=by
 obtain ⟨ov,cv,h1,h2⟩:=h.ex
 exact ⟨ov,cv,blk_below h1 hb,h2.below hb⟩
theorem Fnd.cells (h : Fnd W base gx A0 c0 N A1 c1 L b) : W.cell? ⟨gx,0,none⟩ = some (.slice A0 N.length c0) ∧ W.cell? ⟨gx,1,none⟩ = some (.slice A1 L.length c1) ∧ W.cell? ⟨gx,4,none⟩ = some (.bool b.isSome):=by
 obtain ⟨ov,cv,h1,h2⟩:=h.ex
 exact ⟨(blk_cell h1 0).trans rfl,(blk_cell h1 1).trans rfl,(blk_cell h1 4).trans rfl⟩
end
end Go.Proofs.Ytgmomcjnldahjaa.Pr
namespace Go.Proofs.Ytgmomcjnldahjaa.Pr
open Go.RowKit Go.Proofs.YtgmomcjnldahjaaW.PrintWords Go.Proofs.YtgmomcjnldahjaaW.PrintLast Go.Proofs.YtgmomcjnldahjaaW.PrintMore
attribute [local go_sem] max2_int min2_int max_two min_two max_three min_three max_four min_four
set_option linter.unusedVariables false
set_option linter.unusedSimpArgs false
def tr.T0 : Bool × List (List Nat × List Nat):=(true,[([],[]),([0],[0]),([1],[1]),([2],[2]),([3],[3]),([4],[4]),([4],[4]),([6,4],[4,6]),([7,4],[4,7]),([8,4],[4,8]),([4],[4]),([10,4],[4,10]),([4],[4]),([12,4],[4,12]),([13,4],[4,13]),([14,4],[4,14]),([15,4],[4,15]),([11,16,4],[4,11,16]),([9,17,4],[4,9,17]),([5,18,4,4],[4,5,18]),([19,4],[4,19]),([4,20],[4,20])])
def tr.B0 : List Nat:=[0,1,3,7,15,31,31,95,223,479,31,1055,31,4127,12319,28703,61471,130079,262111,524287,1048575,2097151]
def tr.T11 : Bool × List (List Nat × List Nat):=(true,[([],[]),([],[]),([],[]),([],[]),([2,3],[2,3]),([],[]),([5],[5]),([6],[6]),([7],[7]),([],[]),([8,9,4],[8,9]),([4,10,10],[4,10]),([0,1,11,11],[0,1,11])])
def tr.B11 : List Nat:=[0,0,0,0,12,0,32,96,224,0,1020,2044,4095]
theorem tr.tab11 : rtab .any (opsOf Try.f72 11) = tr.T11:=by kernel_rfl
theorem tr.bits11 : waitsOk tr.T11.2 tr.B11 = true:=by kernel_rfl
section
variable {Ws : World} {gx : Nat} {A0 : Option Addr} {c0 : Nat} {N : List Int} {A1 : Option Addr} {c1 : Nat} {L : List S34}
theorem Fnd.put {W : World} {base : Nat} {v4 v5 ov cv fv : Value} {o : List Nat} {code : List Int} (h : W.heap[gx]? = some (.cells #[.slice A0 N.length c0,.slice A1 L.length c1,ov,cv,fv] 105 (0,0))) (r4 : Kd.R (Kd.int .i64) 3 W base (fun _=>True) v4 (io o)) (r5 : Kd.R (Kd.int .i64) 3 W base (fun _=>True) v5 code) (hne : code ≠ []) (hl : code.length ≤ 1000000) :
  Fnd (((W.setCell ⟨gx,4,none⟩ (.bool true)).setCell ⟨gx,2,none⟩ v4).setCell ⟨gx,3,none⟩ v5) base gx A0 c0 N A1 c1 L (some (o,code)):=by
 have ht : ∀ q,q ∈ 3 :: (Kd.int IntKind.i64).E → q ≠ 105:=by intro q hq;simp [Kd.int,Kd.scalar] at hq;omega
 have h1:=blk_put h 4 (.bool true) rfl
 have h2:=blk_put h1 2 v4 rfl
 exact ⟨v4,v5,blk_put h2 3 _ rfl,hne,hl,Kd.R_set (Kd.R_set (Kd.R_set r4 h ht 4 _) h1 ht 2 _) h2 ht 3 _,Kd.R_set (Kd.R_set (Kd.R_set r5 h ht 4 _) h1 ht 2 _) h2 ht 3 _⟩
end
end Go.Proofs.Ytgmomcjnldahjaa.Pr
namespace Go.Proofs.Ytgmomcjnldahjaa.Pr
open Go.RowKit Go.Proofs.YtgmomcjnldahjaaW.PrintWords Go.Proofs.YtgmomcjnldahjaaW.PrintLast Go.Proofs.YtgmomcjnldahjaaW.PrintMore
attribute [local go_sem] max2_int min2_int max_two min_two max_three min_three max_four min_four
set_option linter.unusedVariables false
set_option linter.unusedSimpArgs false
def bestR (N : List Int) (L : List S34) : Found:=srchR N L N.length [] [(N.length : Int)] none
section
variable {w : World} {A0 : Option Addr} {c0 : Nat} {N : List Int} {A1 : Option Addr} {c1 : Nat} {L : List S34}
theorem valid_len {N : List Int} {L : List S34} (h : validE N L = 0) : L.length ≤ 80:=by
 unfold validE at h
 split at h
 ·rename_i h1;exact absurd h h1
 ·rename_i h1
  have h2 : gvalidE N L = 0:=Classical.byContradiction h1
  unfold gvalidE at h2
  split at h2
  ·exact absurd h2 (by decide)
  ·omega
end
end Go.Proofs.Ytgmomcjnldahjaa.Pr
namespace Go.Proofs.Ytgmomcjnldahjaa.Pr
open Go.RowKit Go.Proofs.YtgmomcjnldahjaaW.PrintWords Go.Proofs.YtgmomcjnldahjaaW.PrintLast Go.Proofs.YtgmomcjnldahjaaW.PrintMore
set_option linter.unusedVariables false
set_option linter.unusedSimpArgs false
section
variable {N : List Int} {L : List S34} {S : Nat → Nat → List Int}
def tl (L : List S34) (S : Nat → Nat → List Int) (i j : Nat) : Nat:=(typesS L S i j).length
def sumP (L : List S34) (S : Nat → Nat → List Int) (o : List Nat) : Nat:=(o.map fun i=>(o.map fun j=>tl L S i j).sum).sum
theorem map_sum_add {α : Type} (f g : α → Nat) : ∀ l : List α,(l.map fun a=>f a + g a).sum = (l.map f).sum + (l.map g).sum
 | [] => rfl
 | a :: l => by simp only [List.map_cons,List.sum_cons,map_sum_add f g l];omega
theorem sumP_snoc (o : List Nat) (v : Nat) : sumP L S (o ++ [v]) = sumP L S o + (o.map fun i=>tl L S i v).sum + (o.map fun j=>tl L S v j).sum + tl L S v v:=by
 unfold sumP
 simp only [List.map_append,List.sum_append_nat,List.map_cons,List.map_nil,List.sum_cons,List.sum_nil,Nat.add_zero]
 rw [map_sum_add]
 omega
theorem flat_len (k : Nat) : ∀ pre : List Nat,(pre.flatMap fun j=>typesS L S j k ++ typesS L S k j).length = (pre.map fun j=>tl L S j k).sum + (pre.map fun j=>tl L S k j).sum
 | [] => rfl
 | j :: pre => by
  simp only [List.flatMap_cons,List.length_append,List.map_cons,List.sum_cons,flat_len k pre,tl];omega
theorem placeS_len (pre : List Nat) (k : Nat) : (placeS N L S pre k).length + sumP L S pre = 1 + sumP L S (pre ++ [k]):=by
 rw [sumP_snoc]
 simp only [placeS,List.length_cons,List.length_append,flat_len,tl]
 omega
theorem codeL_length : ∀ (o pre : List Nat),(codeL N L S pre o).length + sumP L S pre = o.length + sumP L S (pre ++ o)
 | [],pre => by simp [codeL]
 | k :: o,pre => by
  have ih:=codeL_length o (pre ++ [k])
  have h:=placeS_len (N:=N) (L:=L) (S:=S) pre k
  rw [List.append_assoc] at ih
  simp only [codeL,List.length_append,List.length_cons,List.singleton_append] at ih ⊢
  omega
theorem sumP_app (o : List Nat) : ∀ r : List Nat,sumP L S o ≤ sumP L S (o ++ r):=fun r=>by
 have h:=codeL_length (N:=[]) (L:=L) (S:=S) r o
 have h2 : r.length ≤ (codeL [] L S o r).length:=by
  have : ∀ (r o : List Nat),r.length ≤ (codeL [] L S o r).length:=fun r=>by
   induction r with
   | nil => intro o;simp
   | cons k r ih => intro o;have:=ih (o ++ [k]);simp only [codeL,List.length_append,List.length_cons,placeS];omega
  exact this r o
 omega
theorem sumP_perm {o p : List Nat} (h : o.Perm p) : sumP L S o = sumP L S p:=by
 unfold sumP
 have e : (o.map fun i=>(o.map fun j=>tl L S i j).sum) = (o.map fun i=>(p.map fun j=>tl L S i j).sum):=List.map_congr_left fun i _=>(h.map _).sum_nat
 rw [e]
 exact (h.map _).sum_nat
theorem good_perm {n : Nat} {o : List Nat} (h : GoodO n o) : (o ++ (List.range n).filter (fun v=>!decide (v ∈ o))).Perm (List.range n):=by
 refine (List.perm_ext_iff_of_nodup ?_ List.nodup_range).2 (fun a=>?_)
 ·rw [List.nodup_append]
  refine ⟨h.1,List.nodup_range.sublist List.filter_sublist,fun a ha b hb e=>?_⟩
  subst e
  have:=(List.mem_filter.1 hb).2
  simp [ha] at this
 ·rw [List.mem_append,List.mem_filter,List.mem_range]
  constructor
  ·rintro (h1 | ⟨h1,_⟩)
   ·exact h.2 a h1
   ·exact h1
  ·intro h1
   by_cases ha : a ∈ o
   ·exact .inl ha
   ·exact .inr ⟨h1,by simp [ha]⟩
theorem full_perm {n : Nat} {p : List Nat} (h : GoodO n p) (hl : p.length = n) : p.Perm (List.range n) :=
 (List.perm_ext_iff_of_nodup h.1 List.nodup_range).2 fun a=>⟨fun ha=>List.mem_range.2 (h.2 a ha),fun ha=>nodup_all h.1 h.2 hl (List.mem_range.1 ha)⟩
theorem code_shorter {o p : List Nat} (ho : GoodO N.length o) (hp : GoodO N.length p) (hl : p.length = N.length) : ((N.length : Int) :: codeL N L S [] o).length ≤ (codeS N L S p).length:=by
 have h1:=codeL_length (N:=N) (L:=L) (S:=S) o []
 have h2:=codeL_length (N:=N) (L:=L) (S:=S) p []
 have h3:=sumP_app (L:=L) (S:=S) o ((List.range N.length).filter (fun v=>!decide (v ∈ o)))
 rw [sumP_perm (good_perm ho),← sumP_perm (full_perm hp hl)] at h3
 have h4 : o.length ≤ N.length:=nodup_le _ _ ho.1 ho.2
 simp only [List.nil_append] at h1 h2
 simp only [codeS,List.length_cons]
 omega
theorem worse_same {o : List Nat} {b : Found} (hb : FoundOk N L S b) (ho : GoodO N.length o) : worseR b ((N.length : Int) :: codeL N L S [] o) = worseS b ((N.length : Int) :: codeL N L S [] o):=by
 cases b with
 | none => rfl
 | some p =>
  obtain ⟨p,x⟩:=p
  obtain ⟨h1,h2,rfl⟩:=hb p x rfl
  have hs:=code_shorter (S:=S) (L:=L) ho h1 h2
  show decide (0 < cmpL ((N.length : Int) :: codeL N L S [] o) ((codeS N L S p).take (min ((N.length : Int) :: codeL N L S [] o).length (codeS N L S p).length))) = decide (0 < cmpL (((N.length : Int) :: codeL N L S [] o).take (min ((N.length : Int) :: codeL N L S [] o).length (codeS N L S p).length)) ((codeS N L S p).take (min ((N.length : Int) :: codeL N L S [] o).length (codeS N L S p).length)))
  rw [Nat.min_eq_left hs,List.take_of_length_le (l:=(N.length : Int) :: codeL N L S [] o) (Nat.le_refl _)]
theorem twin_iff (a b : Nat) : twinB N L S a b = true ↔ rd N (a : Int) = rd N (b : Int) ∧ typesS L S a a = typesS L S b b ∧ typesS L S a b = typesS L S b a ∧ ∀ c,c < N.length → c ≠ a → c ≠ b → typesS L S a c = typesS L S b c ∧ typesS L S c a = typesS L S c b:=by
 unfold twinB
 simp only [Bool.and_eq_true,decide_eq_true_eq]
 refine and_congr Iff.rfl (and_congr Iff.rfl (and_congr Iff.rfl ?_))
 rw [Bool.not_eq_true',List.any_eq_false]
 constructor
 ·intro h c hc h1 h2
  have:=h c (List.mem_range.2 hc)
  simp [tellB,h1,h2] at this
  exact this
 ·intro h c hc
  have hc:=List.mem_range.1 hc
  by_cases h1 : c = a
  ·simp [tellB,h1]
  ·by_cases h2 : c = b
   ·simp [tellB,h2]
   ·have:=h c hc h1 h2
    simp [tellB,this.1,this.2]
theorem twin_trans {a b c : Nat} (ha : a < N.length) (hb : b < N.length) (hc : c < N.length) (hab : a ≠ b) (hbc : b ≠ c) (hac : a ≠ c) (h1 : twinB N L S a b = true) (h2 : twinB N L S b c = true) : twinB N L S a c = true:=by
 rw [twin_iff] at *
 obtain ⟨n1,s1,x1,t1⟩:=h1
 obtain ⟨n2,s2,x2,t2⟩:=h2
 obtain ⟨p1,p2⟩:=t1 c hc hac.symm hbc.symm
 obtain ⟨q1,q2⟩:=t2 a ha hab hac
 refine ⟨n1.trans n2,s1.trans s2,?_,fun d hd h3 h4=>?_⟩
 ·rw [p1,x2,p2]
 ·by_cases h5 : d = b
  ·subst h5
   exact ⟨q2.trans (p1.trans x2),q1.trans (p2.trans x2.symm)⟩
  ·obtain ⟨r1,r2⟩:=t1 d hd h3 h5
   obtain ⟨u1,u2⟩:=t2 d hd h5 h4
   exact ⟨r1.trans u1,r2.trans u2⟩
end
section
variable {N : List Int} {L : List S34}
theorem open_iff (o : List Nat) (m : Nat) : openB N L o m = false ↔ m ∈ o ∨ ∃ u,u < m ∧ u ∉ o ∧ twinB N L (SB L) u m = true:=by
 unfold openB
 rw [Bool.not_eq_false',Bool.or_eq_true,decide_eq_true_eq,List.any_eq_true]
 refine or_congr Iff.rfl ⟨?_,?_⟩
 ·rintro ⟨u,hu,h⟩
  simp only [Bool.and_eq_true,Bool.not_eq_true',decide_eq_false_iff_not] at h
  exact ⟨u,List.mem_range.1 hu,h.1,h.2⟩
 ·rintro ⟨u,hu,h1,h2⟩
  exact ⟨u,List.mem_range.2 hu,by simp [h1,h2]⟩
theorem srch_same : ∀ (d : Nat) (o : List Nat) (c : List Int) (b : Found),o.length + d = N.length → GoodO N.length o → c = (N.length : Int) :: codeL N L (SB L) [] o → FoundOk N L (SB L) b →
  srch N L (SB L) (twM N L (SB L)) d o c b = srchR N L d o c b
 | 0,o,c,b,hd,ho,hc,hb => by
  have hw : worseR b c = worseS b c:=by rw [hc];exact worse_same hb ho
  unfold srch srchR
  rw [hw]
  cases b <;> rfl
 | d + 1,o,c,b,hd,ho,hc,hb => by
  have hw : worseR b c = worseS b c:=by rw [hc];exact worse_same hb ho
  cases hx : worseS b c
  ·rw [srch_succ _ _ _ _ _ _ _ _ hx,srchR_succ _ _ _ _ _ _ (hw.trans hx)]
   have key : ∀ m,m ≤ N.length → ∀ st,(List.range m).foldl (stepS N L (SB L) (twM N L (SB L)) d o c) ([],b) = st →
     st.2 = (List.range m).foldl (stepR N L d o c) b ∧ FoundOk N L (SB L) st.2 ∧ (∀ u ∈ st.1,u < m ∧ u ∉ o) ∧ (∀ u,u < m → u ∉ o → u ∈ st.1 ∨ ∃ x,x ∈ st.1 ∧ x < u ∧ twinB N L (SB L) x u = true):=fun m=>by
    induction m with
    | zero =>
     intro _ st e
     subst e
     exact ⟨rfl,hb,fun u hu=>absurd hu (by simp),fun u hu=>absurd hu (by omega)⟩
    | succ m ih =>
     intro hm st e
     rw [List.range_succ,List.foldl_append] at e
     obtain ⟨e1,e2,e3,e4⟩:=ih (by omega) _ rfl
     rw [List.range_succ,List.foldl_append,← e1]
     generalize (List.range m).foldl (stepS N L (SB L) (twM N L (SB L)) d o c) ([],b) = s0 at e e1 e2 e3 e4 ⊢
     subst e
     have hiff : (m ∈ o ∨ s0.1.any (fun u=>twM N L (SB L) u m) = true) ↔ openB N L o m = false:=by
      rw [open_iff,List.any_eq_true]
      refine ⟨?_,?_⟩
      ·rintro (h | ⟨u,hu,h⟩)
       ·exact .inl h
       ·have h2:=e3 u hu
        unfold twM at h
        rw [Bool.and_eq_true] at h
        exact .inr ⟨u,h2.1,h2.2,h.2⟩
      ·rintro (h | ⟨u,h1,h2,h3⟩)
       ·exact .inl h
       ·refine .inr ?_
        rcases e4 u h1 h2 with h4 | ⟨x,h4,h5,h6⟩
        ·refine ⟨u,h4,?_⟩
         unfold twM
         rw [Bool.and_eq_true]
         exact ⟨decide_eq_true (by omega),h3⟩
        ·refine ⟨x,h4,?_⟩
         unfold twM
         rw [Bool.and_eq_true]
         exact ⟨decide_eq_true (by omega),twin_trans (by omega) (by omega) (by omega) (by omega) (by omega) (by omega) h6 h3⟩
     show ((stepS N L (SB L) (twM N L (SB L)) d o c) s0 m).2 = (stepR N L d o c) s0.2 m ∧ FoundOk N L (SB L) ((stepS N L (SB L) (twM N L (SB L)) d o c) s0 m).2 ∧ (∀ u ∈ ((stepS N L (SB L) (twM N L (SB L)) d o c) s0 m).1,u < m + 1 ∧ u ∉ o) ∧ (∀ u,u < m + 1 → u ∉ o → u ∈ ((stepS N L (SB L) (twM N L (SB L)) d o c) s0 m).1 ∨ ∃ x,x ∈ ((stepS N L (SB L) (twM N L (SB L)) d o c) s0 m).1 ∧ x < u ∧ twinB N L (SB L) x u = true)
     unfold stepS stepR
     by_cases hop : openB N L o m = false
     ·rw [if_pos (hiff.2 hop),if_neg (by rw [hop];simp)]
      refine ⟨rfl,e2,fun u hu=>⟨by have:=(e3 u hu).1;omega,(e3 u hu).2⟩,fun u hu hn=>?_⟩
      by_cases hum : u = m
      ·subst hum
       rcases hiff.2 hop with h|h
       ·exact absurd h hn
       ·obtain ⟨x,h1,h2⟩:=List.any_eq_true.1 h
        unfold twM at h2
        rw [Bool.and_eq_true] at h2
        exact .inr ⟨x,h1,(e3 x h1).1,h2.2⟩
      ·exact e4 u (by omega) hn
     ·have hno : ¬ (m ∈ o ∨ s0.1.any (fun u=>twM N L (SB L) u m) = true):=fun h=>hop (hiff.1 h)
      rw [if_neg hno,if_pos (by simpa using hop)]
      have hmo : m ∉ o:=fun h=>hno (.inl h)
      have hg : GoodO N.length (o ++ [m]):=good_snoc ho (by omega) hmo
      have hcc : c ++ placeS N L (SB L) o m = (N.length : Int) :: codeL N L (SB L) [] (o ++ [m]):=by rw [hc,codeL_snoc,List.cons_append]
      refine ⟨srch_same d (o ++ [m]) _ s0.2 (by simp;omega) hg hcc e2,srch_ok d (o ++ [m]) _ s0.2 (by simp;omega) hg hcc e2,fun u hu=>?_,fun u hu hn=>?_⟩
      ·rcases List.mem_append.1 hu with h|h
       ·exact ⟨by have:=(e3 u h).1;omega,(e3 u h).2⟩
       ·rw [List.mem_singleton.1 h];exact ⟨by omega,hmo⟩
      ·by_cases hum : u = m
       ·exact .inl (by simp [hum])
       ·rcases e4 u (by omega) hn with h | ⟨x,h1,h2,h3⟩
        ·exact .inl (by simp [h])
        ·exact .inr ⟨x,by simp [h1],h2,h3⟩
   exact (key N.length (Nat.le_refl _) _ rfl).1
  ·rw [srch_worse _ _ _ _ _ _ _ _ hx,srchR_worse _ _ _ _ _ _ (hw.trans hx)]
theorem best_same (N : List Int) (L : List S34) : bestS N L (SB L) = bestR N L :=
 srch_same N.length [] [(N.length : Int)] none (by simp) ⟨List.nodup_nil,fun v hv=>absurd hv (by simp)⟩ rfl (fun p x e=>by cases e)
end
end Go.Proofs.Ytgmomcjnldahjaa.Pr
namespace Go.Proofs.Ytgmomcjnldahjaa.Pr
open Go.RowKit Go.Proofs.YtgmomcjnldahjaaW.PrintWords Go.Proofs.YtgmomcjnldahjaaW.PrintLast Go.Proofs.YtgmomcjnldahjaaW.PrintMore
attribute [local go_sem] max2_int min2_int max_two min_two max_three min_three max_four min_four
set_option linter.unusedVariables false
set_option linter.unusedSimpArgs false
def awN : List Int:=[3,1]
def awL : List S34:=[⟨0,0,1⟩]
theorem aw_best : srch awN awL (SB awL) (twM awN awL (SB awL)) awN.length [] [(awN.length : Int)] none = some ([1,0],[2,1,0,3,0,1,0,0]):=by decide +kernel
theorem aw_codein : codeinE awN awL [0,1] = 0 ∧ codeS awN awL (SB awL) ([0,1].map Int.toNat) = [2,3,0,1,1,0,0,0]:=by decide +kernel
theorem aw_valid : validE awN awL = 0:=by decide +kernel
theorem C_34 {W : World} {g : Nat} {x : S34} (h : W.heap[g]? = some (.cells #[.int .i64 x.f0,.int .i64 x.f1,.int .i64 x.f2] 34 (0,0))) : Kd.C k34 W (some ⟨g,0,none⟩) 1 [x]:=by
 refine ⟨rfl,by omega,fun _=>⟨_,rfl,fun j p hp=>?_⟩⟩
 rcases j with _|j
 ·obtain rfl:=Option.some.inj hp
  refine ⟨_,rfl,k34_mk W x,fun a u hu=>?_⟩
  have e1 : 0 * k34.sz + a = a:=by omega
  rw [add_plain,blk_cell h,e1,← hu]
  simp
 ·exact absurd hp (by simp)
theorem C_ints {W : World} {g : Nat} (P : List Int) (h : W.heap[g]? = some (.cells (P.map (Value.int .i64)).toArray 3 (0,0))) (hl : P.length ≤ 1000000) : Kd.C (Kd.int .i64) W (some ⟨g,0,none⟩) P.length P:=C_full h rfl hl
section
variable {W : World} {gN gL gO : Nat}
theorem aw1 (hN : W.heap[gN]? = some (.cells #[.int .i64 3,.int .i64 1] 3 (0,0))) (hL : W.heap[gL]? = some (.cells #[.int .i64 0,.int .i64 0,.int .i64 1] 34 (0,0))) (hO : W.heap[gO]? = some (.cells #[.int .i64 0,.int .i64 1] 3 (0,0))) :
  Calls Try.prog 21 #[.agg #[.slice (some ⟨gN,0,none⟩) 2 2,.slice (some ⟨gL,0,none⟩) 1 1],.slice (some ⟨gO,0,none⟩) 2 2] W fun e w'=>∃ A c,e = .returned (.tuple #[.slice A 8 c,.int .i64 0]) ∧ 8 ≤ c ∧ Kd.C (Kd.int .i64) w' A 8 [2,3,0,1,1,0,0,0] ∧ Below W.heap.size W w':=by
 have h:=codein_calls (w:=W) (A0:=some ⟨gN,0,none⟩) (c0:=2) (N:=awN) (A1:=some ⟨gL,0,none⟩) (c1:=1) (L:=awL) (A2:=some ⟨gO,0,none⟩) (c2:=2) (o:=[0,1]) (SB awL) (C_ints awN hN (by decide)) (by decide) (C_34 hL) (by decide) (C_ints [0,1] hO (by decide)) (by decide) (by decide) (fun h=>ok_SB (small_of_valid h) (by decide))
 refine Calls.mono h fun e w' ⟨hb,h2⟩=>?_
 rcases h2 with ⟨h3,_⟩ | ⟨_,v,rfl,hr⟩
 ·exact absurd aw_codein.1 h3
 ·rw [aw_codein.2] at hr
  obtain ⟨A,c,rfl⟩:=Kd.R_slice hr
  have:=Kd.R_reads' hr
  exact ⟨A,c,rfl,this.2.1,this.2.2,hb⟩
theorem aw2 (hN : W.heap[gN]? = some (.cells #[.int .i64 3,.int .i64 1] 3 (0,0))) (hL : W.heap[gL]? = some (.cells #[.int .i64 0,.int .i64 0,.int .i64 1] 34 (0,0))) :
  Calls Try.prog 25 #[.agg #[.slice (some ⟨gN,0,none⟩) 2 2,.slice (some ⟨gL,0,none⟩) 1 1]] W fun e w'=>∃ A c,e = .returned (.tuple #[.slice A 8 c,.int .i64 0]) ∧ 8 ≤ c ∧ Kd.C (Kd.int .i64) w' A 8 [2,1,0,3,0,1,0,0] ∧ Below W.heap.size W w':=by
 have h:=code25_calls (w:=W) (A0:=some ⟨gN,0,none⟩) (c0:=2) (N:=awN) (A1:=some ⟨gL,0,none⟩) (c1:=1) (L:=awL) (SB awL) (C_ints awN hN (by decide)) (by decide) (C_34 hL) (by decide) (fun h=>ok_SB (small_of_valid h) (by decide))
 refine Calls.mono h fun e w' ⟨hb,h2⟩=>?_
 rcases h2 with ⟨h3,_⟩ | ⟨_,ov,cv,rfl,hr⟩
 ·exact absurd aw_valid h3
 ·rw [aw_best] at hr
  obtain ⟨_,_,_,hr⟩:=hr
  obtain ⟨A,c,rfl⟩:=Kd.R_slice hr
  have:=Kd.R_reads' hr
  exact ⟨A,c,rfl,this.2.1,this.2.2,hb⟩
theorem aw3 (hN : W.heap[gN]? = some (.cells #[.int .i64 3,.int .i64 1] 3 (0,0))) (hL : W.heap[gL]? = some (.cells #[.int .i64 0,.int .i64 0,.int .i64 1] 34 (0,0))) :
  Calls Try.prog 28 #[.agg #[.slice (some ⟨gN,0,none⟩) 2 2,.slice (some ⟨gL,0,none⟩) 1 1]] W fun e w'=>∃ Ax cx Ay cy Ap cp Aq cq,e = .returned (.tuple #[.agg #[.slice Ax 2 cx,.slice Ay 1 cy],.agg #[.slice Ap 2 cp,.slice Aq 1 cq],.int .i64 0]) ∧
   2 ≤ cx ∧ Kd.C (Kd.int .i64) w' Ax 2 [1,3] ∧ 1 ≤ cy ∧ Kd.C k34 w' Ay 1 [⟨0,1,0⟩] ∧ 2 ≤ cp ∧ Kd.C (Kd.int .i64) w' Ap 2 [1,0] ∧ Below W.heap.size W w':=by
 have h:=of_calls (w:=W) (A0:=some ⟨gN,0,none⟩) (c0:=2) (N:=awN) (A1:=some ⟨gL,0,none⟩) (c1:=1) (L:=awL) (S:=SB awL) (o:=[1,0]) (code:=[2,1,0,3,0,1,0,0]) (C_ints awN hN (by decide)) (by decide) (C_34 hL) (by decide) (fun h=>ok_SB (small_of_valid h) (by decide)) (fun _=>⟨aw_best,rfl,by decide⟩)
 refine Calls.mono h fun e w' ⟨hb,h2⟩=>?_
 rcases h2 with ⟨h3,_⟩ | ⟨_,Ax,cx,Ay,cy,Ap,cp,Aq,cq,rfl,h1,h2,h3,h4,h5,h6,_,_⟩
 ·exact absurd aw_valid h3
 ·have e : (ofE awL (SB awL) [1,0] awN.length).2 = [⟨0,1,0⟩]:=rfl
  rw [e] at h3 h4
  exact ⟨Ax,cx,Ay,cy,Ap,cp,Aq,cq,rfl,h2,h1,h4,h3,h6,h5,hb⟩
end
set_option maxHeartbeats 80000000 in
set_option maxRecDepth 100000 in
theorem awake_calls (w : World) : Calls Try.prog 11 #[] w fun e w'=>e = .returned (.bool true) ∧ Below w.heap.size w w':=by
 have HB:=Aside0.mk (Below.refl w.heap.size w)
 have hu30:=Try.underlying30
 have hu55:=Try.underlying55
 go_enter Try.func11,Try.ntmps11
 go_upto_region 2 with (fail)
 have F:=blk3 w (Obj.cells #[Value.int IntKind.i64 3,Value.int IntKind.i64 1] 3) (Obj.cells #[Value.int IntKind.i64 0,Value.int IntKind.i64 0,Value.int IntKind.i64 1] 34) (Obj.cells #[Value.slice (some ⟨w.heap.size,0,none⟩) 2 2,Value.slice (some ⟨w.heap.size + 1,0,none⟩) 1 1] 30)
 have hb : Below w.heap.size w (((w.alloc (Obj.cells #[Value.int IntKind.i64 3,Value.int IntKind.i64 1] 3)).alloc (Obj.cells #[Value.int IntKind.i64 0,Value.int IntKind.i64 0,Value.int IntKind.i64 1] 34)).alloc (Obj.cells #[Value.slice (some ⟨w.heap.size,0,none⟩) 2 2,Value.slice (some ⟨w.heap.size + 1,0,none⟩) 1 1] 30)):=zzD (zzD (zzD (Below.refl _ _) _) _) _
 obtain ⟨f1,f2,f3,_⟩:=F
 replace f1 : (((w.alloc (Obj.cells #[Value.int IntKind.i64 3,Value.int IntKind.i64 1] 3)).alloc (Obj.cells #[Value.int IntKind.i64 0,Value.int IntKind.i64 0,Value.int IntKind.i64 1] 34)).alloc (Obj.cells #[Value.slice (some ⟨w.heap.size,0,none⟩) 2 2,Value.slice (some ⟨w.heap.size + 1,0,none⟩) 1 1] 30)).heap[w.heap.size]? = _:=f1
 replace f2 : (((w.alloc (Obj.cells #[Value.int IntKind.i64 3,Value.int IntKind.i64 1] 3)).alloc (Obj.cells #[Value.int IntKind.i64 0,Value.int IntKind.i64 0,Value.int IntKind.i64 1] 34)).alloc (Obj.cells #[Value.slice (some ⟨w.heap.size,0,none⟩) 2 2,Value.slice (some ⟨w.heap.size + 1,0,none⟩) 1 1] 30)).heap[w.heap.size + 1]? = _:=f2
 replace f3 : (((w.alloc (Obj.cells #[Value.int IntKind.i64 3,Value.int IntKind.i64 1] 3)).alloc (Obj.cells #[Value.int IntKind.i64 0,Value.int IntKind.i64 0,Value.int IntKind.i64 1] 34)).alloc (Obj.cells #[Value.slice (some ⟨w.heap.size,0,none⟩) 2 2,Value.slice (some ⟨w.heap.size + 1,0,none⟩) 1 1] 30)).heap[w.heap.size + 1 + 1]? = _:=f3
 generalize ((w.alloc (Obj.cells #[Value.int IntKind.i64 3,Value.int IntKind.i64 1] 3)).alloc (Obj.cells #[Value.int IntKind.i64 0,Value.int IntKind.i64 0,Value.int IntKind.i64 1] 34)).alloc (Obj.cells #[Value.slice (some ⟨w.heap.size,0,none⟩) 2 2,Value.slice (some ⟨w.heap.size + 1,0,none⟩) 1 1] 30) = w1 at f1 f2 f3 hb ⊢
 generalize w.heap.size + 1 + 1 = g1 at f3 ⊢
 generalize w.heap.size + 1 = gL at f2 f3 ⊢
 generalize hgN : w.heap.size = gN at f1 f3 ⊢
 clear HB hgN
 have HB:=Aside0.mk hb
 have HL:=Aside0.mk (Below.refl w1.heap.size w1)
 have F1:=Aside0.mk f1
 have F2:=Aside0.mk f2
 have F3:=Aside0.mk f3
 have hc0 : w1.cell? ⟨g1,0,none⟩ = some (.slice (some ⟨gN,0,none⟩) 2 2):=(blk_cell f3 0).trans rfl
 have hc1 : w1.cell? ⟨g1,1,none⟩ = some (.slice (some ⟨gL,0,none⟩) 1 1):=(blk_cell f3 1).trans rfl
 clear f1 f2 f3 hb
 go_upto_region 5 with (first|(go_at_call 21;with_reducible refine (aw1 (blk_below F1.out (by repeat (first|(with_reducible first|exact HL.out|apply zzD|apply zzE|apply zzF)|exact HL.out))) (blk_below F2.out (by repeat (first|(with_reducible first|exact HL.out|apply zzD|apply zzE|apply zzF)|exact HL.out))) (blk_new _ _)).mono ?_;rintro e w2 ⟨A2,c2,rfl,l2,r2,hb⟩;have L2:=Aside0.mk l2;have R2:=Aside0.mk r2;clear l2 r2;have HB_:=Aside0.mk (below_step (by repeat (first|(with_reducible first|exact HB.out|apply zzD|apply zzE|apply zzF)|exact HB.out)) hb);have HL_:=Aside0.mk (below_step (by repeat (first|(with_reducible first|exact HL.out|apply zzD|apply zzE|apply zzF)|exact HL.out)) hb);clear HB HL;have HB:=HB_;have HL:=HL_;clear hb HB_ HL_;have H2:=Aside0.mk (Below.refl w2.heap.size w2);have hc20 : w2.cell? ⟨g1,0,none⟩ = some (.slice (some ⟨gN,0,none⟩) 2 2):=(blk_cell (blk_below F3.out HL.out) 0).trans rfl;have hc21 : w2.cell? ⟨g1,1,none⟩ = some (.slice (some ⟨gL,0,none⟩) 1 1):=(blk_cell (blk_below F3.out HL.out) 1).trans rfl)|(go_at_call 25;with_reducible refine (aw2 (blk_below F1.out (by repeat (first|(with_reducible first|exact HL.out|apply zzD|apply zzE|apply zzF)|exact HL.out))) (blk_below F2.out (by repeat (first|(with_reducible first|exact HL.out|apply zzD|apply zzE|apply zzF)|exact HL.out)))).mono ?_;rintro e w3 ⟨A3,c3,rfl,l3,r3,hb⟩;have L3:=Aside0.mk l3;have R3:=Aside0.mk r3;clear l3 r3;have HB_:=Aside0.mk (below_step (by repeat (first|(with_reducible first|exact HB.out|apply zzD|apply zzE|apply zzF)|exact HB.out)) hb);have HL_:=Aside0.mk (below_step (by repeat (first|(with_reducible first|exact HL.out|apply zzD|apply zzE|apply zzF)|exact HL.out)) hb);have H2_:=Aside0.mk (below_step (by repeat (first|(with_reducible first|exact H2.out|apply zzD|apply zzE|apply zzF)|exact H2.out)) hb);clear HB HL H2;have HB:=HB_;have HL:=HL_;have H2:=H2_;clear hb HB_ HL_ H2_;have H3:=Aside0.mk (Below.refl w3.heap.size w3);have hc30 : w3.cell? ⟨g1,0,none⟩ = some (.slice (some ⟨gN,0,none⟩) 2 2):=(blk_cell (blk_below F3.out HL.out) 0).trans rfl;have hc31 : w3.cell? ⟨g1,1,none⟩ = some (.slice (some ⟨gL,0,none⟩) 1 1):=(blk_cell (blk_below F3.out HL.out) 1).trans rfl)|(go_at_call 28;with_reducible refine (aw3 (blk_below F1.out (by repeat (first|(with_reducible first|exact HL.out|apply zzD|apply zzE|apply zzF)|exact HL.out))) (blk_below F2.out (by repeat (first|(with_reducible first|exact HL.out|apply zzD|apply zzE|apply zzF)|exact HL.out)))).mono ?_;rintro e w4 ⟨Ax,cx,Ay,cy,Ap,cp,Aq,cq,rfl,lx,rx,ly,ry,lp,rp,hb⟩;have LX:=Aside0.mk lx;have RX:=Aside0.mk rx;have LY:=Aside0.mk ly;have RY:=Aside0.mk ry;have LP:=Aside0.mk lp;have RP:=Aside0.mk rp;clear lx rx ly ry lp rp;have HB_:=Aside0.mk (below_step (by repeat (first|(with_reducible first|exact HB.out|apply zzD|apply zzE|apply zzF)|exact HB.out)) hb);have HL_:=Aside0.mk (below_step (by repeat (first|(with_reducible first|exact HL.out|apply zzD|apply zzE|apply zzF)|exact HL.out)) hb);have H2_:=Aside0.mk (below_step (by repeat (first|(with_reducible first|exact H2.out|apply zzD|apply zzE|apply zzF)|exact H2.out)) hb);have H3_:=Aside0.mk (below_step (by repeat (first|(with_reducible first|exact H3.out|apply zzD|apply zzE|apply zzF)|exact H3.out)) hb);clear HB HL H2 H3;have HB:=HB_;have HL:=HL_;have H2:=H2_;have H3:=H3_;clear hb HB_ HL_ H2_ H3_;have H4:=Aside0.mk (Below.refl w4.heap.size w4)))
 have B6:=Aside0.mk (blk_alloc (blk_new w4 (Obj.cells #[Value.slice Ax 2 cx,Value.slice Ay 1 cy] 30)) (Obj.cells #[Value.slice Ap 2 cp,Value.slice Aq 1 cq] 55))
 have B7:=Aside0.mk (blk_new2 w4 (Obj.cells #[Value.slice Ax 2 cx,Value.slice Ay 1 cy] 30) (Obj.cells #[Value.slice Ap 2 cp,Value.slice Aq 1 cq] 55))
 have hb:=zzD (zzD (Below.refl w4.heap.size w4) (Obj.cells #[Value.slice Ax 2 cx,Value.slice Ay 1 cy] 30)) (Obj.cells #[Value.slice Ap 2 cp,Value.slice Aq 1 cq] 55)
 generalize (w4.alloc (Obj.cells #[Value.slice Ax 2 cx,Value.slice Ay 1 cy] 30)).alloc (Obj.cells #[Value.slice Ap 2 cp,Value.slice Aq 1 cq] 55) = w5 at B6 B7 hb ⊢
 have HB_:=Aside0.mk (below_step (by repeat (first|(with_reducible first|exact HB.out|apply zzD|apply zzE|apply zzF)|exact HB.out)) hb);have HL_:=Aside0.mk (below_step (by repeat (first|(with_reducible first|exact HL.out|apply zzD|apply zzE|apply zzF)|exact HL.out)) hb);have H2_:=Aside0.mk (below_step (by repeat (first|(with_reducible first|exact H2.out|apply zzD|apply zzE|apply zzF)|exact H2.out)) hb);have H3_:=Aside0.mk (below_step (by repeat (first|(with_reducible first|exact H3.out|apply zzD|apply zzE|apply zzF)|exact H3.out)) hb);have H4_:=Aside0.mk (below_step (by repeat (first|(with_reducible first|exact H4.out|apply zzD|apply zzE|apply zzF)|exact H4.out)) hb);clear HB HL H2 H3 H4;have HB:=HB_;have HL:=HL_;have H2:=H2_;have H3:=H3_;have H4:=H4_;clear hb HB_ HL_ H2_ H3_ H4_
 generalize w4.heap.size + 1 = g7 at B7 ⊢
 generalize hg6 : w4.heap.size = g6 at B6 ⊢
 have H5:=Aside0.mk (Below.refl w5.heap.size w5)
 clear hg6
 have K2:=Aside0.mk (fun (W : World) (hw : Below w2.heap.size w2 W) (gx : Nat) (hx : W.heap[gx]? = some (.cells #[.int .i64 2,.int .i64 3,.int .i64 0,.int .i64 1,.int .i64 1,.int .i64 0,.int .i64 0,.int .i64 0] 3 (0,0)))=>show Calls Try.prog 16 #[.slice A2 8 c2,.slice (some ⟨gx,0,none⟩) 8 8] W fun e w'=>e = .returned (.bool true) ∧ Drawn0 W w' from equal_c (a:=[2,3,0,1,1,0,0,0]) (b:=[2,3,0,1,1,0,0,0]) (Kd.C_below R2.out hw) L2.out (C_ints [2,3,0,1,1,0,0,0] hx (by decide)) (by decide) (by decide))
 have K3:=Aside0.mk (fun (W : World) (hw : Below w3.heap.size w3 W) (gx : Nat) (hx : W.heap[gx]? = some (.cells #[.int .i64 2,.int .i64 1,.int .i64 0,.int .i64 3,.int .i64 0,.int .i64 1,.int .i64 0,.int .i64 0] 3 (0,0)))=>show Calls Try.prog 16 #[.slice A3 8 c3,.slice (some ⟨gx,0,none⟩) 8 8] W fun e w'=>e = .returned (.bool true) ∧ Drawn0 W w' from equal_c (a:=[2,1,0,3,0,1,0,0]) (b:=[2,1,0,3,0,1,0,0]) (Kd.C_below R3.out hw) L3.out (C_ints [2,1,0,3,0,1,0,0] hx (by decide)) (by decide) (by decide))
 have KP:=Aside0.mk (fun (W : World) (hw : Below w4.heap.size w4 W) (gx : Nat) (hx : W.heap[gx]? = some (.cells #[.int .i64 1,.int .i64 0] 3 (0,0)))=>show Calls Try.prog 16 #[.slice Ap 2 cp,.slice (some ⟨gx,0,none⟩) 2 2] W fun e w'=>e = .returned (.bool true) ∧ Drawn0 W w' from equal_c (a:=[1,0]) (b:=[1,0]) (Kd.C_below RP.out hw) LP.out (C_ints [1,0] hx (by decide)) (by decide) (by decide))
 have KS:=Aside0.mk (fun (W : World) (hw : Below w4.heap.size w4 W) (gx gy : Nat) (hx : W.heap[gx]? = some (.cells #[.int .i64 1,.int .i64 3] 3 (0,0))) (hy : W.heap[gy]? = some (.cells #[.int .i64 0,.int .i64 1,.int .i64 0] 34 (0,0)))=>show Calls Try.prog 20 #[.agg #[.slice Ax 2 cx,.slice Ay 1 cy],.agg #[.slice (some ⟨gx,0,none⟩) 2 2,.slice (some ⟨gy,0,none⟩) 1 1]] W fun e w'=>e = .returned (.bool true) ∧ Below W.heap.size W w' from
  scarfjointref05_Same.calls 9 Ax cx [1,3] Ay cy [⟨0,1,0⟩] (some ⟨gx,0,none⟩) 2 [1,3] (some ⟨gy,0,none⟩) 1 [⟨0,1,0⟩] true W (Kd.C_below RX.out hw) LX.out (Kd.C_below RY.out hw) LY.out (C_ints [1,3] hx (by decide)) (by decide) (C_34 hy) (by decide) (by decide +kernel))
 have hc60 : w5.cell? ⟨g6,0,none⟩ = some (.slice Ax 2 cx):=(blk_cell B6.out 0).trans rfl
 have hc61 : w5.cell? ⟨g6,1,none⟩ = some (.slice Ay 1 cy):=(blk_cell B6.out 1).trans rfl
 clear hc0 hc1
 go_wp2_with (first|(go_at_call 16;with_reducible refine (K2.out _ (by repeat (first|(with_reducible first|exact H2.out|apply zzD|apply zzE|apply zzF)|exact H2.out)) _ (blk_new _ _)).mono ?_;rintro e w6 ⟨rfl,hdr⟩;have hb:=hdr.below;clear hdr;have HB_:=Aside0.mk (below_step (by repeat (first|(with_reducible first|exact HB.out|apply zzD|apply zzE|apply zzF)|exact HB.out)) hb);have HL_:=Aside0.mk (below_step (by repeat (first|(with_reducible first|exact HL.out|apply zzD|apply zzE|apply zzF)|exact HL.out)) hb);have H2_:=Aside0.mk (below_step (by repeat (first|(with_reducible first|exact H2.out|apply zzD|apply zzE|apply zzF)|exact H2.out)) hb);have H3_:=Aside0.mk (below_step (by repeat (first|(with_reducible first|exact H3.out|apply zzD|apply zzE|apply zzF)|exact H3.out)) hb);have H4_:=Aside0.mk (below_step (by repeat (first|(with_reducible first|exact H4.out|apply zzD|apply zzE|apply zzF)|exact H4.out)) hb);have H5_:=Aside0.mk (below_step (by repeat (first|(with_reducible first|exact H5.out|apply zzD|apply zzE|apply zzF)|exact H5.out)) hb);clear HB HL H2 H3 H4 H5;have HB:=HB_;have HL:=HL_;have H2:=H2_;have H3:=H3_;have H4:=H4_;have H5:=H5_;clear hb HB_ HL_ H2_ H3_ H4_ H5_)|(go_at_call 16;with_reducible refine (K3.out _ (by repeat (first|(with_reducible first|exact H3.out|apply zzD|apply zzE|apply zzF)|exact H3.out)) _ (blk_new _ _)).mono ?_;rintro e w7 ⟨rfl,hdr⟩;have hb:=hdr.below;clear hdr;have HB_:=Aside0.mk (below_step (by repeat (first|(with_reducible first|exact HB.out|apply zzD|apply zzE|apply zzF)|exact HB.out)) hb);have HL_:=Aside0.mk (below_step (by repeat (first|(with_reducible first|exact HL.out|apply zzD|apply zzE|apply zzF)|exact HL.out)) hb);have H2_:=Aside0.mk (below_step (by repeat (first|(with_reducible first|exact H2.out|apply zzD|apply zzE|apply zzF)|exact H2.out)) hb);have H3_:=Aside0.mk (below_step (by repeat (first|(with_reducible first|exact H3.out|apply zzD|apply zzE|apply zzF)|exact H3.out)) hb);have H4_:=Aside0.mk (below_step (by repeat (first|(with_reducible first|exact H4.out|apply zzD|apply zzE|apply zzF)|exact H4.out)) hb);have H5_:=Aside0.mk (below_step (by repeat (first|(with_reducible first|exact H5.out|apply zzD|apply zzE|apply zzF)|exact H5.out)) hb);clear HB HL H2 H3 H4 H5;have HB:=HB_;have HL:=HL_;have H2:=H2_;have H3:=H3_;have H4:=H4_;have H5:=H5_;clear hb HB_ HL_ H2_ H3_ H4_ H5_;have hc70 : w7.cell? ⟨g6,0,none⟩ = some (.slice Ax 2 cx):=(blk_cell (blk_below B6.out H5.out) 0).trans rfl;have hc71 : w7.cell? ⟨g6,1,none⟩ = some (.slice Ay 1 cy):=(blk_cell (blk_below B6.out H5.out) 1).trans rfl)|(go_at_call 20;with_reducible refine (KS.out _ (by repeat (first|(with_reducible first|exact H4.out|apply zzD|apply zzE|apply zzF)|exact H4.out)) _ _ (blk_alloc (blk_new _ _) _) (blk_new2 _ _ _)).mono ?_;rintro e w8 ⟨rfl,hb⟩;have HB_:=Aside0.mk (below_step (by repeat (first|(with_reducible first|exact HB.out|apply zzD|apply zzE|apply zzF)|exact HB.out)) hb);have HL_:=Aside0.mk (below_step (by repeat (first|(with_reducible first|exact HL.out|apply zzD|apply zzE|apply zzF)|exact HL.out)) hb);have H2_:=Aside0.mk (below_step (by repeat (first|(with_reducible first|exact H2.out|apply zzD|apply zzE|apply zzF)|exact H2.out)) hb);have H3_:=Aside0.mk (below_step (by repeat (first|(with_reducible first|exact H3.out|apply zzD|apply zzE|apply zzF)|exact H3.out)) hb);have H4_:=Aside0.mk (below_step (by repeat (first|(with_reducible first|exact H4.out|apply zzD|apply zzE|apply zzF)|exact H4.out)) hb);have H5_:=Aside0.mk (below_step (by repeat (first|(with_reducible first|exact H5.out|apply zzD|apply zzE|apply zzF)|exact H5.out)) hb);clear HB HL H2 H3 H4 H5;have HB:=HB_;have HL:=HL_;have H2:=H2_;have H3:=H3_;have H4:=H4_;have H5:=H5_;clear hb HB_ HL_ H2_ H3_ H4_ H5_;have hc80 : w8.cell? ⟨g7,0,none⟩ = some (.slice Ap 2 cp):=(blk_cell (blk_below B7.out H5.out) 0).trans rfl)|(go_at_call 16;with_reducible refine (KP.out _ (by repeat (first|(with_reducible first|exact H4.out|apply zzD|apply zzE|apply zzF)|exact H4.out)) _ (blk_new _ _)).mono ?_;rintro e w9 ⟨rfl,hdr⟩;have hb:=hdr.below;clear hdr;have HB_:=Aside0.mk (below_step (by repeat (first|(with_reducible first|exact HB.out|apply zzD|apply zzE|apply zzF)|exact HB.out)) hb);have HL_:=Aside0.mk (below_step (by repeat (first|(with_reducible first|exact HL.out|apply zzD|apply zzE|apply zzF)|exact HL.out)) hb);have H2_:=Aside0.mk (below_step (by repeat (first|(with_reducible first|exact H2.out|apply zzD|apply zzE|apply zzF)|exact H2.out)) hb);have H3_:=Aside0.mk (below_step (by repeat (first|(with_reducible first|exact H3.out|apply zzD|apply zzE|apply zzF)|exact H3.out)) hb);have H4_:=Aside0.mk (below_step (by repeat (first|(with_reducible first|exact H4.out|apply zzD|apply zzE|apply zzF)|exact H4.out)) hb);have H5_:=Aside0.mk (below_step (by repeat (first|(with_reducible first|exact H5.out|apply zzD|apply zzE|apply zzF)|exact H5.out)) hb);clear HB HL H2 H3 H4 H5;have HB:=HB_;have HL:=HL_;have H2:=H2_;have H3:=H3_;have H4:=H4_;have H5:=H5_;clear hb HB_ HL_ H2_ H3_ H4_ H5_))
 go_ret
 exact ⟨rfl,(by repeat (first|(with_reducible first|exact HB.out|apply zzD|apply zzE|apply zzF)|exact HB.out))⟩
end Go.Proofs.Ytgmomcjnldahjaa.Pr
namespace Go.Proofs.Ytgmomcjnldahjaa.Pr
open Go.RowKit Go.Proofs.YtgmomcjnldahjaaW.PrintWords Go.Proofs.YtgmomcjnldahjaaW.PrintLast Go.Proofs.YtgmomcjnldahjaaW.PrintMore
attribute [local go_sem] max2_int min2_int max_two min_two max_three min_three max_four min_four
set_option linter.unusedVariables false
set_option linter.unusedSimpArgs false
section
variable {w : World} {A0 : Option Addr} {c0 : Nat} {N : List Int} {A1 : Option Addr} {c1 : Nat} {L : List S34}
theorem light_c (hr0 : Kd.C (Kd.int .i64) w A0 N.length N) (hc0 : N.length ≤ c0) (hr1 : Kd.C k34 w A1 L.length L) (hc1 : L.length ≤ c1) :
  Calls Try.prog 23 #[.agg #[.slice A0 N.length c0,.slice A1 L.length c1]] w fun e w'=>e = .returned (.bool (lightB N L)) ∧ Below w.heap.size w w':=by
 obtain ⟨q,hq⟩:=(lightR_ev N L).rounds
 exact scarfjointref09_Light.calls q A0 c0 N A1 c1 L _ w hr0 hc0 hr1 hc1 hq
theorem copied_c (hr0 : Kd.C (Kd.int .i64) w A0 N.length N) (hc0 : N.length ≤ c0) (hr1 : Kd.C k34 w A1 L.length L) (hc1 : L.length ≤ c1) (hl : L.length ≤ 1000000) (hn : N.length ≤ 1000000) :
  Calls Try.prog 13 #[.agg #[.slice A0 N.length c0,.slice A1 L.length c1]] w fun e w'=>∃ B0 d0 B1 d1,e = .returned (.agg #[.slice B0 N.length d0,.slice B1 L.length d1]) ∧ Kd.C (Kd.int .i64) w' B0 N.length N ∧ N.length ≤ d0 ∧ Kd.C k34 w' B1 L.length L ∧ L.length ≤ d1 ∧ Below w.heap.size w w':=by
 refine Calls.mono (scarfjointref05_Copied.calls A0 c0 N A1 c1 L N L w hr0 hc0 hr1 hc1 (copied_eq hl hn)) fun e w' h=>?_
 obtain ⟨v0,v1,rfl,h0,h1,hb⟩:=h
 obtain ⟨B0,d0,rfl⟩:=Kd.R_slice h0
 obtain ⟨B1,d1,rfl⟩:=Kd.R_slice h1
 exact ⟨B0,d0,B1,d1,rfl,(Kd.R_reads' h0).2.2,(Kd.R_reads' h0).2.1,(Kd.R_reads' h1).2.2,(Kd.R_reads' h1).2.1,hb⟩
theorem code_c (hr0 : Kd.C (Kd.int .i64) w A0 N.length N) (hc0 : N.length ≤ c0) (hr1 : Kd.C k34 w A1 L.length L) (hc1 : L.length ≤ c1) (hL : validE N L = 0 → L.length < 20) :
  Calls Try.prog 25 #[.agg #[.slice A0 N.length c0,.slice A1 L.length c1]] w fun e w'=>Below w.heap.size w w' ∧ ((validE N L ≠ 0 ∧ e = .returned (.tuple #[.slice none 0 0,.int .i64 (validE N L)])) ∨
   (validE N L = 0 ∧ ∃ o A c,e = .returned (.tuple #[.slice A (codeS N L (SB L) o).length c,.int .i64 0]) ∧ bestR N L = some (o,codeS N L (SB L) o) ∧ GoodO N.length o ∧ o.length = N.length ∧ (codeS N L (SB L) o).length ≤ 1000000 ∧ (codeS N L (SB L) o).length ≤ c ∧ Kd.C (Kd.int .i64) w' A (codeS N L (SB L) o).length (codeS N L (SB L) o))):=by
 refine Calls.mono (code25_calls (SB L) hr0 hc0 hr1 hc1 (fun h=>ok_SB (small_of_valid h) (hL h))) fun e w' ⟨hb,h⟩=>⟨hb,?_⟩
 rcases h with h | ⟨h1,ov,cv,rfl,h2⟩
 ·exact .inl h
 ·obtain ⟨o,e1,e2,e3⟩:=best_is N L (SB L)
  rw [show srch N L (SB L) (twM N L (SB L)) N.length [] [(N.length : Int)] none = some (o,codeS N L (SB L) o) from e1] at h2
  obtain ⟨_,hl,_,hr⟩:=h2
  obtain ⟨A,c,rfl⟩:=Kd.R_slice hr
  exact .inr ⟨h1,o,A,c,rfl,by rw [← best_same];exact e1,e2,e3,hl,(Kd.R_reads' hr).2.1,(Kd.R_reads' hr).2.2⟩
end
end Go.Proofs.Ytgmomcjnldahjaa.Pr
namespace Go.Proofs.Ytgmomcjnldahjaa.Pr
open Go.RowKit Go.Proofs.YtgmomcjnldahjaaW.PrintWords Go.Proofs.YtgmomcjnldahjaaW.PrintLast Go.Proofs.YtgmomcjnldahjaaW.PrintMore
attribute [local go_sem] max2_int min2_int max_two min_two max_three min_three max_four min_four
set_option linter.unusedVariables false
set_option linter.unusedSimpArgs false
def codeG (N : List Int) (L : List S34) : List Int:=match bestR N L with
 | some (_,c) => c
 | none => []
theorem codeG_is (N : List Int) (L : List S34) : ∃ o,bestR N L = some (o,codeG N L) ∧ codeG N L = codeS N L (SB L) o ∧ GoodO N.length o ∧ o.length = N.length:=by
 obtain ⟨o,h1,h2,h3⟩:=best_is N L (SB L)
 rw [best_same] at h1
 have e : codeG N L = codeS N L (SB L) o:=by unfold codeG;rw [h1]
 exact ⟨o,by rw [h1,e],e,h2,h3⟩
end Go.Proofs.Ytgmomcjnldahjaa.Pr
namespace Go.Proofs.Ytgmomcjnldahjaa.Pr
open Go.RowKit Go.Proofs.YtgmomcjnldahjaaW.PrintWords Go.Proofs.YtgmomcjnldahjaaW.PrintLast Go.Proofs.YtgmomcjnldahjaaW.PrintMore
attribute [local go_sem] max2_int min2_int max_two min_two max_three min_three max_four min_four
set_option linter.unusedVariables false
set_option linter.unusedSimpArgs false
theorem cmpL_neg : ∀ (a b : List Int),cmpL b a = -cmpL a b
 | [],[] => rfl
 | [],_ :: _ => rfl
 | _ :: _,[] => rfl
 | x :: a,y :: b => by
  unfold cmpL
  by_cases h1 : x < y
  ·rw [if_neg (by omega),if_pos (show y > x from h1),if_pos h1];rfl
  ·by_cases h2 : x > y
   ·rw [if_pos (show y < x from h2),if_neg h1,if_pos h2]
   ·rw [if_neg (by omega),if_neg (by omega),if_neg h1,if_neg h2];exact cmpL_neg a b
def cp.T3 : Bool × List (List Nat × List Nat):=(true,[([],[]),([0],[0]),([],[]),([2,1],[2]),([1,3,3],[1,3]),([4],[4]),([5],[5]),([5],[5]),([6,4,0,1,2,3,4,5,6],[6]),([7,8,0,1,2,3,4,5,6,7,8],[7])])
def cp.B3 : List Nat:=[0,1,0,7,15,31,63,63,127,511]
end Go.Proofs.Ytgmomcjnldahjaa.Pr
namespace Go.Proofs.Ytgmomcjnldahjaa.Pr
open Go.RowKit Go.Proofs.YtgmomcjnldahjaaW.PrintWords Go.Proofs.YtgmomcjnldahjaaW.PrintLast Go.Proofs.YtgmomcjnldahjaaW.PrintMore
set_option linter.unusedVariables false
set_option linter.unusedSimpArgs false
theorem cmpL_refl (a : List Int) : cmpL a a = 0:=(cmpL_zero a a).2 rfl
theorem cmpL_cons (x y : Int) (a b : List Int) : cmpL (x :: a) (y :: b) = if x < y then -1 else if x > y then 1 else cmpL a b:=rfl
theorem cmpL_trans : ∀ (a b c : List Int),cmpL a b ≤ 0 → cmpL b c ≤ 0 → cmpL a c ≤ 0
 | [],_,[],_,_ => by simp [cmpL]
 | [],_,_ :: _,_,_ => by simp [cmpL]
 | _ :: _,[],_,h,_ => by simp [cmpL] at h
 | _ :: _,_ :: _,[],_,h => by simp [cmpL] at h
 | x :: a,y :: b,z :: c,h1,h2 => by
  have ih:=cmpL_trans a b c
  rw [cmpL_cons] at h1 h2 ⊢
  by_cases hxy : x < y
  ·by_cases hyz : y < z
   ·rw [if_pos (by omega)];omega
   ·rw [if_neg hyz] at h2
    by_cases h3 : y > z
    ·rw [if_pos h3] at h2;omega
    ·rw [if_pos (by omega)];omega
  ·rw [if_neg hxy] at h1
   by_cases h3 : x > y
   ·rw [if_pos h3] at h1;omega
   ·rw [if_neg h3] at h1
    have : x = y:=by omega
    subst this
    by_cases hyz : x < z
    ·rw [if_pos hyz];omega
    ·rw [if_neg hyz] at h2 ⊢
     by_cases h4 : x > z
     ·rw [if_pos h4] at h2;omega
     ·rw [if_neg h4] at h2 ⊢
      exact ih h1 h2
theorem cmpL_prefix : ∀ (c x s : List Int),c.length ≤ x.length → 0 < cmpL c (x.take c.length) → 0 < cmpL (c ++ s) x
 | [],x,s,_,h => by simp [cmpL] at h
 | a :: c,[],s,hl,_ => by simp at hl
 | a :: c,y :: x,s,hl,h => by
  rw [List.length_cons,List.take_succ_cons] at h
  rw [List.cons_append]
  rw [cmpL_cons] at h ⊢
  by_cases h1 : a < y
  ·rw [if_pos h1] at h;omega
  ·rw [if_neg h1] at h ⊢
   by_cases h2 : a > y
   ·rw [if_pos h2];omega
   ·rw [if_neg h2] at h ⊢
    exact cmpL_prefix c x s (by simpa using hl) h
theorem placeS_map {N N' : List Int} {L L' : List S34} {S S' : Nat → Nat → List Int} (f : Nat → Nat) (k : Nat) (pre : List Nat) (hN : rd N ((f k : Nat) : Int) = rd N' (k : Int)) (hT : ∀ i,i ∈ pre ++ [k] → typesS L S (f i) (f k) = typesS L' S' i k ∧ typesS L S (f k) (f i) = typesS L' S' k i) :
  placeS N L S (pre.map f) (f k) = placeS N' L' S' pre k:=by
 unfold placeS
 rw [hN,List.flatMap_map,(hT k (by simp)).1]
 congr 2
 rw [List.flatMap_def,List.flatMap_def]
 congr 1
 exact List.map_congr_left fun i hi=>by rw [(hT i (by simp [hi])).1,(hT i (by simp [hi])).2]
theorem codeL_map {N N' : List Int} {L L' : List S34} {S S' : Nat → Nat → List Int} (f : Nat → Nat) : ∀ (o pre : List Nat),(∀ i,i ∈ pre ++ o → rd N ((f i : Nat) : Int) = rd N' (i : Int)) → (∀ i j,i ∈ pre ++ o → j ∈ pre ++ o → typesS L S (f i) (f j) = typesS L' S' i j) →
  codeL N L S (pre.map f) (o.map f) = codeL N' L' S' pre o
 | [],pre,_,_ => rfl
 | k :: o,pre,hN,hT => by
  have ih:=codeL_map f o (pre ++ [k]) (fun i hi=>hN i (by simpa using hi)) (fun i j hi hj=>hT i j (by simpa using hi) (by simpa using hj))
  rw [List.map_append,List.map_cons,List.map_nil] at ih
  rw [List.map_cons,codeL,codeL,ih,placeS_map f k pre (hN k (by simp)) (fun i hi=>⟨hT i k (by simp at hi ⊢;rcases hi with h|h <;> simp [h]) (by simp),hT k i (by simp) (by simp at hi ⊢;rcases hi with h|h <;> simp [h])⟩)]
def swp (u v i : Nat) : Nat:=if i = u then v else if i = v then u else i
theorem swp_swp (u v i : Nat) : swp u v (swp u v i) = i:=by
 unfold swp
 by_cases h1 : i = u
 ·subst h1
  by_cases h2 : v = i
  ·simp [h2]
  ·simp [h2]
 ·by_cases h2 : i = v
  ·subst h2;simp [h1]
  ·simp [h1,h2]
theorem swp_types {N : List Int} {L : List S34} {S : Nat → Nat → List Int} {u v : Nat} (huv : u ≠ v) (ht : twinB N L S u v = true) {i j : Nat} (hi : i < N.length) (hj : j < N.length) : typesS L S (swp u v i) (swp u v j) = typesS L S i j:=by
 obtain ⟨_,t1,t2,t3⟩:=(twin_iff u v).1 ht
 unfold swp
 by_cases i1 : i = u
 ·subst i1
  by_cases j1 : j = i
  ·subst j1;simp [t1]
  ·by_cases j2 : j = v
   ·subst j2;simp [j1,t2]
   ·simp [j1,j2,(t3 j hj j1 j2).1]
 ·by_cases i2 : i = v
  ·subst i2
   by_cases j1 : j = u
   ·subst j1;simp [i1,t2]
   ·by_cases j2 : j = i
    ·subst j2;simp [i1,t1]
    ·simp [i1,j1,j2,(t3 j hj j1 j2).1]
  ·by_cases j1 : j = u
   ·subst j1;simp [i1,i2,(t3 i hi i1 i2).2]
   ·by_cases j2 : j = v
    ·subst j2;simp [i1,i2,j1,(t3 i hi i1 i2).2]
    ·simp [i1,i2,j1,j2]
theorem swp_node {N : List Int} {L : List S34} {S : Nat → Nat → List Int} {u v : Nat} (ht : twinB N L S u v = true) (i : Nat) : rd N ((swp u v i : Nat) : Int) = rd N (i : Int):=by
 have h:=((twin_iff u v).1 ht).1
 unfold swp
 by_cases i1 : i = u
 ·subst i1;simp [h]
 ·by_cases i2 : i = v
  ·subst i2;simp [i1,h]
  ·simp [i1,i2]
theorem swp_good {n u v : Nat} (hu : u < n) (hv : v < n) {p : List Nat} (h : GoodO n p) : GoodO n (p.map (swp u v)):=by
 refine ⟨?_,fun x hx=>?_⟩
 ·rw [List.nodup_iff_pairwise_ne,List.pairwise_map]
  exact (List.nodup_iff_pairwise_ne.1 h.1).imp fun {a b} hab e=>hab (by rw [← swp_swp u v a,e,swp_swp])
 ·obtain ⟨y,hy,rfl⟩:=List.mem_map.1 hx
  have:=h.2 y hy
  unfold swp
  split
  ·exact hv
  ·split
   ·exact hu
   ·exact this
theorem swp_fix {u v : Nat} {o : List Nat} (hu : u ∉ o) (hv : v ∉ o) : o.map (swp u v) = o:=by
 conv=>rhs;rw [← List.map_id o]
 refine List.map_congr_left fun i hi=>?_
 have h1 : i ≠ u:=fun e=>hu (e ▸ hi)
 have h2 : i ≠ v:=fun e=>hv (e ▸ hi)
 simp [swp,h1,h2]
section
variable {N : List Int} {L : List S34}
def LeF (b : Found) (x : List Int) : Prop:=∃ p c,b = some (p,c) ∧ cmpL c x ≤ 0
theorem srchR_ok (d : Nat) (o : List Nat) (b : Found) (hd : o.length + d = N.length) (ho : GoodO N.length o) (hb : FoundOk N L (SB L) b) : FoundOk N L (SB L) (srchR N L d o ((N.length : Int) :: codeL N L (SB L) [] o) b):=by
 rw [← srch_same d o _ b hd ho rfl hb]
 exact srch_ok d o _ b hd ho rfl hb
theorem worse_le {o : List Nat} {b : Found} (hb : FoundOk N L (SB L) b) (ho : GoodO N.length o) (hw : worseR b ((N.length : Int) :: codeL N L (SB L) [] o) = true) (s : List Int) {x : List Int} (hx : x = ((N.length : Int) :: codeL N L (SB L) [] o) ++ s) : LeF b x:=by
 cases b with
 | none => simp [worseR] at hw
 | some p =>
  obtain ⟨p,c⟩:=p
  obtain ⟨h1,h2,h3⟩:=hb p c rfl
  have hs:=code_shorter (S:=SB L) (L:=L) ho h1 h2
  rw [← h3] at hs
  have hw2 : 0 < cmpL ((N.length : Int) :: codeL N L (SB L) [] o) (c.take (min ((N.length : Int) :: codeL N L (SB L) [] o).length c.length)):=of_decide_eq_true hw
  rw [Nat.min_eq_left hs] at hw2
  have:=cmpL_prefix _ c s hs hw2
  rw [← hx] at this
  exact ⟨p,c,rfl,by rw [cmpL_neg];omega⟩
theorem least (d : Nat) : ∀ (o : List Nat) (b : Found),o.length + d = N.length → GoodO N.length o → FoundOk N L (SB L) b →
  (∀ x,LeF b x → LeF (srchR N L d o ((N.length : Int) :: codeL N L (SB L) [] o) b) x) ∧
  ∀ r,GoodO N.length (o ++ r) → (o ++ r).length = N.length → LeF (srchR N L d o ((N.length : Int) :: codeL N L (SB L) [] o) b) (codeS N L (SB L) (o ++ r)):=by
 induction d with
 | zero =>
  intro o b hd ho hb
  have hr : ∀ r,(o ++ r).length = N.length → r = []:=fun r h=>List.eq_nil_of_length_eq_zero (by simp at h;omega)
  have hc : (N.length : Int) :: codeL N L (SB L) [] o = codeS N L (SB L) o:=by rw [codeS];congr 2;omega
  cases hw : worseR b ((N.length : Int) :: codeL N L (SB L) [] o)
  ·cases b with
   | none =>
    rw [srchR_none]
    refine ⟨fun x ⟨p,c,e,_⟩=>(by cases e),fun r h1 h2=>?_⟩
    obtain rfl:=hr r h2
    rw [List.append_nil]
    exact ⟨o,_,rfl,by rw [hc,cmpL_refl];omega⟩
   | some p =>
    obtain ⟨p,x⟩:=p
    rw [srchR_some _ _ _ _ _ _ hw]
    by_cases hl : cmpL ((N.length : Int) :: codeL N L (SB L) [] o) x < 0
    ·rw [if_pos hl]
     refine ⟨fun y ⟨p',c',e,h⟩=>?_,fun r h1 h2=>?_⟩
     ·injection e with e;injection e with _ e;subst e
      exact ⟨o,_,rfl,cmpL_trans _ _ _ (by omega) h⟩
     ·obtain rfl:=hr r h2
      rw [List.append_nil]
      exact ⟨o,_,rfl,by rw [hc,cmpL_refl];omega⟩
    ·rw [if_neg hl]
     refine ⟨fun y h=>h,fun r h1 h2=>?_⟩
     obtain rfl:=hr r h2
     rw [List.append_nil,← hc]
     exact ⟨p,x,rfl,by rw [cmpL_neg];omega⟩
  ·rw [srchR_worse _ _ _ _ _ _ hw]
   refine ⟨fun x h=>h,fun r h1 h2=>?_⟩
   obtain rfl:=hr r h2
   rw [List.append_nil]
   exact worse_le hb ho hw []  (by rw [hc,List.append_nil])
 | succ d ih =>
  intro o b hd ho hb
  cases hw : worseR b ((N.length : Int) :: codeL N L (SB L) [] o)
  ·rw [srchR_succ _ _ _ _ _ _ hw]
   have hcc : ∀ v,((N.length : Int) :: codeL N L (SB L) [] o) ++ placeS N L (SB L) o v = (N.length : Int) :: codeL N L (SB L) [] (o ++ [v]):=fun v=>by rw [codeL_snoc,List.cons_append]
   have key : ∀ (l : List Nat),(∀ v ∈ l,v < N.length) → ∀ b0,FoundOk N L (SB L) b0 →
     (∀ x,LeF b0 x → LeF (l.foldl (stepR N L d o ((N.length : Int) :: codeL N L (SB L) [] o)) b0) x) ∧
     ∀ v r,v ∈ l → openB N L o v = true → GoodO N.length (o ++ [v] ++ r) → (o ++ [v] ++ r).length = N.length → LeF (l.foldl (stepR N L d o ((N.length : Int) :: codeL N L (SB L) [] o)) b0) (codeS N L (SB L) (o ++ [v] ++ r)):=fun l=>by
    induction l with
    | nil => intro _ b0 _;exact ⟨fun x h => h,fun v r hv => absurd hv (by simp)⟩
    | cons v l il =>
     intro hl b0 hb0
     rw [List.foldl_cons]
     cases hop : openB N L o v
     ·have e : stepR N L d o ((N.length : Int) :: codeL N L (SB L) [] o) b0 v = b0:=by rw [stepR,if_neg (by rw [hop];simp)]
      rw [e]
      obtain ⟨h1,h2⟩:=il (fun u hu=>hl u (by simp [hu])) b0 hb0
      refine ⟨h1,fun u r hu ho2 hg hn=>?_⟩
      rcases List.mem_cons.1 hu with rfl|hu
      ·rw [hop] at ho2;cases ho2
      ·exact h2 u r hu ho2 hg hn
     ·have hvo : v ∉ o:=fun h=>by
       have:=(open_iff (N:=N) (L:=L) o v).2 (.inl h)
       rw [hop] at this;cases this
      have hg1 : GoodO N.length (o ++ [v]):=good_snoc ho (hl v (by simp)) hvo
      have e : stepR N L d o ((N.length : Int) :: codeL N L (SB L) [] o) b0 v = srchR N L d (o ++ [v]) ((N.length : Int) :: codeL N L (SB L) [] (o ++ [v])) b0:=by rw [stepR,if_pos hop,hcc]
      rw [e]
      obtain ⟨i1,i2⟩:=ih (o ++ [v]) b0 (by simp;omega) hg1 hb0
      obtain ⟨h1,h2⟩:=il (fun u hu=>hl u (by simp [hu])) _ (srchR_ok d (o ++ [v]) b0 (by simp;omega) hg1 hb0)
      refine ⟨fun x h=>h1 x (i1 x h),fun u r hu ho2 hg hn=>?_⟩
      rcases List.mem_cons.1 hu with rfl|hu
      ·exact h1 _ (i2 r hg hn)
      ·exact h2 u r hu ho2 hg hn
   obtain ⟨k1,k2⟩:=key (List.range N.length) (fun v hv=>List.mem_range.1 hv) b hb
   refine ⟨k1,fun r hg hn=>?_⟩
   cases r with
   | nil => simp at hn;omega
   | cons v r =>
    have hvo : v ∉ o:=fun h=>by
     have:=(List.nodup_append.1 hg.1).2.2 v h v (by simp)
     exact this rfl
    have hvn : v < N.length:=hg.2 v (by simp)
    rw [show o ++ v :: r = o ++ [v] ++ r from by simp] at hg hn ⊢
    cases hop : openB N L o v
    ·
     have hex : ∃ u,u < v ∧ u ∉ o ∧ twinB N L (SB L) u v = true:=by
      rcases (open_iff o v).1 hop with h|h
      ·exact absurd h hvo
      ·exact h
     have hmin : ∀ (m u : Nat),u ≤ m → u < v → u ∉ o → twinB N L (SB L) u v = true → ∃ x,x < v ∧ x ∉ o ∧ twinB N L (SB L) x v = true ∧ openB N L o x = true:=fun m=>by
      induction m with
      | zero =>
       intro u hm h1 h2 h3
       refine ⟨u,h1,h2,h3,?_⟩
       cases h : openB N L o u
       ·rcases (open_iff o u).1 h with h | ⟨x,hx,_⟩
        ·exact absurd h h2
        ·omega
       ·rfl
      | succ m im =>
       intro u hm h1 h2 h3
       cases h : openB N L o u
       ·rcases (open_iff o u).1 h with h | ⟨x,hx,hx2,hx3⟩
        ·exact absurd h h2
        ·exact im x (by omega) (by omega) hx2 (twin_trans (by omega) (by omega) hvn (by omega) (by omega) (by omega) hx3 h3)
       ·exact ⟨u,h1,h2,h3,h⟩
     obtain ⟨u0,h1,h2,h3⟩:=hex
     obtain ⟨u,hu1,hu2,hu3,hu4⟩:=hmin u0 u0 (Nat.le_refl _) h1 h2 h3
     have hun : u < N.length:=by omega
     have hmap : (o ++ [v] ++ r).map (swp u v) = o ++ [u] ++ r.map (swp u v):=by
      rw [List.map_append,List.map_append,swp_fix hu2 hvo]
      have : swp u v v = u:=by unfold swp;rw [if_neg (by omega),if_pos rfl]
      simp [this]
     have hcode : codeS N L (SB L) (o ++ [u] ++ r.map (swp u v)) = codeS N L (SB L) (o ++ [v] ++ r):=by
      rw [← hmap]
      unfold codeS
      rw [List.length_map]
      congr 1
      exact codeL_map (swp u v) (o ++ [v] ++ r) [] (fun i _=>swp_node hu3 i) (fun i j hi hj=>swp_types (by omega) hu3 (hg.2 i (by simpa using hi)) (hg.2 j (by simpa using hj)))
     have hg2 : GoodO N.length (o ++ [u] ++ r.map (swp u v)):=by rw [← hmap];exact swp_good hun hvn hg
     rw [← hcode]
     exact k2 u _ (List.mem_range.2 hun) hu4 hg2 (by rw [← hmap,List.length_map];exact hn)
    ·exact k2 v r (List.mem_range.2 hvn) hop hg hn
  ·rw [srchR_worse _ _ _ _ _ _ hw]
   refine ⟨fun x h=>h,fun r h1 h2=>?_⟩
   refine worse_le hb ho hw (codeL N L (SB L) o r) ?_
   rw [codeS,codeL_app,List.cons_append,List.nil_append]
   congr 2
theorem codeG_least {p : List Nat} (hp : GoodO N.length p) (hl : p.length = N.length) : cmpL (codeG N L) (codeS N L (SB L) p) ≤ 0:=by
 obtain ⟨_,h⟩:=least N.length [] none (by simp) ⟨List.nodup_nil,fun v hv=>absurd hv (by simp)⟩ (fun p x e=>by cases e) (N:=N) (L:=L)
 obtain ⟨q,c,e,h2⟩:=h p hp hl
 obtain ⟨o,h3,_⟩:=codeG_is N L
 have e2 : bestR N L = some (q,c):=e
 rw [h3] at e2
 injection e2 with e2;injection e2 with _ e2
 rw [e2];exact h2
end
end Go.Proofs.Ytgmomcjnldahjaa.Pr
namespace Go.Proofs.Ytgmomcjnldahjaa.Pr
open Go.RowKit Go.Proofs.YtgmomcjnldahjaaW.PrintWords Go.Proofs.YtgmomcjnldahjaaW.PrintLast Go.Proofs.YtgmomcjnldahjaaW.PrintMore
attribute [local go_sem] max2_int min2_int max_two min_two max_three min_three max_four min_four
set_option linter.unusedVariables false
set_option linter.unusedSimpArgs false
def scarfjointref09_codeIn.l0 : Nat → List Int → List Int → Int → List Int → List (S34) → Option (List Int)
 | 0,_,_,_,_,_ => none
 | k + 1,x1,x5,x6,x307000,x307001 => if x6 ≤ (x1.length : Int) then (if 0 ≤ x6 then ((scarfjointref09_piece.f k x307000 x307001 (x1.take (x6 : Int).toNat)).bind fun t311 => (if x5.length + t311.length < 17592186044416 then (scarfjointref09_codeIn.l0 k x1 (x5 ++ t311) (wrap64 (x6 + 1)) x307000 x307001) else (none))) else (none)) else (some x5)
def scarfjointref09_codeIn.f (k : Nat) (l0_0 : List Int) (l0_1 : List (S34)) (l1 : List Int) : Option (List Int):=scarfjointref09_codeIn.l0 k l1 (([(l0_0.length : Int)] : List Int)) 1 l0_0 l0_1
def scarfjointref09_codeIn.T5 : Bool × List (List Nat × List Nat):=(true,[([],[]),([],[]),([],[]),([],[]),([2,3],[2,3]),([1,4],[1,4]),([0,5,5],[0,5]),([6,6,0,1,2,3,4,5,6],[0,6])])
def scarfjointref09_codeIn.B5 : List Nat:=[0,0,0,0,12,30,63,127]
theorem scarfjointref09_codeIn.tab5 : rtab .any (opsOf Try.f53 5) = scarfjointref09_codeIn.T5:=by kernel_rfl
theorem scarfjointref09_codeIn.bits5 : waitsOk scarfjointref09_codeIn.T5.2 scarfjointref09_codeIn.B5 = true:=by kernel_rfl
set_option maxHeartbeats 8000000 in
set_option maxRecDepth 100000 in
theorem scarfjointref09_codeIn.calls (k : Nat) (A0_0 : Option Addr) (c0_0 : Nat) (l0_0 : List Int) (A0_1 : Option Addr) (c0_1 : Nat) (l0_1 : List (S34)) (A1 : Option Addr) (c1 : Nat) (l1 : List Int) (r : List Int) (w : World) (hr0_0 : Kd.C (Kd.int .i64) w A0_0 l0_0.length l0_0) (hc0_0 : l0_0.length ≤ c0_0) (hr0_1 : Kd.C k34 w A0_1 l0_1.length l0_1) (hc0_1 : l0_1.length ≤ c0_1) (hr1 : Kd.C (Kd.int .i64) w A1 l1.length l1) (hc1 : l1.length ≤ c1) (h : scarfjointref09_codeIn.f k l0_0 l0_1 l1 = some r) :
  Calls Try.prog 53 #[.agg #[.slice A0_0 l0_0.length c0_0,.slice A0_1 l0_1.length c0_1],.slice A1 l1.length c1] w fun e w'=>∃ v0_ : Value,e = .returned (v0_) ∧ Kd.R (Kd.int .i64) 3 w' w.heap.size (fun _=>True) v0_ r ∧ Below w.heap.size w w':=by
 have hu30:=Try.underlying30
 have HR0_0:=Aside0.mk hr0_0
 have HC0_0:=Aside0.mk hc0_0
 clear hr0_0 hc0_0
 have HR0_1:=Aside0.mk hr0_1
 have HC0_1:=Aside0.mk hc0_1
 clear hr0_1 hc0_1
 have HR1:=Aside0.mk hr1
 have HC1:=Aside0.mk hc1
 clear hr1 hc1
 have HB:=Aside0.mk (Below.refl w.heap.size w)
 have H : (scarfjointref09_codeIn.l0 k l1 (([(l0_0.length : Int)] : List Int)) 1 l0_0 l0_1) = some r:=h
 clear h
 obtain ⟨y307,hy307⟩ : ∃ y_ : List Int,y_ = (([(l0_0.length : Int)] : List Int)):=⟨_,rfl⟩
 replace H : (scarfjointref09_codeIn.l0 k l1 y307 1 l0_0 l0_1) = some r:=by first|(rw [hy307];with_reducible exact H)|(have H2_:=(Option.bind_some _ _).symm.trans H;rw [hy307];with_reducible exact H2_)|(have H2_:=(Option.bind_some _ _).symm.trans H;with_reducible exact H2_)|with_reducible exact H|(rw [hy307];exact H)|exact H
 have Ny307:=Aside0.mk hy307
 clear hy307
 have H':=Aside0.mk H
 clear H
 go_enter Try.func53,Try.ntmps53
 go_wp2_with (first|((with_reducible refine gate_dst (N:=2) rfl ?_);refine box_event ?hg (N:=2) ?hd (cs:=#[.slice A0_0 l0_0.length c0_0,.slice A0_1 l0_1.length c0_1]) (t:=30) ?hr ?_;(case hd=>rfl);(case hg=>rfl);(case hr=>first|(go_simp;done)|(go_simp;rfl));intro gb306 hg w3 hbox hb;have n0_:=Aside0.mk (below_step (by repeat (first|(with_reducible first|exact HB.out|apply zzD|apply zzE|apply zzF)|exact HB.out)) hb);have n1_:=Aside0.mk (hbox);have n2_:=Aside0.mk ((by rw [hg];exact (below_size (by repeat (first|(with_reducible first|exact HB.out|apply zzD|apply zzE|apply zzF)|exact HB.out))) : w.heap.size ≤ gb306));have n3_:=Aside0.mk ((by rw [hg];exact (below_size (by repeat (first|(with_reducible first|exact HB.out|apply zzD|apply zzE|apply zzF)|exact HB.out))) : w.heap.size ≤ gb306));clear HB;have HB:=n0_;have BK306:=n1_;have GW306:=n2_;have GE306:=n3_;clear n0_ n1_ n2_ n3_;clear hb hbox hg;have hcz4_0 : w3.cell? ⟨gb306,0,none⟩ = some (.slice A0_0 l0_0.length c0_0):=(blk_cell BK306.out 0).trans rfl;have hcz4_1 : w3.cell? ⟨gb306,1,none⟩ = some (.slice A0_1 l0_1.length c0_1):=(blk_cell BK306.out 1).trans rfl;have hfz4_0:=blk_frozen BK306.out 0;have hfz4_1:=blk_frozen BK306.out 1)|((with_reducible refine gate_dst (N:=10) rfl ?_);refine Kd.R_lit (Kd.int .i64) _ 3 ?hg (N:=10) ?hd (xs:=([(l0_0.length : Int)] : List Int)) (inner:=[.int .i64 (l0_0.length : Int)]) (ok:=fun _=>True) (okp:=fun _=>True) ?hr ?hp (fun _ hk=>hk) trivial (Below.refl _ _) (Nat.le_refl _) (by simp) ?_;(case hd=>rfl);(case hg=>rfl);(case hr=>first|(go_simp;done)|(go_simp;rfl));(case hp=>exact (Reps.one (show Kd.M (Kd.int .i64) _ _ _ (l0_0.length : Int) [.int .i64 (l0_0.length : Int)] from rfl) (Reps.none _ _)));intro v308 w5 ho6 hb hg_ hnew_;clear hg_ hnew_;(first|rw [← Ny307.out] at ho6|(simp only [Int.reduceToNat] at ho6;rw [← Ny307.out] at ho6));have n0_:=Aside0.mk (Kd.R_lower ho6 (below_size (by repeat (first|(with_reducible first|exact HB.out|apply zzD|apply zzE|apply zzF|refine below_set ?_ GE306.out)|exact HB.out))));have n1_:=Aside0.mk (blk_below (g:=gb306) (o:=.cells #[.slice A0_0 l0_0.length c0_0,.slice A0_1 l0_1.length c0_1] 30 (0,0)) (by (with_reducible repeat (first|refine blk_drewN ?_ _|refine blk_drew ?_|refine blk_alloc ?_ _));exact BK306.out) hb);have n2_:=Aside0.mk (below_step (by repeat (first|(with_reducible first|exact HB.out|apply zzD|apply zzE|apply zzF|refine below_set ?_ GE306.out)|exact HB.out)) hb);clear BK306;clear HB;have HO309:=n0_;have BK306:=n1_;have HB:=n2_;clear n0_ n1_ n2_;clear hb ho6))
 go_loopg [5,6] k (fun kq v5 v6 w'=>∃ (x5_1 : List Int) (x6_1 : Int),v6 = .int .i64 x6_1 ∧ Aside0 (scarfjointref09_codeIn.l0 kq l1 x5_1 x6_1 l0_0 l0_1 = some r) ∧ Aside0 (kq ≤ k) ∧ Aside0 (Kd.R (Kd.int .i64) 3 w' w.heap.size (fun _=>True) v5 x5_1) ∧ Aside0 (w'.heap[gb306]? = some (.cells #[(.slice A0_0 l0_0.length c0_0),(.slice A0_1 l0_1.length c0_1)] 30 (0,0))) ∧ Aside0 (Below w.heap.size w w'))
 case atStart=>exact ⟨(y307),(1),(by first|rfl|(simp;done)|(simp [*];done)),H',⟨Nat.le_refl _⟩,⟨by (with_reducible repeat (first|apply Kd.R_alloc|apply Kd.R_drewN|apply Kd.R_drew));exact HO309.out⟩,⟨by (with_reducible repeat (first|refine blk_drewN ?_ _|refine blk_drew ?_|refine blk_alloc ?_ _));exact BK306.out⟩,⟨by repeat (first|(with_reducible first|exact HB.out|apply zzD|apply zzE|apply zzF|refine below_set ?_ GE306.out)|exact HB.out)⟩⟩
 case round =>
  clear H'
  try clear c1
  try clear p2
  try clear c5
  try clear hcz4_0
  try clear hcz4_1
  try clear hfz4_0
  try clear hfz4_1
  obtain ⟨x5_1,x6_1,rfl,HA,HK1,HO_5,BK306,HB⟩:=hrel
  cases gk with
  | zero => exact absurd HA.out (by simp [scarfjointref09_codeIn.l0])
  | succ k1 =>
   have H:=HA.out
   clear HA
   simp only [scarfjointref09_codeIn.l0] at H
   by_cases c7 : x6_1 ≤ (l1.length : Int)
   ·rw [if_pos c7] at H
    have c7b0 : decide (x6_1 ≤ (l1.length : Int)) = true:=decide_eq_true c7
    clear c7
    by_cases c8 : 0 ≤ x6_1
    ·rw [if_pos c8] at H
     have c8b0:=eq_true c8
     have c8b1 : decide (0 ≤ x6_1) = true:=decide_eq_true c8
     clear c8
     have c9b0:=eq_true (of_decide_eq_true (by first|(with_reducible assumption)|assumption) : x6_1 ≤ (l1.length : Int))
     replace H:=Option.bind_eq_some_iff.mp H
     obtain ⟨t311,A100,H⟩:=H
     replace H : (if x5_1.length + t311.length < 17592186044416 then (scarfjointref09_codeIn.l0 k1 l1 (x5_1 ++ t311) (wrap64 (x6_1 + 1)) l0_0 l0_1) else (none)) = some r:=H
     have A10:=Aside0.mk A100
     clear A100
     by_cases c11 : x5_1.length + t311.length < 17592186044416
     ·rw [if_pos c11] at H
      have LMc11:=Aside0.mk c11
      clear c11
      obtain ⟨y314,hy314⟩ : ∃ y_ : List Int,y_ = (x5_1 ++ t311):=⟨_,rfl⟩
      replace H : (scarfjointref09_codeIn.l0 k1 l1 y314 (wrap64 (x6_1 + 1)) l0_0 l0_1) = some r:=by first|(rw [hy314];with_reducible exact H)|(have H2_:=(Option.bind_some _ _).symm.trans H;rw [hy314];with_reducible exact H2_)|(have H2_:=(Option.bind_some _ _).symm.trans H;with_reducible exact H2_)|with_reducible exact H|(rw [hy314];exact H)|exact H
      have Ny314:=Aside0.mk hy314
      clear hy314
      have H':=Aside0.mk H
      clear H
      try go_wp2
      have n0_:=Aside0.mk (Kd.R_drew HO_5.out)
      have n1_:=Aside0.mk (blk_drew BK306.out)
      have n2_:=Aside0.mk (zzF HB.out)
      clear HO_5
      clear BK306
      clear HB
      have HO_5:=n0_
      have BK306:=n1_
      have HB:=n2_
      clear n0_ n1_ n2_
      obtain ⟨i013,hi013,_,hsz13,_⟩:=info_parts info3
      obtain ⟨hcut13,hA13,hC13⟩:=print_take_of (P:=Try.prog) (Value.int .i64) 0 27 3 .i64 Try.underlying27 hi013 hsz13 A1 c1 l1 x6_1 (of_decide_eq_true (by first|(with_reducible assumption)|assumption)) (of_decide_eq_true (by first|(with_reducible assumption)|assumption)) HC1.out
      have HR310:=Aside0.mk (Kd.C_of_reads (h1:=fun _=>rfl) (hA13 _ (Kd.reads_of_C HR1.out)))
      have HC310:=Aside0.mk hC13
      clear hA13 hC13 hi013 hsz13
      refine start_ (n:=8) (S:=fun w'=>w'.cell? ⟨gb306,0,none⟩ = some (.slice A0_0 l0_0.length c0_0) ∧ w'.cell? ⟨gb306,1,none⟩ = some (.slice A0_1 l0_1.length c0_1)) (ds:=[]) #[false,false,false,false,false,false,false,false] (by kernel_rfl) rfl rfl ⟨(blk_cell BK306.out 0).trans rfl,(blk_cell BK306.out 1).trans rfl⟩ (fun hHeld=>?_);refine with_tabW scarfjointref09_codeIn.tab5 scarfjointref09_codeIn.bits5 (fun HT_ HW_=>?_)
      generalize wr.drew = w12 at HO_5 BK306 HB HR310 hHeld ⊢
      refine pure_ (i:=0) (N:=some 17) (v:=?_) (a':=?_) #[true,false,false,false,false,false,false,false] rfl rfl (any_of HT_.out (by kernel_rfl)) (fun _ _ _ h=>h) (Or.inl ⟨by rfl,?_⟩) ?_ ?_
      rotate_left
      ·intro w'
       go_simp
       with_reducible rfl
      rotate_left
      ·simp only [Act.put,zzA,zzB,zzC,i64_w,i32_w]
       rfl
      refine pure_ (i:=2) (N:=some 19) (v:=?_) (a':=?_) #[true,false,true,false,false,false,false,false] rfl rfl (any_of HT_.out (by kernel_rfl)) (fun _ _ _ h=>h) (Or.inl ⟨by rfl,?_⟩) ?_ ?_
      rotate_left
      ·intro w'
       go_simp
       with_reducible rfl
      rotate_left
      ·simp only [Act.put,zzA,zzB,zzC,i64_w,i32_w]
       rfl
      refine pure_ (i:=3) (N:=some 20) (v:=?_) (a':=?_) #[true,false,true,true,false,false,false,false] rfl rfl (any_of HT_.out (by kernel_rfl)) (fun _ _ _ h=>h) (Or.inl ⟨by rfl,?_⟩) ?_ ?_
      rotate_left
      ·intro w'
       go_simp
       with_reducible rfl
      rotate_left
      ·simp only [Act.put,zzA,zzB,zzC,i64_w,i32_w]
       rfl
      refine pure_ (i:=4) (N:=some 21) (v:=?_) (a':=?_) #[true,false,true,true,true,false,false,false] rfl rfl (any_of HT_.out (by kernel_rfl)) (fun _ _ _ h=>h) (Or.inl ⟨by rfl,?_⟩) ?_ ?_
      rotate_left
      ·intro w'
       go_simp
       with_reducible rfl
      rotate_left
      ·simp only [Act.put,zzA,zzB,zzC,i64_w,i32_w]
       rfl
      refine take_ (i:=1) (N:=some 18) (v:=?_) (a':=?_) #[true,true,true,true,true,false,false,false] rfl rfl (take_ofW HT_.out HW_.out (by kernel_rfl)) (fun _ _ _ h=>h) (Or.inl ⟨by rfl,?_⟩) hHeld ?_ ?_
      rotate_left
      ·rintro w' ⟨s0,s1⟩
       go_simp
       with_reducible rfl
      rotate_left
      ·simp only [Act.put,zzA,zzB,zzC,i64_w,i32_w]
       rfl
      refine one_ (i:=5) (N:=some 22) #[true,true,true,true,true,true,false,false] rfl rfl (one_of HT_.out (by kernel_rfl)) (by decide) (fun K hK=>?_)
      refine goes_ Try.func70 (by kernel_rfl) rfl #[.agg #[.slice A0_0 l0_0.length c0_0,.slice A0_1 l0_1.length c0_1],.slice A1 (l1.take (x6_1 : Int).toNat).length c1] (by rfl) rfl rfl (by (try simp only [List.map_toArray,List.map_cons,List.map_nil]);first|done|(rw [show (l1.take (x6_1 : Int).toNat).length = x6_1.toNat from (by rw [List.length_take];have h_ : (x6_1 : Int) ≤ (l1.length : Int):=of_decide_eq_true (by first|(with_reducible assumption)|assumption);omega)] <;> rfl)|rfl|(simp only [List.length_drop,List.length_take];rfl)) ?_
      with_reducible refine (scarfjointref09_piece.calls k1 _ _ l0_0 _ _ l0_1 _ _ (l1.take (x6_1 : Int).toNat) t311 _ ?side1 ?side2 ?side3 ?side4 ?side5 ?side6 A10.out).mono ?_
      (case side1=>repeat (first|exact (Kd.C_below HR0_0.out HB.out)|(with_reducible refine Kd.C_alloc ?_ _)|(with_reducible refine Kd.C_drewN ?_ _)|(with_reducible refine Kd.C_drew ?_)))
      (case side2=>exact HC0_0.out)
      (case side3=>repeat (first|exact (Kd.C_below HR0_1.out HB.out)|(with_reducible refine Kd.C_alloc ?_ _)|(with_reducible refine Kd.C_drewN ?_ _)|(with_reducible refine Kd.C_drew ?_)))
      (case side4=>exact HC0_1.out)
      (case side5=>repeat (first|exact (Kd.C_below HR310.out HB.out)|(with_reducible refine Kd.C_alloc ?_ _)|(with_reducible refine Kd.C_drewN ?_ _)|(with_reducible refine Kd.C_drew ?_)))
      (case side6=>exact HC310.out)
      rintro e w14 ⟨v312,rfl,ho0,hb⟩
      refine ⟨_,rfl,?_⟩
      have n0_:=Aside0.mk (Kd.R_elder' (by (with_reducible repeat (first|apply Kd.R_alloc|apply Kd.R_drewN|apply Kd.R_drew));exact HO_5.out) (Kd.R_base ho0) hb)
      have n1_:=Aside0.mk (Kd.R_lower (Kd.R_new' ho0 (Kd.R_lt (by (with_reducible repeat (first|apply Kd.R_alloc|apply Kd.R_drewN|apply Kd.R_drew));exact HO_5.out))) (below_size (by repeat (first|(with_reducible first|exact HB.out|apply zzD|apply zzE|apply zzF|refine below_set ?_ GE306.out)|exact HB.out))))
      have n2_:=Aside0.mk (blk_below (g:=gb306) (o:=.cells #[.slice A0_0 l0_0.length c0_0,.slice A0_1 l0_1.length c0_1] 30 (0,0)) (by (with_reducible repeat (first|refine blk_drewN ?_ _|refine blk_drew ?_|refine blk_alloc ?_ _));exact BK306.out) hb)
      have n3_:=Aside0.mk (below_step (by repeat (first|(with_reducible first|exact HB.out|apply zzD|apply zzE|apply zzF|refine below_set ?_ GE306.out)|exact HB.out)) hb)
      clear HO_5
      clear BK306
      clear HB
      have HO_5:=n0_
      have HO313:=n1_
      have BK306:=n2_
      have HB:=n3_
      clear n0_ n1_ n2_ n3_
      (try clear hb)
      (try clear hb2)
      (try clear hk)
      (try clear hi)
      (try clear ho0)
      obtain ⟨Ao16,co16,eo16⟩:=Kd.R_slice HO313.out
      (first|subst eo16|(injection eo16 with f1_ f2_ f3_;have f4_:=f1_.symm;have f5_:=f3_.symm;clear f1_ f2_ f3_;subst f4_;subst f5_))
      refine hK.out _ _ ⟨(blk_cell BK306.out 0).trans rfl,(blk_cell BK306.out 1).trans rfl⟩ (fun hHeld=>?_)
      clear hK K
      refine norm_ (a':=?_) ?_ ?_
      rotate_left
      ·show Act.put _ (some 22) _ = _
       simp only [Act.put,zzA,zzB,zzC,i64_w,i32_w]
       rfl
      refine one_ (i:=6) (N:=some 23) #[true,true,true,true,true,true,true,false] rfl rfl (one_of HT_.out (by kernel_rfl)) (by decide) (fun K hK=>?_)
      refine Kd.R_append_rows_step (Kd.int .i64) (w0:=w) w.heap.size (by rfl) (.tmp 17) (.tmp 22) 27 3 (.int .i64 0) 8 rfl Try.underlying27 info3 rfl (by decide) (by omega) u5 x5_1 t311 _ _ _ (fun k_=>some k_ ≠ (.slice Ao16 t311.length co16 : Value).ownBlock) (fun _=>False) rfl rfl ?aO ?aR (fun _ _ h=>h) (fun _ h=>h.elim) ?aF ?aB ?aS ?aL ?_
      (case aR=>repeat (first|exact (Kd.R_reads' HO313.out).2.2|(with_reducible refine Kd.C_alloc ?_ _)|(with_reducible refine Kd.C_drewN ?_ _)|(with_reducible refine Kd.C_drew ?_)))
      (case aB=>exact (by repeat (first|(with_reducible first|exact HB.out|apply zzD|apply zzE|apply zzF|refine below_set ?_ GE306.out)|exact HB.out)))
      (case aF=>exact (fun k_ hk=>Kd.fresh' (Kd.R_lt (by (with_reducible repeat (first|apply Kd.R_alloc|apply Kd.R_drewN|apply Kd.R_drew));exact HO313.out)) k_ hk))
      (case aO=>exact (by (with_reducible repeat (first|apply Kd.R_alloc|apply Kd.R_drewN|apply Kd.R_drew));exact Kd.R_mono HO_5.out (fun _ hk=>hk.2)))
      (case aS=>exact (below_size (by repeat (first|(with_reducible first|exact HB.out|apply zzD|apply zzE|apply zzF|refine below_set ?_ GE306.out)|exact HB.out))))
      (case aL=>have:=LMc11.out;omega)
      intro v315 w15 ho hb hg hat
      rw [← Ny314.out] at ho
      have n0_:=Aside0.mk (blk_grown (g:=gb306) (o:=.cells #[.slice A0_0 l0_0.length c0_0,.slice A0_1 l0_1.length c0_1] 30 (0,0)) (by (with_reducible repeat (first|refine blk_drewN ?_ _|refine blk_drew ?_|refine blk_alloc ?_ _));exact BK306.out) hg (Kd.R_ne HO_5.out BK306.out (by decide)))
      have n1_:=Aside0.mk (Kd.R_after (ok:=(fun _=>True)) (by (with_reducible repeat (first|apply Kd.R_alloc|apply Kd.R_drewN|apply Kd.R_drew));exact HO313.out) hg hat)
      have n2_:=Aside0.mk (hb)
      have n3_:=Aside0.mk (ho)
      clear BK306
      clear HO313
      clear HB
      clear HO_5
      have BK306:=n0_
      have HO313:=n1_
      have HB:=n2_
      have HO316:=n3_
      clear n0_ n1_ n2_ n3_
      clear ho hb hg hat
      refine hK.out _ _ ⟨(blk_cell BK306.out 0).trans rfl,(blk_cell BK306.out 1).trans rfl⟩ (fun hHeld=>?_)
      clear hK K
      refine norm_ (a':=?_) ?_ ?_
      rotate_left
      ·show Act.put _ (some 23) _ = _
       simp only [Act.put,zzA,zzB,zzC,i64_w,i32_w]
       rfl
      refine pure_ (i:=7) (N:=some 5) (v:=?_) (a':=?_) #[true,true,true,true,true,true,true,true] rfl rfl (any_of HT_.out (by kernel_rfl)) (fun _ _ _ h=>h) (Or.inl ⟨by rfl,?_⟩) ?_ ?_
      rotate_left
      ·intro w'
       go_simp
       with_reducible rfl
      rotate_left
      ·simp only [Act.put,zzA,zzB,zzC,i64_w,i32_w]
       rfl
      refine done_ (done_of HT_.out (by kernel_rfl)) ?_
      try go_wp2
      go_roundg k1
      case measure=>have:=HK1.out;omega
      case rel=>exact ⟨(y314),(wrap64 (x6_1 + 1)),(by first|rfl|(simp;done)|(simp [*];done)),H',⟨by have:=HK1.out;omega⟩,⟨by (with_reducible repeat (first|apply Kd.R_alloc|apply Kd.R_drewN|apply Kd.R_drew));exact Kd.R_mono HO316.out (fun _ hk=>trivial)⟩,⟨by (with_reducible repeat (first|refine blk_drewN ?_ _|refine blk_drew ?_|refine blk_alloc ?_ _));exact BK306.out⟩,⟨by repeat (first|(with_reducible first|exact HB.out|apply zzD|apply zzE|apply zzF|refine below_set ?_ GE306.out)|exact HB.out)⟩⟩
     ·rw [if_neg c11] at H
      exact absurd H (by simp)
    ·rw [if_neg c8] at H
     exact absurd H (by simp)
   ·rw [if_neg c7] at H
    have c7b0 : decide (x6_1 ≤ (l1.length : Int)) = false:=decide_eq_false c7
    clear c7
    obtain rfl:=Option.some.inj H
    go_wp2
    go_ret
    exact ⟨_,by first|rfl|(simp [errW_none,errW_some] <;> rfl)|(simp [*,errW_none,errW_some] <;> rfl),by (with_reducible repeat (first|apply Kd.R_alloc|apply Kd.R_drewN|apply Kd.R_drew));exact HO_5.out,by repeat (first|(with_reducible first|exact HB.out|apply zzD|apply zzE|apply zzF|refine below_set ?_ GE306.out)|exact HB.out)⟩
mutual
def scarfjointref09_CodeIn.l0 : Nat → List Int → Int → List Int → List (S34) → Option (List Int × Int)
 | 0,_,_,_,_ => none
 | k + 1,x1,x7,x318000,x318001 => if x7 < (x1.length : Int) then (if 0 ≤ x7 then (if (rd x1 x7) < 0 then (some (([] : List Int),6)) else (if (rd x1 x7) ≥ (x318000.length : Int) then (some (([] : List Int),6)) else (scarfjointref09_CodeIn.l0 k x1 (wrap64 (x7 + 1)) x318000 x318001))) else (none)) else (scarfjointref09_CodeIn.l1 k x1 0 x318000 x318001)
def scarfjointref09_CodeIn.l1 : Nat → List Int → Int → List Int → List (S34) → Option (List Int × Int)
 | 0,_,_,_,_ => none
 | k + 1,x1,x8,x318000,x318001 => if x8 < (x1.length : Int) then (scarfjointref09_CodeIn.l2 k x1 x8 0 x318000 x318001) else ((scarfjointref09_codeIn.f k x318000 x318001 x1).bind fun t321 => (some (t321,0)))
def scarfjointref09_CodeIn.l2 : Nat → List Int → Int → Int → List Int → List (S34) → Option (List Int × Int)
 | 0,_,_,_,_,_ => none
 | k + 1,x1,x8,x9,x318000,x318001 => if x9 < x8 then (if 0 ≤ x8 then (if x8 < (x1.length : Int) then (if 0 ≤ x9 then (if x9 < (x1.length : Int) then (if (rd x1 x8) = (rd x1 x9) then (some (([] : List Int),5)) else (scarfjointref09_CodeIn.l2 k x1 x8 (wrap64 (x9 + 1)) x318000 x318001)) else (none)) else (none)) else (none)) else (none)) else (scarfjointref09_CodeIn.l1 k x1 (wrap64 (x8 + 1)) x318000 x318001)
end
def scarfjointref09_CodeIn.f (k : Nat) (l0_0 : List Int) (l0_1 : List (S34)) (l1 : List Int) : Option (List Int × Int):=(scarfjointref09_Valid.f k l0_0 l0_1).bind fun t318=>(if t318 = 0 then (if (l1.length : Int) = (l0_0.length : Int) then (scarfjointref09_CodeIn.l0 k l1 0 l0_0 l0_1) else (some (([] : List Int),20))) else (some (([] : List Int),t318)))
set_option maxHeartbeats 8000000 in
set_option maxRecDepth 100000 in
theorem scarfjointref09_CodeIn.calls (k : Nat) (A0_0 : Option Addr) (c0_0 : Nat) (l0_0 : List Int) (A0_1 : Option Addr) (c0_1 : Nat) (l0_1 : List (S34)) (A1 : Option Addr) (c1 : Nat) (l1 : List Int) (r1 : List Int) (r2 : Int) (w : World) (hr0_0 : Kd.C (Kd.int .i64) w A0_0 l0_0.length l0_0) (hc0_0 : l0_0.length ≤ c0_0) (hr0_1 : Kd.C k34 w A0_1 l0_1.length l0_1) (hc0_1 : l0_1.length ≤ c0_1) (hr1 : Kd.C (Kd.int .i64) w A1 l1.length l1) (hc1 : l1.length ≤ c1) (h : scarfjointref09_CodeIn.f k l0_0 l0_1 l1 = some (r1,r2)) :
  Calls Try.prog 24 #[.agg #[.slice A0_0 l0_0.length c0_0,.slice A0_1 l0_1.length c0_1],.slice A1 l1.length c1] w fun e w'=>∃ v0_ : Value,e = .returned (.tuple #[v0_,.int .i64 r2]) ∧ Kd.R (Kd.int .i64) 3 w' w.heap.size (fun _=>True) v0_ r1 ∧ Below w.heap.size w w':=by
 have hu30:=Try.underlying30
 have HR0_0:=Aside0.mk hr0_0
 have HC0_0:=Aside0.mk hc0_0
 clear hr0_0 hc0_0
 have HR0_1:=Aside0.mk hr0_1
 have HC0_1:=Aside0.mk hc0_1
 clear hr0_1 hc0_1
 have HR1:=Aside0.mk hr1
 have HC1:=Aside0.mk hc1
 clear hr1 hc1
 have HB:=Aside0.mk (Below.refl w.heap.size w)
 have H : ((scarfjointref09_Valid.f k l0_0 l0_1).bind fun t318=>(if t318 = 0 then (if (l1.length : Int) = (l0_0.length : Int) then (scarfjointref09_CodeIn.l0 k l1 0 l0_0 l0_1) else (some (([] : List Int),20))) else (some (([] : List Int),t318)))) = some (r1,r2):=h
 clear h
 replace H:=Option.bind_eq_some_iff.mp H
 obtain ⟨t318,A30,H⟩:=H
 replace H : (if t318 = 0 then (if (l1.length : Int) = (l0_0.length : Int) then (scarfjointref09_CodeIn.l0 k l1 0 l0_0 l0_1) else (some (([] : List Int),20))) else (some (([] : List Int),t318))) = some (r1,r2):=H
 have A3:=Aside0.mk A30
 clear A30
 by_cases c4 : t318 = 0
 ·rw [if_pos c4] at H
  have c4b0 : (t318 == 0) = true:=beq_iff_eq.mpr c4
  have c4b1 : (t318 != 0) = false:=bne_eq_false_iff_eq.mpr c4
  clear c4
  by_cases c5 : (l1.length : Int) = (l0_0.length : Int)
  ·rw [if_pos c5] at H
   have c5b0 : ((l1.length : Int) == (l0_0.length : Int)) = true:=beq_iff_eq.mpr c5
   have c5b1 : ((l1.length : Int) != (l0_0.length : Int)) = false:=bne_eq_false_iff_eq.mpr c5
   have c5b2 : (l1.length == l0_0.length) = true:=by first|simpa using c5|(simp at c5 ⊢;omega)
   clear c5
   have H':=Aside0.mk H
   clear H
   go_enter Try.func24,Try.ntmps24
   go_wp2_with (first|((with_reducible refine gate_dst (N:=2) rfl ?_);(try (refine gate_guard (by rfl) ?_;dsimp only));refine box_event ?hg (N:=2) ?hd (cs:=#[.slice A0_0 l0_0.length c0_0,.slice A0_1 l0_1.length c0_1]) (t:=30) ?hr ?_;(case hd=>rfl);(case hg=>rfl);(case hr=>first|(go_simp;done)|(go_simp;rfl));intro gb317 hg w6 hbox hb;have n0_:=Aside0.mk (below_step (by repeat (first|(with_reducible first|exact HB.out|apply zzD|apply zzE|apply zzF)|exact HB.out)) hb);have n1_:=Aside0.mk (hbox);have n2_:=Aside0.mk ((by rw [hg];exact (below_size (by repeat (first|(with_reducible first|exact HB.out|apply zzD|apply zzE|apply zzF)|exact HB.out))) : w.heap.size ≤ gb317));have n3_:=Aside0.mk ((by rw [hg];exact (below_size (by repeat (first|(with_reducible first|exact HB.out|apply zzD|apply zzE|apply zzF)|exact HB.out))) : w.heap.size ≤ gb317));clear HB;have HB:=n0_;have BK317:=n1_;have GW317:=n2_;have GE317:=n3_;clear n0_ n1_ n2_ n3_;clear hb hbox hg;have hcz7_0 : w6.cell? ⟨gb317,0,none⟩ = some (.slice A0_0 l0_0.length c0_0):=(blk_cell BK317.out 0).trans rfl;have hcz7_1 : w6.cell? ⟨gb317,1,none⟩ = some (.slice A0_1 l0_1.length c0_1):=(blk_cell BK317.out 1).trans rfl;have hfz7_0:=blk_frozen BK317.out 0;have hfz7_1:=blk_frozen BK317.out 1)|(go_at_call 52;(with_reducible refine (scarfjointref09_Valid.calls k _ _ l0_0 _ _ l0_1 t318 _ ?side1 ?side2 ?side3 ?side4 A3.out).mono ?_);(case side1=>repeat (first|exact (Kd.C_below HR0_0.out HB.out)|(with_reducible refine Kd.C_alloc ?_ _)|(with_reducible refine Kd.C_drewN ?_ _)|(with_reducible refine Kd.C_drew ?_)));(case side2=>exact HC0_0.out);(case side3=>repeat (first|exact (Kd.C_below HR0_1.out HB.out)|(with_reducible refine Kd.C_alloc ?_ _)|(with_reducible refine Kd.C_drewN ?_ _)|(with_reducible refine Kd.C_drew ?_)));(case side4=>exact HC0_1.out);rintro e w8 ⟨rfl,hb⟩;have n0_:=Aside0.mk (blk_below (g:=gb317) (o:=.cells #[.slice A0_0 l0_0.length c0_0,.slice A0_1 l0_1.length c0_1] 30 (0,0)) (by (with_reducible repeat (first|refine blk_drewN ?_ _|refine blk_drew ?_|refine blk_alloc ?_ _));exact BK317.out) hb);have n1_:=Aside0.mk (below_step (by repeat (first|(with_reducible first|exact HB.out|apply zzD|apply zzE|apply zzF|refine below_set ?_ GE317.out)|exact HB.out)) hb);clear BK317;clear HB;have BK317:=n0_;have HB:=n1_;clear n0_ n1_;(try clear hb);(try clear hb2);(try clear hk);(try clear hi);have hcz9_0 : w8.cell? ⟨gb317,0,none⟩ = some (.slice A0_0 l0_0.length c0_0):=(blk_cell BK317.out 0).trans rfl;have hcz9_1 : w8.cell? ⟨gb317,1,none⟩ = some (.slice A0_1 l0_1.length c0_1):=(blk_cell BK317.out 1).trans rfl;have hfz9_0:=blk_frozen BK317.out 0;have hfz9_1:=blk_frozen BK317.out 1))
   repeat (go_quiet (first|((with_reducible refine gate_dst (N:=2) rfl ?_);(try (refine gate_guard (by rfl) ?_;dsimp only));refine box_event ?hg (N:=2) ?hd (cs:=#[.slice A0_0 l0_0.length c0_0,.slice A0_1 l0_1.length c0_1]) (t:=30) ?hr ?_;(case hd=>rfl);(case hg=>rfl);(case hr=>first|(go_simp;done)|(go_simp;rfl));intro gb317 hg w6 hbox hb;have n0_:=Aside0.mk (below_step (by repeat (first|(with_reducible first|exact HB.out|apply zzD|apply zzE|apply zzF)|exact HB.out)) hb);have n1_:=Aside0.mk (hbox);have n2_:=Aside0.mk ((by rw [hg];exact (below_size (by repeat (first|(with_reducible first|exact HB.out|apply zzD|apply zzE|apply zzF)|exact HB.out))) : w.heap.size ≤ gb317));have n3_:=Aside0.mk ((by rw [hg];exact (below_size (by repeat (first|(with_reducible first|exact HB.out|apply zzD|apply zzE|apply zzF)|exact HB.out))) : w.heap.size ≤ gb317));clear HB;have HB:=n0_;have BK317:=n1_;have GW317:=n2_;have GE317:=n3_;clear n0_ n1_ n2_ n3_;clear hb hbox hg;have hcz7_0 : w6.cell? ⟨gb317,0,none⟩ = some (.slice A0_0 l0_0.length c0_0):=(blk_cell BK317.out 0).trans rfl;have hcz7_1 : w6.cell? ⟨gb317,1,none⟩ = some (.slice A0_1 l0_1.length c0_1):=(blk_cell BK317.out 1).trans rfl;have hfz7_0:=blk_frozen BK317.out 0;have hfz7_1:=blk_frozen BK317.out 1)|(go_at_call 52;(with_reducible refine (scarfjointref09_Valid.calls k _ _ l0_0 _ _ l0_1 t318 _ ?side1 ?side2 ?side3 ?side4 A3.out).mono ?_);(case side1=>repeat (first|exact (Kd.C_below HR0_0.out HB.out)|(with_reducible refine Kd.C_alloc ?_ _)|(with_reducible refine Kd.C_drewN ?_ _)|(with_reducible refine Kd.C_drew ?_)));(case side2=>exact HC0_0.out);(case side3=>repeat (first|exact (Kd.C_below HR0_1.out HB.out)|(with_reducible refine Kd.C_alloc ?_ _)|(with_reducible refine Kd.C_drewN ?_ _)|(with_reducible refine Kd.C_drew ?_)));(case side4=>exact HC0_1.out);rintro e w8 ⟨rfl,hb⟩;have n0_:=Aside0.mk (blk_below (g:=gb317) (o:=.cells #[.slice A0_0 l0_0.length c0_0,.slice A0_1 l0_1.length c0_1] 30 (0,0)) (by (with_reducible repeat (first|refine blk_drewN ?_ _|refine blk_drew ?_|refine blk_alloc ?_ _));exact BK317.out) hb);have n1_:=Aside0.mk (below_step (by repeat (first|(with_reducible first|exact HB.out|apply zzD|apply zzE|apply zzF|refine below_set ?_ GE317.out)|exact HB.out)) hb);clear BK317;clear HB;have BK317:=n0_;have HB:=n1_;clear n0_ n1_;(try clear hb);(try clear hb2);(try clear hk);(try clear hi);have hcz9_0 : w8.cell? ⟨gb317,0,none⟩ = some (.slice A0_0 l0_0.length c0_0):=(blk_cell BK317.out 0).trans rfl;have hcz9_1 : w8.cell? ⟨gb317,1,none⟩ = some (.slice A0_1 l0_1.length c0_1):=(blk_cell BK317.out 1).trans rfl;have hfz9_0:=blk_frozen BK317.out 0;have hfz9_1:=blk_frozen BK317.out 1));try go_wp2_with (first|((with_reducible refine gate_dst (N:=2) rfl ?_);(try (refine gate_guard (by rfl) ?_;dsimp only));refine box_event ?hg (N:=2) ?hd (cs:=#[.slice A0_0 l0_0.length c0_0,.slice A0_1 l0_1.length c0_1]) (t:=30) ?hr ?_;(case hd=>rfl);(case hg=>rfl);(case hr=>first|(go_simp;done)|(go_simp;rfl));intro gb317 hg w6 hbox hb;have n0_:=Aside0.mk (below_step (by repeat (first|(with_reducible first|exact HB.out|apply zzD|apply zzE|apply zzF)|exact HB.out)) hb);have n1_:=Aside0.mk (hbox);have n2_:=Aside0.mk ((by rw [hg];exact (below_size (by repeat (first|(with_reducible first|exact HB.out|apply zzD|apply zzE|apply zzF)|exact HB.out))) : w.heap.size ≤ gb317));have n3_:=Aside0.mk ((by rw [hg];exact (below_size (by repeat (first|(with_reducible first|exact HB.out|apply zzD|apply zzE|apply zzF)|exact HB.out))) : w.heap.size ≤ gb317));clear HB;have HB:=n0_;have BK317:=n1_;have GW317:=n2_;have GE317:=n3_;clear n0_ n1_ n2_ n3_;clear hb hbox hg;have hcz7_0 : w6.cell? ⟨gb317,0,none⟩ = some (.slice A0_0 l0_0.length c0_0):=(blk_cell BK317.out 0).trans rfl;have hcz7_1 : w6.cell? ⟨gb317,1,none⟩ = some (.slice A0_1 l0_1.length c0_1):=(blk_cell BK317.out 1).trans rfl;have hfz7_0:=blk_frozen BK317.out 0;have hfz7_1:=blk_frozen BK317.out 1)|(go_at_call 52;(with_reducible refine (scarfjointref09_Valid.calls k _ _ l0_0 _ _ l0_1 t318 _ ?side1 ?side2 ?side3 ?side4 A3.out).mono ?_);(case side1=>repeat (first|exact (Kd.C_below HR0_0.out HB.out)|(with_reducible refine Kd.C_alloc ?_ _)|(with_reducible refine Kd.C_drewN ?_ _)|(with_reducible refine Kd.C_drew ?_)));(case side2=>exact HC0_0.out);(case side3=>repeat (first|exact (Kd.C_below HR0_1.out HB.out)|(with_reducible refine Kd.C_alloc ?_ _)|(with_reducible refine Kd.C_drewN ?_ _)|(with_reducible refine Kd.C_drew ?_)));(case side4=>exact HC0_1.out);rintro e w8 ⟨rfl,hb⟩;have n0_:=Aside0.mk (blk_below (g:=gb317) (o:=.cells #[.slice A0_0 l0_0.length c0_0,.slice A0_1 l0_1.length c0_1] 30 (0,0)) (by (with_reducible repeat (first|refine blk_drewN ?_ _|refine blk_drew ?_|refine blk_alloc ?_ _));exact BK317.out) hb);have n1_:=Aside0.mk (below_step (by repeat (first|(with_reducible first|exact HB.out|apply zzD|apply zzE|apply zzF|refine below_set ?_ GE317.out)|exact HB.out)) hb);clear BK317;clear HB;have BK317:=n0_;have HB:=n1_;clear n0_ n1_;(try clear hb);(try clear hb2);(try clear hk);(try clear hi);have hcz9_0 : w8.cell? ⟨gb317,0,none⟩ = some (.slice A0_0 l0_0.length c0_0):=(blk_cell BK317.out 0).trans rfl;have hcz9_1 : w8.cell? ⟨gb317,1,none⟩ = some (.slice A0_1 l0_1.length c0_1):=(blk_cell BK317.out 1).trans rfl;have hfz9_0:=blk_frozen BK317.out 0;have hfz9_1:=blk_frozen BK317.out 1)))
   go_loopg [7] k (fun kq v7 w'=>∃ (x7_1 : Int),v7 = .int .i64 x7_1 ∧ Aside0 (scarfjointref09_CodeIn.l0 kq l1 x7_1 l0_0 l0_1 = some (r1,r2)) ∧ Aside0 (kq ≤ k) ∧ Aside0 (w'.heap[gb317]? = some (.cells #[(.slice A0_0 l0_0.length c0_0),(.slice A0_1 l0_1.length c0_1)] 30 (0,0))) ∧ Aside0 (Below w.heap.size w w'))
   case atStart=>exact ⟨(0),(by first|rfl|(simp;done)|(simp [*];done)),H',⟨Nat.le_refl _⟩,⟨by (with_reducible repeat (first|refine blk_drewN ?_ _|refine blk_drew ?_|refine blk_alloc ?_ _));exact BK317.out⟩,⟨by repeat (first|(with_reducible first|exact HB.out|apply zzD|apply zzE|apply zzF|refine below_set ?_ GE317.out)|exact HB.out)⟩⟩
   case round =>
    clear H'
    try clear c1
    try clear c2
    try clear p2
    try clear c4
    try clear c4b0
    try clear c4b1
    try clear c5
    try clear c5b0
    try clear c5b1
    try clear c5b2
    try clear hcz7_0
    try clear hcz7_1
    try clear hcz9_0
    try clear hcz9_1
    try clear hfz7_0
    try clear hfz7_1
    try clear hfz9_0
    try clear hfz9_1
    obtain ⟨x7_1,rfl,HA,HK1,BK317,HB⟩:=hrel
    cases gk with
    | zero => exact absurd HA.out (by simp [scarfjointref09_CodeIn.l0])
    | succ k1 =>
     have H:=HA.out
     clear HA
     simp only [scarfjointref09_CodeIn.l0] at H
     by_cases c10 : x7_1 < (l1.length : Int)
     ·rw [if_pos c10] at H
      have c10b0 : decide (x7_1 < (l1.length : Int)) = true:=decide_eq_true c10
      clear c10
      by_cases c11 : 0 ≤ x7_1
      ·rw [if_pos c11] at H
       have c11b0 : decide (0 ≤ x7_1) = true:=decide_eq_true c11
       clear c11
       by_cases c12 : (rd l1 x7_1) < 0
       ·rw [if_pos c12] at H
        have c12b0 : decide ((rd l1 x7_1) < 0) = true:=decide_eq_true c12
        clear c12
        simp only [Option.some.injEq,Prod.mk.injEq] at H
        obtain ⟨rfl,rfl⟩:=H
        have p319 : 0 ≤ (x7_1 : Int):=of_decide_eq_true (by first|(with_reducible assumption)|assumption)
        have q319 : x7_1 < (l1.length : Int):=of_decide_eq_true (by first|(with_reducible assumption)|assumption)
        obtain ⟨ad319,e319,hx319_0⟩:=Kd.at_int HR1.out x7_1 p319 q319
        cases e319
        replace hx319_0:=(HB.out.cell (World.block_lt_of_cell? w _ hx319_0)).trans hx319_0
        replace p319:=eq_true p319
        replace q319:=eq_true q319
        go_wp2
        repeat (go_quiet (fail);try go_wp2)
        go_ret2
        exact ⟨_,by first|rfl|(simp [errW_none,errW_some] <;> rfl)|(simp [*,errW_none,errW_some] <;> rfl),by first|exact Kd.R_nil _ _ _ _ _|exact Kd.N_nil _ _ _ _ _|exact Kd.V_nil _ _ _ _ _|exact Kd.Q_nil _ _ _ _ _|exact Kd.S_nil _ _ _ _ _,by repeat (first|(with_reducible first|exact HB.out|apply zzD|apply zzE|apply zzF|refine below_set ?_ GE317.out)|exact HB.out)⟩
       ·rw [if_neg c12] at H
        have c12b0 : decide ((rd l1 x7_1) < 0) = false:=decide_eq_false c12
        clear c12
        by_cases c13 : (rd l1 x7_1) ≥ (l0_0.length : Int)
        ·rw [if_pos c13] at H
         have c13b0 : decide ((l0_0.length : Int) ≤ (rd l1 x7_1)) = true:=decide_eq_true c13
         clear c13
         simp only [Option.some.injEq,Prod.mk.injEq] at H
         obtain ⟨rfl,rfl⟩:=H
         have p319 : 0 ≤ (x7_1 : Int):=of_decide_eq_true (by first|(with_reducible assumption)|assumption)
         have q319 : x7_1 < (l1.length : Int):=of_decide_eq_true (by first|(with_reducible assumption)|assumption)
         obtain ⟨ad319,e319,hx319_0⟩:=Kd.at_int HR1.out x7_1 p319 q319
         cases e319
         replace hx319_0:=(HB.out.cell (World.block_lt_of_cell? w _ hx319_0)).trans hx319_0
         replace p319:=eq_true p319
         replace q319:=eq_true q319
         have p320 : 0 ≤ (x7_1 : Int):=of_decide_eq_true (by first|(with_reducible assumption)|assumption)
         have q320 : x7_1 < (l1.length : Int):=of_decide_eq_true (by first|(with_reducible assumption)|assumption)
         obtain ⟨ad320,e320,hx320_0⟩:=Kd.at_int HR1.out x7_1 p320 q320
         obtain rfl : ad319 = ad320:=(by injection e320)
         replace hx320_0:=(HB.out.cell (World.block_lt_of_cell? w _ hx320_0)).trans hx320_0
         replace p320:=eq_true p320
         replace q320:=eq_true q320
         have hcz14_0 : wr.cell? ⟨gb317,0,none⟩ = some (.slice A0_0 l0_0.length c0_0):=(blk_cell BK317.out 0).trans rfl
         have hcz14_1 : wr.cell? ⟨gb317,1,none⟩ = some (.slice A0_1 l0_1.length c0_1):=(blk_cell BK317.out 1).trans rfl
         have hfz14_0:=blk_frozen BK317.out 0
         have hfz14_1:=blk_frozen BK317.out 1
         go_wp2
         repeat (go_quiet (fail);try go_wp2)
         go_ret2
         exact ⟨_,by first|rfl|(simp [errW_none,errW_some] <;> rfl)|(simp [*,errW_none,errW_some] <;> rfl),by first|exact Kd.R_nil _ _ _ _ _|exact Kd.N_nil _ _ _ _ _|exact Kd.V_nil _ _ _ _ _|exact Kd.Q_nil _ _ _ _ _|exact Kd.S_nil _ _ _ _ _,by repeat (first|(with_reducible first|exact HB.out|apply zzD|apply zzE|apply zzF|refine below_set ?_ GE317.out)|exact HB.out)⟩
        ·rw [if_neg c13] at H
         have c13b0 : decide ((l0_0.length : Int) ≤ (rd l1 x7_1)) = false:=decide_eq_false c13
         clear c13
         have H':=Aside0.mk H
         clear H
         have p319 : 0 ≤ (x7_1 : Int):=of_decide_eq_true (by first|(with_reducible assumption)|assumption)
         have q319 : x7_1 < (l1.length : Int):=of_decide_eq_true (by first|(with_reducible assumption)|assumption)
         obtain ⟨ad319,e319,hx319_0⟩:=Kd.at_int HR1.out x7_1 p319 q319
         cases e319
         replace hx319_0:=(HB.out.cell (World.block_lt_of_cell? w _ hx319_0)).trans hx319_0
         replace p319:=eq_true p319
         replace q319:=eq_true q319
         have p320 : 0 ≤ (x7_1 : Int):=of_decide_eq_true (by first|(with_reducible assumption)|assumption)
         have q320 : x7_1 < (l1.length : Int):=of_decide_eq_true (by first|(with_reducible assumption)|assumption)
         obtain ⟨ad320,e320,hx320_0⟩:=Kd.at_int HR1.out x7_1 p320 q320
         obtain rfl : ad319 = ad320:=(by injection e320)
         replace hx320_0:=(HB.out.cell (World.block_lt_of_cell? w _ hx320_0)).trans hx320_0
         replace p320:=eq_true p320
         replace q320:=eq_true q320
         have hcz15_0 : wr.cell? ⟨gb317,0,none⟩ = some (.slice A0_0 l0_0.length c0_0):=(blk_cell BK317.out 0).trans rfl
         have hcz15_1 : wr.cell? ⟨gb317,1,none⟩ = some (.slice A0_1 l0_1.length c0_1):=(blk_cell BK317.out 1).trans rfl
         have hfz15_0:=blk_frozen BK317.out 0
         have hfz15_1:=blk_frozen BK317.out 1
         go_wp2
         repeat (go_quiet (fail);try go_wp2)
         go_roundg k1
         case measure=>have:=HK1.out;omega
         case rel=>exact ⟨(wrap64 (x7_1 + 1)),(by first|rfl|(simp;done)|(simp [*];done)),H',⟨by have:=HK1.out;omega⟩,⟨by (with_reducible repeat (first|refine blk_drewN ?_ _|refine blk_drew ?_|refine blk_alloc ?_ _));exact BK317.out⟩,⟨by repeat (first|(with_reducible first|exact HB.out|apply zzD|apply zzE|apply zzF|refine below_set ?_ GE317.out)|exact HB.out)⟩⟩
      ·rw [if_neg c11] at H
       exact absurd H (by simp)
     ·rw [if_neg c10] at H
      have c10b0 : decide (x7_1 < (l1.length : Int)) = false:=decide_eq_false c10
      clear c10
      have H':=Aside0.mk H
      clear H
      go_wp2
      repeat (go_quiet (fail);try go_wp2)
      go_loopg [8] k1 (fun kq v8 w'=>∃ (x8_2 : Int),v8 = .int .i64 x8_2 ∧ Aside0 (scarfjointref09_CodeIn.l1 kq l1 x8_2 l0_0 l0_1 = some (r1,r2)) ∧ Aside0 (kq ≤ k1) ∧ Aside0 (w'.heap[gb317]? = some (.cells #[(.slice A0_0 l0_0.length c0_0),(.slice A0_1 l0_1.length c0_1)] 30 (0,0))) ∧ Aside0 (Below w.heap.size w w'))
      case atStart=>exact ⟨(0),(by first|rfl|(simp;done)|(simp [*];done)),H',⟨Nat.le_refl _⟩,⟨by (with_reducible repeat (first|refine blk_drewN ?_ _|refine blk_drew ?_|refine blk_alloc ?_ _));exact BK317.out⟩,⟨by repeat (first|(with_reducible first|exact HB.out|apply zzD|apply zzE|apply zzF|refine below_set ?_ GE317.out)|exact HB.out)⟩⟩
      case round =>
       clear H'
       try clear c1
       try clear c2
       try clear p2
       try clear p3
       try clear q3
       try clear hx3
       try clear c4
       try clear c4b0
       try clear c4b1
       try clear c5
       try clear c5b0
       try clear c5b1
       try clear c5b2
       try clear p6
       try clear c10
       try clear c10b0
       try clear c11
       try clear c11b0
       try clear c12
       try clear c12b0
       try clear c13
       try clear c13b0
       try clear hcz14_0
       try clear hcz14_1
       try clear hcz15_0
       try clear hcz15_1
       try clear hcz7_0
       try clear hcz7_1
       try clear hcz9_0
       try clear hcz9_1
       try clear hfz14_0
       try clear hfz14_1
       try clear hfz15_0
       try clear hfz15_1
       try clear hfz7_0
       try clear hfz7_1
       try clear hfz9_0
       try clear hfz9_1
       try clear hx319_0
       try clear hx320_0
       try clear p2
       try clear p319
       try clear p320
       try clear q319
       try clear q320
       obtain ⟨x8_2,rfl,HA,HK2,BK317,HB⟩:=hrel
       cases gk with
       | zero => exact absurd HA.out (by simp [scarfjointref09_CodeIn.l1])
       | succ k2 =>
        have H:=HA.out
        clear HA
        simp only [scarfjointref09_CodeIn.l1] at H
        by_cases c16 : x8_2 < (l1.length : Int)
        ·rw [if_pos c16] at H
         have c16b0 : decide (x8_2 < (l1.length : Int)) = true:=decide_eq_true c16
         clear c16
         have H':=Aside0.mk H
         clear H
         go_wp2
         repeat (go_quiet (fail);try go_wp2)
         go_loopg [9] k2 (fun kq v9 w'=>∃ (x9_3 : Int),v9 = .int .i64 x9_3 ∧ Aside0 (scarfjointref09_CodeIn.l2 kq l1 x8_2 x9_3 l0_0 l0_1 = some (r1,r2)) ∧ Aside0 (kq ≤ k2) ∧ Aside0 (w'.heap[gb317]? = some (.cells #[(.slice A0_0 l0_0.length c0_0),(.slice A0_1 l0_1.length c0_1)] 30 (0,0))) ∧ Aside0 (Below w.heap.size w w'))
         case atStart=>exact ⟨(0),(by first|rfl|(simp;done)|(simp [*];done)),H',⟨Nat.le_refl _⟩,⟨by (with_reducible repeat (first|refine blk_drewN ?_ _|refine blk_drew ?_|refine blk_alloc ?_ _));exact BK317.out⟩,⟨by repeat (first|(with_reducible first|exact HB.out|apply zzD|apply zzE|apply zzF|refine below_set ?_ GE317.out)|exact HB.out)⟩⟩
         case round =>
          clear H'
          try clear c1
          try clear c2
          try clear p2
          try clear p3
          try clear q3
          try clear hx3
          try clear c4
          try clear c4b0
          try clear c4b1
          try clear c5
          try clear c5b0
          try clear c5b1
          try clear c5b2
          try clear p6
          try clear c10
          try clear c10b0
          try clear c11
          try clear c11b0
          try clear c12
          try clear c12b0
          try clear c13
          try clear c13b0
          try clear c16
          try clear c16b0
          try clear hcz14_0
          try clear hcz14_1
          try clear hcz15_0
          try clear hcz15_1
          try clear hcz7_0
          try clear hcz7_1
          try clear hcz9_0
          try clear hcz9_1
          try clear hfz14_0
          try clear hfz14_1
          try clear hfz15_0
          try clear hfz15_1
          try clear hfz7_0
          try clear hfz7_1
          try clear hfz9_0
          try clear hfz9_1
          try clear hx319_0
          try clear hx320_0
          try clear p2
          try clear p3
          try clear p319
          try clear p320
          try clear p6
          try clear q3
          try clear q319
          try clear q320
          obtain ⟨x9_3,rfl,HA,HK3,BK317,HB⟩:=hrel
          cases gk with
          | zero => exact absurd HA.out (by simp [scarfjointref09_CodeIn.l2])
          | succ k3 =>
           have H:=HA.out
           clear HA
           simp only [scarfjointref09_CodeIn.l2] at H
           by_cases c17 : x9_3 < x8_2
           ·rw [if_pos c17] at H
            have c17b0 : decide (x9_3 < x8_2) = true:=decide_eq_true c17
            clear c17
            by_cases c18 : 0 ≤ x8_2
            ·rw [if_pos c18] at H
             have c18b0 : decide (0 ≤ x8_2) = true:=decide_eq_true c18
             clear c18
             by_cases c19 : x8_2 < (l1.length : Int)
             ·rw [if_pos c19] at H
              have c19b0 : decide (x8_2 < (l1.length : Int)) = true:=decide_eq_true c19
              clear c19
              by_cases c20 : 0 ≤ x9_3
              ·rw [if_pos c20] at H
               have c20b0 : decide (0 ≤ x9_3) = true:=decide_eq_true c20
               clear c20
               by_cases c21 : x9_3 < (l1.length : Int)
               ·rw [if_pos c21] at H
                have c21b0 : decide (x9_3 < (l1.length : Int)) = true:=decide_eq_true c21
                clear c21
                by_cases c22 : (rd l1 x8_2) = (rd l1 x9_3)
                ·rw [if_pos c22] at H
                 have c22b0 : ((rd l1 x8_2) == (rd l1 x9_3)) = true:=beq_iff_eq.mpr c22
                 have c22b1 : ((rd l1 x8_2) != (rd l1 x9_3)) = false:=bne_eq_false_iff_eq.mpr c22
                 clear c22
                 simp only [Option.some.injEq,Prod.mk.injEq] at H
                 obtain ⟨rfl,rfl⟩:=H
                 have p324 : 0 ≤ (x8_2 : Int):=of_decide_eq_true (by first|(with_reducible assumption)|assumption)
                 have q324 : x8_2 < (l1.length : Int):=of_decide_eq_true (by first|(with_reducible assumption)|assumption)
                 obtain ⟨ad324,e324,hx324_0⟩:=Kd.at_int HR1.out x8_2 p324 q324
                 cases e324
                 replace hx324_0:=(HB.out.cell (World.block_lt_of_cell? w _ hx324_0)).trans hx324_0
                 replace p324:=eq_true p324
                 replace q324:=eq_true q324
                 have p325 : 0 ≤ (x9_3 : Int):=of_decide_eq_true (by first|(with_reducible assumption)|assumption)
                 have q325 : x9_3 < (l1.length : Int):=of_decide_eq_true (by first|(with_reducible assumption)|assumption)
                 obtain ⟨ad325,e325,hx325_0⟩:=Kd.at_int HR1.out x9_3 p325 q325
                 obtain rfl : ad324 = ad325:=(by injection e325)
                 replace hx325_0:=(HB.out.cell (World.block_lt_of_cell? w _ hx325_0)).trans hx325_0
                 replace p325:=eq_true p325
                 replace q325:=eq_true q325
                 go_wp2
                 repeat (go_quiet (fail);try go_wp2)
                 go_ret2
                 exact ⟨_,by first|rfl|(simp [errW_none,errW_some] <;> rfl)|(simp [*,errW_none,errW_some] <;> rfl),by first|exact Kd.R_nil _ _ _ _ _|exact Kd.N_nil _ _ _ _ _|exact Kd.V_nil _ _ _ _ _|exact Kd.Q_nil _ _ _ _ _|exact Kd.S_nil _ _ _ _ _,by repeat (first|(with_reducible first|exact HB.out|apply zzD|apply zzE|apply zzF|refine below_set ?_ GE317.out)|exact HB.out)⟩
                ·rw [if_neg c22] at H
                 have c22b0 : ((rd l1 x8_2) == (rd l1 x9_3)) = false:=beq_eq_false_iff_ne.mpr c22
                 have c22b1 : ((rd l1 x8_2) != (rd l1 x9_3)) = true:=bne_iff_ne.mpr c22
                 have H':=Aside0.mk H
                 clear H
                 have p324 : 0 ≤ (x8_2 : Int):=of_decide_eq_true (by first|(with_reducible assumption)|assumption)
                 have q324 : x8_2 < (l1.length : Int):=of_decide_eq_true (by first|(with_reducible assumption)|assumption)
                 obtain ⟨ad324,e324,hx324_0⟩:=Kd.at_int HR1.out x8_2 p324 q324
                 cases e324
                 replace hx324_0:=(HB.out.cell (World.block_lt_of_cell? w _ hx324_0)).trans hx324_0
                 replace p324:=eq_true p324
                 replace q324:=eq_true q324
                 have p325 : 0 ≤ (x9_3 : Int):=of_decide_eq_true (by first|(with_reducible assumption)|assumption)
                 have q325 : x9_3 < (l1.length : Int):=of_decide_eq_true (by first|(with_reducible assumption)|assumption)
                 obtain ⟨ad325,e325,hx325_0⟩:=Kd.at_int HR1.out x9_3 p325 q325
                 obtain rfl : ad324 = ad325:=(by injection e325)
                 replace hx325_0:=(HB.out.cell (World.block_lt_of_cell? w _ hx325_0)).trans hx325_0
                 replace p325:=eq_true p325
                 replace q325:=eq_true q325
                 go_wp2
                 repeat (go_quiet (fail);try go_wp2)
                 go_roundg k3
                 case measure=>have:=HK1.out;have:=HK2.out;have:=HK3.out;omega
                 case rel=>exact ⟨(wrap64 (x9_3 + 1)),(by first|rfl|(simp;done)|(simp [*];done)),H',⟨by have:=HK1.out;have:=HK2.out;have:=HK3.out;omega⟩,⟨by (with_reducible repeat (first|refine blk_drewN ?_ _|refine blk_drew ?_|refine blk_alloc ?_ _));exact BK317.out⟩,⟨by repeat (first|(with_reducible first|exact HB.out|apply zzD|apply zzE|apply zzF|refine below_set ?_ GE317.out)|exact HB.out)⟩⟩
               ·rw [if_neg c21] at H
                exact absurd H (by simp)
              ·rw [if_neg c20] at H
               exact absurd H (by simp)
             ·rw [if_neg c19] at H
              exact absurd H (by simp)
            ·rw [if_neg c18] at H
             exact absurd H (by simp)
           ·rw [if_neg c17] at H
            have c17b0 : decide (x9_3 < x8_2) = false:=decide_eq_false c17
            clear c17
            have H':=Aside0.mk H
            clear H
            go_wp2
            repeat (go_quiet (fail);try go_wp2)
            go_roundg k3
            case measure=>have:=HK1.out;have:=HK2.out;have:=HK3.out;omega
            case rel=>exact ⟨(wrap64 (x8_2 + 1)),(by first|rfl|(simp;done)|(simp [*];done)),H',⟨by have:=HK1.out;have:=HK2.out;have:=HK3.out;omega⟩,⟨by (with_reducible repeat (first|refine blk_drewN ?_ _|refine blk_drew ?_|refine blk_alloc ?_ _));exact BK317.out⟩,⟨by repeat (first|(with_reducible first|exact HB.out|apply zzD|apply zzE|apply zzF|refine below_set ?_ GE317.out)|exact HB.out)⟩⟩
        ·rw [if_neg c16] at H
         have c16b0 : decide (x8_2 < (l1.length : Int)) = false:=decide_eq_false c16
         clear c16
         replace H:=Option.bind_eq_some_iff.mp H
         obtain ⟨t321,A230,H⟩:=H
         replace H : (some (t321,0)) = some (r1,r2):=H
         have A23:=Aside0.mk A230
         clear A230
         simp only [Option.some.injEq,Prod.mk.injEq] at H
         obtain ⟨rfl,rfl⟩:=H
         have hcz24_0 : wr.cell? ⟨gb317,0,none⟩ = some (.slice A0_0 l0_0.length c0_0):=(blk_cell BK317.out 0).trans rfl
         have hcz24_1 : wr.cell? ⟨gb317,1,none⟩ = some (.slice A0_1 l0_1.length c0_1):=(blk_cell BK317.out 1).trans rfl
         have hfz24_0:=blk_frozen BK317.out 0
         have hfz24_1:=blk_frozen BK317.out 1
         go_wp2_with (first|(go_at_call 53;(with_reducible refine (scarfjointref09_codeIn.calls k2 _ _ l0_0 _ _ l0_1 _ _ l1 t321 _ ?side1 ?side2 ?side3 ?side4 ?side5 ?side6 A23.out).mono ?_);(case side1=>repeat (first|exact (Kd.C_below HR0_0.out HB.out)|(with_reducible refine Kd.C_alloc ?_ _)|(with_reducible refine Kd.C_drewN ?_ _)|(with_reducible refine Kd.C_drew ?_)));(case side2=>exact HC0_0.out);(case side3=>repeat (first|exact (Kd.C_below HR0_1.out HB.out)|(with_reducible refine Kd.C_alloc ?_ _)|(with_reducible refine Kd.C_drewN ?_ _)|(with_reducible refine Kd.C_drew ?_)));(case side4=>exact HC0_1.out);(case side5=>repeat (first|exact (Kd.C_below HR1.out HB.out)|(with_reducible refine Kd.C_alloc ?_ _)|(with_reducible refine Kd.C_drewN ?_ _)|(with_reducible refine Kd.C_drew ?_)));(case side6=>exact HC1.out);rintro e w25 ⟨v322,rfl,ho0,hb⟩;have n0_:=Aside0.mk (Kd.R_lower ho0 (below_size (by repeat (first|(with_reducible first|exact HB.out|apply zzD|apply zzE|apply zzF|refine below_set ?_ GE317.out)|exact HB.out))));have n1_:=Aside0.mk (blk_below (g:=gb317) (o:=.cells #[.slice A0_0 l0_0.length c0_0,.slice A0_1 l0_1.length c0_1] 30 (0,0)) (by (with_reducible repeat (first|refine blk_drewN ?_ _|refine blk_drew ?_|refine blk_alloc ?_ _));exact BK317.out) hb);have n2_:=Aside0.mk (below_step (by repeat (first|(with_reducible first|exact HB.out|apply zzD|apply zzE|apply zzF|refine below_set ?_ GE317.out)|exact HB.out)) hb);clear BK317;clear HB;have HO323:=n0_;have BK317:=n1_;have HB:=n2_;clear n0_ n1_ n2_;(try clear hb);(try clear hb2);(try clear hk);(try clear hi);(try clear ho0)))
         repeat (go_quiet (first|(go_at_call 53;(with_reducible refine (scarfjointref09_codeIn.calls k2 _ _ l0_0 _ _ l0_1 _ _ l1 t321 _ ?side1 ?side2 ?side3 ?side4 ?side5 ?side6 A23.out).mono ?_);(case side1=>repeat (first|exact (Kd.C_below HR0_0.out HB.out)|(with_reducible refine Kd.C_alloc ?_ _)|(with_reducible refine Kd.C_drewN ?_ _)|(with_reducible refine Kd.C_drew ?_)));(case side2=>exact HC0_0.out);(case side3=>repeat (first|exact (Kd.C_below HR0_1.out HB.out)|(with_reducible refine Kd.C_alloc ?_ _)|(with_reducible refine Kd.C_drewN ?_ _)|(with_reducible refine Kd.C_drew ?_)));(case side4=>exact HC0_1.out);(case side5=>repeat (first|exact (Kd.C_below HR1.out HB.out)|(with_reducible refine Kd.C_alloc ?_ _)|(with_reducible refine Kd.C_drewN ?_ _)|(with_reducible refine Kd.C_drew ?_)));(case side6=>exact HC1.out);rintro e w25 ⟨v322,rfl,ho0,hb⟩;have n0_:=Aside0.mk (Kd.R_lower ho0 (below_size (by repeat (first|(with_reducible first|exact HB.out|apply zzD|apply zzE|apply zzF|refine below_set ?_ GE317.out)|exact HB.out))));have n1_:=Aside0.mk (blk_below (g:=gb317) (o:=.cells #[.slice A0_0 l0_0.length c0_0,.slice A0_1 l0_1.length c0_1] 30 (0,0)) (by (with_reducible repeat (first|refine blk_drewN ?_ _|refine blk_drew ?_|refine blk_alloc ?_ _));exact BK317.out) hb);have n2_:=Aside0.mk (below_step (by repeat (first|(with_reducible first|exact HB.out|apply zzD|apply zzE|apply zzF|refine below_set ?_ GE317.out)|exact HB.out)) hb);clear BK317;clear HB;have HO323:=n0_;have BK317:=n1_;have HB:=n2_;clear n0_ n1_ n2_;(try clear hb);(try clear hb2);(try clear hk);(try clear hi);(try clear ho0)));try go_wp2_with (first|(go_at_call 53;(with_reducible refine (scarfjointref09_codeIn.calls k2 _ _ l0_0 _ _ l0_1 _ _ l1 t321 _ ?side1 ?side2 ?side3 ?side4 ?side5 ?side6 A23.out).mono ?_);(case side1=>repeat (first|exact (Kd.C_below HR0_0.out HB.out)|(with_reducible refine Kd.C_alloc ?_ _)|(with_reducible refine Kd.C_drewN ?_ _)|(with_reducible refine Kd.C_drew ?_)));(case side2=>exact HC0_0.out);(case side3=>repeat (first|exact (Kd.C_below HR0_1.out HB.out)|(with_reducible refine Kd.C_alloc ?_ _)|(with_reducible refine Kd.C_drewN ?_ _)|(with_reducible refine Kd.C_drew ?_)));(case side4=>exact HC0_1.out);(case side5=>repeat (first|exact (Kd.C_below HR1.out HB.out)|(with_reducible refine Kd.C_alloc ?_ _)|(with_reducible refine Kd.C_drewN ?_ _)|(with_reducible refine Kd.C_drew ?_)));(case side6=>exact HC1.out);rintro e w25 ⟨v322,rfl,ho0,hb⟩;have n0_:=Aside0.mk (Kd.R_lower ho0 (below_size (by repeat (first|(with_reducible first|exact HB.out|apply zzD|apply zzE|apply zzF|refine below_set ?_ GE317.out)|exact HB.out))));have n1_:=Aside0.mk (blk_below (g:=gb317) (o:=.cells #[.slice A0_0 l0_0.length c0_0,.slice A0_1 l0_1.length c0_1] 30 (0,0)) (by (with_reducible repeat (first|refine blk_drewN ?_ _|refine blk_drew ?_|refine blk_alloc ?_ _));exact BK317.out) hb);have n2_:=Aside0.mk (below_step (by repeat (first|(with_reducible first|exact HB.out|apply zzD|apply zzE|apply zzF|refine below_set ?_ GE317.out)|exact HB.out)) hb);clear BK317;clear HB;have HO323:=n0_;have BK317:=n1_;have HB:=n2_;clear n0_ n1_ n2_;(try clear hb);(try clear hb2);(try clear hk);(try clear hi);(try clear ho0))))
         go_ret2
         exact ⟨_,by first|rfl|(simp [errW_none,errW_some] <;> rfl)|(simp [*,errW_none,errW_some] <;> rfl),by (with_reducible repeat (first|apply Kd.R_alloc|apply Kd.R_drewN|apply Kd.R_drew));exact HO323.out,by repeat (first|(with_reducible first|exact HB.out|apply zzD|apply zzE|apply zzF|refine below_set ?_ GE317.out)|exact HB.out)⟩
  ·rw [if_neg c5] at H
   have c5b0 : ((l1.length : Int) == (l0_0.length : Int)) = false:=beq_eq_false_iff_ne.mpr c5
   have c5b1 : ((l1.length : Int) != (l0_0.length : Int)) = true:=bne_iff_ne.mpr c5
   have c5b2 : (l1.length == l0_0.length) = false:=by first|simpa using c5|(simp at c5 ⊢;omega)
   simp only [Option.some.injEq,Prod.mk.injEq] at H
   obtain ⟨rfl,rfl⟩:=H
   go_enter Try.func24,Try.ntmps24
   go_wp2_with (first|((with_reducible refine gate_dst (N:=2) rfl ?_);(try (refine gate_guard (by rfl) ?_;dsimp only));refine box_event ?hg (N:=2) ?hd (cs:=#[.slice A0_0 l0_0.length c0_0,.slice A0_1 l0_1.length c0_1]) (t:=30) ?hr ?_;(case hd=>rfl);(case hg=>rfl);(case hr=>first|(go_simp;done)|(go_simp;rfl));intro gb317 hg w26 hbox hb;have n0_:=Aside0.mk (below_step (by repeat (first|(with_reducible first|exact HB.out|apply zzD|apply zzE|apply zzF)|exact HB.out)) hb);have n1_:=Aside0.mk (hbox);have n2_:=Aside0.mk ((by rw [hg];exact (below_size (by repeat (first|(with_reducible first|exact HB.out|apply zzD|apply zzE|apply zzF)|exact HB.out))) : w.heap.size ≤ gb317));have n3_:=Aside0.mk ((by rw [hg];exact (below_size (by repeat (first|(with_reducible first|exact HB.out|apply zzD|apply zzE|apply zzF)|exact HB.out))) : w.heap.size ≤ gb317));clear HB;have HB:=n0_;have BK317:=n1_;have GW317:=n2_;have GE317:=n3_;clear n0_ n1_ n2_ n3_;clear hb hbox hg;have hcz27_0 : w26.cell? ⟨gb317,0,none⟩ = some (.slice A0_0 l0_0.length c0_0):=(blk_cell BK317.out 0).trans rfl;have hcz27_1 : w26.cell? ⟨gb317,1,none⟩ = some (.slice A0_1 l0_1.length c0_1):=(blk_cell BK317.out 1).trans rfl;have hfz27_0:=blk_frozen BK317.out 0;have hfz27_1:=blk_frozen BK317.out 1)|(go_at_call 52;(with_reducible refine (scarfjointref09_Valid.calls k _ _ l0_0 _ _ l0_1 t318 _ ?side1 ?side2 ?side3 ?side4 A3.out).mono ?_);(case side1=>repeat (first|exact (Kd.C_below HR0_0.out HB.out)|(with_reducible refine Kd.C_alloc ?_ _)|(with_reducible refine Kd.C_drewN ?_ _)|(with_reducible refine Kd.C_drew ?_)));(case side2=>exact HC0_0.out);(case side3=>repeat (first|exact (Kd.C_below HR0_1.out HB.out)|(with_reducible refine Kd.C_alloc ?_ _)|(with_reducible refine Kd.C_drewN ?_ _)|(with_reducible refine Kd.C_drew ?_)));(case side4=>exact HC0_1.out);rintro e w28 ⟨rfl,hb⟩;have n0_:=Aside0.mk (blk_below (g:=gb317) (o:=.cells #[.slice A0_0 l0_0.length c0_0,.slice A0_1 l0_1.length c0_1] 30 (0,0)) (by (with_reducible repeat (first|refine blk_drewN ?_ _|refine blk_drew ?_|refine blk_alloc ?_ _));exact BK317.out) hb);have n1_:=Aside0.mk (below_step (by repeat (first|(with_reducible first|exact HB.out|apply zzD|apply zzE|apply zzF|refine below_set ?_ GE317.out)|exact HB.out)) hb);clear BK317;clear HB;have BK317:=n0_;have HB:=n1_;clear n0_ n1_;(try clear hb);(try clear hb2);(try clear hk);(try clear hi);have hcz29_0 : w28.cell? ⟨gb317,0,none⟩ = some (.slice A0_0 l0_0.length c0_0):=(blk_cell BK317.out 0).trans rfl;have hcz29_1 : w28.cell? ⟨gb317,1,none⟩ = some (.slice A0_1 l0_1.length c0_1):=(blk_cell BK317.out 1).trans rfl;have hfz29_0:=blk_frozen BK317.out 0;have hfz29_1:=blk_frozen BK317.out 1))
   repeat (go_quiet (first|((with_reducible refine gate_dst (N:=2) rfl ?_);(try (refine gate_guard (by rfl) ?_;dsimp only));refine box_event ?hg (N:=2) ?hd (cs:=#[.slice A0_0 l0_0.length c0_0,.slice A0_1 l0_1.length c0_1]) (t:=30) ?hr ?_;(case hd=>rfl);(case hg=>rfl);(case hr=>first|(go_simp;done)|(go_simp;rfl));intro gb317 hg w26 hbox hb;have n0_:=Aside0.mk (below_step (by repeat (first|(with_reducible first|exact HB.out|apply zzD|apply zzE|apply zzF)|exact HB.out)) hb);have n1_:=Aside0.mk (hbox);have n2_:=Aside0.mk ((by rw [hg];exact (below_size (by repeat (first|(with_reducible first|exact HB.out|apply zzD|apply zzE|apply zzF)|exact HB.out))) : w.heap.size ≤ gb317));have n3_:=Aside0.mk ((by rw [hg];exact (below_size (by repeat (first|(with_reducible first|exact HB.out|apply zzD|apply zzE|apply zzF)|exact HB.out))) : w.heap.size ≤ gb317));clear HB;have HB:=n0_;have BK317:=n1_;have GW317:=n2_;have GE317:=n3_;clear n0_ n1_ n2_ n3_;clear hb hbox hg;have hcz27_0 : w26.cell? ⟨gb317,0,none⟩ = some (.slice A0_0 l0_0.length c0_0):=(blk_cell BK317.out 0).trans rfl;have hcz27_1 : w26.cell? ⟨gb317,1,none⟩ = some (.slice A0_1 l0_1.length c0_1):=(blk_cell BK317.out 1).trans rfl;have hfz27_0:=blk_frozen BK317.out 0;have hfz27_1:=blk_frozen BK317.out 1)|(go_at_call 52;(with_reducible refine (scarfjointref09_Valid.calls k _ _ l0_0 _ _ l0_1 t318 _ ?side1 ?side2 ?side3 ?side4 A3.out).mono ?_);(case side1=>repeat (first|exact (Kd.C_below HR0_0.out HB.out)|(with_reducible refine Kd.C_alloc ?_ _)|(with_reducible refine Kd.C_drewN ?_ _)|(with_reducible refine Kd.C_drew ?_)));(case side2=>exact HC0_0.out);(case side3=>repeat (first|exact (Kd.C_below HR0_1.out HB.out)|(with_reducible refine Kd.C_alloc ?_ _)|(with_reducible refine Kd.C_drewN ?_ _)|(with_reducible refine Kd.C_drew ?_)));(case side4=>exact HC0_1.out);rintro e w28 ⟨rfl,hb⟩;have n0_:=Aside0.mk (blk_below (g:=gb317) (o:=.cells #[.slice A0_0 l0_0.length c0_0,.slice A0_1 l0_1.length c0_1] 30 (0,0)) (by (with_reducible repeat (first|refine blk_drewN ?_ _|refine blk_drew ?_|refine blk_alloc ?_ _));exact BK317.out) hb);have n1_:=Aside0.mk (below_step (by repeat (first|(with_reducible first|exact HB.out|apply zzD|apply zzE|apply zzF|refine below_set ?_ GE317.out)|exact HB.out)) hb);clear BK317;clear HB;have BK317:=n0_;have HB:=n1_;clear n0_ n1_;(try clear hb);(try clear hb2);(try clear hk);(try clear hi);have hcz29_0 : w28.cell? ⟨gb317,0,none⟩ = some (.slice A0_0 l0_0.length c0_0):=(blk_cell BK317.out 0).trans rfl;have hcz29_1 : w28.cell? ⟨gb317,1,none⟩ = some (.slice A0_1 l0_1.length c0_1):=(blk_cell BK317.out 1).trans rfl;have hfz29_0:=blk_frozen BK317.out 0;have hfz29_1:=blk_frozen BK317.out 1));try go_wp2_with (first|((with_reducible refine gate_dst (N:=2) rfl ?_);(try (refine gate_guard (by rfl) ?_;dsimp only));refine box_event ?hg (N:=2) ?hd (cs:=#[.slice A0_0 l0_0.length c0_0,.slice A0_1 l0_1.length c0_1]) (t:=30) ?hr ?_;(case hd=>rfl);(case hg=>rfl);(case hr=>first|(go_simp;done)|(go_simp;rfl));intro gb317 hg w26 hbox hb;have n0_:=Aside0.mk (below_step (by repeat (first|(with_reducible first|exact HB.out|apply zzD|apply zzE|apply zzF)|exact HB.out)) hb);have n1_:=Aside0.mk (hbox);have n2_:=Aside0.mk ((by rw [hg];exact (below_size (by repeat (first|(with_reducible first|exact HB.out|apply zzD|apply zzE|apply zzF)|exact HB.out))) : w.heap.size ≤ gb317));have n3_:=Aside0.mk ((by rw [hg];exact (below_size (by repeat (first|(with_reducible first|exact HB.out|apply zzD|apply zzE|apply zzF)|exact HB.out))) : w.heap.size ≤ gb317));clear HB;have HB:=n0_;have BK317:=n1_;have GW317:=n2_;have GE317:=n3_;clear n0_ n1_ n2_ n3_;clear hb hbox hg;have hcz27_0 : w26.cell? ⟨gb317,0,none⟩ = some (.slice A0_0 l0_0.length c0_0):=(blk_cell BK317.out 0).trans rfl;have hcz27_1 : w26.cell? ⟨gb317,1,none⟩ = some (.slice A0_1 l0_1.length c0_1):=(blk_cell BK317.out 1).trans rfl;have hfz27_0:=blk_frozen BK317.out 0;have hfz27_1:=blk_frozen BK317.out 1)|(go_at_call 52;(with_reducible refine (scarfjointref09_Valid.calls k _ _ l0_0 _ _ l0_1 t318 _ ?side1 ?side2 ?side3 ?side4 A3.out).mono ?_);(case side1=>repeat (first|exact (Kd.C_below HR0_0.out HB.out)|(with_reducible refine Kd.C_alloc ?_ _)|(with_reducible refine Kd.C_drewN ?_ _)|(with_reducible refine Kd.C_drew ?_)));(case side2=>exact HC0_0.out);(case side3=>repeat (first|exact (Kd.C_below HR0_1.out HB.out)|(with_reducible refine Kd.C_alloc ?_ _)|(with_reducible refine Kd.C_drewN ?_ _)|(with_reducible refine Kd.C_drew ?_)));(case side4=>exact HC0_1.out);rintro e w28 ⟨rfl,hb⟩;have n0_:=Aside0.mk (blk_below (g:=gb317) (o:=.cells #[.slice A0_0 l0_0.length c0_0,.slice A0_1 l0_1.length c0_1] 30 (0,0)) (by (with_reducible repeat (first|refine blk_drewN ?_ _|refine blk_drew ?_|refine blk_alloc ?_ _));exact BK317.out) hb);have n1_:=Aside0.mk (below_step (by repeat (first|(with_reducible first|exact HB.out|apply zzD|apply zzE|apply zzF|refine below_set ?_ GE317.out)|exact HB.out)) hb);clear BK317;clear HB;have BK317:=n0_;have HB:=n1_;clear n0_ n1_;(try clear hb);(try clear hb2);(try clear hk);(try clear hi);have hcz29_0 : w28.cell? ⟨gb317,0,none⟩ = some (.slice A0_0 l0_0.length c0_0):=(blk_cell BK317.out 0).trans rfl;have hcz29_1 : w28.cell? ⟨gb317,1,none⟩ = some (.slice A0_1 l0_1.length c0_1):=(blk_cell BK317.out 1).trans rfl;have hfz29_0:=blk_frozen BK317.out 0;have hfz29_1:=blk_frozen BK317.out 1)))
   go_ret2
   exact ⟨_,by first|rfl|(simp [errW_none,errW_some] <;> rfl)|(simp [*,errW_none,errW_some] <;> rfl),by first|exact Kd.R_nil _ _ _ _ _|exact Kd.N_nil _ _ _ _ _|exact Kd.V_nil _ _ _ _ _|exact Kd.Q_nil _ _ _ _ _|exact Kd.S_nil _ _ _ _ _,by repeat (first|(with_reducible first|exact HB.out|apply zzD|apply zzE|apply zzF|refine below_set ?_ GE317.out)|exact HB.out)⟩
 ·rw [if_neg c4] at H
  have c4b0 : (t318 == 0) = false:=beq_eq_false_iff_ne.mpr c4
  have c4b1 : (t318 != 0) = true:=bne_iff_ne.mpr c4
  simp only [Option.some.injEq,Prod.mk.injEq] at H
  obtain ⟨rfl,rfl⟩:=H
  go_enter Try.func24,Try.ntmps24
  go_wp2_with (first|((with_reducible refine gate_dst (N:=2) rfl ?_);(try (refine gate_guard (by rfl) ?_;dsimp only));refine box_event ?hg (N:=2) ?hd (cs:=#[.slice A0_0 l0_0.length c0_0,.slice A0_1 l0_1.length c0_1]) (t:=30) ?hr ?_;(case hd=>rfl);(case hg=>rfl);(case hr=>first|(go_simp;done)|(go_simp;rfl));intro gb317 hg w30 hbox hb;have n0_:=Aside0.mk (below_step (by repeat (first|(with_reducible first|exact HB.out|apply zzD|apply zzE|apply zzF)|exact HB.out)) hb);have n1_:=Aside0.mk (hbox);have n2_:=Aside0.mk ((by rw [hg];exact (below_size (by repeat (first|(with_reducible first|exact HB.out|apply zzD|apply zzE|apply zzF)|exact HB.out))) : w.heap.size ≤ gb317));have n3_:=Aside0.mk ((by rw [hg];exact (below_size (by repeat (first|(with_reducible first|exact HB.out|apply zzD|apply zzE|apply zzF)|exact HB.out))) : w.heap.size ≤ gb317));clear HB;have HB:=n0_;have BK317:=n1_;have GW317:=n2_;have GE317:=n3_;clear n0_ n1_ n2_ n3_;clear hb hbox hg;have hcz31_0 : w30.cell? ⟨gb317,0,none⟩ = some (.slice A0_0 l0_0.length c0_0):=(blk_cell BK317.out 0).trans rfl;have hcz31_1 : w30.cell? ⟨gb317,1,none⟩ = some (.slice A0_1 l0_1.length c0_1):=(blk_cell BK317.out 1).trans rfl;have hfz31_0:=blk_frozen BK317.out 0;have hfz31_1:=blk_frozen BK317.out 1)|(go_at_call 52;(with_reducible refine (scarfjointref09_Valid.calls k _ _ l0_0 _ _ l0_1 t318 _ ?side1 ?side2 ?side3 ?side4 A3.out).mono ?_);(case side1=>repeat (first|exact (Kd.C_below HR0_0.out HB.out)|(with_reducible refine Kd.C_alloc ?_ _)|(with_reducible refine Kd.C_drewN ?_ _)|(with_reducible refine Kd.C_drew ?_)));(case side2=>exact HC0_0.out);(case side3=>repeat (first|exact (Kd.C_below HR0_1.out HB.out)|(with_reducible refine Kd.C_alloc ?_ _)|(with_reducible refine Kd.C_drewN ?_ _)|(with_reducible refine Kd.C_drew ?_)));(case side4=>exact HC0_1.out);rintro e w32 ⟨rfl,hb⟩;have n0_:=Aside0.mk (blk_below (g:=gb317) (o:=.cells #[.slice A0_0 l0_0.length c0_0,.slice A0_1 l0_1.length c0_1] 30 (0,0)) (by (with_reducible repeat (first|refine blk_drewN ?_ _|refine blk_drew ?_|refine blk_alloc ?_ _));exact BK317.out) hb);have n1_:=Aside0.mk (below_step (by repeat (first|(with_reducible first|exact HB.out|apply zzD|apply zzE|apply zzF|refine below_set ?_ GE317.out)|exact HB.out)) hb);clear BK317;clear HB;have BK317:=n0_;have HB:=n1_;clear n0_ n1_;(try clear hb);(try clear hb2);(try clear hk);(try clear hi)))
  repeat (go_quiet (first|((with_reducible refine gate_dst (N:=2) rfl ?_);(try (refine gate_guard (by rfl) ?_;dsimp only));refine box_event ?hg (N:=2) ?hd (cs:=#[.slice A0_0 l0_0.length c0_0,.slice A0_1 l0_1.length c0_1]) (t:=30) ?hr ?_;(case hd=>rfl);(case hg=>rfl);(case hr=>first|(go_simp;done)|(go_simp;rfl));intro gb317 hg w30 hbox hb;have n0_:=Aside0.mk (below_step (by repeat (first|(with_reducible first|exact HB.out|apply zzD|apply zzE|apply zzF)|exact HB.out)) hb);have n1_:=Aside0.mk (hbox);have n2_:=Aside0.mk ((by rw [hg];exact (below_size (by repeat (first|(with_reducible first|exact HB.out|apply zzD|apply zzE|apply zzF)|exact HB.out))) : w.heap.size ≤ gb317));have n3_:=Aside0.mk ((by rw [hg];exact (below_size (by repeat (first|(with_reducible first|exact HB.out|apply zzD|apply zzE|apply zzF)|exact HB.out))) : w.heap.size ≤ gb317));clear HB;have HB:=n0_;have BK317:=n1_;have GW317:=n2_;have GE317:=n3_;clear n0_ n1_ n2_ n3_;clear hb hbox hg;have hcz31_0 : w30.cell? ⟨gb317,0,none⟩ = some (.slice A0_0 l0_0.length c0_0):=(blk_cell BK317.out 0).trans rfl;have hcz31_1 : w30.cell? ⟨gb317,1,none⟩ = some (.slice A0_1 l0_1.length c0_1):=(blk_cell BK317.out 1).trans rfl;have hfz31_0:=blk_frozen BK317.out 0;have hfz31_1:=blk_frozen BK317.out 1)|(go_at_call 52;(with_reducible refine (scarfjointref09_Valid.calls k _ _ l0_0 _ _ l0_1 t318 _ ?side1 ?side2 ?side3 ?side4 A3.out).mono ?_);(case side1=>repeat (first|exact (Kd.C_below HR0_0.out HB.out)|(with_reducible refine Kd.C_alloc ?_ _)|(with_reducible refine Kd.C_drewN ?_ _)|(with_reducible refine Kd.C_drew ?_)));(case side2=>exact HC0_0.out);(case side3=>repeat (first|exact (Kd.C_below HR0_1.out HB.out)|(with_reducible refine Kd.C_alloc ?_ _)|(with_reducible refine Kd.C_drewN ?_ _)|(with_reducible refine Kd.C_drew ?_)));(case side4=>exact HC0_1.out);rintro e w32 ⟨rfl,hb⟩;have n0_:=Aside0.mk (blk_below (g:=gb317) (o:=.cells #[.slice A0_0 l0_0.length c0_0,.slice A0_1 l0_1.length c0_1] 30 (0,0)) (by (with_reducible repeat (first|refine blk_drewN ?_ _|refine blk_drew ?_|refine blk_alloc ?_ _));exact BK317.out) hb);have n1_:=Aside0.mk (below_step (by repeat (first|(with_reducible first|exact HB.out|apply zzD|apply zzE|apply zzF|refine below_set ?_ GE317.out)|exact HB.out)) hb);clear BK317;clear HB;have BK317:=n0_;have HB:=n1_;clear n0_ n1_;(try clear hb);(try clear hb2);(try clear hk);(try clear hi)));try go_wp2_with (first|((with_reducible refine gate_dst (N:=2) rfl ?_);(try (refine gate_guard (by rfl) ?_;dsimp only));refine box_event ?hg (N:=2) ?hd (cs:=#[.slice A0_0 l0_0.length c0_0,.slice A0_1 l0_1.length c0_1]) (t:=30) ?hr ?_;(case hd=>rfl);(case hg=>rfl);(case hr=>first|(go_simp;done)|(go_simp;rfl));intro gb317 hg w30 hbox hb;have n0_:=Aside0.mk (below_step (by repeat (first|(with_reducible first|exact HB.out|apply zzD|apply zzE|apply zzF)|exact HB.out)) hb);have n1_:=Aside0.mk (hbox);have n2_:=Aside0.mk ((by rw [hg];exact (below_size (by repeat (first|(with_reducible first|exact HB.out|apply zzD|apply zzE|apply zzF)|exact HB.out))) : w.heap.size ≤ gb317));have n3_:=Aside0.mk ((by rw [hg];exact (below_size (by repeat (first|(with_reducible first|exact HB.out|apply zzD|apply zzE|apply zzF)|exact HB.out))) : w.heap.size ≤ gb317));clear HB;have HB:=n0_;have BK317:=n1_;have GW317:=n2_;have GE317:=n3_;clear n0_ n1_ n2_ n3_;clear hb hbox hg;have hcz31_0 : w30.cell? ⟨gb317,0,none⟩ = some (.slice A0_0 l0_0.length c0_0):=(blk_cell BK317.out 0).trans rfl;have hcz31_1 : w30.cell? ⟨gb317,1,none⟩ = some (.slice A0_1 l0_1.length c0_1):=(blk_cell BK317.out 1).trans rfl;have hfz31_0:=blk_frozen BK317.out 0;have hfz31_1:=blk_frozen BK317.out 1)|(go_at_call 52;(with_reducible refine (scarfjointref09_Valid.calls k _ _ l0_0 _ _ l0_1 t318 _ ?side1 ?side2 ?side3 ?side4 A3.out).mono ?_);(case side1=>repeat (first|exact (Kd.C_below HR0_0.out HB.out)|(with_reducible refine Kd.C_alloc ?_ _)|(with_reducible refine Kd.C_drewN ?_ _)|(with_reducible refine Kd.C_drew ?_)));(case side2=>exact HC0_0.out);(case side3=>repeat (first|exact (Kd.C_below HR0_1.out HB.out)|(with_reducible refine Kd.C_alloc ?_ _)|(with_reducible refine Kd.C_drewN ?_ _)|(with_reducible refine Kd.C_drew ?_)));(case side4=>exact HC0_1.out);rintro e w32 ⟨rfl,hb⟩;have n0_:=Aside0.mk (blk_below (g:=gb317) (o:=.cells #[.slice A0_0 l0_0.length c0_0,.slice A0_1 l0_1.length c0_1] 30 (0,0)) (by (with_reducible repeat (first|refine blk_drewN ?_ _|refine blk_drew ?_|refine blk_alloc ?_ _));exact BK317.out) hb);have n1_:=Aside0.mk (below_step (by repeat (first|(with_reducible first|exact HB.out|apply zzD|apply zzE|apply zzF|refine below_set ?_ GE317.out)|exact HB.out)) hb);clear BK317;clear HB;have BK317:=n0_;have HB:=n1_;clear n0_ n1_;(try clear hb);(try clear hb2);(try clear hk);(try clear hi))))
  go_ret2
  exact ⟨_,by first|rfl|(simp [errW_none,errW_some] <;> rfl)|(simp [*,errW_none,errW_some] <;> rfl),by first|exact Kd.R_nil _ _ _ _ _|exact Kd.N_nil _ _ _ _ _|exact Kd.V_nil _ _ _ _ _|exact Kd.Q_nil _ _ _ _ _|exact Kd.S_nil _ _ _ _ _,by repeat (first|(with_reducible first|exact HB.out|apply zzD|apply zzE|apply zzF|refine below_set ?_ GE317.out)|exact HB.out)⟩
end Go.Proofs.Ytgmomcjnldahjaa.Pr
namespace Go.Proofs.Ytgmomcjnldahjaa.Pr
open Go.RowKit Go.Proofs.YtgmomcjnldahjaaW.PrintWords Go.Proofs.YtgmomcjnldahjaaW.PrintLast Go.Proofs.YtgmomcjnldahjaaW.PrintMore
set_option linter.unusedVariables false
set_option linter.unusedSimpArgs false
section
variable {N : List Int} {L : List S34}
theorem codeInR_loop (hL : L.length ≤ 100) (o : List Nat) (ho : ∀ v ∈ o,v < N.length) (hol : o.length ≤ 900) : ∀ (rest pre : List Nat),o = pre ++ rest →
  Ev (fun q=>scarfjointref09_codeIn.l0 q (io o) ((N.length : Int) :: codeL N L (SB L) [] pre) ((pre.length : Int) + 1) N L) ((N.length : Int) :: codeL N L (SB L) [] o)
 | [],pre,he => by
  obtain rfl : o = pre:=by rw [he];simp
  refine Ev.step (f:=fun _=>some ((N.length : Int) :: codeL N L (SB L) [] o)) (fun q=>?_) (Ev.now _)
  rw [scarfjointref09_codeIn.l0,io_len,if_neg (by omega)]
 | k :: rest,pre,he => by
  have hk : k < N.length:=ho k (by rw [he];simp)
  have hpl : pre.length < o.length:=by rw [he];simp
  have hp : ∀ j ∈ pre,j < N.length:=fun j hj=>ho j (by rw [he];simp [hj])
  have ht : (io o).take ((pre.length : Int) + 1).toNat = io (pre ++ [k]):=by
   rw [show ((pre.length : Int) + 1).toNat = pre.length + 1 from by omega,he]
   simp [io,List.take_append]
   exact List.take_of_length_le (by simp)
  have h1:=codeL_len (fits_SB hL (n:=N.length)) pre [] (by simpa using hp) (by simp;omega) (N:=N)
  have h2:=place_len (fits_SB hL (n:=N.length)) hk pre hp
  have ih:=codeInR_loop hL o ho hol rest (pre ++ [k]) (by rw [he];simp)
  rw [codeL_snoc,← List.cons_append,← cast_snoc] at ih
  refine Ev.step (f:=fun q=>(scarfjointref09_piece.f q N L (io (pre ++ [k]))).bind fun t311=>(if ((N.length : Int) :: codeL N L (SB L) [] pre).length + t311.length < 17592186044416 then (scarfjointref09_codeIn.l0 q (io o) (((N.length : Int) :: codeL N L (SB L) [] pre) ++ t311) ((pre.length : Int) + 1 + 1) N L) else none)) (fun q=>?_) ?_
  ·rw [scarfjointref09_codeIn.l0,io_len,if_pos (by omega),if_pos (by omega),ht,w64 (by omega)]
  ·exact Ev.bind (pieceR_ev hL pre hk (by omega)) (Ev.ite_pos (by simp only [List.length_cons];omega) ih)
theorem codeInR_ev (hL : L.length ≤ 100) (o : List Nat) (ho : ∀ v ∈ o,v < N.length) (hol : o.length = N.length) (hn : N.length ≤ 900) : Ev (fun q=>scarfjointref09_codeIn.f q N L (io o)) (codeS N L (SB L) o):=by
 have:=codeInR_loop hL o ho (by omega) o [] rfl
 unfold scarfjointref09_codeIn.f codeS
 rw [hol]
 simpa [codeL] using this
theorem CodeInR_l2 (l : List Int) (hl : l.length ≤ 1000000) {r : List Int × Int} (pre rest : List Int) (x : Int) (he : l = pre ++ x :: rest) : ∀ (ra pa : List Int),pre = pa ++ ra → (x ∈ ra → r = ([],5)) → (x ∉ ra → Ev (fun q=>scarfjointref09_CodeIn.l1 q l ((pre.length : Int) + 1) N L) r) →
  Ev (fun q=>scarfjointref09_CodeIn.l2 q l (pre.length : Int) (pa.length : Int) N L) r
 | [],pa,hp,_,h2 => by
  have hpa : pa.length = pre.length:=by rw [hp];simp
  have hll : pre.length < l.length:=by rw [he];simp
  refine Ev.step (fun q=>?_) (h2 (by simp))
  rw [scarfjointref09_CodeIn.l2,if_neg (by omega),w64 (by omega)]
 | y :: ra,pa,hp,h1,h2 => by
  have hpa : pa.length < pre.length:=by rw [hp];simp
  have hll : pre.length < l.length:=by rw [he];simp
  have e1 : rd l (pre.length : Int) = x:=rd_at he
  have e2 : rd l (pa.length : Int) = y:=rd_at (rest:=ra ++ x :: rest) (by rw [he,hp];simp)
  by_cases hxy : x = y
  ·rw [h1 (by simp [hxy])]
   refine Ev.step (f:=fun _=>some (([] : List Int),(5 : Int))) (fun q=>?_) (Ev.now _)
   rw [scarfjointref09_CodeIn.l2,if_pos (by omega),if_pos (by omega),if_pos (by omega),if_pos (by omega),if_pos (by omega),e1,e2,if_pos hxy]
  ·have ih:=CodeInR_l2 l hl (r:=r) pre rest x he ra (pa ++ [y]) (by rw [hp];simp) (fun h=>h1 (by simp [h])) (fun h=>h2 (by simp [hxy,h]))
   rw [← cast_snoc] at ih
   refine Ev.step (fun q=>?_) ih
   rw [scarfjointref09_CodeIn.l2,if_pos (by omega),if_pos (by omega),if_pos (by omega),if_pos (by omega),if_pos (by omega),e1,e2,if_neg hxy,w64 (by omega)]
theorem CodeInR_l1 (l : List Int) (hl : l.length ≤ 1000000) {c : List Int} (hc : l.Nodup → Ev (fun q=>scarfjointref09_codeIn.f q N L l) c) : ∀ (rest pre : List Int),l = pre ++ rest → pre.Nodup →
  Ev (fun q=>scarfjointref09_CodeIn.l1 q l (pre.length : Int) N L) (if l.Nodup then (c,0) else ([],5))
 | [],pre,he,hn => by
  have hpl : pre.length = l.length:=by rw [he];simp
  have hnd : l.Nodup:=by rw [he];simpa using hn
  rw [if_pos hnd]
  refine Ev.step (f:=fun q=>(scarfjointref09_codeIn.f q N L l).bind fun t=>some (t,(0 : Int))) (fun q=>?_) (Ev.bind (hc hnd) (Ev.now _))
  rw [scarfjointref09_CodeIn.l1,if_neg (by omega)]
 | x :: rest,pre,he,hn => by
  have hpl : pre.length < l.length:=by rw [he];simp
  refine Ev.step (f:=fun q=>scarfjointref09_CodeIn.l2 q l (pre.length : Int) (([] : List Int).length : Int) N L) (fun q=>?_) ?_
  ·rw [scarfjointref09_CodeIn.l1,if_pos (by omega)];rfl
  ·refine CodeInR_l2 l hl pre rest x he pre [] rfl (fun h=>?_) (fun h=>?_)
   ·rw [if_neg]
    intro hnd
    rw [he] at hnd
    exact (List.nodup_append.1 hnd).2.2 x h x (by simp) rfl
   ·have:=CodeInR_l1 l hl hc rest (pre ++ [x]) (by rw [he];simp) (nodup_snoc hn h)
    rwa [← cast_snoc] at this
theorem CodeInR_l0 (l : List Int) (hl : l.length ≤ 1000000) {r : List Int × Int} : ∀ (rest pre : List Int),l = pre ++ rest → (rest.any (outB N.length) = true → r = ([],6)) → (rest.any (outB N.length) = false → Ev (fun q=>scarfjointref09_CodeIn.l1 q l 0 N L) r) →
  Ev (fun q=>scarfjointref09_CodeIn.l0 q l (pre.length : Int) N L) r
 | [],pre,he,_,h2 => by
  have hpl : pre.length = l.length:=by rw [he];simp
  refine Ev.step (fun q=>?_) (h2 rfl)
  rw [scarfjointref09_CodeIn.l0,if_neg (by omega)]
 | x :: rest,pre,he,h1,h2 => by
  have hpl : pre.length < l.length:=by rw [he];simp
  have e1 : rd l (pre.length : Int) = x:=rd_at he
  cases hx : outB N.length x
  ·have ih:=CodeInR_l0 l hl (r:=r) rest (pre ++ [x]) (by rw [he];simp) (fun h=>h1 (by simp [hx,h])) (fun h=>h2 (by simp [hx,h]))
   rw [← cast_snoc] at ih
   have hb : ¬ x < 0 ∧ ¬ x ≥ (N.length : Int):=by simp [outB] at hx;omega
   refine Ev.step (fun q=>?_) ih
   rw [scarfjointref09_CodeIn.l0,if_pos (by omega),if_pos (by omega),e1,if_neg hb.1,if_neg hb.2,w64 (by omega)]
  ·rw [h1 (by simp [hx])]
   refine Ev.step (f:=fun _=>some (([] : List Int),(6 : Int))) (fun q=>?_) (Ev.now _)
   rw [scarfjointref09_CodeIn.l0,if_pos (by omega),if_pos (by omega),e1]
   by_cases h3 : x < 0
   ·rw [if_pos h3]
   ·rw [if_neg h3,if_pos (by simp [outB,h3] at hx;omega)]
def codeinV (N : List Int) (L : List S34) (o : List Int) : List Int × Int:=if codeinE N L o = 0 then (codeS N L (SB L) (o.map Int.toNat),0) else ([],codeinE N L o)
theorem CodeInR_ev (hn : N.length ≤ 1000000) (hl : L.length ≤ 1000000) (o : List Int) (hol : o.length ≤ 1000000) : Ev (fun q=>scarfjointref09_CodeIn.f q N L o) (codeinV N L o):=by
 unfold scarfjointref09_CodeIn.f
 refine Ev.bind (validR_ev hl hn) ?_
 by_cases h1 : validE N L = 0
 ·have hL:=valid_len h1
  have h8:=(validE_zero h1).1
  refine Ev.ite_pos h1 ?_
  by_cases h2 : o.length = N.length
  ·refine Ev.ite_pos (by omega) ?_
   refine CodeInR_l0 o hol o [] rfl (fun h=>?_) (fun h=>?_)
   ·have e : codeinE N L o = 6:=by rw [codeinE,if_neg (by simp [h1]),if_neg (by simp [h2]),if_pos h]
    rw [codeinV,e];rfl
   ·have hv : ∀ v ∈ o,0 ≤ v ∧ v < (N.length : Int):=fun v hv=>by
     have:=List.any_eq_false.1 h v hv
     simp [outB] at this;omega
    have hio : io (o.map Int.toNat) = o:=io_toNat fun v h=>(hv v h).1
    have:=CodeInR_l1 o hol (c:=codeS N L (SB L) (o.map Int.toNat)) (fun _=>by
     have:=codeInR_ev (N:=N) (L:=L) (by omega) (o.map Int.toNat) (fun v h=>by obtain ⟨x,hx,rfl⟩:=List.mem_map.1 h;have:=hv x hx;omega) (by simp [h2]) (by omega)
     rwa [hio] at this) o [] rfl List.nodup_nil
    have e : codeinE N L o = if o.Nodup then 0 else 5:=by rw [codeinE,if_neg (by simp [h1]),if_neg (by simp [h2]),if_neg (by simp [h])]
    have e2 : codeinV N L o = if o.Nodup then (codeS N L (SB L) (o.map Int.toNat),0) else ([],5):=by
     rw [codeinV,e]
     by_cases hnd : o.Nodup
     ·rw [if_pos hnd,if_pos rfl,if_pos hnd]
     ·rw [if_neg hnd,if_neg hnd];rfl
    rw [e2];exact this
  ·have e : codeinE N L o = 20:=by rw [codeinE,if_neg (by simp [h1]),if_pos h2]
   refine Ev.ite_neg (by omega) ?_
   rw [codeinV,e];exact Ev.now _
 ·have e : codeinE N L o = validE N L:=by rw [codeinE,if_pos h1]
  refine Ev.ite_neg h1 ?_
  rw [codeinV,e,if_neg h1];exact Ev.now _
end
end Go.Proofs.Ytgmomcjnldahjaa.Pr
namespace Go.Proofs.Ytgmomcjnldahjaa.Pr
open Go.RowKit Go.Proofs.YtgmomcjnldahjaaW.PrintWords Go.Proofs.YtgmomcjnldahjaaW.PrintLast Go.Proofs.YtgmomcjnldahjaaW.PrintMore
attribute [local go_sem] max2_int min2_int max_two min_two max_three min_three max_four min_four
set_option linter.unusedVariables false
set_option linter.unusedSimpArgs false
section
variable {w : World} {A0 : Option Addr} {c0 : Nat} {N : List Int} {A1 : Option Addr} {c1 : Nat} {L : List S34} {A2 : Option Addr} {c2 : Nat} {o : List Int}
theorem cloneU_c (hr : Kd.C (Kd.int .i64) w A2 o.length o) (hc : o.length ≤ c2) (hl : o.length ≤ 1000000) :
  Calls Try.prog 18 #[.slice A2 o.length c2] w fun e w'=>∃ B d,e = .returned (.slice B o.length d) ∧ o.length ≤ d ∧ Kd.C (Kd.int .i64) w' B o.length o ∧ Below w.heap.size w w':=by
 refine Calls.mono (clone_c hr hc hl) fun e w' ⟨v,e1,h,hb⟩=>?_
 obtain ⟨B,d,rfl⟩:=Kd.R_slice h
 exact ⟨B,d,e1,(Kd.R_reads' h).2.1,(Kd.R_reads' h).2.2,hb⟩
theorem codeInR_c (hr0 : Kd.C (Kd.int .i64) w A0 N.length N) (hc0 : N.length ≤ c0) (hr1 : Kd.C k34 w A1 L.length L) (hc1 : L.length ≤ c1) (hr2 : Kd.C (Kd.int .i64) w A2 o.length o) (hc2 : o.length ≤ c2) (hn : N.length ≤ 1000000) (hl : L.length ≤ 1000000) (hol : o.length ≤ 1000000) :
  Calls Try.prog 24 #[.agg #[.slice A0 N.length c0,.slice A1 L.length c1],.slice A2 o.length c2] w fun e w'=>∃ B d,e = .returned (.tuple #[.slice B (codeinV N L o).1.length d,.int .i64 (codeinV N L o).2]) ∧ (codeinV N L o).1.length ≤ d ∧ Kd.C (Kd.int .i64) w' B (codeinV N L o).1.length (codeinV N L o).1 ∧ Below w.heap.size w w':=by
 obtain ⟨q,hq⟩:=(CodeInR_ev hn hl o hol (N:=N) (L:=L)).rounds
 refine Calls.mono (scarfjointref09_CodeIn.calls q A0 c0 N A1 c1 L A2 c2 o _ _ w hr0 hc0 hr1 hc1 hr2 hc2 hq) fun e w' ⟨v,e1,h,hb⟩=>?_
 obtain ⟨B,d,rfl⟩:=Kd.R_slice h
 exact ⟨B,d,e1,(Kd.R_reads' h).2.1,(Kd.R_reads' h).2.2,hb⟩
theorem codein_order {o : List Int} (h : codeinE N L o = 0) : validE N L = 0 ∧ GoodO N.length (o.map Int.toNat) ∧ (o.map Int.toNat).length = N.length:=by
 unfold codeinE at h
 split at h
 ·rename_i h1;exact absurd h h1
 ·rename_i h1
  split at h
  ·exact absurd h (by decide)
  ·rename_i h2
   split at h
   ·exact absurd h (by decide)
   ·rename_i h3
    split at h
    ·rename_i h4
     have hv : ∀ v ∈ o,0 ≤ v ∧ v < (N.length : Int):=fun v hv=>by
      have:=List.any_eq_false.1 (by simpa using h3) v hv
      simp [outB] at this;omega
     refine ⟨Classical.byContradiction h1,⟨?_,fun x hx=>?_⟩,by simp;omega⟩
     ·rw [List.nodup_iff_pairwise_ne,List.pairwise_map]
      refine (List.nodup_iff_pairwise_ne.1 h4).imp_of_mem fun {a b} ha hb hab e=>hab ?_
      have:=hv a ha;have:=hv b hb;omega
     ·obtain ⟨y,hy,rfl⟩:=List.mem_map.1 hx
      have:=hv y hy;omega
    ·exact absurd h (by decide)
theorem codeinU_c (hr0 : Kd.C (Kd.int .i64) w A0 N.length N) (hc0 : N.length ≤ c0) (hr1 : Kd.C k34 w A1 L.length L) (hc1 : L.length ≤ c1) (hr2 : Kd.C (Kd.int .i64) w A2 o.length o) (hc2 : o.length ≤ c2) (hol : o.length ≤ 1000000) (hL : validE N L = 0 → L.length < 20) :
  Calls Try.prog 21 #[.agg #[.slice A0 N.length c0,.slice A1 L.length c1],.slice A2 o.length c2] w fun e w'=>Below w.heap.size w w' ∧ ((codeinE N L o ≠ 0 ∧ e = .returned (.tuple #[.slice none 0 0,.int .i64 (codeinE N L o)])) ∨
   (codeinE N L o = 0 ∧ ∃ B d,e = .returned (.tuple #[.slice B (codeS N L (SB L) (o.map Int.toNat)).length d,.int .i64 0]) ∧ (codeS N L (SB L) (o.map Int.toNat)).length ≤ d ∧ Kd.C (Kd.int .i64) w' B (codeS N L (SB L) (o.map Int.toNat)).length (codeS N L (SB L) (o.map Int.toNat)))):=by
 refine Calls.mono (codein_calls (SB L) hr0 hc0 hr1 hc1 hr2 hc2 hol (fun h=>ok_SB (small_of_valid h) (hL h))) fun e w' ⟨hb,h⟩=>⟨hb,?_⟩
 rcases h with h | ⟨h1,v,e1,h2⟩
 ·exact .inl h
 ·obtain ⟨B,d,rfl⟩:=Kd.R_slice h2
  exact .inr ⟨h1,B,d,e1,(Kd.R_reads' h2).2.1,(Kd.R_reads' h2).2.2⟩
theorem codeL_len2 (hL : L.length ≤ 100) : ∀ (rest pre : List Nat),(∀ j ∈ pre ++ rest,j < N.length) → (pre ++ rest).length ≤ 9 → (codeL N L (SB L) pre rest).length ≤ 2000 * rest.length
 | [],pre,_,_ => by simp [codeL]
 | k :: rest,pre,hp,hl => by
  have a:=place_len (fits_SB hL (n:=N.length)) (hp k (by simp)) pre (fun j hj=>hp j (by simp [hj])) (N:=N)
  have ih:=codeL_len2 hL rest (pre ++ [k]) (by simpa using hp) (by simpa using hl)
  simp only [List.length_append,List.length_cons] at hl ih ⊢
  simp only [codeL,List.length_append]
  omega
theorem equal_nil {A : Option Addr} {c : Nat} (h : Kd.C (Kd.int .i64) w A 0 []) : Calls Try.prog 16 #[.slice none 0 0,.slice A 0 c] w fun e w'=>e = .returned (.bool true) ∧ Drawn0 w w':=by
 have:=equal_c (W:=w) (a:=[]) (b:=[]) (A:=none) (B:=A) (c:=0) (d:=c) (Kd.C_nil _ w) (Nat.le_refl _) h (Nat.zero_le _) (by simp)
 rw [decide_eq_true rfl] at this
 exact this
theorem codeG_of {p : List Nat} (h : bestR N L = some (p,codeS N L (SB L) p)) : codeS N L (SB L) p = codeG N L:=by
 unfold codeG;rw [h]
theorem le_decide {a b c : List Int} (h : a = b) (h2 : cmpL b c ≤ 0) : decide (cmpL a c ≤ 0) = true:=decide_eq_true (by rw [h];exact h2)
set_option maxHeartbeats 80000000 in
set_option maxRecDepth 100000 in
theorem lawCodeIn_calls (hr0 : Kd.C (Kd.int .i64) w A0 N.length N) (hc0 : N.length ≤ c0) (hr1 : Kd.C k34 w A1 L.length L) (hc1 : L.length ≤ c1) (hr2 : Kd.C (Kd.int .i64) w A2 o.length o) (hc2 : o.length ≤ c2) :
  Calls Try.prog 5 #[.agg #[.slice A0 N.length c0,.slice A1 L.length c1],.slice A2 o.length c2] w fun e w'=>e = .returned (.bool true) ∧ Below w.heap.size w w':=by
 have HAW:=Aside0.mk awake_calls
 have HLT:=Aside0.mk (fun W (hw : Below w.heap.size w W)=>light_c (w:=W) (Kd.C_below hr0 hw) hc0 (Kd.C_below hr1 hw) hc1)
 have HB:=Aside0.mk (Below.refl w.heap.size w)
 have hu30:=Try.underlying30
 cases hlt : lightB N L
 ·rw [hlt] at HLT
  clear hr0 hc0 hr1 hc1 hr2 hc2 hlt
  go_enter Try.func5,Try.ntmps5
  go_wp2_with (first|((with_reducible refine gate_dst (N:=2) rfl ?_);refine box_event ?hg (N:=2) ?hd (cs:=#[.slice A0 N.length c0,.slice A1 L.length c1]) (t:=30) ?hr ?_;(case hd=>rfl);(case hg=>rfl);(case hr=>first|(go_simp;done)|(go_simp;rfl));intro gb hg w1 hbox hb;have n0_:=Aside0.mk (below_step HB.out hb);clear HB;have HB:=n0_;clear n0_ hb hg;have BK:=Aside0.mk hbox;have hcgb0 : w1.cell? ⟨gb,0,none⟩ = some (.slice A0 N.length c0):=(blk_cell hbox 0).trans rfl;have hcgb1 : w1.cell? ⟨gb,1,none⟩ = some (.slice A1 L.length c1):=(blk_cell hbox 1).trans rfl;clear hbox)|(go_at_call 11;with_reducible refine (HAW.out _).mono ?_;rintro e w2 ⟨rfl,hb⟩;have BK_:=Aside0.mk (blk_below (g:=gb) (o:=.cells #[.slice A0 N.length c0,.slice A1 L.length c1] 30 (0,0)) (by (with_reducible repeat (first|refine blk_drewN ?_ _|refine blk_drew ?_|refine blk_alloc ?_ _));exact BK.out) hb);have n0_:=Aside0.mk (below_step (by repeat (first|(with_reducible first|exact HB.out|apply zzD|apply zzE|apply zzF)|exact HB.out)) hb);clear HB BK;have HB:=n0_;have BK:=BK_;clear n0_ hb BK_;have hcw20 : w2.cell? ⟨gb,0,none⟩ = some (.slice A0 N.length c0):=(blk_cell BK.out 0).trans rfl;have hcw21 : w2.cell? ⟨gb,1,none⟩ = some (.slice A1 L.length c1):=(blk_cell BK.out 1).trans rfl)|(go_at_call 23;with_reducible refine (HLT.out _ (by repeat (first|(with_reducible first|exact HB.out|apply zzD|apply zzE|apply zzF)|exact HB.out))).mono ?_;rintro e w3 ⟨rfl,hb⟩;have BK_:=Aside0.mk (blk_below (g:=gb) (o:=.cells #[.slice A0 N.length c0,.slice A1 L.length c1] 30 (0,0)) (by (with_reducible repeat (first|refine blk_drewN ?_ _|refine blk_drew ?_|refine blk_alloc ?_ _));exact BK.out) hb);have n0_:=Aside0.mk (below_step (by repeat (first|(with_reducible first|exact HB.out|apply zzD|apply zzE|apply zzF)|exact HB.out)) hb);clear HB BK;have HB:=n0_;have BK:=BK_;clear n0_ hb BK_))
  go_ret
  exact ⟨rfl,(by repeat (first|(with_reducible first|exact HB.out|apply zzD|apply zzE|apply zzF)|exact HB.out))⟩
 ·rw [hlt] at HLT
  by_cases h50 : o.length > 50
  ·have k5 : decide ((50 : Int) < (o.length : Int)) = true:=decide_eq_true (by omega)
   have k5' : decide (50 < o.length) = true:=decide_eq_true h50
   clear hr0 hc0 hr1 hc1 hr2 hc2 hlt h50
   go_enter Try.func5,Try.ntmps5
   go_wp2_with (first|((with_reducible refine gate_dst (N:=2) rfl ?_);refine box_event ?hg (N:=2) ?hd (cs:=#[.slice A0 N.length c0,.slice A1 L.length c1]) (t:=30) ?hr ?_;(case hd=>rfl);(case hg=>rfl);(case hr=>first|(go_simp;done)|(go_simp;rfl));intro gb hg w1 hbox hb;have n0_:=Aside0.mk (below_step HB.out hb);clear HB;have HB:=n0_;clear n0_ hb hg;have BK:=Aside0.mk hbox;have hcgb0 : w1.cell? ⟨gb,0,none⟩ = some (.slice A0 N.length c0):=(blk_cell hbox 0).trans rfl;have hcgb1 : w1.cell? ⟨gb,1,none⟩ = some (.slice A1 L.length c1):=(blk_cell hbox 1).trans rfl;clear hbox)|(go_at_call 11;with_reducible refine (HAW.out _).mono ?_;rintro e w2 ⟨rfl,hb⟩;have BK_:=Aside0.mk (blk_below (g:=gb) (o:=.cells #[.slice A0 N.length c0,.slice A1 L.length c1] 30 (0,0)) (by (with_reducible repeat (first|refine blk_drewN ?_ _|refine blk_drew ?_|refine blk_alloc ?_ _));exact BK.out) hb);have n0_:=Aside0.mk (below_step (by repeat (first|(with_reducible first|exact HB.out|apply zzD|apply zzE|apply zzF)|exact HB.out)) hb);clear HB BK;have HB:=n0_;have BK:=BK_;clear n0_ hb BK_;have hcw20 : w2.cell? ⟨gb,0,none⟩ = some (.slice A0 N.length c0):=(blk_cell BK.out 0).trans rfl;have hcw21 : w2.cell? ⟨gb,1,none⟩ = some (.slice A1 L.length c1):=(blk_cell BK.out 1).trans rfl)|(go_at_call 23;with_reducible refine (HLT.out _ (by repeat (first|(with_reducible first|exact HB.out|apply zzD|apply zzE|apply zzF)|exact HB.out))).mono ?_;rintro e w3 ⟨rfl,hb⟩;have BK_:=Aside0.mk (blk_below (g:=gb) (o:=.cells #[.slice A0 N.length c0,.slice A1 L.length c1] 30 (0,0)) (by (with_reducible repeat (first|refine blk_drewN ?_ _|refine blk_drew ?_|refine blk_alloc ?_ _));exact BK.out) hb);have n0_:=Aside0.mk (below_step (by repeat (first|(with_reducible first|exact HB.out|apply zzD|apply zzE|apply zzF)|exact HB.out)) hb);clear HB BK;have HB:=n0_;have BK:=BK_;clear n0_ hb BK_))
   go_ret
   exact ⟨rfl,(by repeat (first|(with_reducible first|exact HB.out|apply zzD|apply zzE|apply zzF)|exact HB.out))⟩
  ·have k5 : decide ((50 : Int) < (o.length : Int)) = false:=decide_eq_false (by omega)
   have k5' : decide (50 < o.length) = false:=decide_eq_false h50
   obtain ⟨hn,hl,hv⟩:=light_is hlt
   have HV:=Aside0.mk (show validE N L = 0 → L.length < 20 from fun h=>by have:=hv h;omega)
   have HCP:=Aside0.mk (fun W (hw : Below w.heap.size w W)=>copied_c (w:=W) (Kd.C_below hr0 hw) hc0 (Kd.C_below hr1 hw) hc1 (by omega) (by omega))
   have HCL:=Aside0.mk (fun W (hw : Below w.heap.size w W)=>cloneU_c (w:=W) (Kd.C_below hr2 hw) hc2 (by omega))
   have HCR:=Aside0.mk (fun W (hw : Below w.heap.size w W)=>codeInR_c (w:=W) (Kd.C_below hr0 hw) hc0 (Kd.C_below hr1 hw) hc1 (Kd.C_below hr2 hw) hc2 (by omega) (by omega) (by omega))
   have HCD:=Aside0.mk (fun W (hw : Below w.heap.size w W)=>code_c (w:=W) (Kd.C_below hr0 hw) hc0 (Kd.C_below hr1 hw) hc1 HV.out)
   have HCI:=Aside0.mk (fun W (B0 B1 B2 : Option Addr) (e0 e1 e2 : Nat) (q0 : Kd.C (Kd.int .i64) W B0 N.length N) (q1 : N.length ≤ e0) (q2 : Kd.C k34 W B1 L.length L) (q3 : L.length ≤ e1) (q4 : Kd.C (Kd.int .i64) W B2 o.length o) (q5 : o.length ≤ e2)=>codeinU_c (w:=W) q0 q1 q2 q3 q4 q5 (by omega) HV.out)
   have HOL:=Aside0.mk (show o.length ≤ 1000000 by omega)
   have HLL:=Aside0.mk (show L.length ≤ 90 from hl)
   clear hr0 hc0 hr1 hc1 hr2 hc2 hlt hn hl hv h50
   by_cases hz : codeinE N L o = 0
   ·have HZ:=Aside0.mk hz
    obtain ⟨hv0,hg,hgl⟩:=codein_order hz
    have HV0:=Aside0.mk hv0
    have e1 : codeinV N L o = (codeS N L (SB L) (o.map Int.toNat),0):=by rw [codeinV,if_pos hz]
    rw [e1] at HCR
    have HLE:=Aside0.mk (codeG_least (N:=N) (L:=L) hg hgl)
    have HCS:=Aside0.mk (show (codeS N L (SB L) (o.map Int.toNat)).length ≤ 1000000 from by
     have h8:=(validE_zero hv0).1
     have a:=codeL_len2 (N:=N) (L:=L) (by have:=HLL.out;omega) (o.map Int.toNat) [] (by simpa using hg.2) (by rw [List.nil_append,hgl];omega)
     simp only [codeS,List.length_cons]
     rw [hgl] at a;omega)
    generalize codeS N L (SB L) (o.map Int.toNat) = cs at HCR HLE HCS HCI
    clear hz hv0 hg hgl e1
    go_enter Try.func5,Try.ntmps5
    go_wp2_with (first|((with_reducible refine gate_dst (N:=2) rfl ?_);refine box_event ?hg (N:=2) ?hd (cs:=#[.slice A0 N.length c0,.slice A1 L.length c1]) (t:=30) ?hr ?_;(case hd=>rfl);(case hg=>rfl);(case hr=>first|(go_simp;done)|(go_simp;rfl));intro gb hg w1 hbox hb;have n0_:=Aside0.mk (below_step HB.out hb);clear HB;have HB:=n0_;clear n0_ hb hg;have BK:=Aside0.mk hbox;have hcgb0 : w1.cell? ⟨gb,0,none⟩ = some (.slice A0 N.length c0):=(blk_cell hbox 0).trans rfl;have hcgb1 : w1.cell? ⟨gb,1,none⟩ = some (.slice A1 L.length c1):=(blk_cell hbox 1).trans rfl;clear hbox)|(go_at_call 11;with_reducible refine (HAW.out _).mono ?_;rintro e w2 ⟨rfl,hb⟩;have BK_:=Aside0.mk (blk_below (g:=gb) (o:=.cells #[.slice A0 N.length c0,.slice A1 L.length c1] 30 (0,0)) (by (with_reducible repeat (first|refine blk_drewN ?_ _|refine blk_drew ?_|refine blk_alloc ?_ _));exact BK.out) hb);have n0_:=Aside0.mk (below_step (by repeat (first|(with_reducible first|exact HB.out|apply zzD|apply zzE|apply zzF)|exact HB.out)) hb);clear HB BK;have HB:=n0_;have BK:=BK_;clear n0_ hb BK_;have hcw20 : w2.cell? ⟨gb,0,none⟩ = some (.slice A0 N.length c0):=(blk_cell BK.out 0).trans rfl;have hcw21 : w2.cell? ⟨gb,1,none⟩ = some (.slice A1 L.length c1):=(blk_cell BK.out 1).trans rfl)|(go_at_call 23;with_reducible refine (HLT.out _ (by repeat (first|(with_reducible first|exact HB.out|apply zzD|apply zzE|apply zzF)|exact HB.out))).mono ?_;rintro e w3 ⟨rfl,hb⟩;have BK_:=Aside0.mk (blk_below (g:=gb) (o:=.cells #[.slice A0 N.length c0,.slice A1 L.length c1] 30 (0,0)) (by (with_reducible repeat (first|refine blk_drewN ?_ _|refine blk_drew ?_|refine blk_alloc ?_ _));exact BK.out) hb);have n0_:=Aside0.mk (below_step (by repeat (first|(with_reducible first|exact HB.out|apply zzD|apply zzE|apply zzF)|exact HB.out)) hb);clear HB BK;have HB:=n0_;have BK:=BK_;clear n0_ hb BK_;have hcw30 : w3.cell? ⟨gb,0,none⟩ = some (.slice A0 N.length c0):=(blk_cell BK.out 0).trans rfl;have hcw31 : w3.cell? ⟨gb,1,none⟩ = some (.slice A1 L.length c1):=(blk_cell BK.out 1).trans rfl)|(go_at_call 13;with_reducible refine (HCP.out _ (by repeat (first|(with_reducible first|exact HB.out|apply zzD|apply zzE|apply zzF)|exact HB.out))).mono ?_;rintro e w4 ⟨B0,d0,B1,d1,rfl,q0,q1,q2,q3,hb⟩;have Q0:=Aside0.mk q0;have Q1:=Aside0.mk q1;have Q2:=Aside0.mk q2;have Q3:=Aside0.mk q3;clear q0 q1 q2 q3;have BK_:=Aside0.mk (blk_below (g:=gb) (o:=.cells #[.slice A0 N.length c0,.slice A1 L.length c1] 30 (0,0)) (by (with_reducible repeat (first|refine blk_drewN ?_ _|refine blk_drew ?_|refine blk_alloc ?_ _));exact BK.out) hb);have n0_:=Aside0.mk (below_step (by repeat (first|(with_reducible first|exact HB.out|apply zzD|apply zzE|apply zzF)|exact HB.out)) hb);clear HB BK;have HB:=n0_;have BK:=BK_;clear n0_ hb BK_)|(go_at_call 18;with_reducible refine (HCL.out _ (by repeat (first|(with_reducible first|exact HB.out|apply zzD|apply zzE|apply zzF)|exact HB.out))).mono ?_;rintro e w5 ⟨B2,d2,rfl,q4,q5,hb⟩;have KI:=Aside0.mk (HCI.out w5 _ _ _ _ _ _ (Kd.C_below Q0.out hb) Q1.out (Kd.C_below Q2.out hb) Q3.out q5 q4);clear q4 q5;have BK_:=Aside0.mk (blk_below (g:=gb) (o:=.cells #[.slice A0 N.length c0,.slice A1 L.length c1] 30 (0,0)) (by (with_reducible repeat (first|refine blk_drewN ?_ _|refine blk_drew ?_|refine blk_alloc ?_ _));exact BK.out) hb);have n0_:=Aside0.mk (below_step (by repeat (first|(with_reducible first|exact HB.out|apply zzD|apply zzE|apply zzF)|exact HB.out)) hb);clear HB BK;have HB:=n0_;have BK:=BK_;clear n0_ hb BK_)|(go_at_call 21;with_reducible refine KI.out.mono ?_;rintro e w6 ⟨hb,⟨hx,_⟩ | ⟨_,A6,c6,rfl,m6,r6⟩⟩;(case inl=>exact absurd HZ.out hx);have M6:=Aside0.mk m6;have R6:=Aside0.mk r6;clear m6 r6;have BK_:=Aside0.mk (blk_below (g:=gb) (o:=.cells #[.slice A0 N.length c0,.slice A1 L.length c1] 30 (0,0)) (by (with_reducible repeat (first|refine blk_drewN ?_ _|refine blk_drew ?_|refine blk_alloc ?_ _));exact BK.out) hb);have n0_:=Aside0.mk (below_step (by repeat (first|(with_reducible first|exact HB.out|apply zzD|apply zzE|apply zzF)|exact HB.out)) hb);clear HB BK;have HB:=n0_;have BK:=BK_;clear n0_ hb BK_;have hcw60 : w6.cell? ⟨gb,0,none⟩ = some (.slice A0 N.length c0):=(blk_cell BK.out 0).trans rfl;have hcw61 : w6.cell? ⟨gb,1,none⟩ = some (.slice A1 L.length c1):=(blk_cell BK.out 1).trans rfl;have H6:=Aside0.mk (Below.refl w6.heap.size w6))|(go_at_call 24;with_reducible refine (HCR.out _ (by repeat (first|(with_reducible first|exact HB.out|apply zzD|apply zzE|apply zzF)|exact HB.out))).mono ?_;rintro e w7 ⟨A7,c7,rfl,m7,r7,hb⟩;have M7:=Aside0.mk m7;have R7:=Aside0.mk r7;clear m7 r7;have H6_:=Aside0.mk (below_step (by repeat (first|(with_reducible first|exact H6.out|apply zzD|apply zzE|apply zzF)|exact H6.out)) hb);clear H6;have H6:=H6_;clear H6_;have KE:=Aside0.mk (equal_c (W:=w7) (Kd.C_below R6.out H6.out) M6.out R7.out M7.out HCS.out);rw [decide_eq_true rfl] at KE;have BK_:=Aside0.mk (blk_below (g:=gb) (o:=.cells #[.slice A0 N.length c0,.slice A1 L.length c1] 30 (0,0)) (by (with_reducible repeat (first|refine blk_drewN ?_ _|refine blk_drew ?_|refine blk_alloc ?_ _));exact BK.out) hb);have n0_:=Aside0.mk (below_step (by repeat (first|(with_reducible first|exact HB.out|apply zzD|apply zzE|apply zzF)|exact HB.out)) hb);clear HB BK;have HB:=n0_;have BK:=BK_;clear n0_ hb BK_)|(go_at_call 16;with_reducible refine KE.out.mono ?_;rintro e w8 ⟨rfl,hdr⟩;have hb:=hdr.below;clear hdr;have H6_:=Aside0.mk (below_step (by repeat (first|(with_reducible first|exact H6.out|apply zzD|apply zzE|apply zzF)|exact H6.out)) hb);clear H6;have H6:=H6_;clear H6_;have BK_:=Aside0.mk (blk_below (g:=gb) (o:=.cells #[.slice A0 N.length c0,.slice A1 L.length c1] 30 (0,0)) (by (with_reducible repeat (first|refine blk_drewN ?_ _|refine blk_drew ?_|refine blk_alloc ?_ _));exact BK.out) hb);have n0_:=Aside0.mk (below_step (by repeat (first|(with_reducible first|exact HB.out|apply zzD|apply zzE|apply zzF)|exact HB.out)) hb);clear HB BK;have HB:=n0_;have BK:=BK_;clear n0_ hb BK_;have hcw80 : w8.cell? ⟨gb,0,none⟩ = some (.slice A0 N.length c0):=(blk_cell BK.out 0).trans rfl;have hcw81 : w8.cell? ⟨gb,1,none⟩ = some (.slice A1 L.length c1):=(blk_cell BK.out 1).trans rfl)|(go_at_call 25;with_reducible refine (HCD.out _ (by repeat (first|(with_reducible first|exact HB.out|apply zzD|apply zzE|apply zzF)|exact HB.out))).mono ?_;rintro e w9 ⟨hb,⟨hx,_⟩ | ⟨_,p,A9,c9,rfl,e2,_,_,l9,m9,r9⟩⟩;(case inl=>exact absurd HV0.out hx);have H6_:=Aside0.mk (below_step (by repeat (first|(with_reducible first|exact H6.out|apply zzD|apply zzE|apply zzF)|exact H6.out)) hb);clear H6;have H6:=H6_;clear H6_;have eG:=Aside0.mk (codeG_of e2);have kle:=le_decide eG.out HLE.out;have KC:=Aside0.mk (compare_c (W:=w9) r9 m9 (Kd.C_below R6.out H6.out) M6.out l9);clear l9 m9 r9 e2;have BK_:=Aside0.mk (blk_below (g:=gb) (o:=.cells #[.slice A0 N.length c0,.slice A1 L.length c1] 30 (0,0)) (by (with_reducible repeat (first|refine blk_drewN ?_ _|refine blk_drew ?_|refine blk_alloc ?_ _));exact BK.out) hb);have n0_:=Aside0.mk (below_step (by repeat (first|(with_reducible first|exact HB.out|apply zzD|apply zzE|apply zzF)|exact HB.out)) hb);clear HB BK;have HB:=n0_;have BK:=BK_;clear n0_ hb BK_)|(go_at_call 26;with_reducible refine KC.out.mono ?_;rintro e w10 ⟨rfl,hdr⟩;have hb:=hdr.below;clear hdr;have BK_:=Aside0.mk (blk_below (g:=gb) (o:=.cells #[.slice A0 N.length c0,.slice A1 L.length c1] 30 (0,0)) (by (with_reducible repeat (first|refine blk_drewN ?_ _|refine blk_drew ?_|refine blk_alloc ?_ _));exact BK.out) hb);have n0_:=Aside0.mk (below_step (by repeat (first|(with_reducible first|exact HB.out|apply zzD|apply zzE|apply zzF)|exact HB.out)) hb);clear HB BK;have HB:=n0_;have BK:=BK_;clear n0_ hb BK_))
    go_ret
    exact ⟨rfl,(by repeat (first|(with_reducible first|exact HB.out|apply zzD|apply zzE|apply zzF)|exact HB.out))⟩
   ·obtain ⟨E,hE⟩ : ∃ E,codeinE N L o = E:=⟨_,rfl⟩
    have e1 : codeinV N L o = ([],E):=by rw [codeinV,if_neg hz,hE]
    rw [e1] at HCR
    rw [hE] at HCI hz
    have HZ:=Aside0.mk hz
    have kE : (E == E) = true:=by simp
    have kE' : (E != E) = false:=by simp
    have k1 : (E != 0) = true:=bne_iff_ne.mpr hz
    have k1' : (E == 0) = false:=beq_eq_false_iff_ne.mpr hz
    clear hz hE e1
    go_enter Try.func5,Try.ntmps5
    go_wp2_with (first|((with_reducible refine gate_dst (N:=2) rfl ?_);refine box_event ?hg (N:=2) ?hd (cs:=#[.slice A0 N.length c0,.slice A1 L.length c1]) (t:=30) ?hr ?_;(case hd=>rfl);(case hg=>rfl);(case hr=>first|(go_simp;done)|(go_simp;rfl));intro gb hg w1 hbox hb;have n0_:=Aside0.mk (below_step HB.out hb);clear HB;have HB:=n0_;clear n0_ hb hg;have BK:=Aside0.mk hbox;have hcgb0 : w1.cell? ⟨gb,0,none⟩ = some (.slice A0 N.length c0):=(blk_cell hbox 0).trans rfl;have hcgb1 : w1.cell? ⟨gb,1,none⟩ = some (.slice A1 L.length c1):=(blk_cell hbox 1).trans rfl;clear hbox)|(go_at_call 11;with_reducible refine (HAW.out _).mono ?_;rintro e w2 ⟨rfl,hb⟩;have BK_:=Aside0.mk (blk_below (g:=gb) (o:=.cells #[.slice A0 N.length c0,.slice A1 L.length c1] 30 (0,0)) (by (with_reducible repeat (first|refine blk_drewN ?_ _|refine blk_drew ?_|refine blk_alloc ?_ _));exact BK.out) hb);have n0_:=Aside0.mk (below_step (by repeat (first|(with_reducible first|exact HB.out|apply zzD|apply zzE|apply zzF)|exact HB.out)) hb);clear HB BK;have HB:=n0_;have BK:=BK_;clear n0_ hb BK_;have hcw20 : w2.cell? ⟨gb,0,none⟩ = some (.slice A0 N.length c0):=(blk_cell BK.out 0).trans rfl;have hcw21 : w2.cell? ⟨gb,1,none⟩ = some (.slice A1 L.length c1):=(blk_cell BK.out 1).trans rfl)|(go_at_call 23;with_reducible refine (HLT.out _ (by repeat (first|(with_reducible first|exact HB.out|apply zzD|apply zzE|apply zzF)|exact HB.out))).mono ?_;rintro e w3 ⟨rfl,hb⟩;have BK_:=Aside0.mk (blk_below (g:=gb) (o:=.cells #[.slice A0 N.length c0,.slice A1 L.length c1] 30 (0,0)) (by (with_reducible repeat (first|refine blk_drewN ?_ _|refine blk_drew ?_|refine blk_alloc ?_ _));exact BK.out) hb);have n0_:=Aside0.mk (below_step (by repeat (first|(with_reducible first|exact HB.out|apply zzD|apply zzE|apply zzF)|exact HB.out)) hb);clear HB BK;have HB:=n0_;have BK:=BK_;clear n0_ hb BK_;have hcw30 : w3.cell? ⟨gb,0,none⟩ = some (.slice A0 N.length c0):=(blk_cell BK.out 0).trans rfl;have hcw31 : w3.cell? ⟨gb,1,none⟩ = some (.slice A1 L.length c1):=(blk_cell BK.out 1).trans rfl)|(go_at_call 13;with_reducible refine (HCP.out _ (by repeat (first|(with_reducible first|exact HB.out|apply zzD|apply zzE|apply zzF)|exact HB.out))).mono ?_;rintro e w4 ⟨B0,d0,B1,d1,rfl,q0,q1,q2,q3,hb⟩;have Q0:=Aside0.mk q0;have Q1:=Aside0.mk q1;have Q2:=Aside0.mk q2;have Q3:=Aside0.mk q3;clear q0 q1 q2 q3;have BK_:=Aside0.mk (blk_below (g:=gb) (o:=.cells #[.slice A0 N.length c0,.slice A1 L.length c1] 30 (0,0)) (by (with_reducible repeat (first|refine blk_drewN ?_ _|refine blk_drew ?_|refine blk_alloc ?_ _));exact BK.out) hb);have n0_:=Aside0.mk (below_step (by repeat (first|(with_reducible first|exact HB.out|apply zzD|apply zzE|apply zzF)|exact HB.out)) hb);clear HB BK;have HB:=n0_;have BK:=BK_;clear n0_ hb BK_)|(go_at_call 18;with_reducible refine (HCL.out _ (by repeat (first|(with_reducible first|exact HB.out|apply zzD|apply zzE|apply zzF)|exact HB.out))).mono ?_;rintro e w5 ⟨B2,d2,rfl,q4,q5,hb⟩;have KI:=Aside0.mk (HCI.out w5 _ _ _ _ _ _ (Kd.C_below Q0.out hb) Q1.out (Kd.C_below Q2.out hb) Q3.out q5 q4);clear q4 q5;have BK_:=Aside0.mk (blk_below (g:=gb) (o:=.cells #[.slice A0 N.length c0,.slice A1 L.length c1] 30 (0,0)) (by (with_reducible repeat (first|refine blk_drewN ?_ _|refine blk_drew ?_|refine blk_alloc ?_ _));exact BK.out) hb);have n0_:=Aside0.mk (below_step (by repeat (first|(with_reducible first|exact HB.out|apply zzD|apply zzE|apply zzF)|exact HB.out)) hb);clear HB BK;have HB:=n0_;have BK:=BK_;clear n0_ hb BK_)|(go_at_call 21;with_reducible refine KI.out.mono ?_;rintro e w6 ⟨hb,⟨_,rfl⟩ | ⟨hx,_⟩⟩;rotate_left;exact absurd hx HZ.out;have BK_:=Aside0.mk (blk_below (g:=gb) (o:=.cells #[.slice A0 N.length c0,.slice A1 L.length c1] 30 (0,0)) (by (with_reducible repeat (first|refine blk_drewN ?_ _|refine blk_drew ?_|refine blk_alloc ?_ _));exact BK.out) hb);have n0_:=Aside0.mk (below_step (by repeat (first|(with_reducible first|exact HB.out|apply zzD|apply zzE|apply zzF)|exact HB.out)) hb);clear HB BK;have HB:=n0_;have BK:=BK_;clear n0_ hb BK_;have hcw60 : w6.cell? ⟨gb,0,none⟩ = some (.slice A0 N.length c0):=(blk_cell BK.out 0).trans rfl;have hcw61 : w6.cell? ⟨gb,1,none⟩ = some (.slice A1 L.length c1):=(blk_cell BK.out 1).trans rfl)|(go_at_call 24;with_reducible refine (HCR.out _ (by repeat (first|(with_reducible first|exact HB.out|apply zzD|apply zzE|apply zzF)|exact HB.out))).mono ?_;rintro e w7 ⟨A7,c7,rfl,m7,r7,hb⟩;have KE:=Aside0.mk (fun (W : World) (hw : Below w7.heap.size w7 W)=>equal_nil (w:=W) (c:=c7) (Kd.C_below r7 hw));clear m7 r7;have BK_:=Aside0.mk (blk_below (g:=gb) (o:=.cells #[.slice A0 N.length c0,.slice A1 L.length c1] 30 (0,0)) (by (with_reducible repeat (first|refine blk_drewN ?_ _|refine blk_drew ?_|refine blk_alloc ?_ _));exact BK.out) hb);have n0_:=Aside0.mk (below_step (by repeat (first|(with_reducible first|exact HB.out|apply zzD|apply zzE|apply zzF)|exact HB.out)) hb);clear HB BK;have HB:=n0_;have BK:=BK_;clear n0_ hb BK_;have H7:=Aside0.mk (Below.refl w7.heap.size w7))|(go_at_call 16;with_reducible refine (KE.out _ (by repeat (first|(with_reducible first|exact H7.out|apply zzD|apply zzE|apply zzF)|exact H7.out))).mono ?_;rintro e w8 ⟨rfl,hdr⟩;have hb:=hdr.below;clear hdr;have H7_:=Aside0.mk (below_step (by repeat (first|(with_reducible first|exact H7.out|apply zzD|apply zzE|apply zzF)|exact H7.out)) hb);have HB_:=Aside0.mk (below_step (by repeat (first|(with_reducible first|exact HB.out|apply zzD|apply zzE|apply zzF)|exact HB.out)) hb);clear H7 HB;have H7:=H7_;have HB:=HB_;clear hb H7_ HB_))
    go_ret
    exact ⟨rfl,(by repeat (first|(with_reducible first|exact HB.out|apply zzD|apply zzE|apply zzF)|exact HB.out))⟩
end
end Go.Proofs.Ytgmomcjnldahjaa.Pr
