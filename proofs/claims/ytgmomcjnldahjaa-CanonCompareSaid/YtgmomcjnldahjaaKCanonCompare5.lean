/- Part 5 of what the law CanonCompare rests on: this project's own texts (Tb, Tc, Td, Ub, Vb, Vc, Vd, Ve, Uc, Wa, Wb), merged and without what is not used. Conditions: each theorem has its own. -/
import Derived.Test.YtgmomcjnldahjaaKCanonCompare4
import Derived.Test.YtgmomcjnldahjaaKCanonCompare3
open List renaming setIfInBounds_toArray → zzA, set_cons_zero → zzB, set_cons_succ → zzC
open Go.Proofs.YtgmomcjnldahjaaW.PrintWords renaming below_alloc → zzD, pw_below_drewN → zzE, below_drew1 → zzF
namespace Go.Proofs.Ytgmomcjnldahjaa.Pr
open Go.RowKit Go.Proofs.YtgmomcjnldahjaaW.PrintWords Go.Proofs.YtgmomcjnldahjaaW.PrintLast Go.Proofs.YtgmomcjnldahjaaW.PrintMore
attribute [local go_sem] max2_int min2_int max_two min_two max_three min_three max_four min_four
set_option linter.unusedVariables false
set_option linter.unusedSimpArgs false
abbrev PK (gX gp gq : Nat) (k : Nat) : Prop:=k = gX ∨ k = gp ∨ k = gq
structure OfE (Wb W0 : World) (gt gT gO g1 gM gX gp gq : Nat) (A0 : Option Addr) (c0 : Nat) (N : List Int) (A1 : Option Addr) (c1 : Nat) (L : List S34) (gR : Nat) (S : Nat → Nat → List Int) (Ao : Option Addr) (co : Nat) (o : List Nat) : Prop where
 hT : Tab Wb gt A0 c0 N A1 c1 L gR S
 hC : Kd.C (Kd.int .i64) Wb Ao N.length (io o)
 hW : Below Wb.heap.size Wb W0
 sX : Wb.heap.size ≤ gX
 sp : Wb.heap.size ≤ gp
 sq : Wb.heap.size ≤ gq
 h1 : W0.heap[g1]? = some (.cells #[.slice A0 N.length c0,.slice A1 L.length c1] 30 (0,0)) ∧ ¬ PK gX gp gq g1
 hTb : W0.heap[gT]? = some (.cells #[.pointer (some ⟨gt,0,none⟩)] 68 (0,0)) ∧ ¬ PK gX gp gq gT
 hO : W0.heap[gO]? = some (.cells #[.slice Ao N.length co] 27 (0,0)) ∧ ¬ PK gX gp gq gO
 hM : W0.heap[gM]? = some (.cells #[.slice (some ⟨gp,0,none⟩) N.length N.length,.slice (some ⟨gq,0,none⟩) L.length L.length] 55 (0,0)) ∧ ¬ PK gX gp gq gM
 ho : ∀ v ∈ o,v < N.length
 hol : o.length = N.length
 hn : N.length ≤ 9
 hL : L.length ≤ 20
 oc : N.length ≤ co
 xp : gX ≠ gp
 xq : gX ≠ gq
 pq : gp ≠ gq
 bX : gX < W0.heap.size
 bp : gp < W0.heap.size
 bq : gq < W0.heap.size
section
variable {Wb W0 : World} {gt gT gO g1 gM gX gp gq : Nat} {A0 : Option Addr} {c0 : Nat} {N : List Int} {A1 : Option Addr} {c1 : Nat} {L : List S34} {gR : Nat} {S : Nat → Nat → List Int} {Ao : Option Addr} {co : Nat} {o : List Nat}
theorem OfE.le (h : OfE Wb W0 gt gT gO g1 gM gX gp gq A0 c0 N A1 c1 L gR S Ao co o) : ∀ k,PK gX gp gq k → Wb.heap.size ≤ k:=fun k hk=>by
 rcases hk with rfl|rfl|rfl
 ·exact h.sX
 ·exact h.sp
 ·exact h.sq
theorem OfE.cell (h : OfE Wb W0 gt gT gO g1 gM gX gp gq A0 c0 N A1 c1 L gR S Ao co o) {a : Addr} {v : Value} (hc : Wb.cell? a = some v) {W' : World} (hk : Kept W0 W' (PK gX gp gq)) : W'.cell? a = some v :=
 cell_kept (pw_cell_below h.hW hc) hk (fun hp=>by have:=h.le _ hp;have:=World.block_lt_of_cell? Wb a hc;omega)
theorem OfE.boxes (h : OfE Wb W0 gt gT gO g1 gM gX gp gq A0 c0 N A1 c1 L gR S Ao co o) {W' : World} (hk : Kept W0 W' (PK gX gp gq)) :
  W'.heap[g1]? = some (.cells #[.slice A0 N.length c0,.slice A1 L.length c1] 30 (0,0)) ∧ W'.heap[gT]? = some (.cells #[.pointer (some ⟨gt,0,none⟩)] 68 (0,0)) ∧ W'.heap[gO]? = some (.cells #[.slice Ao N.length co] 27 (0,0)) ∧
  W'.heap[gM]? = some (.cells #[.slice (some ⟨gp,0,none⟩) N.length N.length,.slice (some ⟨gq,0,none⟩) L.length L.length] 55 (0,0)) :=
 ⟨blk_kept h.h1.1 hk h.h1.2,blk_kept h.hTb.1 hk h.hTb.2,blk_kept h.hO.1 hk h.hO.2,blk_kept h.hM.1 hk h.hM.2⟩
theorem OfE.reads (h : OfE Wb W0 gt gT gO g1 gM gX gp gq A0 c0 N A1 c1 L gR S Ao co o) {α : Type} {d : Kd α} (hd : Kd.Heap d) {A : Option Addr} {n : Nat} {xs : List α} (hC : d.C Wb A n xs) {W' : World} (hk : Kept W0 W' (PK gX gp gq)) : d.C W' A n xs :=
 Kd.C_kept_came hd hC h.hW h.le W' hk
end
structure OfI (W : World) (base gX gp gq n m : Nat) (vX vY : Value) (xs : List Int) (ys : List S34) (P Q : List Int) : Prop where
 hX : W.heap[gX]? = some (.cells #[vX,vY] 30 (0,0))
 hP : W.heap[gp]? = some (.cells (P.map (Value.int .i64)).toArray 3 (0,0))
 hQ : W.heap[gq]? = some (.cells (Q.map (Value.int .i64)).toArray 3 (0,0))
 lP : P.length = n
 lQ : Q.length = m
 rX : Kd.R (Kd.int .i64) 3 W base (fun _=>True) vX xs
 rY : Kd.R k34 34 W base (fun _=>True) vY ys
def put1 (L : List S34) (i j : Nat) (st : List Int × List S34) (a : Int) : List Int × List S34:=(st.1.set a.toNat (st.2.length : Int),st.2 ++ [⟨(rd_T34 L a).f0,(i : Int),(j : Int)⟩])
theorem put_len (L : List S34) (i j : Nat) : ∀ (r : List Int) (st : List Int × List S34),(r.foldl (put1 L i j) st).2.length = st.2.length + r.length
 | [],st => by simp
 | a :: r,st => by rw [List.foldl_cons,put_len L i j r];simp [put1];omega
section
variable {α : Type} {d : Kd α} {e base : Nat} {ok : Nat → Prop} {v : Value} {xs : List α} {W W' : World}
theorem R_over (h : Kd.R d e W base ok v xs) (hk : ∀ k,base ≤ k → k < W.heap.size → W'.heap[k]? = W.heap[k]?) : Kd.R d e W' base ok v xs :=
 Kd.R_mono (Kd.R_step (Kd.R_bound h) (fun k hk' hlt=>hk k hk'.2.1 hlt)) (fun _ hk=>hk.1)
end
theorem map_set_arr (Q : List Int) (i : Nat) (x : Int) : (Q.map (Value.int .i64)).toArray.setIfInBounds i (.int .i64 x) = ((Q.set i x).map (Value.int .i64)).toArray:=by
 apply Array.toList_inj.1
 simp [List.map_set]
section
variable {W W' : World} {base gX gp gq n m : Nat} {vX vY : Value} {xs : List Int} {ys : List S34} {P Q : List Int}
theorem OfI.setQ (h : OfI W base gX gp gq n m vX vY xs ys P Q) (hxq : gX ≠ gq) (hpq : gp ≠ gq) (hq : gq < base) (i : Nat) (x : Int) : OfI (W.setCell ⟨gq,i,none⟩ (.int .i64 x)) base gX gp gq n m vX vY xs ys P (Q.set i x) :=
 ⟨blk_far h.hX hxq _,blk_far h.hP hpq _,blk_put h.hQ i _ (map_set_arr Q i x),h.lP,by rw [List.length_set];exact h.lQ,R_over h.rX (fun k hk _=>Below.heap_setCell W _ _ k (by show k ≠ gq;omega)),R_over h.rY (fun k hk _=>Below.heap_setCell W _ _ k (by show k ≠ gq;omega))⟩
theorem OfI.setP (h : OfI W base gX gp gq n m vX vY xs ys P Q) (hxp : gX ≠ gp) (hpq : gp ≠ gq) (hp : gp < base) (i : Nat) (x : Int) : OfI (W.setCell ⟨gp,i,none⟩ (.int .i64 x)) base gX gp gq n m vX vY xs ys (P.set i x) Q :=
 ⟨blk_far h.hX hxp _,blk_put h.hP i _ (map_set_arr P i x),blk_far h.hQ hpq.symm _,by rw [List.length_set];exact h.lP,h.lQ,R_over h.rX (fun k hk _=>Below.heap_setCell W _ _ k (by show k ≠ gp;omega)),R_over h.rY (fun k hk _=>Below.heap_setCell W _ _ k (by show k ≠ gp;omega))⟩
theorem OfI.putY (h : OfI W base gX gp gq n m vX vY xs ys P Q) (hxp : gX ≠ gp) (hxq : gX ≠ gq) (hX : gX < base) (hp : gp < base) (hq : gq < base) {W1 : World} {v1 : Value} {ys1 : List S34} (hv : Kd.R k34 34 W1 base (fun _=>True) v1 ys1) (hg : W.grownBy W1 vY.ownBlock) : OfI (W1.setCell ⟨gX,1,none⟩ v1) base gX gp gq n m vX v1 xs ys1 P Q:=by
 have key : ∀ k,k < base → some k ≠ vY.ownBlock:=fun k hk he=>by have:=Kd.R_base h.rY k he.symm;omega
 refine ⟨blk_put (blk_grown h.hX hg (key _ hX)) 1 _ rfl,blk_far (blk_grown h.hP hg (key _ hp)) hxp.symm _,blk_far (blk_grown h.hQ hg (key _ hq)) hxq.symm _,h.lP,h.lQ,?_,?_⟩
 ·have h1 : Kd.R (Kd.int .i64) 3 W base (fun k=>some k ≠ vY.ownBlock) vX xs:=Kd.R_mono (Kd.R_bound h.rX) (fun k hk he=>by
   obtain ⟨_,_,_,q,hq,cells,hc⟩:=hk
   obtain ⟨inner,ho⟩:=Kd.R_own h.rY
   obtain ⟨cs,hcs⟩:=own_typed ho k he.symm
   simp [Kd.int,Kd.scalar] at hq
   subst hq
   exact ty_ne hc hcs (by decide) rfl)
  have h2:=Kd.R_grown h1 hg (fun k hk=>hk)
  exact Kd.R_mono (R_over h2 (fun k hk _=>Below.heap_setCell W1 _ _ k (by show k ≠ gX;omega))) (fun _ _=>trivial)
 ·exact R_over hv (fun k hk _=>Below.heap_setCell W1 _ _ k (by show k ≠ gX;omega))
theorem OfI.putX (h : OfI W base gX gp gq n m vX vY xs ys P Q) (hxp : gX ≠ gp) (hxq : gX ≠ gq) (hX : gX < base) (hp : gp < base) (hq : gq < base) {W1 : World} {v1 : Value} {xs1 : List Int} (hv : Kd.R (Kd.int .i64) 3 W1 base (fun _=>True) v1 xs1) (hg : W.grownBy W1 vX.ownBlock) : OfI (W1.setCell ⟨gX,0,none⟩ v1) base gX gp gq n m v1 vY xs1 ys P Q:=by
 have key : ∀ k,k < base → some k ≠ vX.ownBlock:=fun k hk he=>by have:=Kd.R_base h.rX k he.symm;omega
 refine ⟨blk_put (blk_grown h.hX hg (key _ hX)) 0 _ rfl,blk_far (blk_grown h.hP hg (key _ hp)) hxp.symm _,blk_far (blk_grown h.hQ hg (key _ hq)) hxq.symm _,h.lP,h.lQ,?_,?_⟩
 ·exact R_over hv (fun k hk _=>Below.heap_setCell W1 _ _ k (by show k ≠ gX;omega))
 ·have h1 : Kd.R k34 34 W base (fun k=>some k ≠ vX.ownBlock) vY ys:=Kd.R_mono (Kd.R_bound h.rY) (fun k hk he=>by
   obtain ⟨_,_,_,q,hq,cells,hc⟩:=hk
   obtain ⟨inner,ho⟩:=Kd.R_own h.rX
   obtain ⟨cs,hcs⟩:=own_typed ho k he.symm
   simp [k34,Kd.iso,Kd.pair,Kd.int,Kd.scalar] at hq
   subst hq
   exact ty_ne hc hcs (by decide) rfl)
  have h2:=Kd.R_grown h1 hg (fun k hk=>hk)
  exact Kd.R_mono (R_over h2 (fun k hk _=>Below.heap_setCell W1 _ _ k (by show k ≠ gX;omega))) (fun _ _=>trivial)
theorem OfI.below (h : OfI W base gX gp gq n m vX vY xs ys P Q) (hb : Below W.heap.size W W') : OfI W' base gX gp gq n m vX vY xs ys P Q :=
 ⟨blk_below h.hX hb,blk_below h.hP hb,blk_below h.hQ hb,h.lP,h.lQ,Kd.R_below h.rX hb,Kd.R_below h.rY hb⟩
end
end Go.Proofs.Ytgmomcjnldahjaa.Pr
namespace Go.Proofs.Ytgmomcjnldahjaa.Pr
open Go.RowKit Go.Proofs.YtgmomcjnldahjaaW.PrintWords Go.Proofs.YtgmomcjnldahjaaW.PrintLast Go.Proofs.YtgmomcjnldahjaaW.PrintMore
attribute [local go_sem] max2_int min2_int max_two min_two max_three min_three max_four min_four
set_option linter.unusedVariables false
set_option linter.unusedSimpArgs false
theorem below_thenB {B B2 : Nat} {w W W2 : World} (h : Below B w W) (h2 : Below B2 W W2) (hle : B ≤ B2) : Below B w W2 :=
 ⟨h2.os.trans h.os,h2.tape.trans h.tape,h2.output.trans h.output,Nat.le_trans h.size h2.size,fun k hk=>(h2.block k (Nat.lt_of_lt_of_le hk hle)).trans (h.block k hk)⟩
theorem below_setB {B : Nat} {w W : World} (h : Below B w W) {p : Addr} (hp : B ≤ p.block) (u : Value) : Below B w (W.setCell p u) :=
 below_thenB h ⟨rfl,rfl,rfl,by simp [World.setCell],fun k hk=>Below.heap_setCell W p u k (by omega)⟩ (Nat.le_refl B)
theorem below_drewNB {B : Nat} {w W : World} (h : Below B w W) (n : Nat) : Below B w (W.drewN n):=below_thenB h (zzE (Below.refl _ _) n) (Nat.le_refl B)
def put.T4 : Bool × List (List Nat × List Nat):=(true,[([],[]),([0],[0]),([],[]),([2],[2]),([],[]),([3,4],[3,4]),([5],[5]),([6],[6]),([],[]),([],[]),([7,8,9],[7,8,9]),([10],[10]),([1,11],[1,11]),([0,1,2,3,4,5,6,7,8,9,10,11,12],[]),([13,12,12,0,1,2,3,4,5,6,7,8,9,10,11,12],[12,13])])
def put.B4 : List Nat:=[0,1,0,4,0,28,60,124,0,0,1020,2044,4095,8191,16383]
theorem put.tab4 : rtab .any (opsOf Try.f56 4) = put.T4:=by kernel_rfl
theorem put.bits4 : waitsOk put.T4.2 put.B4 = true:=by kernel_rfl
theorem ent56 : Ent 56:=⟨_,Try.func56,rfl,rfl⟩
section
variable {Wb W0 : World} {gt gT gO g1 gM gX gp gq : Nat} {A0 : Option Addr} {c0 : Nat} {N : List Int} {A1 : Option Addr} {c1 : Nat} {L : List S34} {gR : Nat} {S : Nat → Nat → List Int} {Ao : Option Addr} {co : Nat} {o : List Nat}
theorem S4.of (hE : OfE Wb W0 gt gT gO g1 gM gX gp gq A0 c0 N A1 c1 L gR S Ao co o) {W : World} {i : Nat} (hk : Kept W0 W (PK gX gp gq)) (hx : ∃ cs : Array Value,i < cs.size ∧ W.heap[gX]? = some (.cells cs 30 (0,0))) {p : Addr} {e : Value} (he : Wb.cell? p = some e) :
  W.cell? ⟨gX,i,none⟩ = some (cellOr W ⟨gX,i,none⟩) ∧ W.frozen? ⟨gX,i,none⟩ = false ∧ W.cell? ⟨g1,0,none⟩ = some (.slice A0 N.length c0) ∧ W.cell? ⟨g1,1,none⟩ = some (.slice A1 L.length c1) ∧ W.cell? p = some e ∧ Kept W0 W (PK gX gp gq) ∧ ∃ cs : Array Value,i < cs.size ∧ W.heap[gX]? = some (.cells cs 30 (0,0)):=by
 obtain ⟨cs,h1,h2⟩:=hx
 have hb:=(hE.boxes hk).1
 exact ⟨cell_or ((blk_cell h2 i).trans (Array.getElem?_eq_getElem h1)),blk_frozen h2 i,(blk_cell hb 0).trans rfl,(blk_cell hb 1).trans rfl,hE.cell he hk,hk,cs,h1,h2⟩
theorem app34_drew {P : Program} {ops : Array Oper} {Q : Exit → Act → World → Prop} {Kc : Act → World → Prop} {o : Oper} {a : Act} {w0 W : World} (base : Nat) (hw : Region.wanted o (yielded ops a.tmps) = true) (s x : Operand) (t : TypeId)
  (ho : o.op = .call { callee:=.builtin .append,args:=#[s,x],argTypes:=#[t,t] }) (ht : P.underlying t = some (.slice 34)) (hinfo : (P.info? 34).map (fun i=>(i.zero,i.size,i.bytes)) = some (some (.agg #[.int .i64 0,.int .i64 0,.int .i64 0]),3,24))
  (v : Value) (xs : List S34) (p : S34) (hs : a.eval s = v) (hx : a.eval x = .slice (some ⟨W.heap.size,0,none⟩) 1 1) (HO : Kd.R k34 34 W base (fun _=>True) v xs) (HB : Below base w0 W) (hbase : base ≤ W.heap.size) (hl : (xs.length + 1) * 24 ≤ 140737488355328)
  (h : ∀ v1 w1,Kd.R k34 34 w1 base (fun _=>True) v1 (xs ++ [p]) → Below base w0 w1 → W.grownBy w1 v.ownBlock → (v1.ownBlock = v.ownBlock ∨ ∃ b,v1.ownBlock = some b ∧ W.heap.size ≤ b) → Kc (a.put o.dst v1) w1) :
  if Region.wanted o (yielded ops a.tmps) = true then Oper.wp P o a (W.alloc (.cells #[.int .i64 p.f0,.int .i64 p.f1,.int .i64 p.f2] 34 (0,0))).drew Kc Q else Kc (a.put o.dst undef) (W.alloc (.cells #[.int .i64 p.f0,.int .i64 p.f1,.int .i64 p.f2] 34 (0,0))).drew :=
 Kd.R_append_step k34 (w0:=w0) (W:=W.drew) base hw s x t 34 (.agg #[.int .i64 0,.int .i64 0,.int .i64 0]) 24 ho ht hinfo rfl (by decide) (by omega) v xs p [.int .i64 p.f0,.int .i64 p.f1,.int .i64 p.f2] (fun _=>True) (fun _=>False) hs hx (k34_mkM _ _ _ p) (fun _ hk=>hk.elim) (fun _ _=>trivial) (Kd.R_drew HO) (zzF HB) hbase hl
  (fun v1 w1 a1 a2 a3 a4=>h v1 w1 a1 a2 ⟨a3.os,a3.tape,a3.output,a3.size,a3.block⟩ a4)
set_option maxHeartbeats 8000000 in
set_option maxRecDepth 100000 in
theorem clo56_calls (hE : OfE Wb W0 gt gT gO g1 gM gX gp gq A0 c0 N A1 c1 L gR S Ao co o) {i j : Nat} (hi : i < N.length) (hj : j < N.length) {w : World} (hK : Kept W0 w (PK gX gp gq)) {vX vY : Value} {xs : List Int} {ys : List S34} {P Q : List Int} (hI : OfI w W0.heap.size gX gp gq N.length L.length vX vY xs ys P Q) (hy : ys.length ≤ 1000000) {Bs : Nat} {wB : World} (hBw : Below Bs wB w) (hs : ∀ k,PK gX gp gq k → Bs ≤ k) (hs0 : Bs ≤ W0.heap.size) :
  Calls Try.prog 56 #[.int .i64 (i : Int),.int .i64 (j : Int),.pointer (some ⟨gT,0,none⟩),.pointer (some ⟨gO,0,none⟩),.pointer (some ⟨gX,0,none⟩),.pointer (some ⟨gM,0,none⟩),.pointer (some ⟨g1,0,none⟩)] w fun e w'=>e = .returned (.tuple #[]) ∧ Kept W0 w' (PK gX gp gq) ∧ Below Bs wB w' ∧
   ∃ vY',OfI w' W0.heap.size gX gp gq N.length L.length vX vY' xs ((S (o.getD i 0) (o.getD j 0)).foldl (put1 L i j) (Q,ys)).2 P ((S (o.getD i 0) (o.getD j 0)).foldl (put1 L i j) (Q,ys)).1:=by
 have hT:=hE.hT
 have hC:=hE.hC
 obtain ⟨h1,hTb,hO,hM⟩:=hE.boxes hK
 have hoi : o.getD i 0 < N.length:=hE.ho _ (by rw [List.getD_eq_getElem?_getD,List.getElem?_eq_getElem (by rw [hE.hol];exact hi)];exact List.getElem_mem _)
 have hoj : o.getD j 0 < N.length:=hE.ho _ (by rw [List.getD_eq_getElem?_getD,List.getElem?_eq_getElem (by rw [hE.hol];exact hj)];exact List.getElem_mem _)
 have hri : rd (io o) (i : Int) = ((o.getD i 0 : Nat) : Int):=by
  have : i < o.length:=by rw [hE.hol];exact hi
  simp [rd,io,List.getD_eq_getElem?_getD,List.getElem?_eq_getElem this]
 have hrj : rd (io o) (j : Int) = ((o.getD j 0 : Nat) : Int):=by
  have : j < o.length:=by rw [hE.hol];exact hj
  simp [rd,io,List.getD_eq_getElem?_getD,List.getElem?_eq_getElem this]
 generalize o.getD i 0 = f at hoi hri ⊢
 generalize o.getD j 0 = t at hoj hrj ⊢
 have hol:=io_len o
 rw [hE.hol] at hol
 obtain ⟨ad,e1,hxi⟩:=Kd.at_int hC (i : Int) (by omega) (by omega)
 obtain ⟨ad',e1',hxj⟩:=Kd.at_int hC (j : Int) (by omega) (by omega)
 subst e1
 cases e1'
 rw [hri,Int.toNat_natCast] at hxi
 rw [hrj,Int.toNat_natCast] at hxj
 have hlen:=tabL_len N.length S
 obtain ⟨adR,AR,cR,eR,hxR,hlR,hiR⟩:=at_L3 hT.hT (f : Int) (by omega) (by omega)
 cases eR
 rw [rd_row hoi] at hxR hlR hiR
 rw [Int.toNat_natCast] at hxR
 obtain ⟨ad2,A2,c2,e2,hx2,hl2,hi2⟩:=at_L2 hiR (t : Int) (by omega) (by simp;omega)
 subst e2
 rw [rd_cell hoj] at hx2 hl2 hi2
 rw [Int.toNat_natCast] at hx2
 have hrl : ((List.range N.length).map (S f)).length = N.length:=by simp
 rw [hrl] at hxR hlR
 replace hxi:=hE.cell hxi hK
 replace hxj:=hE.cell hxj hK
 replace hxR:=hE.cell hxR hK
 replace hx2:=hE.cell hx2 hK
 have hxR2 : w.cell? ⟨gR,f,none⟩ = some (.slice (some ad2) N.length cR):=by rw [add_plain] at hxR;exact hxR
 have hi0 : 0 ≤ (i : Int):=by omega
 have hi1 : (i : Int) < (N.length : Int):=by omega
 have hj0 : 0 ≤ (j : Int):=by omega
 have hj1 : (j : Int) < (N.length : Int):=by omega
 have hf0 : 0 ≤ (f : Int):=by omega
 have hf1 : (f : Int) < (N.length : Int):=by omega
 have ht0 : 0 ≤ (t : Int):=by omega
 have ht1 : (t : Int) < (N.length : Int):=by omega
 have hcT : w.cell? ⟨gT,0,none⟩ = some (.pointer (some ⟨gt,0,none⟩)):=(blk_cell hTb 0).trans rfl
 have hct2 : w.cell? ⟨gt,2,none⟩ = some (.slice (some ⟨gR,0,none⟩) N.length N.length):=hE.cell ((blk_cell hT.ht 2).trans rfl) hK
 have hcO : w.cell? ⟨gO,0,none⟩ = some (.slice (some ad) N.length co):=(blk_cell hO 0).trans rfl
 obtain ⟨row,hrow⟩ : ∃ row,S f t = row:=⟨_,rfl⟩
 have hfit:=hT.fits f t hoi hoj
 rw [hrow] at hx2 hl2 hi2 hfit ⊢
 have hr100:=hfit.1
 have HE:=Aside0.mk hE
 have HRW:=Aside0.mk (fun W' (h : Kept W0 W' (PK gX gp gq))=>show Kd.C (Kd.int .i64) W' A2 row.length row from hE.reads (Kd.heap_int _) hi2 h)
 have HI:=Aside0.mk hI
 have HK:=Aside0.mk hK
 have HF:=Aside0.mk hfit
 have HY:=Aside0.mk hy
 have HBW:=Aside0.mk hBw
 have HS:=Aside0.mk hs
 have HS0:=Aside0.mk hs0
 clear hBw hs hs0 hT h1 hTb hO hM hC hri hrj hol hlen hiR hl2 hi2 hE hI hK hfit hy hrl hlR hrow
 go_enter Try.func56,Try.ntmps56
 go_wp2
 repeat (go_quiet (fail);try go_wp2)
 go_loopw [28] (fun v wr=>∃ (m : Nat) (vY' : Value),m ≤ row.length ∧ v = .int .i64 (m : Int) ∧ Aside0 (OfI wr W0.heap.size gX gp gq N.length L.length vX vY' xs ((row.take m).foldl (put1 L i j) (Q,ys)).2 P ((row.take m).foldl (put1 L i j) (Q,ys)).1) ∧ Aside0 (Kept W0 wr (PK gX gp gq)) ∧ Aside0 (Below Bs wB wr)) (fun v _=>row.length - (intOf v).toNat)
 case atStart=>exact ⟨0,vY,by omega,rfl,Aside0.mk (HI.out.below (zzE (Below.refl _ _) _)),Aside0.mk (HK.out.drewN _),Aside0.mk (below_drewNB HBW.out _)⟩
 case round =>
  clear HI HK HBW hxi hxj hxR hx2 hcT hct2 hcO hxR2 hi0 hi1 hj0 hj1 hf0 hf1 ht0 ht1
  obtain ⟨m,vY',hm,rfl,HI,HK,HBW⟩:=hrel
  by_cases c3 : m < row.length
  ·have k3 : decide ((m : Int) < (row.length : Int)) = true:=decide_eq_true (by omega)
   have k3' : decide (m < row.length) = true:=decide_eq_true c3
   obtain ⟨Q1,hQ1⟩ : ∃ z,((row.take m).foldl (put1 L i j) (Q,ys)).1 = z:=⟨_,rfl⟩
   obtain ⟨ys1,hy1⟩ : ∃ z,((row.take m).foldl (put1 L i j) (Q,ys)).2 = z:=⟨_,rfl⟩
   have HST:=Aside0.mk (show (row.take (m + 1)).foldl (put1 L i j) (Q,ys) = put1 L i j (Q1,ys1) (rd row (m : Int)) from by
    rw [take_snoc c3,List.foldl_append,← hQ1,← hy1];rfl)
   have hyl : ys1.length ≤ 1000100:=by rw [← hy1,put_len,List.length_take];have:=HF.out.1;have:=HY.out;dsimp only;omega
   rw [hQ1,hy1] at HI
   clear hQ1 hy1
   obtain ⟨ar,e3,hxm⟩:=Kd.at_int (HRW.out wr HK.out) (m : Int) (by omega) (by omega)
   cases e3
   have hxe:=HF.out.2 (rd row (m : Int)) (by rw [rd,Int.toNat_natCast,List.getD_eq_getElem?_getD,List.getElem?_eq_getElem c3];exact List.getElem_mem c3)
   rw [Int.toNat_natCast] at hxm
   generalize rd row (m : Int) = x at hxm hxe HST
   obtain ⟨a,rfl⟩:=Int.eq_ofNat_of_zero_le hxe.1
   have haL : a < L.length:=by omega
   obtain ⟨Ay,cy,e4⟩:=Kd.R_slice HI.out.rY
   subst e4
   obtain ⟨ae,e5,hxt,_,_⟩:=at_T34 HE.out.hT.hL (a : Int) (by omega) (by omega)
   subst e5
   rw [Int.toNat_natCast] at hxt
   have HXT:=Aside0.mk hxt
   have hcM : wr.cell? ⟨gM,1,none⟩ = some (.slice (some ⟨gq,0,none⟩) L.length L.length):=(blk_cell (HE.out.boxes HK.out).2.2.2 1).trans rfl
   have hcX : wr.cell? ⟨gX,1,none⟩ = some (.slice Ay ys1.length cy):=(blk_cell HI.out.hX 1).trans rfl
   have hfq : wr.frozen? ⟨gq,a,none⟩ = false:=blk_frozen HI.out.hQ a
   have hq1 : 0 ≤ (a : Int):=by omega
   have hq2 : (a : Int) < (L.length : Int):=by omega
   have hcq : ∃ z,wr.cell? ⟨gq,a,none⟩ = some z:=⟨_,(blk_cell HI.out.hQ a).trans (Array.getElem?_eq_getElem (by simp;rw [HI.out.lQ];exact haL))⟩
   obtain ⟨zq,hcq⟩:=hcq
   clear hxe hxt
   go_upto_region 4 with (first|((with_reducible refine gate_store (t:=3) (p:=38) rfl ?_);refine store_event (t:=3) (p:=38) (v:=?vo_) (w1:=wr.setCell ⟨gq,a,none⟩ (.int .i64 (ys1.length : Int))) ?hg ?ho ?hn ?hr ?_;(case ho=>rfl);(case hg=>rfl);(case hn=>rfl);(case hr=>first|(go_simp;done)|(go_simp;rfl));intro wS hw))
   have F1:=HI.out.setQ HE.out.xq HE.out.pq HE.out.bq a (ys1.length : Int)
   have F2 : Kept W0 (wr.setCell ⟨gq,a,none⟩ (.int .i64 (ys1.length : Int))) (PK gX gp gq):=HK.out.setCell (.inl (.inr (.inr rfl))) _
   have F0 : Below Bs wB (wr.setCell ⟨gq,a,none⟩ (.int .i64 (ys1.length : Int))):=below_setB HBW.out (HS.out _ (.inr (.inr rfl))) _
   rw [← hw] at F0 F1 F2
   clear HBW
   have HBW:=Aside0.mk F0
   clear F0 HI HK hcM hcX hfq hcq hw
   have hcX : wS.cell? ⟨gX,1,none⟩ = some (.slice Ay ys1.length cy):=(blk_cell F1.hX 1).trans rfl
   have hc1 : wS.cell? ⟨g1,1,none⟩ = some (.slice (some ae) L.length c1):=(blk_cell (HE.out.boxes F2).1 1).trans rfl
   have hxt : wS.cell? (ae.add (a * 3)) = some (.int .i64 (rd_T34 L (a : Int)).f0):=HE.out.cell HXT.out F2
   have BX:=Aside0.mk (Below.refl wS.heap.size wS)
   have HI:=Aside0.mk F1
   have HK:=Aside0.mk F2
   clear F1 F2
   refine start_ (n:=15) (S:=fun w'=>w'.cell? ⟨gX,1,none⟩ = some (.slice Ay ys1.length cy) ∧ w'.cell? ⟨g1,1,none⟩ = some (.slice (some ae) L.length c1) ∧ w'.cell? (ae.add (a * 3)) = some (.int .i64 (rd_T34 L (a : Int)).f0)) (ds:=[14]) #[false,false,false,false,false,false,false,false,false,false,false,false,false,false,false] (by kernel_rfl) rfl rfl ⟨hcX,hc1,hxt⟩ (fun hHeld=>?_)
   refine with_tabW put.tab4 put.bits4 (fun HT_ HW_=>?_)
   refine pure_ (i:=0) (N:=some 39) (v:=?_) (a':=?_) #[true,false,false,false,false,false,false,false,false,false,false,false,false,false,false] rfl rfl (any_of HT_.out (by kernel_rfl)) (fun _ _ _ h=>h) (Or.inl ⟨by rfl,?_⟩) ?_ ?_
   rotate_left
   ·intro w'
    go_simp
    with_reducible rfl
   rotate_left
   ·simp only [Act.put,zzA,zzB,zzC,i64_w,i32_w]
    rfl
   refine pure_ (i:=2) (N:=some 41) (v:=?_) (a':=?_) #[true,false,true,false,false,false,false,false,false,false,false,false,false,false,false] rfl rfl (any_of HT_.out (by kernel_rfl)) (fun _ _ _ h=>h) (Or.inl ⟨by rfl,?_⟩) ?_ ?_
   rotate_left
   ·intro w'
    go_simp
    with_reducible rfl
   rotate_left
   ·simp only [Act.put,zzA,zzB,zzC,i64_w,i32_w]
    rfl
   refine pure_ (i:=4) (N:=some 43) (v:=?_) (a':=?_) #[true,false,true,false,true,false,false,false,false,false,false,false,false,false,false] rfl rfl (any_of HT_.out (by kernel_rfl)) (fun _ _ _ h=>h) (Or.inl ⟨by rfl,?_⟩) ?_ ?_
   rotate_left
   ·intro w'
    go_simp
    with_reducible rfl
   rotate_left
   ·simp only [Act.put,zzA,zzB,zzC,i64_w,i32_w]
    rfl
   refine pure_ (i:=8) (N:=some 47) (v:=?_) (a':=?_) #[true,false,true,false,true,false,false,false,true,false,false,false,false,false,false] rfl rfl (any_of HT_.out (by kernel_rfl)) (fun _ _ _ h=>h) (Or.inl ⟨by rfl,?_⟩) ?_ ?_
   rotate_left
   ·intro w'
    go_simp
    with_reducible rfl
   rotate_left
   ·simp only [Act.put,zzA,zzB,zzC,i64_w,i32_w]
    rfl
   refine pure_ (i:=9) (N:=some 48) (v:=?_) (a':=?_) #[true,false,true,false,true,false,false,false,true,true,false,false,false,false,false] rfl rfl (any_of HT_.out (by kernel_rfl)) (fun _ _ _ h=>h) (Or.inl ⟨by rfl,?_⟩) ?_ ?_
   rotate_left
   ·intro w'
    go_simp
    with_reducible rfl
   rotate_left
   ·simp only [Act.put,zzA,zzB,zzC,i64_w,i32_w]
    rfl
   refine take_ (i:=1) (N:=some 40) (v:=?_) (a':=?_) #[true,true,true,false,true,false,false,false,true,true,false,false,false,false,false] rfl rfl (take_ofW HT_.out HW_.out (by kernel_rfl)) (fun _ _ _ h=>h) (Or.inl ⟨by rfl,?_⟩) hHeld ?_ ?_
   rotate_left
   ·rintro w' ⟨s0,s1,s2⟩
    go_simp
    with_reducible rfl
   rotate_left
   ·simp only [Act.put,zzA,zzB,zzC,i64_w,i32_w]
    rfl
   refine take_ (i:=3) (N:=some 42) (v:=?_) (a':=?_) #[true,true,true,true,true,false,false,false,true,true,false,false,false,false,false] rfl rfl (take_ofW HT_.out HW_.out (by kernel_rfl)) (fun _ _ _ h=>h) (Or.inl ⟨by rfl,?_⟩) hHeld ?_ ?_
   rotate_left
   ·rintro w' ⟨s0,s1,s2⟩
    go_simp
    with_reducible rfl
   rotate_left
   ·simp only [Act.put,zzA,zzB,zzC,i64_w,i32_w]
    rfl
   refine pure_ (i:=5) (N:=some 44) (v:=?_) (a':=?_) #[true,true,true,true,true,true,false,false,true,true,false,false,false,false,false] rfl rfl (any_of HT_.out (by kernel_rfl)) (fun _ _ _ h=>h) (Or.inl ⟨by rfl,?_⟩) ?_ ?_
   rotate_left
   ·intro w'
    go_simp
    with_reducible rfl
   rotate_left
   ·simp only [Act.put,zzA,zzB,zzC,i64_w,i32_w]
    rfl
   refine pure_ (i:=6) (N:=some 45) (v:=?_) (a':=?_) #[true,true,true,true,true,true,true,false,true,true,false,false,false,false,false] rfl rfl (any_of HT_.out (by kernel_rfl)) (fun _ _ _ h=>h) (Or.inl ⟨by rfl,?_⟩) ?_ ?_
   rotate_left
   ·intro w'
    go_simp
    with_reducible rfl
   rotate_left
   ·simp only [Act.put,zzA,zzB,zzC,i64_w,i32_w]
    rfl
   refine take_ (i:=7) (N:=some 46) (v:=?_) (a':=?_) #[true,true,true,true,true,true,true,true,true,true,false,false,false,false,false] rfl rfl (take_ofW HT_.out HW_.out (by kernel_rfl)) (fun _ _ _ h=>h) (Or.inl ⟨by rfl,?_⟩) hHeld ?_ ?_
   rotate_left
   ·rintro w' ⟨s0,s1,s2⟩
    go_simp
    with_reducible rfl
   rotate_left
   ·simp only [Act.put,zzA,zzB,zzC,i64_w,i32_w]
    rfl
   refine pure_ (i:=10) (N:=some 49) (v:=?_) (a':=?_) #[true,true,true,true,true,true,true,true,true,true,true,false,false,false,false] rfl rfl (any_of HT_.out (by kernel_rfl)) (fun _ _ _ h=>h) (Or.inl ⟨by rfl,?_⟩) ?_ ?_
   rotate_left
   ·intro w'
    go_simp
    with_reducible rfl
   rotate_left
   ·simp only [Act.put,zzA,zzB,zzC,i64_w,i32_w]
    rfl
   refine one_ (i:=11) (N:=some 50) #[true,true,true,true,true,true,true,true,true,true,true,true,false,false,false] rfl rfl (one_of HT_.out (by kernel_rfl)) (by decide) (fun K hK=>?_)
   refine value_ (w1:=?_) (v:=?_) (by rfl) rfl ?_ ?_
   rotate_left 2
   ·go_simp
    constructor
    ·rfl
    ·rfl
   refine hK.out _ _ ⟨(pw_cell_below (w:=wS) (by repeat (first|(with_reducible first|exact BX.out|apply zzD|apply zzE|apply zzF)|exact BX.out)) hcX),(pw_cell_below (w:=wS) (by repeat (first|(with_reducible first|exact BX.out|apply zzD|apply zzE|apply zzF)|exact BX.out)) hc1),(pw_cell_below (w:=wS) (by repeat (first|(with_reducible first|exact BX.out|apply zzD|apply zzE|apply zzF)|exact BX.out)) hxt)⟩ (fun hHeld=>?_)
   clear hK K
   refine norm_ (a':=?_) ?_ ?_
   rotate_left
   ·show Act.put _ (some 50) _ = _
    simp only [Act.put,zzA,zzB,zzC,i64_w,i32_w]
    rfl
   refine one_ (i:=12) (N:=some 51) #[true,true,true,true,true,true,true,true,true,true,true,true,true,false,false] rfl rfl (one_of HT_.out (by kernel_rfl)) (by decide) (fun K hK=>?_)
   refine app34_drew (w0:=wS) (W:=wS) W0.heap.size (by rfl) (.tmp 40) (.tmp 50) 28 rfl Try.underlying28 info34 (.slice Ay ys1.length cy) ys1 ⟨(rd_T34 L (a : Int)).f0,(i : Int),(j : Int)⟩ rfl rfl HI.out.rY (Below.refl _ _) HK.out.1 (by omega) ?_
   intro v1 w4 ho hb hg hat
   obtain ⟨Av,cv,ev⟩:=Kd.R_slice ho
   subst ev
   have QG:=Aside0.mk (show Kept W0 w4 (PK gX gp gq) from Kept.of_grown hg HK.out (fun k hk=>.inr (Kd.R_base HI.out.rY k hk)))
   have QX:=Aside0.mk (blk_grown HI.out.hX hg (fun he=>by have:=Kd.R_base HI.out.rY gX he.symm;have:=HE.out.bX;omega))
   have OW:=Aside0.mk ho
   have HB4:=Aside0.mk hb
   have HG4:=Aside0.mk hg
   clear ho hb hg hat
   have hcX4 : w4.cell? ⟨gX,1,none⟩ = some (.slice Ay ys1.length cy):=(blk_cell QX.out 1).trans rfl
   have hfX4:=blk_frozen QX.out 1
   refine hK.out _ _ ⟨hcX4,((blk_cell (HE.out.boxes QG.out).1 1).trans rfl),(HE.out.cell HXT.out QG.out)⟩ (fun hHeld=>?_)
   clear hK K
   refine norm_ (a':=?_) ?_ ?_
   rotate_left
   ·show Act.put _ (some 51) _ = _
    simp only [Act.put,zzA,zzB,zzC,i64_w,i32_w]
    rfl
   refine pure_ (i:=13) (N:=some 52) (v:=?_) (a':=?_) #[true,true,true,true,true,true,true,true,true,true,true,true,true,true,false] rfl rfl (any_of HT_.out (by kernel_rfl)) (fun _ _ _ h=>h) (Or.inl ⟨by rfl,?_⟩) ?_ ?_
   rotate_left
   ·intro w'
    go_simp
    with_reducible rfl
   rotate_left
   ·simp only [Act.put,zzA,zzB,zzC,i64_w,i32_w]
    rfl
   refine last_ (i:=14) (N:=none) #[true,true,true,true,true,true,true,true,true,true,true,true,true,true,true] rfl rfl (one_of HT_.out (by kernel_rfl)) (by decide) (fun K hK=>?_)
   refine skip_ (w1:=?_) (by rfl) rfl ?_ ?_
   rotate_left
   ·go_simp
    rfl
   refine hK.out _ _ ?_
   clear hK K
   refine done_ (done_of HT_.out (by kernel_rfl)) ?_
   have F1:=HI.out.putY HE.out.xp HE.out.xq HE.out.bX HE.out.bp HE.out.bq OW.out HG4.out
   have F2 : Kept W0 (w4.setCell ⟨gX,1,none⟩ (.slice Av (ys1 ++ [S34.mk (rd_T34 L (a : Int)).f0 (i : Int) (j : Int)]).length cv)) (PK gX gp gq):=QG.out.setCell (.inl (.inl rfl)) _
   have F3 : OfI (w4.setCell ⟨gX,1,none⟩ (.slice Av (ys1 ++ [S34.mk (rd_T34 L (a : Int)).f0 (i : Int) (j : Int)]).length cv)) W0.heap.size gX gp gq N.length L.length vX (.slice Av (ys1 ++ [S34.mk (rd_T34 L (a : Int)).f0 (i : Int) (j : Int)]).length cv) xs ((row.take (m + 1)).foldl (put1 L i j) (Q,ys)).2 P ((row.take (m + 1)).foldl (put1 L i j) (Q,ys)).1:=by
    rw [HST.out];exact F1
   have hln : (ys1 ++ [S34.mk (rd_T34 L (a : Int)).f0 (i : Int) (j : Int)]).length = ys1.length + 1:=by simp
   have F4 : Below Bs wB (w4.setCell ⟨gX,1,none⟩ (.slice Av (ys1 ++ [S34.mk (rd_T34 L (a : Int)).f0 (i : Int) (j : Int)]).length cv)):=below_setB (below_thenB HBW.out HB4.out HS0.out) (HS.out _ (.inl rfl)) _
   rw [hln] at F2 F3 F4
   have R4:=Aside0.mk F4
   clear F4 HB4 HBW
   have R2:=Aside0.mk F2
   have R3:=Aside0.mk F3
   clear hln
   clear F1 F2 F3 QG QX OW HG4 HI HK BX hcX4 hfX4
   go_wp2
   go_roundw
   case rel=>exact ⟨m + 1,_,by omega,by first|rfl|simp,R3,R2,R4⟩
   case measure=>show row.length - ((m : Int) + 1).toNat < row.length - ((m : Nat) : Int).toNat;omega
  ·have k3 : decide ((m : Int) < (row.length : Int)) = false:=decide_eq_false (by omega)
   have k3' : decide (m < row.length) = false:=decide_eq_false c3
   obtain rfl : m = row.length:=by omega
   go_wp2
   first|go_end0|((try simp only [Exit.inBlock,Exit.then]);refine bodyPost_ret (results_none rfl _ _ _) rfl ?_)
   refine ⟨rfl,HK.out,HBW.out,vY',?_⟩
   have:=HI.out
   rwa [List.take_length] at this
end
end Go.Proofs.Ytgmomcjnldahjaa.Pr
namespace Go.Proofs.Ytgmomcjnldahjaa.Pr
open Go.RowKit Go.Proofs.YtgmomcjnldahjaaW.PrintWords Go.Proofs.YtgmomcjnldahjaaW.PrintLast Go.Proofs.YtgmomcjnldahjaaW.PrintMore
attribute [local go_sem] max2_int min2_int max_two min_two max_three min_three max_four min_four
set_option linter.unusedVariables false
set_option linter.unusedSimpArgs false
def put2 (L : List S34) (S : Nat → Nat → List Int) (o : List Nat) (st : List Int × List S34) (p : Nat × Nat) : List Int × List S34:=(S (o.getD p.1 0) (o.getD p.2 0)).foldl (put1 L p.1 p.2) st
def pairsK (k j : Nat) : List (Nat × Nat):=(List.range j).flatMap fun i=>[(i,k),(k,i)]
def ofE (L : List S34) (S : Nat → Nat → List Int) (o : List Nat) (k : Nat) : List Int × List S34:=(List.range k).foldl (fun st i=>(pairsK i i ++ [(i,i)]).foldl (put2 L S o) st) (List.replicate L.length 0,[])
def ofP (n : Nat) (o : List Nat) (k : Nat) : List Int:=(List.range k).foldl (fun P i=>P.set (o.getD i 0) (i : Int)) (List.replicate n 0)
def ofX (N : List Int) (o : List Nat) (k : Nat) : List Int:=(o.take k).map fun (v : Nat)=>rd N (v : Int)
theorem C_full {W : World} {g n : Nat} {P : List Int} (h : W.heap[g]? = some (.cells (P.map (Value.int .i64)).toArray 3 (0,0))) (hn : P.length = n) (hl : n ≤ 1000000) : Kd.C (Kd.int .i64) W (some ⟨g,0,none⟩) n P:=by
 subst hn
 refine ⟨rfl,by omega,fun _=>⟨_,rfl,fun j p hp=>⟨[.int .i64 p],rfl,rfl,fun a u hu=>?_⟩⟩⟩
 rcases a with _|a
 ·have e1 : j * (Kd.int .i64).sz + 0 = j:=by show j * 1 + 0 = j;omega
  rw [← Option.some.inj hu,add_plain,blk_cell h,e1]
  simp only [List.getElem?_toArray,List.getElem?_map,hp];rfl
 ·exact absurd hu (by simp)
theorem BestV.opened {W : World} {base : Nat} {ok : Nat → Prop} {ov cv : Value} {o : List Nat} {code : List Int} (h : BestV W base ok ov cv (some (o,code))) : ∃ Ao co Ac cc,ov = .slice Ao o.length co ∧ cv = .slice Ac code.length cc ∧ (o.length ≤ co ∧ Kd.C (Kd.int .i64) W Ao o.length (io o)):=by
 obtain ⟨_,_,p1,p2⟩:=h
 obtain ⟨Ao,co,e1⟩:=Kd.R_slice p1
 obtain ⟨Ac,cc,e2⟩:=Kd.R_slice p2
 subst e1 e2
 have:=Kd.R_reads' p1
 exact ⟨Ao,co,Ac,cc,by rw [io_len],rfl,by rw [← io_len];exact this.2.1,by rw [← io_len];exact this.2.2⟩
theorem made_ints (n : Nat) : madeCells #[Value.int .i64 0] n = ((List.replicate n (0 : Int)).map (Value.int .i64)).toArray:=by
 apply Array.toList_inj.1
 apply List.ext_getElem
 ·simp [madeCells]
 ·intro i h1 h2
  simp [madeCells,Nat.mod_one]
theorem ofE_succ (L : List S34) (S : Nat → Nat → List Int) (o : List Nat) (k : Nat) : ofE L S o (k + 1) = (pairsK k k ++ [(k,k)]).foldl (put2 L S o) (ofE L S o k):=by
 rw [ofE,List.range_succ,List.foldl_append];rfl
theorem ofP_succ (n : Nat) (o : List Nat) (k : Nat) : ofP n o (k + 1) = (ofP n o k).set (o.getD k 0) (k : Int):=by
 rw [ofP,List.range_succ,List.foldl_append];rfl
theorem ofX_succ (N : List Int) (o : List Nat) {k : Nat} (hk : k < o.length) : ofX N o (k + 1) = ofX N o k ++ [rd N ((o.getD k 0 : Nat) : Int)]:=by
 rw [ofX,List.take_add_one,List.map_append,ofX,List.getD_eq_getElem?_getD,List.getElem?_eq_getElem hk];rfl
theorem ofP_len (n : Nat) (o : List Nat) : ∀ k,(ofP n o k).length = n
 | 0 => by simp [ofP]
 | k + 1 => by rw [ofP_succ,List.length_set,ofP_len n o k]
theorem pairsK_succ (k j : Nat) : pairsK k (j + 1) = pairsK k j ++ [(j,k),(k,j)]:=by
 rw [pairsK,List.range_succ,List.flatMap_append];rfl
theorem getD_lt {o : List Nat} {n : Nat} (ho : ∀ v ∈ o,v < n) (hol : o.length = n) {i : Nat} (hi : i < n) : o.getD i 0 < n :=
 ho _ (by rw [List.getD_eq_getElem?_getD,List.getElem?_eq_getElem (by rw [hol];exact hi)];exact List.getElem_mem _)
theorem put2_len {L : List S34} {S : Nat → Nat → List Int} {n : Nat} (hf : Fits n L S) {o : List Nat} (ho : ∀ v ∈ o,v < n) (hol : o.length = n) : ∀ (l : List (Nat × Nat)),(∀ p ∈ l,p.1 < n ∧ p.2 < n) → ∀ st,(l.foldl (put2 L S o) st).2.length ≤ st.2.length + 100 * l.length
 | [],_,st => by simp
 | p :: l,hp,st => by
  have ih:=put2_len hf ho hol l (fun q hq=>hp q (by simp [hq])) (put2 L S o st p)
  have h1 : (put2 L S o st p).2.length = st.2.length + (S (o.getD p.1 0) (o.getD p.2 0)).length:=put_len L p.1 p.2 _ st
  have h2:=(hf (o.getD p.1 0) (o.getD p.2 0) (getD_lt ho hol (hp p (by simp)).1) (getD_lt ho hol (hp p (by simp)).2)).1
  rw [List.foldl_cons,List.length_cons]
  omega
theorem pairsK_mem {k j n : Nat} (hk : k < n) (hj : j ≤ n) : ∀ p ∈ pairsK k j,p.1 < n ∧ p.2 < n:=fun p hp=>by
 obtain ⟨i,hi,h⟩:=List.mem_flatMap.1 hp
 have:=List.mem_range.1 hi
 simp at h
 rcases h with rfl|rfl <;> (constructor <;> simp <;> omega)
theorem pairsK_len (k : Nat) : ∀ j,(pairsK k j).length = 2 * j
 | 0 => rfl
 | j + 1 => by rw [pairsK_succ,List.length_append,pairsK_len k j];simp;omega
theorem ofE_len {L : List S34} {S : Nat → Nat → List Int} {n : Nat} (hf : Fits n L S) {o : List Nat} (ho : ∀ v ∈ o,v < n) (hol : o.length = n) (hn : n ≤ 9) : ∀ k,k ≤ n → (ofE L S o k).2.length ≤ 2000 * k
 | 0,_ => by simp [ofE]
 | k + 1,hk => by
  have ih:=ofE_len hf ho hol hn k (by omega)
  have:=put2_len hf ho hol (pairsK k k ++ [(k,k)]) (fun p hp=>by
   rcases List.mem_append.1 hp with h|h
   ·exact pairsK_mem (by omega) (by omega) p h
   ·simp at h;subst h;exact ⟨by omega,by omega⟩) (ofE L S o k)
  rw [ofE_succ]
  rw [List.length_append,pairsK_len] at this
  simp at this ⊢
  omega
structure MadeM (w9 W : World) (gp gq gM n m : Nat) : Prop where
 hp : W.heap[gp]? = some (.cells ((List.replicate n (0 : Int)).map (Value.int .i64)).toArray 3 (0,0))
 hq : W.heap[gq]? = some (.cells ((List.replicate m (0 : Int)).map (Value.int .i64)).toArray 3 (0,0))
 hM : W.heap[gM]? = some (.cells #[.slice (some ⟨gp,0,none⟩) n n,.slice (some ⟨gq,0,none⟩) m m] 55 (0,0))
 hb : Below w9.heap.size w9 W
 bp : w9.heap.size ≤ gp
 bq : w9.heap.size ≤ gq
 bM : w9.heap.size ≤ gM
 ne : gp ≠ gq
theorem blk3 (W : World) (a b c : Obj) : (((W.alloc a).alloc b).alloc c).drew.heap[W.heap.size]? = some a ∧ (((W.alloc a).alloc b).alloc c).drew.heap[W.heap.size + 1]? = some b ∧ (((W.alloc a).alloc b).alloc c).drew.heap[W.heap.size + 1 + 1]? = some c ∧ Below W.heap.size W (((W.alloc a).alloc b).alloc c).drew:=by
 have e1 : (W.alloc a).heap.size = W.heap.size + 1:=Array.size_push ..
 have e2 : ((W.alloc a).alloc b).heap.size = W.heap.size + 1 + 1:=by rw [← e1];exact Array.size_push ..
 refine ⟨blk_alloc (blk_alloc (blk_new W a) b) c,?_,?_,zzF (zzD (zzD (zzD (Below.refl _ _) _) _) _)⟩
 ·rw [← e1];exact blk_alloc (blk_new (W.alloc a) b) c
 ·rw [← e2];exact blk_new ((W.alloc a).alloc b) c
def putX.T13 : Bool × List (List Nat × List Nat):=(true,[([],[]),([0],[0]),([],[]),([2],[2]),([],[]),([3,4],[3,4]),([5],[5]),([6],[6]),([1,7],[1,7]),([0,1,2,3,4,5,6,7,8],[]),([9,8,8,0,1,2,3,4,5,6,7,8],[8,9])])
def putX.B13 : List Nat:=[0,1,0,4,0,28,60,124,255,511,1023]
theorem putX.tab13 : rtab .any (opsOf Try.f28 13) = putX.T13:=by kernel_rfl
theorem putX.bits13 : waitsOk putX.T13.2 putX.B13 = true:=by kernel_rfl
def of.T22 : Bool × List (List Nat × List Nat):=(true,[([],[]),([],[]),([0,0],[0]),([1,2,0,1,2],[1]),([3,0,1,2,3],[])])
def of.B22 : List Nat:=[0,0,1,7,15]
theorem of.tab22 : rtab .any (opsOf Try.f28 22) = of.T22:=by kernel_rfl
theorem of.bits22 : waitsOk of.T22.2 of.B22 = true:=by kernel_rfl
theorem results_of {P : Program} {fn : Func} {p q r : Tmp} {t1 t2 : TypeId} (h : fn.results = #[.cell p t1,.cell q t2,.tmp r]) (tmps : Array Value) (w : World) (g1 g2 : Nat) (cs1 cs2 : Array Value) (d1 d2 : TypeDesc)
  (hp : tmps.getD p undef = .pointer (some ⟨g1,0,none⟩)) (hq : tmps.getD q undef = .pointer (some ⟨g2,0,none⟩)) (h1 : w.heap[g1]? = some (.cells cs1 t1 (0,0))) (h2 : w.heap[g2]? = some (.cells cs2 t2 (0,0)))
  (hu1 : P.underlying t1 = some d1) (hd1 : (match d1 with | .struct _ | .array _ _=>true | _=>false) = true) (hi1 : (P.info? t1).map (·.size) = some cs1.size)
  (hu2 : P.underlying t2 = some d2) (hd2 : (match d2 with | .struct _ | .array _ _=>true | _=>false) = true) (hi2 : (P.info? t2).map (·.size) = some cs2.size) :
  (results fn tmps).run P w = .ok (.tuple #[.agg cs1,.agg cs2,tmps.getD r undef]) w:=by
 have hp' : tmps[p]?.getD undef = .pointer (some ⟨g1,0,none⟩):=by simpa using hp
 have hq' : tmps[q]?.getD undef = .pointer (some ⟨g2,0,none⟩):=by simpa using hq
 simp [results,h,hp',hq',asAddr,run_loadVar_row w g1 t1 t1 cs1 (0,0) d1 h1 hu1 hd1 hi1,run_loadVar_row w g2 t2 t2 cs2 (0,0) d2 h2 hu2 hd2 hi2]
theorem two_boxes {W W' : World} {g2 g3 : Nat} {a b c d x y : Value} (h2 : W.heap[g2]? = some (.cells #[a,b] 30 (0,0))) (h3 : W.heap[g3]? = some (.cells #[c,d] 55 (0,0))) (hw : W' = (W.setCell ⟨g2,0,none⟩ x).setCell ⟨g2,1,none⟩ y) :
  W'.heap[g2]? = some (.cells #[x,y] 30 (0,0)) ∧ W'.heap[g3]? = some (.cells #[c,d] 55 (0,0)) ∧ W'.cell? ⟨g3,0,none⟩ = some c ∧ W'.cell? ⟨g3,1,none⟩ = some d ∧ W'.frozen? ⟨g3,0,none⟩ = false ∧ W'.frozen? ⟨g3,1,none⟩ = false:=by
 have n : g3 ≠ g2:=ty_ne h3 h2 (by decide)
 have k3 : W'.heap[g3]? = some (.cells #[c,d] 55 (0,0)):=by rw [hw];exact blk_far (blk_far h3 n _) n _
 exact ⟨by rw [hw];exact blk_put (blk_put h2 0 _ rfl) 1 _ rfl,k3,(blk_cell k3 0).trans rfl,(blk_cell k3 1).trans rfl,blk_frozen k3 0,blk_frozen k3 1⟩
theorem two_boxes' {W W' : World} {g2 g3 : Nat} {a b c d x y : Value} (h2 : W.heap[g2]? = some (.cells #[a,b] 30 (0,0))) (h3 : W.heap[g3]? = some (.cells #[c,d] 55 (0,0))) (hw : W' = (W.setCell ⟨g3,0,none⟩ x).setCell ⟨g3,1,none⟩ y) :
  W'.heap[g2]? = some (.cells #[a,b] 30 (0,0)) ∧ W'.heap[g3]? = some (.cells #[x,y] 55 (0,0)):=by
 have n : g2 ≠ g3:=ty_ne h2 h3 (by decide)
 exact ⟨by rw [hw];exact blk_far (blk_far h2 n _) n _,by rw [hw];exact blk_put (blk_put h3 0 _ rfl) 1 _ rfl⟩
structure F22 (W : World) (gX gM g2 g3 : Nat) (a b c d : Value) : Prop where
 hX : W.heap[gX]? = some (.cells #[a,b] 30 (0,0))
 hM : W.heap[gM]? = some (.cells #[c,d] 55 (0,0))
 h2 : ∃ e f,W.heap[g2]? = some (.cells #[e,f] 30 (0,0))
 h3 : ∃ e f,W.heap[g3]? = some (.cells #[e,f] 55 (0,0))
 n2 : gX ≠ g2
 n3 : gM ≠ g3
theorem F22.set2 {W : World} {gX gM g2 g3 : Nat} {a b c d : Value} (h : F22 W gX gM g2 g3 a b c d) (x y : Value) : F22 ((W.setCell ⟨g2,0,none⟩ x).setCell ⟨g2,1,none⟩ y) gX gM g2 g3 a b c d:=by
 obtain ⟨e,f,h2⟩:=h.h2
 obtain ⟨e3,f3,h3⟩:=h.h3
 have m:=ty_ne h.hM h2 (by decide)
 have m3:=ty_ne h3 h2 (by decide)
 exact ⟨blk_far (blk_far h.hX h.n2 _) h.n2 _,blk_far (blk_far h.hM m _) m _,⟨_,_,blk_put (blk_put h2 0 _ rfl) 1 _ rfl⟩,⟨_,_,blk_far (blk_far h3 m3 _) m3 _⟩,h.n2,h.n3⟩
theorem F22.set3 {W : World} {gX gM g2 g3 : Nat} {a b c d : Value} (h : F22 W gX gM g2 g3 a b c d) (x y : Value) : F22 ((W.setCell ⟨g3,0,none⟩ x).setCell ⟨g3,1,none⟩ y) gX gM g2 g3 a b c d:=by
 obtain ⟨e,f,h2⟩:=h.h2
 obtain ⟨e3,f3,h3⟩:=h.h3
 have m:=ty_ne h.hX h3 (by decide)
 have m2:=ty_ne h2 h3 (by decide)
 exact ⟨blk_far (blk_far h.hX m _) m _,blk_far (blk_far h.hM h.n3 _) h.n3 _,⟨_,_,blk_far (blk_far h2 m2 _) m2 _⟩,⟨_,_,blk_put (blk_put h3 0 _ rfl) 1 _ rfl⟩,h.n2,h.n3⟩
theorem F22.drew {W : World} {gX gM g2 g3 : Nat} {a b c d : Value} (h : F22 W gX gM g2 g3 a b c d) : F22 W.drew gX gM g2 g3 a b c d:=⟨h.hX,h.hM,h.h2,h.h3,h.n2,h.n3⟩
section
variable {w : World} {A0 : Option Addr} {c0 : Nat} {N : List Int} {A1 : Option Addr} {c1 : Nat} {L : List S34} {S : Nat → Nat → List Int}
set_option maxHeartbeats 80000000 in
set_option maxRecDepth 100000 in
theorem of_err {E : Int} (hE : validE N L = E) (h1 : E ≠ 0) (hr0 : Kd.C (Kd.int .i64) w A0 N.length N) (hc0 : N.length ≤ c0) (hr1 : Kd.C k34 w A1 L.length L) (hc1 : L.length ≤ c1) :
  Calls Try.prog 28 #[.agg #[.slice A0 N.length c0,.slice A1 L.length c1]] w fun e w'=>Below w.heap.size w w' ∧ e = .returned (.tuple #[.agg #[.slice none 0 0,.slice none 0 0],.agg #[.slice none 0 0,.slice none 0 0],.int .i64 E]):=by
 have HV:=Aside0.mk (fun W (hw : Below w.heap.size w W)=>valid_calls A0 c0 N A1 c1 L W (Kd.C_below hr0 hw) hc0 (Kd.C_below hr1 hw) hc1)
 have HR0:=Aside0.mk hr0
 have HR1:=Aside0.mk hr1
 have HC0:=Aside0.mk hc0
 have HC1:=Aside0.mk hc1
 have hu30:=Try.underlying30
 have hu55:=Try.underlying55
 have hmf : ∀ (fn : Fn) (first cap : Array Value) (w : World),(Instr.makeFunc fn first cap).run Try.prog w = .ok (.func fn first cap) w:=fun _ _ _ _=>rfl
 have HB:=Aside0.mk (Below.refl w.heap.size w)
 rw [hE] at HV
 clear hr0 hr1 hc0 hc1
 have k1 : (E != 0) = true:=bne_iff_ne.mpr h1
 have k1' : (E == 0) = false:=beq_eq_false_iff_ne.mpr h1
 have H1:=Aside0.mk h1
 clear hE h1
 go_enter Try.func28,Try.ntmps28
 go_upto_region 3 with (first|((with_reducible refine gate_dst (N:=1) rfl ?_);refine box_event ?hg (N:=1) ?hd (cs:=#[.slice A0 N.length c0,.slice A1 L.length c1]) (t:=30) ?hr ?_;(case hd=>rfl);(case hg=>rfl);(case hr=>first|(go_simp;done)|(go_simp;rfl));intro g1 hg w1 hbox hb;have n0_:=Aside0.mk (below_step HB.out hb);clear HB;have HB:=n0_;clear n0_ hb hg;have BK:=Aside0.mk hbox;have hcg10 : w1.cell? ⟨g1,0,none⟩ = some (.slice A0 N.length c0):=(blk_cell hbox 0).trans rfl;have hcg11 : w1.cell? ⟨g1,1,none⟩ = some (.slice A1 L.length c1):=(blk_cell hbox 1).trans rfl;clear hbox)|((with_reducible refine gate_dst (N:=2) rfl ?_);refine box_event ?hg (N:=2) ?hd (cs:=#[.slice none 0 0,.slice none 0 0]) (t:=30) ?hr ?_;(case hd=>rfl);(case hg=>rfl);(case hr=>first|(go_simp;done)|(go_simp;rfl));intro g2 hg w2 hbox hb;have B2b:=Aside0.mk (show _ ≤ g2 from by rw [hg];exact HB.out.size);have BK_:=Aside0.mk (blk_below (g:=g1) (o:=.cells #[.slice A0 N.length c0,.slice A1 L.length c1] 30 (0,0)) (by (with_reducible repeat (first|refine blk_drewN ?_ _|refine blk_drew ?_|refine blk_alloc ?_ _));exact BK.out) hb);have n0_:=Aside0.mk (below_step (by repeat (first|(with_reducible first|exact HB.out|apply zzD|apply zzE|apply zzF)|exact HB.out)) hb);clear HB BK;have HB:=n0_;have BK:=BK_;clear n0_ hb hg BK_;have B2:=Aside0.mk hbox;clear hbox;have hcw2g10 : w2.cell? ⟨g1,0,none⟩ = some (.slice A0 N.length c0):=(blk_cell BK.out 0).trans rfl;have hcw2g11 : w2.cell? ⟨g1,1,none⟩ = some (.slice A1 L.length c1):=(blk_cell BK.out 1).trans rfl;have hcw2g20 : w2.cell? ⟨g2,0,none⟩ = some (.slice none 0 0):=(blk_cell B2.out 0).trans rfl;have hcw2g21 : w2.cell? ⟨g2,1,none⟩ = some (.slice none 0 0):=(blk_cell B2.out 1).trans rfl)|((with_reducible refine gate_dst (N:=3) rfl ?_);refine box_event ?hg (N:=3) ?hd (cs:=#[.slice none 0 0,.slice none 0 0]) (t:=55) ?hr ?_;(case hd=>rfl);(case hg=>rfl);(case hr=>first|(go_simp;done)|(go_simp;rfl));intro g3 hg w3 hbox hb;have B3b:=Aside0.mk (show _ ≤ g3 from by rw [hg];exact HB.out.size);have BK_:=Aside0.mk (blk_below (g:=g1) (o:=.cells #[.slice A0 N.length c0,.slice A1 L.length c1] 30 (0,0)) (by (with_reducible repeat (first|refine blk_drewN ?_ _|refine blk_drew ?_|refine blk_alloc ?_ _));exact BK.out) hb);have B2_:=Aside0.mk (blk_below (g:=g2) (o:=.cells #[.slice none 0 0,.slice none 0 0] 30 (0,0)) (by (with_reducible repeat (first|refine blk_drewN ?_ _|refine blk_drew ?_|refine blk_alloc ?_ _));exact B2.out) hb);have n0_:=Aside0.mk (below_step (by repeat (first|(with_reducible first|exact HB.out|apply zzD|apply zzE|apply zzF)|exact HB.out)) hb);clear HB BK B2;have HB:=n0_;have BK:=BK_;have B2:=B2_;clear n0_ hb hg BK_ B2_;have B3:=Aside0.mk hbox;clear hbox;have hcw3g10 : w3.cell? ⟨g1,0,none⟩ = some (.slice A0 N.length c0):=(blk_cell BK.out 0).trans rfl;have hcw3g11 : w3.cell? ⟨g1,1,none⟩ = some (.slice A1 L.length c1):=(blk_cell BK.out 1).trans rfl;have hcw3g20 : w3.cell? ⟨g2,0,none⟩ = some (.slice none 0 0):=(blk_cell B2.out 0).trans rfl;have hcw3g21 : w3.cell? ⟨g2,1,none⟩ = some (.slice none 0 0):=(blk_cell B2.out 1).trans rfl;have hcw3g30 : w3.cell? ⟨g3,0,none⟩ = some (.slice none 0 0):=(blk_cell B3.out 0).trans rfl;have hcw3g31 : w3.cell? ⟨g3,1,none⟩ = some (.slice none 0 0):=(blk_cell B3.out 1).trans rfl)|(go_at_call 37;with_reducible refine (HV.out _ (by repeat (first|(with_reducible first|exact HB.out|apply zzD|apply zzE|apply zzF)|exact HB.out))).mono ?_;rintro e w4 ⟨rfl,hb⟩;have BK_:=Aside0.mk (blk_below (g:=g1) (o:=.cells #[.slice A0 N.length c0,.slice A1 L.length c1] 30 (0,0)) (by (with_reducible repeat (first|refine blk_drewN ?_ _|refine blk_drew ?_|refine blk_alloc ?_ _));exact BK.out) hb);have B2_:=Aside0.mk (blk_below (g:=g2) (o:=.cells #[.slice none 0 0,.slice none 0 0] 30 (0,0)) (by (with_reducible repeat (first|refine blk_drewN ?_ _|refine blk_drew ?_|refine blk_alloc ?_ _));exact B2.out) hb);have B3_:=Aside0.mk (blk_below (g:=g3) (o:=.cells #[.slice none 0 0,.slice none 0 0] 55 (0,0)) (by (with_reducible repeat (first|refine blk_drewN ?_ _|refine blk_drew ?_|refine blk_alloc ?_ _));exact B3.out) hb);have n0_:=Aside0.mk (below_step (by repeat (first|(with_reducible first|exact HB.out|apply zzD|apply zzE|apply zzF)|exact HB.out)) hb);clear HB BK B2 B3;have HB:=n0_;have BK:=BK_;have B2:=B2_;have B3:=B3_;clear n0_ hb BK_ B2_ B3_;have hcw40 : w4.cell? ⟨g1,0,none⟩ = some (.slice A0 N.length c0):=(blk_cell BK.out 0).trans rfl;have hcw41 : w4.cell? ⟨g1,1,none⟩ = some (.slice A1 L.length c1):=(blk_cell BK.out 1).trans rfl;have hcw40 : w4.cell? ⟨g2,0,none⟩ = some (.slice none 0 0):=(blk_cell B2.out 0).trans rfl;have hcw41 : w4.cell? ⟨g2,1,none⟩ = some (.slice none 0 0):=(blk_cell B2.out 1).trans rfl;have hcw40 : w4.cell? ⟨g3,0,none⟩ = some (.slice none 0 0):=(blk_cell B3.out 0).trans rfl;have hcw41 : w4.cell? ⟨g3,1,none⟩ = some (.slice none 0 0):=(blk_cell B3.out 1).trans rfl))
 have hf20 : w4.frozen? ⟨g2,0,none⟩ = false:=blk_frozen B2.out 0
 have hf21 : w4.frozen? ⟨g2,1,none⟩ = false:=blk_frozen B2.out 1
 have hf30 : w4.frozen? ⟨g3,0,none⟩ = false:=blk_frozen B3.out 0
 have hf31 : w4.frozen? ⟨g3,1,none⟩ = false:=blk_frozen B3.out 1
 go_wp2_with (first|((with_reducible refine gate_store (t:=30) (p:=2) rfl ?_);refine store_event (t:=30) (p:=2) (v:=?vo2_1) (w1:=(w4.setCell ⟨g2,0,none⟩ (.slice none 0 0)).setCell ⟨g2,1,none⟩ (.slice none 0 0)) ?hg ?ho ?hn ?hr ?_;(case ho=>rfl);(case hg=>rfl);(case hn=>rfl);(case hr=>first|(go_simp;done)|(go_simp;rfl));intro w5 hw5;have TB:=Aside0.mk (two_boxes B2.out B3.out hw5);obtain ⟨_,_,hw5a,hw5b,hw5c,hw5d⟩:=TB.out;have HW5:=Aside0.mk hw5;clear hw5))
 ((try simp only [Exit.inBlock,Exit.then]);refine bodyPost_ret (results_of rfl _ _ g2 g3 _ _ _ _ rfl rfl (two_boxes' TB.out.1 TB.out.2.1 rfl).1 (two_boxes' TB.out.1 TB.out.2.1 rfl).2 Try.underlying30 rfl (by kernel_rfl) Try.underlying55 rfl (by kernel_rfl)) rfl ?_)
 refine ⟨?_,rfl⟩
 refine below_set (below_set ?_ B3b.out) B3b.out
 rw [HW5.out]
 exact below_set (below_set HB.out B2b.out) B2b.out
set_option maxHeartbeats 80000000 in
set_option maxRecDepth 100000 in
theorem of_ok {o : List Nat} {code : List Int} (hr0 : Kd.C (Kd.int .i64) w A0 N.length N) (hc0 : N.length ≤ c0) (hr1 : Kd.C k34 w A1 L.length L) (hc1 : L.length ≤ c1)
  (hE : validE N L = 0) (hok : L.length < 20 ∧ Fits N.length L S ∧ ∀ i j,i < N.length → j < N.length → ∃ k,slices_insertionSortCmpFunc_int.f k (rowE L L.length i j) 0 ((rowE L L.length i j).length : Int) L = some (S i j))
  (hb : srch N L S (twM N L S) N.length [] [(N.length : Int)] none = some (o,code) ∧ o.length = N.length ∧ ∀ v ∈ o,v < N.length) :
  Calls Try.prog 28 #[.agg #[.slice A0 N.length c0,.slice A1 L.length c1]] w fun e w'=>Below w.heap.size w w' ∧ ∃ Ax cx Ay cy Ap cp Aq cq,e = .returned (.tuple #[.agg #[.slice Ax N.length cx,.slice Ay (ofE L S o N.length).2.length cy],.agg #[.slice Ap N.length cp,.slice Aq L.length cq],.int .i64 0]) ∧
    Kd.C (Kd.int .i64) w' Ax N.length (ofX N o N.length) ∧ N.length ≤ cx ∧ Kd.C k34 w' Ay (ofE L S o N.length).2.length (ofE L S o N.length).2 ∧ (ofE L S o N.length).2.length ≤ cy ∧
    Kd.C (Kd.int .i64) w' Ap N.length (ofP N.length o N.length) ∧ N.length ≤ cp ∧ Kd.C (Kd.int .i64) w' Aq L.length (ofE L S o N.length).1 ∧ L.length ≤ cq:=by
 have HV:=Aside0.mk (fun W (hw : Below w.heap.size w W)=>valid_calls A0 c0 N A1 c1 L W (Kd.C_below hr0 hw) hc0 (Kd.C_below hr1 hw) hc1)
 have HR0:=Aside0.mk hr0
 have HR1:=Aside0.mk hr1
 have HC0:=Aside0.mk hc0
 have HC1:=Aside0.mk hc1
 have hu30:=Try.underlying30
 have hu55:=Try.underlying55
 have hmf : ∀ (fn : Fn) (first cap : Array Value) (w : World),(Instr.makeFunc fn first cap).run Try.prog w = .ok (.func fn first cap) w:=fun _ _ _ _=>rfl
 have HB:=Aside0.mk (Below.refl w.heap.size w)
 rw [hE] at HV
 clear hr0 hr1 hc0 hc1
 obtain ⟨hl20,hft,hsort⟩:=hok
 obtain ⟨hn8,hx⟩:=validE_zero hE
 obtain ⟨hb1,hb2,hb3⟩:=hb
 have HL20:=Aside0.mk hl20
 have HFT:=Aside0.mk hft
 have HN8:=Aside0.mk hn8
 have HO1:=Aside0.mk hb1
 have HO2:=Aside0.mk hb2
 have HO3:=Aside0.mk hb3
 have HTB:=Aside0.mk (fun W (hw : Below w.heap.size w W)=>tabled_calls A0 c0 N A1 c1 L W (Kd.C_below HR0.out hw) HC0.out (Kd.C_below HR1.out hw) HC1.out (by omega) hl20 (fun a ha=>hx _ (rd_mem34 ha)) S hsort)
 clear hl20 hft hsort hn8 hx hb1 hb2 hb3 hE
 go_enter Try.func28,Try.ntmps28
 go_upto_region 4 with (first|((with_reducible refine gate_dst (N:=1) rfl ?_);refine box_event ?hg (N:=1) ?hd (cs:=#[.slice A0 N.length c0,.slice A1 L.length c1]) (t:=30) ?hr ?_;(case hd=>rfl);(case hg=>rfl);(case hr=>first|(go_simp;done)|(go_simp;rfl));intro g1 hg w1 hbox hb;have n0_:=Aside0.mk (below_step HB.out hb);clear HB;have HB:=n0_;clear n0_ hb hg;have BK:=Aside0.mk hbox;have hcg10 : w1.cell? ⟨g1,0,none⟩ = some (.slice A0 N.length c0):=(blk_cell hbox 0).trans rfl;have hcg11 : w1.cell? ⟨g1,1,none⟩ = some (.slice A1 L.length c1):=(blk_cell hbox 1).trans rfl;clear hbox)|((with_reducible refine gate_dst (N:=2) rfl ?_);refine box_event ?hg (N:=2) ?hd (cs:=#[.slice none 0 0,.slice none 0 0]) (t:=30) ?hr ?_;(case hd=>rfl);(case hg=>rfl);(case hr=>first|(go_simp;done)|(go_simp;rfl));intro g2 hg w2 hbox hb;have B2b:=Aside0.mk (show _ ≤ g2 from by rw [hg];exact HB.out.size);have BK_:=Aside0.mk (blk_below (g:=g1) (o:=.cells #[.slice A0 N.length c0,.slice A1 L.length c1] 30 (0,0)) (by (with_reducible repeat (first|refine blk_drewN ?_ _|refine blk_drew ?_|refine blk_alloc ?_ _));exact BK.out) hb);have n0_:=Aside0.mk (below_step (by repeat (first|(with_reducible first|exact HB.out|apply zzD|apply zzE|apply zzF)|exact HB.out)) hb);clear HB BK;have HB:=n0_;have BK:=BK_;clear n0_ hb hg BK_;have B2:=Aside0.mk hbox;clear hbox;have hcw2g10 : w2.cell? ⟨g1,0,none⟩ = some (.slice A0 N.length c0):=(blk_cell BK.out 0).trans rfl;have hcw2g11 : w2.cell? ⟨g1,1,none⟩ = some (.slice A1 L.length c1):=(blk_cell BK.out 1).trans rfl;have hcw2g20 : w2.cell? ⟨g2,0,none⟩ = some (.slice none 0 0):=(blk_cell B2.out 0).trans rfl;have hcw2g21 : w2.cell? ⟨g2,1,none⟩ = some (.slice none 0 0):=(blk_cell B2.out 1).trans rfl)|((with_reducible refine gate_dst (N:=3) rfl ?_);refine box_event ?hg (N:=3) ?hd (cs:=#[.slice none 0 0,.slice none 0 0]) (t:=55) ?hr ?_;(case hd=>rfl);(case hg=>rfl);(case hr=>first|(go_simp;done)|(go_simp;rfl));intro g3 hg w3 hbox hb;have B3b:=Aside0.mk (show _ ≤ g3 from by rw [hg];exact HB.out.size);have BK_:=Aside0.mk (blk_below (g:=g1) (o:=.cells #[.slice A0 N.length c0,.slice A1 L.length c1] 30 (0,0)) (by (with_reducible repeat (first|refine blk_drewN ?_ _|refine blk_drew ?_|refine blk_alloc ?_ _));exact BK.out) hb);have B2_:=Aside0.mk (blk_below (g:=g2) (o:=.cells #[.slice none 0 0,.slice none 0 0] 30 (0,0)) (by (with_reducible repeat (first|refine blk_drewN ?_ _|refine blk_drew ?_|refine blk_alloc ?_ _));exact B2.out) hb);have n0_:=Aside0.mk (below_step (by repeat (first|(with_reducible first|exact HB.out|apply zzD|apply zzE|apply zzF)|exact HB.out)) hb);clear HB BK B2;have HB:=n0_;have BK:=BK_;have B2:=B2_;clear n0_ hb hg BK_ B2_;have B3:=Aside0.mk hbox;clear hbox;have hcw3g10 : w3.cell? ⟨g1,0,none⟩ = some (.slice A0 N.length c0):=(blk_cell BK.out 0).trans rfl;have hcw3g11 : w3.cell? ⟨g1,1,none⟩ = some (.slice A1 L.length c1):=(blk_cell BK.out 1).trans rfl;have hcw3g20 : w3.cell? ⟨g2,0,none⟩ = some (.slice none 0 0):=(blk_cell B2.out 0).trans rfl;have hcw3g21 : w3.cell? ⟨g2,1,none⟩ = some (.slice none 0 0):=(blk_cell B2.out 1).trans rfl;have hcw3g30 : w3.cell? ⟨g3,0,none⟩ = some (.slice none 0 0):=(blk_cell B3.out 0).trans rfl;have hcw3g31 : w3.cell? ⟨g3,1,none⟩ = some (.slice none 0 0):=(blk_cell B3.out 1).trans rfl)|(go_at_call 37;with_reducible refine (HV.out _ (by repeat (first|(with_reducible first|exact HB.out|apply zzD|apply zzE|apply zzF)|exact HB.out))).mono ?_;rintro e w4 ⟨rfl,hb⟩;have BK_:=Aside0.mk (blk_below (g:=g1) (o:=.cells #[.slice A0 N.length c0,.slice A1 L.length c1] 30 (0,0)) (by (with_reducible repeat (first|refine blk_drewN ?_ _|refine blk_drew ?_|refine blk_alloc ?_ _));exact BK.out) hb);have B2_:=Aside0.mk (blk_below (g:=g2) (o:=.cells #[.slice none 0 0,.slice none 0 0] 30 (0,0)) (by (with_reducible repeat (first|refine blk_drewN ?_ _|refine blk_drew ?_|refine blk_alloc ?_ _));exact B2.out) hb);have B3_:=Aside0.mk (blk_below (g:=g3) (o:=.cells #[.slice none 0 0,.slice none 0 0] 55 (0,0)) (by (with_reducible repeat (first|refine blk_drewN ?_ _|refine blk_drew ?_|refine blk_alloc ?_ _));exact B3.out) hb);have n0_:=Aside0.mk (below_step (by repeat (first|(with_reducible first|exact HB.out|apply zzD|apply zzE|apply zzF)|exact HB.out)) hb);clear HB BK B2 B3;have HB:=n0_;have BK:=BK_;have B2:=B2_;have B3:=B3_;clear n0_ hb BK_ B2_ B3_;have hcw40 : w4.cell? ⟨g1,0,none⟩ = some (.slice A0 N.length c0):=(blk_cell BK.out 0).trans rfl;have hcw41 : w4.cell? ⟨g1,1,none⟩ = some (.slice A1 L.length c1):=(blk_cell BK.out 1).trans rfl;have hcw40 : w4.cell? ⟨g2,0,none⟩ = some (.slice none 0 0):=(blk_cell B2.out 0).trans rfl;have hcw41 : w4.cell? ⟨g2,1,none⟩ = some (.slice none 0 0):=(blk_cell B2.out 1).trans rfl;have hcw40 : w4.cell? ⟨g3,0,none⟩ = some (.slice none 0 0):=(blk_cell B3.out 0).trans rfl;have hcw41 : w4.cell? ⟨g3,1,none⟩ = some (.slice none 0 0):=(blk_cell B3.out 1).trans rfl))
 go_upto_region 5 with (first|(go_at_call 39;with_reducible refine (HTB.out _ (by repeat (first|(with_reducible first|exact HB.out|apply zzD|apply zzE|apply zzF)|exact HB.out))).mono ?_;rintro e w5 ⟨gt,gR,rfl,q1,q2,hb⟩;rw [row_eq] at q1;have Q1:=Aside0.mk q1;have Q2:=Aside0.mk q2;clear q1 q2;have BK_:=Aside0.mk (blk_below (g:=g1) (o:=.cells #[.slice A0 N.length c0,.slice A1 L.length c1] 30 (0,0)) (by (with_reducible repeat (first|refine blk_drewN ?_ _|refine blk_drew ?_|refine blk_alloc ?_ _));exact BK.out) hb);have B2_:=Aside0.mk (blk_below (g:=g2) (o:=.cells #[.slice none 0 0,.slice none 0 0] 30 (0,0)) (by (with_reducible repeat (first|refine blk_drewN ?_ _|refine blk_drew ?_|refine blk_alloc ?_ _));exact B2.out) hb);have B3_:=Aside0.mk (blk_below (g:=g3) (o:=.cells #[.slice none 0 0,.slice none 0 0] 55 (0,0)) (by (with_reducible repeat (first|refine blk_drewN ?_ _|refine blk_drew ?_|refine blk_alloc ?_ _));exact B3.out) hb);have n0_:=Aside0.mk (below_step (by repeat (first|(with_reducible first|exact HB.out|apply zzD|apply zzE|apply zzF)|exact HB.out)) hb);clear HB BK B2 B3;have HB:=n0_;have BK:=BK_;have B2:=B2_;have B3:=B3_;clear n0_ hb BK_ B2_ B3_))
 obtain ⟨w7,hw7⟩ : ∃ w7,w7 = w5.alloc (.cells #[.pointer (some ⟨gt,0,none⟩)] 68):=⟨_,rfl⟩
 rw [← hw7]
 have H57 : Below w5.heap.size w5 w7:=by rw [hw7];exact zzD (Below.refl _ _) _
 have BT0 : w7.heap[w5.heap.size]? = some (.cells #[.pointer (some ⟨gt,0,none⟩)] 68 (0,0)):=by rw [hw7];exact blk_new _ _
 have BTb0 : w.heap.size ≤ w5.heap.size:=HB.out.size
 have TT:=Aside0.mk (show Tab w7 gt A0 c0 N A1 c1 L gR S from ⟨blk_below Q1.out H57,Kd.C_below HR0.out (below_step HB.out H57),Kd.C_below HR1.out (below_step HB.out H57),Kd.C_below Q2.out H57,HC0.out,HC1.out,by have:=HN8.out;omega,by have:=HL20.out;omega,HFT.out⟩)
 have BK_:=Aside0.mk (blk_below BK.out H57)
 have B2_:=Aside0.mk (blk_below B2.out H57)
 have B3_:=Aside0.mk (blk_below B3.out H57)
 have HB_:=Aside0.mk (below_step HB.out H57)
 clear BK B2 B3 HB H57 hw7 Q1 Q2
 generalize w5.heap.size = gT at BT0 BTb0 ⊢
 have BT:=Aside0.mk BT0
 have BTb:=Aside0.mk BTb0
 have BK:=BK_
 have B2:=B2_
 have B3:=B3_
 have HB:=HB_
 clear BT0 BTb0 BK_ B2_ B3_ HB_
 have hcT0 : w7.cell? ⟨gT,0,none⟩ = some (.pointer (some ⟨gt,0,none⟩)):=(blk_cell BT.out 0).trans rfl
 have HBS:=Aside0.mk (best_calls TT.out (by have:=HN8.out;omega))
 go_upto_region 6 with (first|(go_at_call 38;with_reducible refine HBS.out.mono ?_;rw [HO1.out];rintro e w8 ⟨ov,cv,rfl,q,hb⟩;obtain ⟨Ao,co,Ac,cc,eo,ec,p1⟩:=BestV.opened q;rw [HO2.out] at eo p1;subst eo ec;clear q;have P1:=Aside0.mk p1;clear p1;have TT_:=Aside0.mk (TT.out.below hb);clear TT;have TT:=TT_;clear TT_;have BK_:=Aside0.mk (blk_below (g:=g1) (o:=.cells #[.slice A0 N.length c0,.slice A1 L.length c1] 30 (0,0)) (by (with_reducible repeat (first|refine blk_drewN ?_ _|refine blk_drew ?_|refine blk_alloc ?_ _));exact BK.out) hb);have B2_:=Aside0.mk (blk_below (g:=g2) (o:=.cells #[.slice none 0 0,.slice none 0 0] 30 (0,0)) (by (with_reducible repeat (first|refine blk_drewN ?_ _|refine blk_drew ?_|refine blk_alloc ?_ _));exact B2.out) hb);have B3_:=Aside0.mk (blk_below (g:=g3) (o:=.cells #[.slice none 0 0,.slice none 0 0] 55 (0,0)) (by (with_reducible repeat (first|refine blk_drewN ?_ _|refine blk_drew ?_|refine blk_alloc ?_ _));exact B3.out) hb);have BT_:=Aside0.mk (blk_below (g:=gT) (o:=.cells #[.pointer (some ⟨gt,0,none⟩)] 68 (0,0)) (by (with_reducible repeat (first|refine blk_drewN ?_ _|refine blk_drew ?_|refine blk_alloc ?_ _));exact BT.out) hb);have n0_:=Aside0.mk (below_step (by repeat (first|(with_reducible first|exact HB.out|apply zzD|apply zzE|apply zzF)|exact HB.out)) hb);clear HB BK B2 B3 BT;have HB:=n0_;have BK:=BK_;have B2:=B2_;have B3:=B3_;have BT:=BT_;clear n0_ hb BK_ B2_ B3_ BT_))
 obtain ⟨w9,hw9⟩ : ∃ w9,w9 = w8.alloc (.cells #[.slice Ao N.length co] 27):=⟨_,rfl⟩
 rw [← hw9]
 have H89 : Below w8.heap.size w8 w9:=by rw [hw9];exact zzD (Below.refl _ _) _
 have BO0 : w9.heap[w8.heap.size]? = some (.cells #[.slice Ao N.length co] 27 (0,0)):=by rw [hw9];exact blk_new _ _
 have BOb0 : w.heap.size ≤ w8.heap.size:=HB.out.size
 have H89_:=Aside0.mk H89
 have BK_:=Aside0.mk (blk_below BK.out H89)
 have B2_:=Aside0.mk (blk_below B2.out H89)
 have B3_:=Aside0.mk (blk_below B3.out H89)
 have BT_:=Aside0.mk (blk_below BT.out H89)
 have HB_:=Aside0.mk (below_step HB.out H89)
 have GOe:=Aside0.mk (show w8.heap.size ≤ w8.heap.size from Nat.le_refl _)
 have HB8:=HB
 clear BK B2 B3 BT HB H89 hw9
 generalize hgO : w8.heap.size = gO at BO0 BOb0 GOe ⊢
 have GO8:=Aside0.mk hgO
 have BO:=Aside0.mk BO0
 have BOb:=Aside0.mk BOb0
 have BK:=BK_
 have B2:=B2_
 have B3:=B3_
 have BT:=BT_
 have HB:=HB_
 clear BO0 BOb0 BK_ B2_ B3_ BT_ HB_ hgO
 have hcK0 : w9.cell? ⟨g1,0,none⟩ = some (.slice A0 N.length c0):=(blk_cell BK.out 0).trans rfl
 have hcK1 : w9.cell? ⟨g1,1,none⟩ = some (.slice A1 L.length c1):=(blk_cell BK.out 1).trans rfl
 have hmk1:=print_make_of (P:=Try.prog) 27 3 (.int .i64 0) 8 Try.underlying27 info3 rfl (by omega) N.length (by have:=HN8.out;omega)
 have hmk2:=print_make_of (P:=Try.prog) 27 3 (.int .i64 0) 8 Try.underlying27 info3 rfl (by omega) L.length (by have:=HL20.out;omega)
 refine Code.wp_mono (Q:=fun e a W=>e = .normal ∧ ∃ gp gq gM,a = ⟨#[.agg #[.slice A0 N.length c0,.slice A1 L.length c1],.pointer (some ⟨g1,0,none⟩),.pointer (some ⟨g2,0,none⟩),.pointer (some ⟨g3,0,none⟩),.int .i64 0,.int .i64 0,.pointer (some ⟨gT,0,none⟩),.pointer (some ⟨gO,0,none⟩),.slice Ac code.length cc,.pointer (some ⟨gM,0,none⟩),undef,undef,undef,undef,undef,.agg #[.slice A0 N.length c0,.slice A1 L.length c1],.int .i64 0,.int .i64 0,.bool false,undef,undef,undef,.agg #[.slice A0 N.length c0,.slice A1 L.length c1],.pointer (some ⟨gt,0,none⟩),.tuple #[.slice Ao N.length co,.slice Ac code.length cc],.pointer (some ⟨gt,0,none⟩),.tuple #[.slice Ao N.length co,.slice Ac code.length cc],.slice Ao N.length co,.slice Ac code.length cc,.pointer (some ⟨g1,0,none⟩),.slice A0 N.length c0,.int .i64 (N.length : Int),.slice (some ⟨gp,0,none⟩) N.length N.length,.pointer (some ⟨g1,1,none⟩),.slice A1 L.length c1,.int .i64 (L.length : Int),.slice (some ⟨gq,0,none⟩) L.length L.length,.agg #[.slice (some ⟨gp,0,none⟩) N.length N.length,.slice (some ⟨gq,0,none⟩) L.length L.length],undef,undef,undef,undef,undef,undef,undef,undef,undef,undef,undef,undef,undef,undef,undef,undef,undef,undef,undef,undef,undef,undef,undef,undef,undef,undef,undef,undef,undef,undef,undef,undef,undef,undef,undef,undef,undef,undef,undef,undef,undef,undef,undef],[]⟩ ∧ MadeM w9 W gp gq gM N.length L.length) (fun e a W h=>?rest6) ?walk6
 case walk6 =>
  go_region_held3 (fun W : World=>W.cell? ⟨g1,0,none⟩ = some (.slice A0 N.length c0) ∧ W.cell? ⟨g1,1,none⟩ = some (.slice A1 L.length c1) ∧ W.heap[g1]? = some (.cells #[.slice A0 N.length c0,.slice A1 L.length c1] 30 (0,0))) (exact box2_S (by (with_reducible repeat (first|refine blk_drewN ?_ _|refine blk_drew ?_|refine blk_alloc ?_ _));first|exact BK.out|exact hHeld.2.2)) (fail)
  all_goals
   refine ⟨rfl,?_⟩
   simp only [made_ints]
   first
    | exact ⟨w9.heap.size,w9.heap.size + 1,w9.heap.size + 1 + 1,rfl,(blk3 _ _ _ _).1,(blk3 _ _ _ _).2.1,(blk3 _ _ _ _).2.2.1,(blk3 _ _ _ _).2.2.2,by omega,by omega,by omega,by omega⟩
    | exact ⟨w9.heap.size,w9.heap.size + 1 + 1,w9.heap.size + 1,rfl,(blk3 _ _ _ _).1,(blk3 _ _ _ _).2.2.1,(blk3 _ _ _ _).2.1,(blk3 _ _ _ _).2.2.2,by omega,by omega,by omega,by omega⟩
    | exact ⟨w9.heap.size + 1,w9.heap.size,w9.heap.size + 1 + 1,rfl,(blk3 _ _ _ _).2.1,(blk3 _ _ _ _).1,(blk3 _ _ _ _).2.2.1,(blk3 _ _ _ _).2.2.2,by omega,by omega,by omega,by omega⟩
    | exact ⟨w9.heap.size + 1,w9.heap.size + 1 + 1,w9.heap.size,rfl,(blk3 _ _ _ _).2.1,(blk3 _ _ _ _).2.2.1,(blk3 _ _ _ _).1,(blk3 _ _ _ _).2.2.2,by omega,by omega,by omega,by omega⟩
    | exact ⟨w9.heap.size + 1 + 1,w9.heap.size,w9.heap.size + 1,rfl,(blk3 _ _ _ _).2.2.1,(blk3 _ _ _ _).1,(blk3 _ _ _ _).2.1,(blk3 _ _ _ _).2.2.2,by omega,by omega,by omega,by omega⟩
    | exact ⟨w9.heap.size + 1 + 1,w9.heap.size + 1,w9.heap.size,rfl,(blk3 _ _ _ _).2.2.1,(blk3 _ _ _ _).2.1,(blk3 _ _ _ _).1,(blk3 _ _ _ _).2.2.2,by omega,by omega,by omega,by omega⟩
 obtain ⟨rfl,gp,gq,gM,rfl,hm⟩:=h
 dsimp only
 have lT : gT < w9.heap.size:=blk_lt BT.out
 have lO : gO < w9.heap.size:=blk_lt BO.out
 have g23 : g2 < w9.heap.size ∧ g3 < w9.heap.size:=⟨blk_lt B2.out,blk_lt B3.out⟩
 have HB9:=Aside0.mk HB.out.size
 have BT:=Aside0.mk (blk_below BT.out hm.hb)
 have BO:=Aside0.mk (blk_below BO.out hm.hb)
 have l1 : g1 < w9.heap.size:=blk_lt BK.out
 have BK:=Aside0.mk (blk_below BK.out hm.hb)
 have B2:=Aside0.mk (blk_below B2.out hm.hb)
 have B3:=Aside0.mk (blk_below B3.out hm.hb)
 have HB:=Aside0.mk (below_step HB.out hm.hb)
 have HM:=Aside0.mk hm
 clear hm
 go_upto_region 9 with (fail)
 obtain ⟨W0,hW0⟩ : ∃ W0,W0 = W.alloc (.cells #[.slice none 0 0,.slice none 0 0] 30):=⟨_,rfl⟩
 rw [← hW0]
 have HW0 : Below W.heap.size W W0:=by rw [hW0];exact zzD (Below.refl _ _) _
 have BX0 : W0.heap[W.heap.size]? = some (.cells #[.slice none 0 0,.slice none 0 0] 30 (0,0)):=by rw [hW0];exact blk_new _ _
 have lX0 : w9.heap.size ≤ W.heap.size:=HM.out.hb.size
 have pX : W.heap.size ≠ gp:=by have:=blk_lt HM.out.hp;omega
 have qX : W.heap.size ≠ gq:=by have:=blk_lt HM.out.hq;omega
 clear hW0
 have H8W : Below w8.heap.size w8 W0:=below_step (below_step H89_.out HM.out.hb) HW0
 have HE0 : OfE w8 W0 gt gT gO g1 gM W.heap.size gp gq A0 c0 N A1 c1 L gR S Ao co o:=by
  have l8 : w8.heap.size ≤ w9.heap.size:=H89_.out.size
  have bp:=HM.out.bp
  have bq:=HM.out.bq
  refine ⟨TT.out,P1.out.2,H8W,by omega,by omega,by omega,⟨blk_below BK.out HW0,?_⟩,⟨blk_below BT.out HW0,?_⟩,⟨blk_below BO.out HW0,?_⟩,⟨blk_below HM.out.hM HW0,?_⟩,HO3.out,HO2.out,by have:=HN8.out;omega,by have:=HL20.out;omega,?_,pX,qX,HM.out.ne,blk_lt BX0,blk_lt (blk_below HM.out.hp HW0),blk_lt (blk_below HM.out.hq HW0)⟩
  ·rintro (h|h|h) <;> omega
  ·rintro (h|h|h) <;> omega
  ·rintro (h|h|h) <;> omega
  ·have n1:=ty_ne HM.out.hM HM.out.hp (by decide)
   have n2:=ty_ne HM.out.hM HM.out.hq (by decide)
   have n3:=blk_lt HM.out.hM
   rintro (h|h|h) <;> omega
  ·exact P1.out.1
 have HI0 : OfI W0 W0.heap.size W.heap.size gp gq N.length L.length (.slice none 0 0) (.slice none 0 0) (ofX N o 0) (ofE L S o 0).2 (ofP N.length o 0) (ofE L S o 0).1 :=
  ⟨BX0,blk_below HM.out.hp HW0,blk_below HM.out.hq HW0,ofP_len _ _ _,by simp [ofE],Kd.R_nil _ _ _ _ _,Kd.R_nil _ _ _ _ _⟩
 have HBW0 : Below w.heap.size w W0:=below_step HB.out HW0
 have HS0 : ∀ k,PK W.heap.size gp gq k → w.heap.size ≤ k:=fun k hk=>by
  have l8 : w.heap.size ≤ W.heap.size:=HB.out.size
  have l9 : w.heap.size ≤ w9.heap.size:=HB9.out
  have bp:=HM.out.bp
  have bq:=HM.out.bq
  rcases hk with h|h|h <;> omega
 have B2:=Aside0.mk (blk_below B2.out HW0)
 have B3:=Aside0.mk (blk_below B3.out HW0)
 have NM3:=Aside0.mk (show gM ≠ g3 from by have:=HM.out.bM;omega)
 have l2 : ¬ PK W.heap.size gp gq g2:=by
  have bp:=HM.out.bp
  have bq:=HM.out.bq
  rintro (h|h|h) <;> omega
 have l3 : ¬ PK W.heap.size gp gq g3:=by
  have bp:=HM.out.bp
  have bq:=HM.out.bq
  rintro (h|h|h) <;> omega
 generalize W.heap.size = gX at HE0 HI0 HS0 l2 l3 ⊢
 have HE:=Aside0.mk HE0
 have HI:=Aside0.mk HI0
 have HBW:=Aside0.mk HBW0
 have HSS:=Aside0.mk HS0
 have L2:=Aside0.mk l2
 have L3:=Aside0.mk l3
 have HK:=Aside0.mk (Kept.refl W0 (PK gX gp gq))
 have hcO : W0.cell? ⟨gO,0,none⟩ = some (.slice Ao N.length co):=(blk_cell (HE.out.boxes HK.out).2.2.1 0).trans rfl
 clear HE0 HI0 HBW0 HS0 l2 l3 BK BT BO HM HB HW0 BX0 lX0 H8W l1 lT lO g23 TT P1 H89_ HB8 GO8 BOb BTb GOe HTB HBS HV pX qX HB9
 have HSB:=Aside0.mk (show w.heap.size ≤ W0.heap.size from HBW.out.size)
 go_wp2
 go_loopw [41] (fun v wr=>∃ (k : Nat) (vX vY : Value),k ≤ N.length ∧ v = .int .i64 (k : Int) ∧ Aside0 (OfI wr W0.heap.size gX gp gq N.length L.length vX vY (ofX N o k) (ofE L S o k).2 (ofP N.length o k) (ofE L S o k).1) ∧ Aside0 (Kept W0 wr (PK gX gp gq)) ∧ Aside0 (Below w.heap.size w wr)) (fun v _=>N.length - (intOf v).toNat)
 case atStart=>exact ⟨0,_,_,by omega,rfl,HI,HK,HBW⟩
 case round =>
  clear HI HK HBW hcO
  obtain ⟨k,vX,vY,hk,rfl,HI,HK,HBW⟩:=hrel
  have hcO : wr.cell? ⟨gO,0,none⟩ = some (.slice Ao N.length co):=(blk_cell (HE.out.boxes HK.out).2.2.1 0).trans rfl
  have hn9 : N.length ≤ 9:=HE.out.hn
  by_cases c3 : k < N.length
  ·have k3 : decide ((k : Int) < (N.length : Int)) = true:=decide_eq_true (by omega)
   have k3' : decide (k < N.length) = true:=decide_eq_true c3
   obtain ⟨ado,e1,hxo⟩:=Kd.at_int HE.out.hC (k : Int) (by omega) (by omega)
   cases e1
   have hko : rd (io o) (k : Int) = ((o.getD k 0 : Nat) : Int):=by
    have : k < o.length:=by rw [HE.out.hol];exact c3
    simp [rd,io,List.getD_eq_getElem?_getD,List.getElem?_eq_getElem this]
   rw [hko,Int.toNat_natCast] at hxo
   replace hxo:=HE.out.cell hxo HK.out
   have hvn : o.getD k 0 < N.length:=getD_lt HE.out.ho HE.out.hol c3
   have HPX:=Aside0.mk (ofP_succ N.length o k)
   have HXX:=Aside0.mk (ofX_succ N o (k:=k) (by rw [HE.out.hol];exact c3))
   generalize o.getD k 0 = v at hxo hvn HPX HXX
   clear hko
   obtain ⟨an,e2,hxn⟩:=Kd.at_int HE.out.hT.hN (v : Int) (by omega) (by omega)
   cases e2
   rw [Int.toNat_natCast] at hxn
   have HXN:=Aside0.mk hxn
   have hcM : wr.cell? ⟨gM,0,none⟩ = some (.slice (some ⟨gp,0,none⟩) N.length N.length):=(blk_cell (HE.out.boxes HK.out).2.2.2 0).trans rfl
   have hfp : wr.frozen? ⟨gp,v,none⟩ = false:=blk_frozen HI.out.hP v
   have hq1 : 0 ≤ (v : Int):=by omega
   have hq2 : (v : Int) < (N.length : Int):=by omega
   obtain ⟨zp,hcp⟩ : ∃ z,wr.cell? ⟨gp,v,none⟩ = some z:=⟨_,(blk_cell HI.out.hP v).trans (Array.getElem?_eq_getElem (by simp;rw [HI.out.lP];exact hvn))⟩
   clear hxn
   go_upto_region 13 with (first|((with_reducible refine gate_store (t:=3) (p:=50) rfl ?_);refine store_event (t:=3) (p:=50) (v:=?vo50_2) (w1:=wr.setCell ⟨gp,v,none⟩ (.int .i64 (k : Int))) ?hg ?ho ?hn ?hr ?_;(case ho=>rfl);(case hg=>rfl);(case hn=>rfl);(case hr=>first|(go_simp;done)|(go_simp;rfl));intro wS hw))
   have F0 : Below w.heap.size w (wr.setCell ⟨gp,v,none⟩ (.int .i64 (k : Int))):=below_setB HBW.out (HSS.out _ (.inr (.inl rfl))) _
   have F1:=HI.out.setP HE.out.xp HE.out.pq HE.out.bp v (k : Int)
   have F2 : Kept W0 (wr.setCell ⟨gp,v,none⟩ (.int .i64 (k : Int))) (PK gX gp gq):=HK.out.setCell (.inl (.inr (.inl rfl))) _
   rw [← hw] at F0 F1 F2
   rw [← HPX.out] at F1
   obtain ⟨Ax,cx,e4⟩:=Kd.R_slice F1.rX
   subst e4
   have hcX : wS.cell? ⟨gX,0,none⟩ = some (.slice Ax (ofX N o k).length cx):=(blk_cell F1.hX 0).trans rfl
   have hc1 : wS.cell? ⟨g1,0,none⟩ = some (.slice (some an) N.length c0):=(blk_cell (HE.out.boxes F2).1 0).trans rfl
   have hxn : wS.cell? (an.add v) = some (.int .i64 (rd N (v : Int))):=HE.out.cell HXN.out F2
   have hxl : (ofX N o k).length ≤ N.length:=by simp [ofX];omega
   have BX:=Aside0.mk (Below.refl wS.heap.size wS)
   clear HI HK HBW hw hcM hfp hcp hcO
   have HI:=Aside0.mk F1
   have HK:=Aside0.mk F2
   have HBW:=Aside0.mk F0
   clear F0 F1 F2
   refine start_ (n:=11) (S:=fun w'=>w'.cell? ⟨gX,0,none⟩ = some (.slice Ax (ofX N o k).length cx) ∧ w'.cell? ⟨g1,0,none⟩ = some (.slice (some an) N.length c0) ∧ w'.cell? (an.add v) = some (.int .i64 (rd N (v : Int)))) (ds:=[10]) #[false,false,false,false,false,false,false,false,false,false,false] (by kernel_rfl) rfl rfl ⟨hcX,hc1,hxn⟩ (fun hHeld=>?_)
   refine with_tabW putX.tab13 putX.bits13 (fun HT_ HW_=>?_)
   refine pure_ (i:=0) (N:=some 51) (v:=?_) (a':=?_) #[true,false,false,false,false,false,false,false,false,false,false] rfl rfl (any_of HT_.out (by kernel_rfl)) (fun _ _ _ h=>h) (Or.inl ⟨by rfl,?_⟩) ?_ ?_
   rotate_left
   ·intro w'
    go_simp
    with_reducible rfl
   rotate_left
   ·simp only [Act.put,zzA,zzB,zzC,i64_w,i32_w]
    rfl
   refine pure_ (i:=2) (N:=some 53) (v:=?_) (a':=?_) #[true,false,true,false,false,false,false,false,false,false,false] rfl rfl (any_of HT_.out (by kernel_rfl)) (fun _ _ _ h=>h) (Or.inl ⟨by rfl,?_⟩) ?_ ?_
   rotate_left
   ·intro w'
    go_simp
    with_reducible rfl
   rotate_left
   ·simp only [Act.put,zzA,zzB,zzC,i64_w,i32_w]
    rfl
   refine pure_ (i:=4) (N:=some 55) (v:=?_) (a':=?_) #[true,false,true,false,true,false,false,false,false,false,false] rfl rfl (any_of HT_.out (by kernel_rfl)) (fun _ _ _ h=>h) (Or.inl ⟨by rfl,?_⟩) ?_ ?_
   rotate_left
   ·intro w'
    go_simp
    with_reducible rfl
   rotate_left
   ·simp only [Act.put,zzA,zzB,zzC,i64_w,i32_w]
    rfl
   refine take_ (i:=1) (N:=some 52) (v:=?_) (a':=?_) #[true,true,true,false,true,false,false,false,false,false,false] rfl rfl (take_ofW HT_.out HW_.out (by kernel_rfl)) (fun _ _ _ h=>h) (Or.inl ⟨by rfl,?_⟩) hHeld ?_ ?_
   rotate_left
   ·rintro w' ⟨s0,s1,s2⟩
    go_simp
    with_reducible rfl
   rotate_left
   ·simp only [Act.put,zzA,zzB,zzC,i64_w,i32_w]
    rfl
   refine take_ (i:=3) (N:=some 54) (v:=?_) (a':=?_) #[true,true,true,true,true,false,false,false,false,false,false] rfl rfl (take_ofW HT_.out HW_.out (by kernel_rfl)) (fun _ _ _ h=>h) (Or.inl ⟨by rfl,?_⟩) hHeld ?_ ?_
   rotate_left
   ·rintro w' ⟨s0,s1,s2⟩
    go_simp
    with_reducible rfl
   rotate_left
   ·simp only [Act.put,zzA,zzB,zzC,i64_w,i32_w]
    rfl
   refine pure_ (i:=5) (N:=some 56) (v:=?_) (a':=?_) #[true,true,true,true,true,true,false,false,false,false,false] rfl rfl (any_of HT_.out (by kernel_rfl)) (fun _ _ _ h=>h) (Or.inl ⟨by rfl,?_⟩) ?_ ?_
   rotate_left
   ·intro w'
    go_simp
    with_reducible rfl
   rotate_left
   ·simp only [Act.put,zzA,zzB,zzC,i64_w,i32_w]
    rfl
   refine take_ (i:=6) (N:=some 57) (v:=?_) (a':=?_) #[true,true,true,true,true,true,true,false,false,false,false] rfl rfl (take_ofW HT_.out HW_.out (by kernel_rfl)) (fun _ _ _ h=>h) (Or.inl ⟨by rfl,?_⟩) hHeld ?_ ?_
   rotate_left
   ·rintro w' ⟨s0,s1,s2⟩
    go_simp
    with_reducible rfl
   rotate_left
   ·simp only [Act.put,zzA,zzB,zzC,i64_w,i32_w]
    rfl
   refine one_ (i:=7) (N:=some 58) #[true,true,true,true,true,true,true,true,false,false,false] rfl rfl (one_of HT_.out (by kernel_rfl)) (by decide) (fun K hK=>?_)
   refine value_ (w1:=?_) (v:=?_) (by rfl) rfl ?_ ?_
   rotate_left 2
   ·go_simp
    constructor
    ·rfl
    ·rfl
   refine hK.out _ _ ⟨(pw_cell_below (w:=wS) (by repeat (first|(with_reducible first|exact BX.out|apply zzD|apply zzE|apply zzF)|exact BX.out)) hcX),(pw_cell_below (w:=wS) (by repeat (first|(with_reducible first|exact BX.out|apply zzD|apply zzE|apply zzF)|exact BX.out)) hc1),(pw_cell_below (w:=wS) (by repeat (first|(with_reducible first|exact BX.out|apply zzD|apply zzE|apply zzF)|exact BX.out)) hxn)⟩ (fun hHeld=>?_)
   clear hK K
   refine norm_ (a':=?_) ?_ ?_
   rotate_left
   ·show Act.put _ (some 58) _ = _
    simp only [Act.put,zzA,zzB,zzC,i64_w,i32_w]
    rfl
   refine one_ (i:=8) (N:=some 59) #[true,true,true,true,true,true,true,true,true,false,false] rfl rfl (one_of HT_.out (by kernel_rfl)) (by decide) (fun K hK=>?_)
   refine app_drew (w0:=wS) (W:=wS) W0.heap.size (by rfl) (.tmp 52) (.tmp 58) 27 rfl Try.underlying27 info3 (.slice Ax (ofX N o k).length cx) (ofX N o k) (rd N (v : Int)) rfl rfl HI.out.rX (Below.refl _ _) HK.out.1 (by omega) ?_
   intro v1 w4 ho hb hg hat
   obtain ⟨Av,cv,ev⟩:=Kd.R_slice ho
   subst ev
   have QG:=Aside0.mk (show Kept W0 w4 (PK gX gp gq) from Kept.of_grown hg HK.out (fun k hk=>.inr (Kd.R_base HI.out.rX k hk)))
   have QX:=Aside0.mk (blk_grown HI.out.hX hg (fun he=>by have:=Kd.R_base HI.out.rX gX he.symm;have:=HE.out.bX;omega))
   have OW:=Aside0.mk ho
   have HB4:=Aside0.mk hb
   have HG4:=Aside0.mk hg
   clear ho hb hg hat
   have hcX4 : w4.cell? ⟨gX,0,none⟩ = some (.slice Ax (ofX N o k).length cx):=(blk_cell QX.out 0).trans rfl
   have hfX4:=blk_frozen QX.out 0
   refine hK.out _ _ ⟨hcX4,((blk_cell (HE.out.boxes QG.out).1 0).trans rfl),(HE.out.cell HXN.out QG.out)⟩ (fun hHeld=>?_)
   clear hK K
   refine norm_ (a':=?_) ?_ ?_
   rotate_left
   ·show Act.put _ (some 59) _ = _
    simp only [Act.put,zzA,zzB,zzC,i64_w,i32_w]
    rfl
   refine pure_ (i:=9) (N:=some 60) (v:=?_) (a':=?_) #[true,true,true,true,true,true,true,true,true,true,false] rfl rfl (any_of HT_.out (by kernel_rfl)) (fun _ _ _ h=>h) (Or.inl ⟨by rfl,?_⟩) ?_ ?_
   rotate_left
   ·intro w'
    go_simp
    with_reducible rfl
   rotate_left
   ·simp only [Act.put,zzA,zzB,zzC,i64_w,i32_w]
    rfl
   refine last_ (i:=10) (N:=none) #[true,true,true,true,true,true,true,true,true,true,true] rfl rfl (one_of HT_.out (by kernel_rfl)) (by decide) (fun K hK=>?_)
   refine skip_ (w1:=?_) (by rfl) rfl ?_ ?_
   rotate_left
   ·go_simp
    rfl
   refine hK.out _ _ ?_
   clear hK K
   refine done_ (done_of HT_.out (by kernel_rfl)) ?_
   simp only [List.length_append,List.length_cons,List.length_nil,Nat.zero_add]
   have F1:=HI.out.putX HE.out.xp HE.out.xq HE.out.bX HE.out.bp HE.out.bq OW.out HG4.out
   have F2 : Kept W0 (w4.setCell ⟨gX,0,none⟩ (.slice Av (ofX N o k ++ [rd N (v : Int)]).length cv)) (PK gX gp gq):=QG.out.setCell (.inl (.inl rfl)) _
   have F4 : Below w.heap.size w (w4.setCell ⟨gX,0,none⟩ (.slice Av (ofX N o k ++ [rd N (v : Int)]).length cv)):=below_setB (below_thenB HBW.out HB4.out HSB.out) (HSS.out _ (.inl rfl)) _
   rw [← HXX.out] at F1 F2 F4
   have hln : (ofX N o (k + 1)).length = (ofX N o k).length + 1:=by rw [HXX.out];simp
   rw [hln] at F1 F2 F4
   have R1:=Aside0.mk F1
   have R2:=Aside0.mk F2
   have R4:=Aside0.mk F4
   clear F1 F2 F4 QG QX OW HB4 HG4 HI HK HBW BX hln HPX HXX hcX4 hfX4
   generalize w4.setCell ⟨gX,0,none⟩ (.slice Av ((ofX N o k).length + 1) cv) = w5 at R1 R2 R4 ⊢
   have HN9:=Aside0.mk hn9
   have HFF:=Aside0.mk (show ∀ (l : List (Nat × Nat)),(∀ p ∈ l,p.1 < N.length ∧ p.2 < N.length) → ∀ st,(l.foldl (put2 L S o) st).2.length ≤ st.2.length + 100 * l.length from put2_len HE.out.hT.fits HE.out.ho HE.out.hol)
   have HEL:=Aside0.mk (ofE_len HE.out.hT.fits HE.out.ho HE.out.hol hn9 k (by omega))
   go_wp2
   go_loopw [62] (fun v wr=>∃ (j : Nat) (vY' : Value),j ≤ k ∧ v = .int .i64 (j : Int) ∧ Aside0 (OfI wr W0.heap.size gX gp gq N.length L.length (.slice Av ((ofX N o k).length + 1) cv) vY' (ofX N o (k + 1)) ((pairsK k j).foldl (put2 L S o) (ofE L S o k)).2 (ofP N.length o (k + 1)) ((pairsK k j).foldl (put2 L S o) (ofE L S o k)).1) ∧ Aside0 (Kept W0 wr (PK gX gp gq)) ∧ Aside0 (Below w.heap.size w wr)) (fun v _=>k - (intOf v).toNat)
   case atStart=>exact ⟨0,_,by omega,rfl,R1,R2,R4⟩
   case round =>
    clear R1 R2 R4
    obtain ⟨j,vY',hj,rfl,HI,HK,HBW⟩:=hrel
    by_cases c4 : j < k
    ·have k4 : decide ((j : Int) < (k : Int)) = true:=decide_eq_true (by omega)
     have k4' : decide (j < k) = true:=decide_eq_true c4
     have HPS:=Aside0.mk (show (pairsK k (j + 1)).foldl (put2 L S o) (ofE L S o k) = put2 L S o (put2 L S o ((pairsK k j).foldl (put2 L S o) (ofE L S o k)) (j,k)) (k,j) from by rw [pairsK_succ,List.foldl_append];rfl)
     have HLN:=Aside0.mk (show ((pairsK k j).foldl (put2 L S o) (ofE L S o k)).2.length ≤ 1000000 from by have:=HFF.out _ (pairsK_mem c3 (by omega : j ≤ N.length)) (ofE L S o k);rw [pairsK_len] at this;have:=HEL.out;omega)
     have HLN2:=Aside0.mk (show (put2 L S o ((pairsK k j).foldl (put2 L S o) (ofE L S o k)) (j,k)).2.length ≤ 1000000 from by have:=HFF.out (pairsK k j ++ [(j,k)]) (fun p hp=>by (rcases List.mem_append.1 hp with h|h);exact pairsK_mem c3 (by omega) p h;simp at h;subst h;exact ⟨by omega,by omega⟩) (ofE L S o k);rw [List.foldl_append,List.length_append,pairsK_len] at this;simp only [List.foldl_cons,List.foldl_nil,List.length_cons,List.length_nil] at this;have:=HEL.out;omega)
     go_wp2_with (first|((with_reducible refine gate_dst (N:=68) rfl ?_);refine goesV (some 68) rfl rfl ent56 #[.int .i64 (j : Int),.int .i64 (k : Int)] rfl rfl (by (try simp only [List.map_toArray,List.map_cons,List.map_nil]);rfl) ?_;refine (clo56_calls HE.out (i:=j) (j:=k) (by omega) (by omega) HK.out HI.out (by first|exact HLN.out|(have:=HLN2.out;exact this)) HBW.out HSS.out HSB.out).mono ?_;rintro e wA ⟨rfl,hk_,hb_,vZ68,hi_⟩;refine ⟨_,rfl,?_⟩;clear HK HBW HI;have HK:=Aside0.mk hk_;have HBW:=Aside0.mk hb_;have HI:=Aside0.mk hi_;clear hk_ hb_ hi_)|((with_reducible refine gate_dst (N:=72) rfl ?_);refine goesV (some 72) rfl rfl ent56 #[.int .i64 (k : Int),.int .i64 (j : Int)] rfl rfl (by (try simp only [List.map_toArray,List.map_cons,List.map_nil]);rfl) ?_;refine (clo56_calls HE.out (i:=k) (j:=j) (by omega) (by omega) HK.out HI.out (by first|exact HLN.out|(have:=HLN2.out;exact this)) HBW.out HSS.out HSB.out).mono ?_;rintro e wB ⟨rfl,hk_,hb_,vZ72,hi_⟩;refine ⟨_,rfl,?_⟩;clear HK HBW HI;have HK:=Aside0.mk hk_;have HBW:=Aside0.mk hb_;have HI:=Aside0.mk hi_;clear hk_ hb_ hi_))
     go_roundw
     case rel=>exact ⟨j + 1,_,by omega,by first|rfl|simp,Aside0.mk (by rw [HPS.out];exact HI.out),HK,HBW⟩
     case measure=>show k - ((j : Int) + 1).toNat < k - ((j : Nat) : Int).toNat;omega
    ·have k4 : decide ((j : Int) < (k : Int)) = false:=decide_eq_false (by omega)
     have k4' : decide (j < k) = false:=decide_eq_false c4
     obtain rfl : j = k:=by omega
     have HLN:=Aside0.mk (show ((pairsK j j).foldl (put2 L S o) (ofE L S o j)).2.length ≤ 1000000 from by have:=HFF.out _ (pairsK_mem c3 (by omega : j ≤ N.length)) (ofE L S o j);rw [pairsK_len] at this;have:=HEL.out;omega)
     have HPS:=Aside0.mk (show ofE L S o (j + 1) = put2 L S o ((pairsK j j).foldl (put2 L S o) (ofE L S o j)) (j,j) from by rw [ofE_succ,List.foldl_append];rfl)
     go_wp2_with (first|((with_reducible refine gate_dst (N:=77) rfl ?_);refine goesV (some 77) rfl rfl ent56 #[.int .i64 (j : Int),.int .i64 (j : Int)] rfl rfl (by (try simp only [List.map_toArray,List.map_cons,List.map_nil]);rfl) ?_;refine (clo56_calls HE.out (i:=j) (j:=j) (by omega) (by omega) HK.out HI.out (by first|exact HLN.out|(have:=HLN2.out;exact this)) HBW.out HSS.out HSB.out).mono ?_;rintro e wC ⟨rfl,hk_,hb_,vZ77,hi_⟩;refine ⟨_,rfl,?_⟩;clear HK HBW HI;have HK:=Aside0.mk hk_;have HBW:=Aside0.mk hb_;have HI:=Aside0.mk hi_;clear hk_ hb_ hi_))
     go_roundw
     case rel=>exact ⟨j + 1,_,_,by omega,by first|rfl|simp,Aside0.mk (by rw [HPS.out];exact HI.out),HK,HBW⟩
     case measure=>show N.length - ((j : Int) + 1).toNat < N.length - ((j : Nat) : Int).toNat;omega
  ·have k3 : decide ((k : Int) < (N.length : Int)) = false:=decide_eq_false (by omega)
   have k3' : decide (k < N.length) = false:=decide_eq_false c3
   obtain rfl : k = N.length:=by omega
   obtain ⟨Ax,cx,e4⟩:=Kd.R_slice HI.out.rX
   obtain ⟨Ay,cy,e5⟩:=Kd.R_slice HI.out.rY
   subst e4 e5
   have hol : (ofX N o N.length).length = N.length:=by simp [ofX,HE.out.hol]
   rw [hol] at HI
   have b2:=blk_kept B2.out HK.out L2.out
   have b3:=blk_kept B3.out HK.out L3.out
   have B2w:=Aside0.mk b2
   have B3w:=Aside0.mk b3
   have bM:=(HE.out.boxes HK.out).2.2.2
   have BMw:=Aside0.mk bM
   have HF22:=Aside0.mk (show F22 wr gX gM g2 g3 (.slice Ax N.length cx) (.slice Ay (ofE L S o N.length).2.length cy) (.slice (some ⟨gp,0,none⟩) N.length N.length) (.slice (some ⟨gq,0,none⟩) L.length L.length) from ⟨HI.out.hX,bM,⟨_,_,b2⟩,⟨_,_,b3⟩,fun h=>L2.out (.inl h.symm),NM3.out⟩)
   have HFD:=Aside0.mk (F22.drew HF22.out)
   have hcX0 : wr.cell? ⟨gX,0,none⟩ = some (.slice Ax N.length cx):=(blk_cell HI.out.hX 0).trans rfl
   have hcX1 : wr.cell? ⟨gX,1,none⟩ = some (.slice Ay (ofE L S o N.length).2.length cy):=(blk_cell HI.out.hX 1).trans rfl
   have hcM0 : wr.cell? ⟨gM,0,none⟩ = some (.slice (some ⟨gp,0,none⟩) N.length N.length):=(blk_cell bM 0).trans rfl
   have hcM1 : wr.cell? ⟨gM,1,none⟩ = some (.slice (some ⟨gq,0,none⟩) L.length L.length):=(blk_cell bM 1).trans rfl
   have hc20 : wr.cell? ⟨g2,0,none⟩ = some (.slice none 0 0):=(blk_cell b2 0).trans rfl
   have hc21 : wr.cell? ⟨g2,1,none⟩ = some (.slice none 0 0):=(blk_cell b2 1).trans rfl
   have hf20 : wr.frozen? ⟨g2,0,none⟩ = false:=blk_frozen b2 0
   have hf21 : wr.frozen? ⟨g2,1,none⟩ = false:=blk_frozen b2 1
   have TB:=Aside0.mk (two_boxes (W':=((wr.setCell ⟨g2,0,none⟩ (.slice Ax N.length cx)).setCell ⟨g2,1,none⟩ (.slice Ay (ofE L S o N.length).2.length cy))) b2 b3 rfl)
   obtain ⟨_,_,hw5a,hw5b,hw5c,hw5d⟩:=TB.out
   clear b2 b3 bM hcO
   go_upto_region 22 with (fail)
   refine start_ (n:=5) (S:=fun w'=>w'.cell? ⟨gX,0,none⟩ = some (.slice Ax N.length cx) ∧ w'.cell? ⟨gX,1,none⟩ = some (.slice Ay (ofE L S o N.length).2.length cy) ∧ w'.cell? ⟨gM,0,none⟩ = some (.slice (some ⟨gp,0,none⟩) N.length N.length) ∧ w'.cell? ⟨gM,1,none⟩ = some (.slice (some ⟨gq,0,none⟩) L.length L.length)) (ds:=[]) #[false,false,false,false,false] (by kernel_rfl) rfl rfl ⟨((blk_cell (HFD.out).hX 0).trans rfl),((blk_cell (HFD.out).hX 1).trans rfl),((blk_cell (HFD.out).hM 0).trans rfl),((blk_cell (HFD.out).hM 1).trans rfl)⟩ (fun hHeld=>?_)
   refine with_tabW of.tab22 of.bits22 (fun HT_ HW_=>?_)
   refine take_ (i:=0) (N:=some 79) (v:=?_) (a':=?_) #[true,false,false,false,false] rfl rfl (take_ofW HT_.out HW_.out (by kernel_rfl)) (fun _ _ _ h=>h) (Or.inl ⟨by rfl,?_⟩) hHeld ?_ ?_
   rotate_left
   ·rintro w' ⟨s0,s1,s2,s3⟩
    go_simp
    with_reducible rfl
   rotate_left
   ·simp only [Act.put,zzA,zzB,zzC,i64_w,i32_w]
    rfl
   refine take_ (i:=1) (N:=some 80) (v:=?_) (a':=?_) #[true,true,false,false,false] rfl rfl (take_ofW HT_.out HW_.out (by kernel_rfl)) (fun _ _ _ h=>h) (Or.inl ⟨by rfl,?_⟩) hHeld ?_ ?_
   rotate_left
   ·rintro w' ⟨s0,s1,s2,s3⟩
    go_simp
    with_reducible rfl
   rotate_left
   ·simp only [Act.put,zzA,zzB,zzC,i64_w,i32_w]
    rfl
   refine one_ (i:=2) (N:=none) #[true,true,true,false,false] rfl rfl (one_of HT_.out (by kernel_rfl)) (by decide) (fun K hK=>?_)
   refine skip_ (w1:=?_) (by rfl) rfl ?_ ?_
   rotate_left
   ·go_simp
    rfl
   refine hK.out _ _ ⟨((blk_cell (F22.drew (F22.set2 HF22.out _ _)).hX 0).trans rfl),((blk_cell (F22.drew (F22.set2 HF22.out _ _)).hX 1).trans rfl),((blk_cell (F22.drew (F22.set2 HF22.out _ _)).hM 0).trans rfl),((blk_cell (F22.drew (F22.set2 HF22.out _ _)).hM 1).trans rfl)⟩ (fun hHeld=>?_)
   clear hK K
   refine one_ (i:=3) (N:=none) #[true,true,true,true,false] rfl rfl (one_of HT_.out (by kernel_rfl)) (by decide) (fun K hK=>?_)
   refine skip_ (w1:=?_) (by rfl) rfl ?_ ?_
   rotate_left
   ·go_simp
    rfl
   refine hK.out _ _ ⟨((blk_cell (F22.drew (F22.set3 (F22.set2 HF22.out _ _) _ _)).hX 0).trans rfl),((blk_cell (F22.drew (F22.set3 (F22.set2 HF22.out _ _) _ _)).hX 1).trans rfl),((blk_cell (F22.drew (F22.set3 (F22.set2 HF22.out _ _) _ _)).hM 0).trans rfl),((blk_cell (F22.drew (F22.set3 (F22.set2 HF22.out _ _) _ _)).hM 1).trans rfl)⟩ (fun hHeld=>?_)
   clear hK K
   refine pure_ (i:=4) (N:=some 4) (v:=?_) (a':=?_) #[true,true,true,true,true] rfl rfl (any_of HT_.out (by kernel_rfl)) (fun _ _ _ h=>h) (Or.inl ⟨by rfl,?_⟩) ?_ ?_
   rotate_left
   ·intro w'
    go_simp
    with_reducible rfl
   rotate_left
   ·simp only [Act.put,zzA,zzB,zzC,i64_w,i32_w]
    rfl
   refine done_ (done_of HT_.out (by kernel_rfl)) ?_
   go_wp2
   have b2:=blk_kept B2.out HK.out L2.out
   have b3:=blk_kept B3.out HK.out L3.out
   have TC:=two_boxes' (W':=((((wr.setCell ⟨g2,0,none⟩ (.slice Ax N.length cx)).setCell ⟨g2,1,none⟩ (.slice Ay (ofE L S o N.length).2.length cy)).setCell ⟨g3,0,none⟩ (.slice (some ⟨gp,0,none⟩) N.length N.length)).setCell ⟨g3,1,none⟩ (.slice (some ⟨gq,0,none⟩) L.length L.length))) TB.out.1 TB.out.2.1 rfl
   ((try simp only [Exit.inBlock,Exit.then]);refine bodyPost_ret (results_of rfl _ _ g2 g3 _ _ _ _ rfl rfl TC.1 TC.2 Try.underlying30 rfl (by kernel_rfl) Try.underlying55 rfl (by kernel_rfl)) rfl ?_)
   have l2:=blk_lt B2.out
   have l3:=blk_lt B3.out
   have n2 : ∀ k,W0.heap.size ≤ k → k ≠ g2 ∧ k ≠ g3:=fun k hk=>by omega
   have mv : ∀ k,k ≠ g2 → k ≠ g3 → ((((wr.setCell ⟨g2,0,none⟩ (.slice Ax N.length cx)).setCell ⟨g2,1,none⟩ (.slice Ay (ofE L S o N.length).2.length cy)).setCell ⟨g3,0,none⟩ (.slice (some ⟨gp,0,none⟩) N.length N.length)).setCell ⟨g3,1,none⟩ (.slice (some ⟨gq,0,none⟩) L.length L.length)).heap[k]? = wr.heap[k]?:=fun k h2 h3 =>
    (Below.heap_setCell _ _ _ k h3).trans ((Below.heap_setCell _ _ _ k h3).trans ((Below.heap_setCell _ _ _ k h2).trans (Below.heap_setCell _ _ _ k h2)))
   have rX:=Kd.R_reads' (R_over HI.out.rX (fun k hk _=>mv k (n2 k hk).1 (n2 k hk).2))
   have rY:=Kd.R_reads' (R_over HI.out.rY (fun k hk _=>mv k (n2 k hk).1 (n2 k hk).2))
   rw [hol] at rX
   have hn9:=HE.out.hn
   have hl9:=HE.out.hL
   refine ⟨Below.drew (below_setB (below_setB (below_setB (below_setB HBW.out B2b.out _) B2b.out _) B3b.out _) B3b.out _),Ax,cx,Ay,cy,some ⟨gp,0,none⟩,N.length,some ⟨gq,0,none⟩,L.length,rfl,rX.2.2,rX.2.1,rY.2.2,rY.2.1,C_full ((mv gp ?_ ?_).trans HI.out.hP) HI.out.lP (by omega),Nat.le_refl _,C_full ((mv gq ?_ ?_).trans HI.out.hQ) HI.out.lQ (by omega),Nat.le_refl _⟩
   ·exact ty_ne HI.out.hP b2 (by decide)
   ·exact ty_ne HI.out.hP b3 (by decide)
   ·exact ty_ne HI.out.hQ b2 (by decide)
   ·exact ty_ne HI.out.hQ b3 (by decide)
theorem of_calls {o : List Nat} {code : List Int} (hr0 : Kd.C (Kd.int .i64) w A0 N.length N) (hc0 : N.length ≤ c0) (hr1 : Kd.C k34 w A1 L.length L) (hc1 : L.length ≤ c1)
  (hok : validE N L = 0 → L.length < 20 ∧ Fits N.length L S ∧ ∀ i j,i < N.length → j < N.length → ∃ k,slices_insertionSortCmpFunc_int.f k (rowE L L.length i j) 0 ((rowE L L.length i j).length : Int) L = some (S i j))
  (hb : validE N L = 0 → srch N L S (twM N L S) N.length [] [(N.length : Int)] none = some (o,code) ∧ o.length = N.length ∧ ∀ v ∈ o,v < N.length) :
  Calls Try.prog 28 #[.agg #[.slice A0 N.length c0,.slice A1 L.length c1]] w fun e w'=>Below w.heap.size w w' ∧ ((validE N L ≠ 0 ∧ e = .returned (.tuple #[.agg #[.slice none 0 0,.slice none 0 0],.agg #[.slice none 0 0,.slice none 0 0],.int .i64 (validE N L)])) ∨
   (validE N L = 0 ∧ ∃ Ax cx Ay cy Ap cp Aq cq,e = .returned (.tuple #[.agg #[.slice Ax N.length cx,.slice Ay (ofE L S o N.length).2.length cy],.agg #[.slice Ap N.length cp,.slice Aq L.length cq],.int .i64 0]) ∧
    Kd.C (Kd.int .i64) w' Ax N.length (ofX N o N.length) ∧ N.length ≤ cx ∧ Kd.C k34 w' Ay (ofE L S o N.length).2.length (ofE L S o N.length).2 ∧ (ofE L S o N.length).2.length ≤ cy ∧
    Kd.C (Kd.int .i64) w' Ap N.length (ofP N.length o N.length) ∧ N.length ≤ cp ∧ Kd.C (Kd.int .i64) w' Aq L.length (ofE L S o N.length).1 ∧ L.length ≤ cq)):=by
 by_cases h1 : validE N L = 0
 ·exact (of_ok hr0 hc0 hr1 hc1 h1 (hok h1) (hb h1)).mono fun e w' h=>⟨h.1,.inr ⟨h1,h.2⟩⟩
 ·exact (of_err rfl h1 hr0 hc0 hr1 hc1).mono fun e w' h=>⟨h.1,.inl ⟨h1,h.2⟩⟩
end
end Go.Proofs.Ytgmomcjnldahjaa.Pr
namespace Go.Proofs.Ytgmomcjnldahjaa.Pr
open Go.RowKit Go.Proofs.YtgmomcjnldahjaaW.PrintWords Go.Proofs.YtgmomcjnldahjaaW.PrintLast Go.Proofs.YtgmomcjnldahjaaW.PrintMore
set_option linter.unusedVariables false
set_option linter.unusedSimpArgs false
theorem nodup_le : ∀ (n : Nat) (l : List Nat),l.Nodup → (∀ x ∈ l,x < n) → l.length ≤ n
 | 0,l,_,hb => by
  cases l with
  | nil => simp
  | cons x l => exact absurd (hb x (by simp)) (by omega)
 | n + 1,l,h,hb => by
  by_cases hm : n ∈ l
  ·have h1:=nodup_le n (l.erase n) (h.erase n) (fun x hx=>by
    have h2:=(h.mem_erase_iff).1 hx
    have:=hb x h2.2
    have:=h2.1
    omega)
   rw [List.length_erase_of_mem hm] at h1
   omega
  ·have h1:=nodup_le n l h (fun x hx=>by
    have:=hb x hx
    have : x ≠ n:=fun e=>hm (e ▸ hx)
    omega)
   omega
theorem nodup_all {n : Nat} {l : List Nat} (h : l.Nodup) (hb : ∀ x ∈ l,x < n) (hl : l.length = n) {v : Nat} (hv : v < n) : v ∈ l:=by
 apply Classical.byContradiction
 intro hn
 have:=nodup_le n (v :: l) (List.nodup_cons.2 ⟨hn,h⟩) (fun x hx=>by rcases List.mem_cons.1 hx with rfl|hx;exact hv;exact hb x hx)
 simp at this;omega
theorem some_left : ∀ (n : Nat) (l : List Nat),l.length < n → ∃ v,v < n ∧ v ∉ l
 | 0,l,h => absurd h (by omega)
 | n + 1,l,h => by
  by_cases hm : n ∈ l
  ·obtain ⟨v,h1,h2⟩:=some_left n (l.filter (· ≠ n)) (by
    have : (l.filter (· ≠ n)).length < l.length:=by
     rw [← List.countP_eq_length_filter]
     refine Nat.lt_of_le_of_ne List.countP_le_length (fun e=>?_)
     have:=List.countP_eq_length.1 e n hm
     simp at this
    omega)
   refine ⟨v,by omega,fun hv=>h2 (List.mem_filter.2 ⟨hv,by simp;omega⟩)⟩
  ·exact ⟨n,by omega,hm⟩
def GoodO (n : Nat) (o : List Nat) : Prop:=o.Nodup ∧ ∀ v ∈ o,v < n
section
variable {N : List Int} {L : List S34} {S : Nat → Nat → List Int} {B : Nat → Nat → Bool}
theorem codeL_app (N : List Int) (L : List S34) (S : Nat → Nat → List Int) : ∀ (o pre : List Nat) (r : List Nat),codeL N L S pre (o ++ r) = codeL N L S pre o ++ codeL N L S (pre ++ o) r
 | [],pre,r => by simp [codeL]
 | k :: o,pre,r => by
  rw [List.cons_append,codeL,codeL,codeL_app N L S o (pre ++ [k]) r,List.append_assoc]
  simp
theorem codeL_snoc (N : List Int) (L : List S34) (S : Nat → Nat → List Int) (o : List Nat) (v : Nat) : codeL N L S [] (o ++ [v]) = codeL N L S [] o ++ placeS N L S o v:=by
 rw [codeL_app];simp [codeL]
def FoundOk (N : List Int) (L : List S34) (S : Nat → Nat → List Int) (b : Found) : Prop:=∀ p x,b = some (p,x) → GoodO N.length p ∧ p.length = N.length ∧ x = codeS N L S p
theorem good_snoc {n : Nat} {o : List Nat} (h : GoodO n o) {v : Nat} (hv : v < n) (hn : v ∉ o) : GoodO n (o ++ [v]) :=
 ⟨nodup_snoc h.1 hn,fun x hx=>by rcases List.mem_append.1 hx with hx|hx;exact h.2 x hx;rw [List.mem_singleton.1 hx];exact hv⟩
theorem srch_ok : ∀ (d : Nat) (o : List Nat) (c : List Int) (b : Found),o.length + d = N.length → GoodO N.length o → c = (N.length : Int) :: codeL N L S [] o → FoundOk N L S b → FoundOk N L S (srch N L S B d o c b)
 | 0,o,c,b,hd,ho,hc,hb => by
  have hme : FoundOk N L S (some (o,c)):=fun p x e=>by
   injection e with e;injection e with e1 e2;subst e1 e2
   exact ⟨ho,by omega,by rw [hc,codeS];congr 2;omega⟩
  unfold srch
  split
  ·exact hb
  ·split
   ·exact hme
   ·split
    ·exact hme
    ·exact hb
 | d + 1,o,c,b,hd,ho,hc,hb => by
  by_cases hw : worseS b c = true
  ·rw [srch_worse _ _ _ _ _ _ _ _ hw];exact hb
  ·rw [srch_succ _ _ _ _ _ _ _ _ (by simpa using hw)]
   have key : ∀ (l : List Nat) (st : List Nat × Found),(∀ v ∈ l,v < N.length) → FoundOk N L S st.2 → FoundOk N L S (l.foldl (stepS N L S B d o c) st).2:=fun l=>by
    induction l with
    | nil => intro st _ h;exact h
    | cons v l ih =>
     intro st hl h
     refine ih _ (fun u hu=>hl u (by simp [hu])) ?_
     unfold stepS
     split
     ·exact h
     ·rename_i hv
      exact srch_ok d (o ++ [v]) _ st.2 (by simp;omega) (good_snoc ho (hl v (by simp)) (fun hm=>hv (.inl hm))) (by rw [hc,codeL_snoc,List.cons_append]) h
   exact key (List.range N.length) ([],b) (fun v hv=>List.mem_range.1 hv) hb
theorem srch_keep : ∀ (d : Nat) (o : List Nat) (c : List Int) (b : Found),b.isSome = true → (srch N L S B d o c b).isSome = true
 | 0,o,c,b,hb => by
  unfold srch
  split
  ·exact hb
  ·split
   ·rfl
   ·split <;> rfl
 | d + 1,o,c,b,hb => by
  by_cases hw : worseS b c = true
  ·rw [srch_worse _ _ _ _ _ _ _ _ hw];exact hb
  ·rw [srch_succ _ _ _ _ _ _ _ _ (by simpa using hw)]
   have key : ∀ (l : List Nat) (st : List Nat × Found),st.2.isSome = true → (l.foldl (stepS N L S B d o c) st).2.isSome = true:=fun l=>by
    induction l with
    | nil => intro st h;exact h
    | cons v l ih =>
     intro st h
     refine ih _ ?_
     unfold stepS
     split
     ·exact h
     ·exact srch_keep d _ _ _ h
   exact key _ _ hb
theorem srch_isSome : ∀ (d : Nat) (o : List Nat) (c : List Int) (b : Found),o.length + d = N.length → (srch N L S B d o c b).isSome = true
 | 0,o,c,b,hd => by
  cases b with
  | some p => exact srch_keep 0 o c _ rfl
  | none => rw [srch_none];rfl
 | d + 1,o,c,b,hd => by
  cases b with
  | some p => exact srch_keep (d + 1) o c _ rfl
  | none =>
   rw [srch_succ _ _ _ _ _ _ _ _ rfl]
   have key : ∀ (l : List Nat) (st : List Nat × Found),(st.1 = [] ∨ st.2.isSome = true) → (st.2.isSome = true ∨ ∃ v ∈ l,v ∉ o) → (l.foldl (stepS N L S B d o c) st).2.isSome = true:=fun l=>by
    induction l with
    | nil => intro st _ h;rcases h with h | ⟨v,hv,_⟩;exact h;exact absurd hv (by simp)
    | cons v l ih =>
     intro st h1 h2
     by_cases hm : v ∈ o
     ·have e : stepS N L S B d o c st v = st:=by unfold stepS;rw [if_pos (.inl hm)]
      rw [List.foldl_cons,e]
      refine ih st h1 ?_
      rcases h2 with h2 | ⟨u,hu,hn⟩
      ·exact .inl h2
      ·rcases List.mem_cons.1 hu with rfl|hu
       ·exact absurd hm hn
       ·exact .inr ⟨u,hu,hn⟩
     ·have e : (stepS N L S B d o c st v).2.isSome = true:=by
       unfold stepS
       split
       ·rename_i hx
        rcases hx with hx|hx
        ·exact absurd hx hm
        ·rcases h1 with h1|h1
         ·rw [h1] at hx;simp at hx
         ·exact h1
       ·exact srch_isSome d _ _ _ (by simp;omega)
      exact ih _ (.inr e) (.inl e)
   obtain ⟨v,h1,h2⟩:=some_left N.length o (by omega)
   exact key (List.range N.length) ([],none) (.inl rfl) (.inr ⟨v,List.mem_range.2 h1,h2⟩)
def bestS (N : List Int) (L : List S34) (S : Nat → Nat → List Int) : Found:=srch N L S (twM N L S) N.length [] [(N.length : Int)] none
theorem best_is (N : List Int) (L : List S34) (S : Nat → Nat → List Int) : ∃ o,bestS N L S = some (o,codeS N L S o) ∧ GoodO N.length o ∧ o.length = N.length:=by
 have h1 : (bestS N L S).isSome = true:=srch_isSome N.length [] [(N.length : Int)] none (by simp)
 have h2 : FoundOk N L S (bestS N L S):=srch_ok N.length [] [(N.length : Int)] none (by simp) ⟨List.nodup_nil,fun v hv=>absurd hv (by simp)⟩ rfl (fun p x e=>by cases e)
 obtain ⟨⟨o,c⟩,e⟩:=Option.isSome_iff_exists.1 h1
 obtain ⟨g,l,hc⟩:=h2 o c e
 exact ⟨o,by rw [e,hc],g,l⟩
end
end Go.Proofs.Ytgmomcjnldahjaa.Pr
namespace Go.Proofs.Ytgmomcjnldahjaa.Pr
open Go.RowKit Go.Proofs.YtgmomcjnldahjaaW.PrintWords Go.Proofs.YtgmomcjnldahjaaW.PrintLast Go.Proofs.YtgmomcjnldahjaaW.PrintMore
attribute [local go_sem] max2_int min2_int max_two min_two max_three min_three max_four min_four
set_option linter.unusedVariables false
set_option linter.unusedSimpArgs false
def openB (N : List Int) (L : List S34) (o : List Nat) (v : Nat) : Bool:=!(decide (v ∈ o) || (List.range v).any fun u=>!decide (u ∈ o) && twinB N L (SB L) u v)
def worseR : Found → List Int → Bool
 | none,_ => false
 | some (_,d),c => decide (0 < cmpL c (d.take (min c.length d.length)))
def srchR (N : List Int) (L : List S34) : Nat → List Nat → List Int → Found → Found
 | 0,o,c,b => if worseR b c = true then b else (match b with
  | none => some (o,c)
  | some (p,x) => if cmpL c x < 0 then some (o,c) else some (p,x))
 | d + 1,o,c,b => if worseR b c = true then b else (List.range N.length).foldl (fun b v => if openB N L o v = true then srchR N L d (o ++ [v]) (c ++ placeS N L (SB L) o v) b else b) b
def stepR (N : List Int) (L : List S34) (d : Nat) (o : List Nat) (c : List Int) (b : Found) (v : Nat) : Found:=if openB N L o v = true then srchR N L d (o ++ [v]) (c ++ placeS N L (SB L) o v) b else b
theorem srchR_worse (N : List Int) (L : List S34) (d : Nat) (o : List Nat) (c : List Int) (b : Found) (h : worseR b c = true) : srchR N L d o c b = b:=by
 cases d <;> unfold srchR <;> rw [if_pos h]
theorem srchR_none (N : List Int) (L : List S34) (o : List Nat) (c : List Int) : srchR N L 0 o c none = some (o,c):=by
 unfold srchR;rw [if_neg (by simp [worseR])]
theorem srchR_some (N : List Int) (L : List S34) (o : List Nat) (c : List Int) (p : List Nat) (x : List Int) (h : worseR (some (p,x)) c = false) : srchR N L 0 o c (some (p,x)) = if cmpL c x < 0 then some (o,c) else some (p,x):=by
 unfold srchR;rw [if_neg (by rw [h];simp)]
theorem srchR_succ (N : List Int) (L : List S34) (d : Nat) (o : List Nat) (c : List Int) (b : Found) (h : worseR b c = false) : srchR N L (d + 1) o c b = (List.range N.length).foldl (stepR N L d o c) b:=by
 rw [srchR,if_neg (by rw [h];simp)];rfl
structure Fnd (W : World) (base gx : Nat) (A0 : Option Addr) (c0 : Nat) (N : List Int) (A1 : Option Addr) (c1 : Nat) (L : List S34) (b : Found) : Prop where
 ex : ∃ ov cv,W.heap[gx]? = some (.cells #[.slice A0 N.length c0,.slice A1 L.length c1,ov,cv,.bool b.isSome] 105 (0,0)) ∧ BestV W base (fun _=>True) ov cv b
section
variable {W W' : World} {base gx : Nat} {A0 : Option Addr} {c0 : Nat} {N : List Int} {A1 : Option Addr} {c1 : Nat} {L : List S34} {b : Found}
theorem Fnd.below (h : Fnd W base gx A0 c0 N A1 c1 L b) (hb : Below W.heap.size W W') : Fnd W' base gx A0 c0 N A1 c1 L b:=by
 obtain ⟨ov,cv,h1,h2⟩:=h.ex
 exact ⟨ov,cv,blk_below h1 hb,h2.below hb⟩
theorem Fnd.cells (h : Fnd W base gx A0 c0 N A1 c1 L b) : W.cell? ⟨gx,0,none⟩ = some (.slice A0 N.length c0) ∧ W.cell? ⟨gx,1,none⟩ = some (.slice A1 L.length c1) ∧ W.cell? ⟨gx,4,none⟩ = some (.bool b.isSome):=by
 obtain ⟨ov,cv,h1,h2⟩:=h.ex
 exact ⟨(blk_cell h1 0).trans rfl,(blk_cell h1 1).trans rfl,(blk_cell h1 4).trans rfl⟩
theorem inR_c {A : Option Addr} {c : Nat} {a : List Int} (x : Int) (ha : Kd.C (Kd.int .i64) W A a.length a) (hc : a.length ≤ c) (hl : a.length ≤ 1000000) :
  Calls Try.prog 90 #[.slice A a.length c,.int .i64 x] W fun e w'=>e = .returned (.bool (decide (x ∈ a))) ∧ Drawn0 W w':=by
 obtain ⟨q,hq⟩:=(in_ev a x hl).rounds
 exact scarfjointref09_in.calls q A c a x _ W ha hc hq
theorem cmpR_c {A B : Option Addr} {c d : Nat} {a b : List Int} (ha : Kd.C (Kd.int .i64) W A a.length a) (hc : a.length ≤ c) (hb : Kd.C (Kd.int .i64) W B b.length b) (hd : b.length ≤ d) (hl : a.length ≤ 1000000) :
  Calls Try.prog 60 #[.slice A a.length c,.slice B b.length d] W fun e w'=>e = .returned (.int .i64 (cmpL a b)) ∧ Drawn0 W w':=by
 obtain ⟨q,hq⟩:=(cmpR_ev a b hl).rounds
 exact scarfjointref09_CompareLists.calls q A c a B d b _ W ha hc hb hd hq
theorem twinsR_c (hN : Kd.C (Kd.int .i64) W A0 N.length N) (h0 : N.length ≤ c0) (hL : Kd.C k34 W A1 L.length L) (h1 : L.length ≤ c1) (hl : L.length ≤ 100) (hn : N.length ≤ 1000) {i j : Nat} (hi : i < N.length) (hj : j < N.length) :
  Calls Try.prog 91 #[.agg #[.slice A0 N.length c0,.slice A1 L.length c1],.int .i64 (i : Int),.int .i64 (j : Int)] W fun e w'=>e = .returned (.bool (twinB N L (SB L) i j)) ∧ Below W.heap.size W w':=by
 obtain ⟨q,hq⟩:=(twinsR_ev hl hn hi hj).rounds
 exact scarfjointref09_twins.calls q A0 c0 N A1 c1 L (i : Int) (j : Int) _ W hN h0 hL h1 hq
theorem pieceR_c (hN : Kd.C (Kd.int .i64) W A0 N.length N) (h0 : N.length ≤ c0) (hL : Kd.C k34 W A1 L.length L) (h1 : L.length ≤ c1) (hl : L.length ≤ 100) {o : List Nat} {k : Nat} (hk : k < N.length) (hol : o.length ≤ 999) {A : Option Addr} {c : Nat} (hr : Kd.C (Kd.int .i64) W A (io (o ++ [k])).length (io (o ++ [k]))) (hc : (io (o ++ [k])).length ≤ c) :
  Calls Try.prog 70 #[.agg #[.slice A0 N.length c0,.slice A1 L.length c1],.slice A (io (o ++ [k])).length c] W fun e w'=>∃ v,e = .returned v ∧ Kd.R (Kd.int .i64) 3 w' W.heap.size (fun _=>True) v (placeS N L (SB L) o k) ∧ Below W.heap.size W w':=by
 obtain ⟨q,hq⟩:=(pieceR_ev hl o hk hol (N:=N)).rounds
 exact scarfjointref09_piece.calls q A0 c0 N A1 c1 L A c (io (o ++ [k])) _ W hN h0 hL h1 hr hc hq
theorem io_mem {o : List Nat} {v : Nat} : (v : Int) ∈ io o ↔ v ∈ o:=by
 unfold io
 rw [List.mem_map]
 constructor
 ·rintro ⟨x,hx,e⟩
  have : x = v:=by omega
  rw [← this];exact hx
 ·exact fun h=>⟨v,h,rfl⟩
set_option maxHeartbeats 80000000 in
set_option maxRecDepth 100000 in
theorem open_calls (hF : Fnd W base gx A0 c0 N A1 c1 L b) (hN : Kd.C (Kd.int .i64) W A0 N.length N) (h0 : N.length ≤ c0) (hL : Kd.C k34 W A1 L.length L) (h1 : L.length ≤ c1) (hl : L.length ≤ 100) (hn : N.length ≤ 1000) {o : List Nat} (ho : o.length ≤ 1000) {A : Option Addr} {c : Nat} (hr : Kd.C (Kd.int .i64) W A o.length (io o)) (hc : o.length ≤ c) {v : Nat} (hv : v < N.length) :
  Calls Try.prog 86 #[.pointer (some ⟨gx,0,none⟩),.slice A o.length c,.int .i64 (v : Int)] W fun e w'=>e = .returned (.bool (openB N L o v)) ∧ Below W.heap.size W w':=by
 have HF:=Aside0.mk hF
 have HIN:=Aside0.mk (fun (W1 : World) (hw : Below W.heap.size W W1) (x : Nat)=>show Calls Try.prog 90 #[.slice A o.length c,.int .i64 (x : Int)] W1 fun e w'=>e = .returned (.bool (decide (x ∈ o))) ∧ Drawn0 W1 w' from by
  have h:=inR_c (W:=W1) (A:=A) (c:=c) (a:=io o) (x : Int) (by rw [io_len];exact Kd.C_below hr hw) (by rw [io_len];exact hc) (by rw [io_len];omega)
  rw [io_len] at h
  have e : decide ((x : Int) ∈ io o) = decide (x ∈ o):=by simp only [io_mem]
  rwa [e] at h)
 have HTW:=Aside0.mk (fun (W1 : World) (hw : Below W.heap.size W W1) (u : Nat) (hu : u < v)=>twinsR_c (Kd.C_below hN hw) h0 (Kd.C_below hL hw) h1 hl hn (i:=u) (j:=v) (by omega) hv)
 have HB:=Aside0.mk (Below.refl W.heap.size W)
 have hu30:=Try.underlying30
 clear hF hN hL hr
 by_cases hm : v ∈ o
 ·have HX:=Aside0.mk (show openB N L o v = false from by simp [openB,hm])
  have HV:=Aside0.mk (fun (W1 : World) (hw : Below W.heap.size W W1)=>HIN.out W1 hw v)
  rw [decide_eq_true hm] at HV
  clear hm
  go_enter Try.func86,Try.ntmps86
  go_wp2_with (first|(go_at_call 90;(with_reducible refine (HV.out _ (by repeat (first|(with_reducible first|exact HB.out|apply zzD|apply zzE|apply zzF)|exact HB.out))).mono ?_);rintro e w2 ⟨rfl,hdr⟩;have hb:=hdr.below;clear hdr;have HB_:=Aside0.mk (below_step (by repeat (first|(with_reducible first|exact HB.out|apply zzD|apply zzE|apply zzF)|exact HB.out)) hb);clear HB;have HB:=HB_;clear hb HB_))
  go_ret
  exact ⟨by rw [HX.out];rfl,(by repeat (first|(with_reducible first|exact HB.out|apply zzD|apply zzE|apply zzF)|exact HB.out))⟩
 ·have HM:=Aside0.mk hm
  have HV:=Aside0.mk (fun (W1 : World) (hw : Below W.heap.size W W1)=>HIN.out W1 hw v)
  rw [decide_eq_false hm] at HV
  clear hm
  go_enter Try.func86,Try.ntmps86
  go_wp2_with (first|(go_at_call 90;(with_reducible refine (HV.out _ (by repeat (first|(with_reducible first|exact HB.out|apply zzD|apply zzE|apply zzF)|exact HB.out))).mono ?_);rintro e w2 ⟨rfl,hdr⟩;have hb:=hdr.below;clear hdr;have HB_:=Aside0.mk (below_step (by repeat (first|(with_reducible first|exact HB.out|apply zzD|apply zzE|apply zzF)|exact HB.out)) hb);clear HB;have HB:=HB_;clear hb HB_))
  go_loopw [7] (fun vv wr=>∃ u : Nat,u ≤ v ∧ vv = .int .i64 (u : Int) ∧ Aside0 (∀ x,x < u → (!decide (x ∈ o) && twinB N L (SB L) x v) = false) ∧ Aside0 (Below W.heap.size W wr)) (fun vv _=>v - (intOf vv).toNat)
  case atStart=>exact ⟨0,by omega,rfl,Aside0.mk (fun x hx=>absurd hx (by omega)),HB⟩
  case round =>
   clear HB
   obtain ⟨u,hu,rfl,HI,HB⟩:=hrel
   by_cases c3 : u < v
   ·have k3 : decide ((u : Int) < (v : Int)) = true:=decide_eq_true (by omega)
    have k3' : decide (u < v) = true:=decide_eq_true c3
    have HU:=Aside0.mk (fun (W1 : World) (hw : Below W.heap.size W W1)=>HIN.out W1 hw u)
    by_cases hm : u ∈ o
    ·have HS:=Aside0.mk (show (!decide (u ∈ o) && twinB N L (SB L) u v) = false from by simp [hm])
     rw [decide_eq_true hm] at HU
     clear hm
     go_wp2_with (first|(go_at_call 90;(with_reducible refine (HU.out _ (by repeat (first|(with_reducible first|exact HB.out|apply zzD|apply zzE|apply zzF)|exact HB.out))).mono ?_);rintro e w2 ⟨rfl,hdr⟩;have hb:=hdr.below;clear hdr;have HB_:=Aside0.mk (below_step (by repeat (first|(with_reducible first|exact HB.out|apply zzD|apply zzE|apply zzF)|exact HB.out)) hb);clear HB;have HB:=HB_;clear hb HB_))
     go_roundw
     case rel=>exact ⟨u + 1,by omega,by first|rfl|simp,Aside0.mk (fun x hx=>by by_cases e : x = u;rw [e];exact HS.out;exact HI.out x (by omega)),Aside0.mk (by repeat (first|(with_reducible first|exact HB.out|apply zzD|apply zzE|apply zzF)|exact HB.out))⟩
     case measure=>show v - ((u : Int) + 1).toNat < v - ((u : Nat) : Int).toNat;omega
    ·rw [decide_eq_false hm] at HU
     obtain ⟨z,hz⟩ : ∃ z,twinB N L (SB L) u v = z:=⟨_,rfl⟩
     have HW:=Aside0.mk (fun (W1 : World) (hw : Below W.heap.size W W1)=>HTW.out W1 hw u c3)
     rw [hz] at HW
     have HMU:=Aside0.mk hm
     have HZ:=Aside0.mk hz
     clear hm hz
     cases z
     ·have HS:=Aside0.mk (show (!decide (u ∈ o) && twinB N L (SB L) u v) = false from by rw [HZ.out];simp)
      go_wp2_with (first|(go_at_call 90;(with_reducible refine (HU.out _ (by repeat (first|(with_reducible first|exact HB.out|apply zzD|apply zzE|apply zzF)|exact HB.out))).mono ?_);rintro e w2 ⟨rfl,hdr⟩;have hb:=hdr.below;clear hdr;have HB_:=Aside0.mk (below_step (by repeat (first|(with_reducible first|exact HB.out|apply zzD|apply zzE|apply zzF)|exact HB.out)) hb);clear HB;have HB:=HB_;clear hb HB_;obtain ⟨hc1,hc2,_⟩:=(HF.out.below HB.out).cells)|(go_at_call 91;(with_reducible refine (HW.out _ (by repeat (first|(with_reducible first|exact HB.out|apply zzD|apply zzE|apply zzF)|exact HB.out))).mono ?_);rintro e w3 ⟨rfl,hb⟩;have HB_:=Aside0.mk (below_step (by repeat (first|(with_reducible first|exact HB.out|apply zzD|apply zzE|apply zzF)|exact HB.out)) hb);clear HB;have HB:=HB_;clear hb HB_))
      go_roundw
      case rel=>exact ⟨u + 1,by omega,by first|rfl|simp,Aside0.mk (fun x hx=>by by_cases e : x = u;rw [e];exact HS.out;exact HI.out x (by omega)),Aside0.mk (by repeat (first|(with_reducible first|exact HB.out|apply zzD|apply zzE|apply zzF)|exact HB.out))⟩
      case measure=>show v - ((u : Int) + 1).toNat < v - ((u : Nat) : Int).toNat;omega
     ·have HX:=Aside0.mk (show openB N L o v = false from by
       have : (List.range v).any (fun u=>!decide (u ∈ o) && twinB N L (SB L) u v) = true:=List.any_eq_true.2 ⟨u,List.mem_range.2 c3,by rw [HZ.out];simp [HMU.out]⟩
       rw [openB,this];simp)
      go_wp2_with (first|(go_at_call 90;(with_reducible refine (HU.out _ (by repeat (first|(with_reducible first|exact HB.out|apply zzD|apply zzE|apply zzF)|exact HB.out))).mono ?_);rintro e w2 ⟨rfl,hdr⟩;have hb:=hdr.below;clear hdr;have HB_:=Aside0.mk (below_step (by repeat (first|(with_reducible first|exact HB.out|apply zzD|apply zzE|apply zzF)|exact HB.out)) hb);clear HB;have HB:=HB_;clear hb HB_;obtain ⟨hc1,hc2,_⟩:=(HF.out.below HB.out).cells)|(go_at_call 91;(with_reducible refine (HW.out _ (by repeat (first|(with_reducible first|exact HB.out|apply zzD|apply zzE|apply zzF)|exact HB.out))).mono ?_);rintro e w3 ⟨rfl,hb⟩;have HB_:=Aside0.mk (below_step (by repeat (first|(with_reducible first|exact HB.out|apply zzD|apply zzE|apply zzF)|exact HB.out)) hb);clear HB;have HB:=HB_;clear hb HB_))
      go_ret
      exact ⟨by rw [HX.out];rfl,(by repeat (first|(with_reducible first|exact HB.out|apply zzD|apply zzE|apply zzF)|exact HB.out))⟩
   ·have k3 : decide ((u : Int) < (v : Int)) = false:=decide_eq_false (by omega)
    have k3' : decide (u < v) = false:=decide_eq_false c3
    obtain rfl : u = v:=by omega
    have HX:=Aside0.mk (show openB N L o u = true from by
     have : (List.range u).any (fun x=>!decide (x ∈ o) && twinB N L (SB L) x u) = false:=List.any_eq_false.2 (fun x hx=>by rw [HI.out x (List.mem_range.1 hx)];simp)
     rw [openB,this];simp [HM.out])
    go_wp2
    go_ret
    exact ⟨by rw [HX.out];rfl,(by repeat (first|(with_reducible first|exact HB.out|apply zzD|apply zzE|apply zzF)|exact HB.out))⟩
end
end Go.Proofs.Ytgmomcjnldahjaa.Pr
namespace Go.Proofs.Ytgmomcjnldahjaa.Pr
open Go.RowKit Go.Proofs.YtgmomcjnldahjaaW.PrintWords Go.Proofs.YtgmomcjnldahjaaW.PrintLast Go.Proofs.YtgmomcjnldahjaaW.PrintMore
attribute [local go_sem] max2_int min2_int max_two min_two max_three min_three max_four min_four
set_option linter.unusedVariables false
set_option linter.unusedSimpArgs false
def tr.T0 : Bool × List (List Nat × List Nat):=(true,[([],[]),([0],[0]),([1],[1]),([2],[2]),([3],[3]),([4],[4]),([4],[4]),([6,4],[4,6]),([7,4],[4,7]),([8,4],[4,8]),([4],[4]),([10,4],[4,10]),([4],[4]),([12,4],[4,12]),([13,4],[4,13]),([14,4],[4,14]),([15,4],[4,15]),([11,16,4],[4,11,16]),([9,17,4],[4,9,17]),([5,18,4,4],[4,5,18]),([19,4],[4,19]),([4,20],[4,20])])
def tr.B0 : List Nat:=[0,1,3,7,15,31,31,95,223,479,31,1055,31,4127,12319,28703,61471,130079,262111,524287,1048575,2097151]
theorem tr.tab0 : rtab .any (opsOf Try.f72 0) = tr.T0:=by kernel_rfl
theorem tr.bits0 : waitsOk tr.T0.2 tr.B0 = true:=by kernel_rfl
def tr.T11 : Bool × List (List Nat × List Nat):=(true,[([],[]),([],[]),([],[]),([],[]),([2,3],[2,3]),([],[]),([5],[5]),([6],[6]),([7],[7]),([],[]),([8,9,4],[8,9]),([4,10,10],[4,10]),([0,1,11,11],[0,1,11])])
def tr.B11 : List Nat:=[0,0,0,0,12,0,32,96,224,0,1020,2044,4095]
theorem tr.tab11 : rtab .any (opsOf Try.f72 11) = tr.T11:=by kernel_rfl
theorem tr.bits11 : waitsOk tr.T11.2 tr.B11 = true:=by kernel_rfl
section
variable {Ws : World} {gx : Nat} {A0 : Option Addr} {c0 : Nat} {N : List Int} {A1 : Option Addr} {c1 : Nat} {L : List S34}
theorem Fnd.put {W : World} {base : Nat} {v4 v5 ov cv fv : Value} {o : List Nat} {code : List Int} (h : W.heap[gx]? = some (.cells #[.slice A0 N.length c0,.slice A1 L.length c1,ov,cv,fv] 105 (0,0))) (r4 : Kd.R (Kd.int .i64) 3 W base (fun _=>True) v4 (io o)) (r5 : Kd.R (Kd.int .i64) 3 W base (fun _=>True) v5 code) (hne : code ≠ []) (hl : code.length ≤ 1000000) :
  Fnd (((W.setCell ⟨gx,4,none⟩ (.bool true)).setCell ⟨gx,2,none⟩ v4).setCell ⟨gx,3,none⟩ v5) base gx A0 c0 N A1 c1 L (some (o,code)):=by
 have ht : ∀ q,q ∈ 3 :: (Kd.int IntKind.i64).E → q ≠ 105:=by intro q hq;simp [Kd.int,Kd.scalar] at hq;omega
 have h1:=blk_put h 4 (.bool true) rfl
 have h2:=blk_put h1 2 v4 rfl
 exact ⟨v4,v5,blk_put h2 3 _ rfl,hne,hl,Kd.R_set (Kd.R_set (Kd.R_set r4 h ht 4 _) h1 ht 2 _) h2 ht 3 _,Kd.R_set (Kd.R_set (Kd.R_set r5 h ht 4 _) h1 ht 2 _) h2 ht 3 _⟩
set_option maxHeartbeats 80000000 in
set_option maxRecDepth 100000 in
theorem try_calls (hN : Kd.C (Kd.int .i64) Ws A0 N.length N) (h0 : N.length ≤ c0) (hL : Kd.C k34 Ws A1 L.length L) (h1' : L.length ≤ c1) (hl : L.length ≤ 100) (hn : N.length ≤ 9) (hgx : Ws.heap.size ≤ gx) :
  ∀ (d : Nat) (o : List Nat) (code : List Int) (b : Found) (W : World) (ov cv : Value),o.length + d = N.length → (∀ j ∈ o,j < N.length) → code ≠ [] → code.length ≤ 2000 * (o.length + 1) → Below Ws.heap.size Ws W → Fnd W Ws.heap.size gx A0 c0 N A1 c1 L b →
   Kd.R (Kd.int .i64) 3 W Ws.heap.size (fun _=>True) ov (io o) → Kd.R (Kd.int .i64) 3 W Ws.heap.size (fun _=>True) cv code →
   Calls Try.prog 72 #[.pointer (some ⟨gx,0,none⟩),ov,cv] W fun e w'=>e = .returned (.tuple #[]) ∧ Fnd w' Ws.heap.size gx A0 c0 N A1 c1 L (srchR N L d o code b) ∧ Kept W w' (fun k=>k = gx) ∧ Below Ws.heap.size Ws w':=by
 have HN0:=Aside0.mk hN
 have HL0:=Aside0.mk hL
 have HC0:=Aside0.mk h0
 have HC1:=Aside0.mk h1'
 have HLL:=Aside0.mk hl
 have HNN:=Aside0.mk hn
 have HGX:=Aside0.mk hgx
 have hu30:=Try.underlying30
 clear hN hL h0 h1' hl hn hgx
 intro d
 induction d with
 | zero =>
  intro o code b W ov cv hod ho hc0 hcl hB hF hro hrc
  obtain ⟨Ao,co,rfl⟩:=Kd.R_slice hro
  obtain ⟨Ac,cc,rfl⟩:=Kd.R_slice hrc
  rw [io_len] at hro ⊢
  have HO:=Aside0.mk hro
  have HC:=Aside0.mk hrc
  have HF:=Aside0.mk hF
  have HB:=Aside0.mk hB
  have HON:=Aside0.mk ho
  have HCN:=Aside0.mk hc0
  have HLN:=Aside0.mk hod
  have HLC:=Aside0.mk hcl
  have HCL:=Aside0.mk (show code.length ≤ 20000 ∧ o.length ≤ 9 from by have:=HNN.out;omega)
  obtain ⟨wb,hwb⟩ : ∃ wb,worseR b code = wb:=⟨_,rfl⟩
  clear hro hrc hF hB ho hc0 hod hcl
  go_enter Try.func72,Try.ntmps72
  go_upto_region 0 with (fail)
  refine Code.wp_mono (Q:=fun e a W1=>e = .normal ∧ ∃ t13 t14 t15 t16 t17 t18 t19 t20 t21 t22 t23 t24 t25 t26 t27 t28,a = ⟨#[.pointer (some ⟨gx,0,none⟩),.slice Ao o.length co,.slice Ac code.length cc,undef,undef,undef,undef,undef,.pointer (some ⟨gx,0,none⟩),.pointer (some ⟨gx,0,none⟩),.pointer (some ⟨gx,4,none⟩),.bool b.isSome,.bool b.isSome,t13,t14,t15,t16,t17,t18,t19,t20,t21,t22,t23,t24,t25,t26,t27,t28,.bool wb,undef,undef,undef,undef,undef,undef,undef,undef,undef,undef,undef,undef,undef,undef,undef,undef,undef,undef,undef,undef,undef,undef,undef,undef,undef,undef,undef,undef,undef,undef,undef,undef,undef,undef,undef,undef,undef,undef,undef,undef,undef,undef,undef,undef,undef,undef,undef,undef,undef,undef,undef,undef,undef,undef,undef,undef,undef,undef,undef,undef,undef,undef,undef,undef,undef,undef,undef],[]⟩ ∧ Drawn0 W W1) (fun e a W1 h=>?rest1) ?walk1
  case walk1 =>
   refine wp_region_noPanic ?_
   cases b with
   | none =>
    obtain rfl : false = wb:=hwb
    have hc4 : W.cell? ⟨gx,4,none⟩ = some (.bool false):=HF.out.cells.2.2
    refine start_ (n:=22) (S:=fun w'=>w'.cell? ⟨gx,4,none⟩ = some (.bool false)) (ds:=[]) #[false,false,false,false,false,false,false,false,false,false,false,false,false,false,false,false,false,false,false,false,false,false] (by kernel_rfl) rfl rfl (hc4) (fun hHeld=>?_)
    refine with_tabW tr.tab0 tr.bits0 (fun HT_ HW_=>?_)
    refine pure_ (i:=0) (N:=some 8) (v:=?_) (a':=?_) #[true,false,false,false,false,false,false,false,false,false,false,false,false,false,false,false,false,false,false,false,false,false] rfl rfl (any_of HT_.out (by kernel_rfl)) (fun _ _ _ h=>h) (Or.inl ⟨by rfl,?_⟩) ?_ ?_
    rotate_left
    ·intro w'
     go_simp
     with_reducible rfl
    rotate_left
    ·simp only [Act.put,zzA,zzB,zzC,i64_w,i32_w]
     rfl
    refine pure_ (i:=1) (N:=some 9) (v:=?_) (a':=?_) #[true,true,false,false,false,false,false,false,false,false,false,false,false,false,false,false,false,false,false,false,false,false] rfl rfl (any_of HT_.out (by kernel_rfl)) (fun _ _ _ h=>h) (Or.inl ⟨by rfl,?_⟩) ?_ ?_
    rotate_left
    ·intro w'
     go_simp
     with_reducible rfl
    rotate_left
    ·simp only [Act.put,zzA,zzB,zzC,i64_w,i32_w]
     rfl
    refine pure_ (i:=2) (N:=some 10) (v:=?_) (a':=?_) #[true,true,true,false,false,false,false,false,false,false,false,false,false,false,false,false,false,false,false,false,false,false] rfl rfl (any_of HT_.out (by kernel_rfl)) (fun _ _ _ h=>h) (Or.inl ⟨by rfl,?_⟩) ?_ ?_
    rotate_left
    ·intro w'
     go_simp
     with_reducible rfl
    rotate_left
    ·simp only [Act.put,zzA,zzB,zzC,i64_w,i32_w]
     rfl
    refine take_ (i:=3) (N:=some 11) (v:=?_) (a':=?_) #[true,true,true,true,false,false,false,false,false,false,false,false,false,false,false,false,false,false,false,false,false,false] rfl rfl (take_ofW HT_.out HW_.out (by kernel_rfl)) (fun _ _ _ h=>h) (Or.inl ⟨by rfl,?_⟩) hHeld ?_ ?_
    rotate_left
    ·intro w' s0
     go_simp
     with_reducible rfl
    rotate_left
    ·simp only [Act.put,zzA,zzB,zzC,i64_w,i32_w]
     rfl
    refine pure_ (i:=4) (N:=some 12) (v:=?_) (a':=?_) #[true,true,true,true,true,false,false,false,false,false,false,false,false,false,false,false,false,false,false,false,false,false] rfl rfl (any_of HT_.out (by kernel_rfl)) (fun _ _ _ h=>h) (Or.inl ⟨by rfl,?_⟩) ?_ ?_
    rotate_left
    ·intro w'
     go_simp
     with_reducible rfl
    rotate_left
    ·simp only [Act.put,zzA,zzB,zzC,i64_w,i32_w]
     rfl
    refine pure_ (i:=5) (N:=some 13) (v:=undef) (a':=?_) #[true,true,true,true,true,true,false,false,false,false,false,false,false,false,false,false,false,false,false,false,false,false] rfl rfl (any_of HT_.out (by kernel_rfl)) (fun _ _ _ h=>h) (Or.inr ⟨by rfl,rfl⟩) ?_ ?_
    rotate_left
    ·simp only [Act.put,zzA,zzB,zzC,i64_w,i32_w]
     rfl
    refine pure_ (i:=6) (N:=some 14) (v:=undef) (a':=?_) #[true,true,true,true,true,true,true,false,false,false,false,false,false,false,false,false,false,false,false,false,false,false] rfl rfl (any_of HT_.out (by kernel_rfl)) (fun _ _ _ h=>h) (Or.inr ⟨by rfl,rfl⟩) ?_ ?_
    rotate_left
    ·simp only [Act.put,zzA,zzB,zzC,i64_w,i32_w]
     rfl
    refine pure_ (i:=7) (N:=some 15) (v:=undef) (a':=?_) #[true,true,true,true,true,true,true,true,false,false,false,false,false,false,false,false,false,false,false,false,false,false] rfl rfl (any_of HT_.out (by kernel_rfl)) (fun _ _ _ h=>h) (Or.inr ⟨by rfl,rfl⟩) ?_ ?_
    rotate_left
    ·simp only [Act.put,zzA,zzB,zzC,i64_w,i32_w]
     rfl
    refine pure_ (i:=8) (N:=some 16) (v:=undef) (a':=?_) #[true,true,true,true,true,true,true,true,true,false,false,false,false,false,false,false,false,false,false,false,false,false] rfl rfl (any_of HT_.out (by kernel_rfl)) (fun _ _ _ h=>h) (Or.inr ⟨by rfl,rfl⟩) ?_ ?_
    rotate_left
    ·simp only [Act.put,zzA,zzB,zzC,i64_w,i32_w]
     rfl
    refine pure_ (i:=9) (N:=some 17) (v:=undef) (a':=?_) #[true,true,true,true,true,true,true,true,true,true,false,false,false,false,false,false,false,false,false,false,false,false] rfl rfl (any_of HT_.out (by kernel_rfl)) (fun _ _ _ h=>h) (Or.inr ⟨by rfl,rfl⟩) ?_ ?_
    rotate_left
    ·simp only [Act.put,zzA,zzB,zzC,i64_w,i32_w]
     rfl
    refine pure_ (i:=10) (N:=some 18) (v:=undef) (a':=?_) #[true,true,true,true,true,true,true,true,true,true,true,false,false,false,false,false,false,false,false,false,false,false] rfl rfl (any_of HT_.out (by kernel_rfl)) (fun _ _ _ h=>h) (Or.inr ⟨by rfl,rfl⟩) ?_ ?_
    rotate_left
    ·simp only [Act.put,zzA,zzB,zzC,i64_w,i32_w]
     rfl
    refine pure_ (i:=11) (N:=some 19) (v:=undef) (a':=?_) #[true,true,true,true,true,true,true,true,true,true,true,true,false,false,false,false,false,false,false,false,false,false] rfl rfl (any_of HT_.out (by kernel_rfl)) (fun _ _ _ h=>h) (Or.inr ⟨by rfl,rfl⟩) ?_ ?_
    rotate_left
    ·simp only [Act.put,zzA,zzB,zzC,i64_w,i32_w]
     rfl
    refine pure_ (i:=12) (N:=some 20) (v:=undef) (a':=?_) #[true,true,true,true,true,true,true,true,true,true,true,true,true,false,false,false,false,false,false,false,false,false] rfl rfl (any_of HT_.out (by kernel_rfl)) (fun _ _ _ h=>h) (Or.inr ⟨by rfl,rfl⟩) ?_ ?_
    rotate_left
    ·simp only [Act.put,zzA,zzB,zzC,i64_w,i32_w]
     rfl
    refine pure_ (i:=13) (N:=some 21) (v:=undef) (a':=?_) #[true,true,true,true,true,true,true,true,true,true,true,true,true,true,false,false,false,false,false,false,false,false] rfl rfl (any_of HT_.out (by kernel_rfl)) (fun _ _ _ h=>h) (Or.inr ⟨by rfl,rfl⟩) ?_ ?_
    rotate_left
    ·simp only [Act.put,zzA,zzB,zzC,i64_w,i32_w]
     rfl
    refine pure_ (i:=14) (N:=some 22) (v:=undef) (a':=?_) #[true,true,true,true,true,true,true,true,true,true,true,true,true,true,true,false,false,false,false,false,false,false] rfl rfl (any_of HT_.out (by kernel_rfl)) (fun _ _ _ h=>h) (Or.inr ⟨by rfl,rfl⟩) ?_ ?_
    rotate_left
    ·simp only [Act.put,zzA,zzB,zzC,i64_w,i32_w]
     rfl
    refine pure_ (i:=15) (N:=some 23) (v:=undef) (a':=?_) #[true,true,true,true,true,true,true,true,true,true,true,true,true,true,true,true,false,false,false,false,false,false] rfl rfl (any_of HT_.out (by kernel_rfl)) (fun _ _ _ h=>h) (Or.inr ⟨by rfl,rfl⟩) ?_ ?_
    rotate_left
    ·simp only [Act.put,zzA,zzB,zzC,i64_w,i32_w]
     rfl
    refine pure_ (i:=16) (N:=some 24) (v:=undef) (a':=?_) #[true,true,true,true,true,true,true,true,true,true,true,true,true,true,true,true,true,false,false,false,false,false] rfl rfl (any_of HT_.out (by kernel_rfl)) (fun _ _ _ h=>h) (Or.inr ⟨by rfl,rfl⟩) ?_ ?_
    rotate_left
    ·simp only [Act.put,zzA,zzB,zzC,i64_w,i32_w]
     rfl
    refine pure_ (i:=17) (N:=some 25) (v:=undef) (a':=?_) #[true,true,true,true,true,true,true,true,true,true,true,true,true,true,true,true,true,true,false,false,false,false] rfl rfl (any_of HT_.out (by kernel_rfl)) (fun _ _ _ h=>h) (Or.inr ⟨by rfl,rfl⟩) ?_ ?_
    rotate_left
    ·simp only [Act.put,zzA,zzB,zzC,i64_w,i32_w]
     rfl
    refine pure_ (i:=18) (N:=some 26) (v:=undef) (a':=?_) #[true,true,true,true,true,true,true,true,true,true,true,true,true,true,true,true,true,true,true,false,false,false] rfl rfl (any_of HT_.out (by kernel_rfl)) (fun _ _ _ h=>h) (Or.inr ⟨by rfl,rfl⟩) ?_ ?_
    rotate_left
    ·simp only [Act.put,zzA,zzB,zzC,i64_w,i32_w]
     rfl
    refine pure_ (i:=19) (N:=some 27) (v:=undef) (a':=?_) #[true,true,true,true,true,true,true,true,true,true,true,true,true,true,true,true,true,true,true,true,false,false] rfl rfl (any_of HT_.out (by kernel_rfl)) (fun _ _ _ h=>h) (Or.inr ⟨by rfl,rfl⟩) ?_ ?_
    rotate_left
    ·simp only [Act.put,zzA,zzB,zzC,i64_w,i32_w]
     rfl
    refine pure_ (i:=20) (N:=some 28) (v:=undef) (a':=?_) #[true,true,true,true,true,true,true,true,true,true,true,true,true,true,true,true,true,true,true,true,true,false] rfl rfl (any_of HT_.out (by kernel_rfl)) (fun _ _ _ h=>h) (Or.inr ⟨by rfl,rfl⟩) ?_ ?_
    rotate_left
    ·simp only [Act.put,zzA,zzB,zzC,i64_w,i32_w]
     rfl
    refine pure_ (i:=21) (N:=some 29) (v:=?_) (a':=?_) #[true,true,true,true,true,true,true,true,true,true,true,true,true,true,true,true,true,true,true,true,true,true] rfl rfl (any_of HT_.out (by kernel_rfl)) (fun _ _ _ h=>h) (Or.inl ⟨by rfl,?_⟩) ?_ ?_
    rotate_left
    ·intro w'
     go_simp
     with_reducible rfl
    rotate_left
    ·simp only [Act.put,zzA,zzB,zzC,i64_w,i32_w]
     rfl
    refine done_ (done_of HT_.out (by kernel_rfl)) ?_
    exact NoPanic.normal ⟨rfl,_,_,_,_,_,_,_,_,_,_,_,_,_,_,_,_,rfl,by repeat (first|exact Drawn0.refl _|apply Drawn0.step)⟩
   | some p =>
    obtain ⟨p,x⟩:=p
    obtain ⟨fo,fc,hf1,hf2⟩:=HF.out.ex
    obtain ⟨hd0,hdl,_,hd⟩:=hf2
    have hd1 : 0 < x.length:=List.length_pos_iff.2 hd0
    obtain ⟨g,cx,rfl,_,_,_⟩:=Kd.R_form hd hd1
    have hc4 : W.cell? ⟨gx,4,none⟩ = some (.bool true):=HF.out.cells.2.2
    have hc3 : W.cell? ⟨gx,3,none⟩ = some (.slice (some ⟨g,0,none⟩) x.length cx):=(blk_cell hf1 3).trans rfl
    obtain ⟨_,hdc,hdr⟩:=Kd.R_reads' hd
    obtain ⟨m,hm⟩ : ∃ m : Nat,m = min code.length x.length:=⟨_,rfl⟩
    have hm1 : m ≤ code.length:=by omega
    have hm2 : m ≤ x.length:=by omega
    have hmi : min (code.length : Int) (x.length : Int) = (m : Int):=by omega
    have hmi2 : (if x.length < code.length then (x.length : Int) else (code.length : Int)) = (m : Int):=by split <;> omega
    have hmd : m ≤ cx:=by omega
    have hwb' : decide (0 < cmpL code (x.take m)) = wb:=by rw [hm];exact hwb
    obtain ⟨z,hz⟩ : ∃ z,cmpL code (x.take m) = z:=⟨_,rfl⟩
    rw [hz] at hwb'
    have HXd:=Aside0.mk (show Calls Try.prog 60 #[.slice Ac code.length cc,.slice (some ⟨g,0,none⟩) m cx] W.drew fun e w'=>e = .returned (.int .i64 z) ∧ Drawn0 W.drew w' from by
     have a2:=Kd.C_drewN (Kd.C_take (m:=m) hdr hm2) 1
     have:=cmpR_c (W:=W.drew) (a:=code) (b:=x.take m) (c:=cc) (d:=cx) (Kd.R_reads' (Kd.R_drew HC.out)).2.2 (Kd.R_reads' HC.out).2.1 a2 (by rw [take_len hm2];omega) (by have:=HCL.out;omega)
     rw [take_len hm2,hz] at this
     exact this)
    subst hwb'
    clear hf1 hd hdr hm hz hwb
    refine start_ (n:=22) (S:=fun w'=>w'.cell? ⟨gx,4,none⟩ = some (.bool true) ∧ w'.cell? ⟨gx,3,none⟩ = some (.slice (some ⟨g,0,none⟩) x.length cx)) (ds:=[]) #[false,false,false,false,false,false,false,false,false,false,false,false,false,false,false,false,false,false,false,false,false,false] (by kernel_rfl) rfl rfl ⟨hc4,hc3⟩ (fun hHeld=>?_)
    refine with_tabW tr.tab0 tr.bits0 (fun HT_ HW_=>?_)
    refine pure_ (i:=0) (N:=some 8) (v:=?_) (a':=?_) #[true,false,false,false,false,false,false,false,false,false,false,false,false,false,false,false,false,false,false,false,false,false] rfl rfl (any_of HT_.out (by kernel_rfl)) (fun _ _ _ h=>h) (Or.inl ⟨by rfl,?_⟩) ?_ ?_
    rotate_left
    ·intro w'
     go_simp
     with_reducible rfl
    rotate_left
    ·simp only [Act.put,zzA,zzB,zzC,i64_w,i32_w]
     rfl
    refine pure_ (i:=1) (N:=some 9) (v:=?_) (a':=?_) #[true,true,false,false,false,false,false,false,false,false,false,false,false,false,false,false,false,false,false,false,false,false] rfl rfl (any_of HT_.out (by kernel_rfl)) (fun _ _ _ h=>h) (Or.inl ⟨by rfl,?_⟩) ?_ ?_
    rotate_left
    ·intro w'
     go_simp
     with_reducible rfl
    rotate_left
    ·simp only [Act.put,zzA,zzB,zzC,i64_w,i32_w]
     rfl
    refine pure_ (i:=2) (N:=some 10) (v:=?_) (a':=?_) #[true,true,true,false,false,false,false,false,false,false,false,false,false,false,false,false,false,false,false,false,false,false] rfl rfl (any_of HT_.out (by kernel_rfl)) (fun _ _ _ h=>h) (Or.inl ⟨by rfl,?_⟩) ?_ ?_
    rotate_left
    ·intro w'
     go_simp
     with_reducible rfl
    rotate_left
    ·simp only [Act.put,zzA,zzB,zzC,i64_w,i32_w]
     rfl
    refine take_ (i:=3) (N:=some 11) (v:=?_) (a':=?_) #[true,true,true,true,false,false,false,false,false,false,false,false,false,false,false,false,false,false,false,false,false,false] rfl rfl (take_ofW HT_.out HW_.out (by kernel_rfl)) (fun _ _ _ h=>h) (Or.inl ⟨by rfl,?_⟩) hHeld ?_ ?_
    rotate_left
    ·rintro w' ⟨s0,s1⟩
     go_simp
     with_reducible rfl
    rotate_left
    ·simp only [Act.put,zzA,zzB,zzC,i64_w,i32_w]
     rfl
    refine pure_ (i:=4) (N:=some 12) (v:=?_) (a':=?_) #[true,true,true,true,true,false,false,false,false,false,false,false,false,false,false,false,false,false,false,false,false,false] rfl rfl (any_of HT_.out (by kernel_rfl)) (fun _ _ _ h=>h) (Or.inl ⟨by rfl,?_⟩) ?_ ?_
    rotate_left
    ·intro w'
     go_simp
     with_reducible rfl
    rotate_left
    ·simp only [Act.put,zzA,zzB,zzC,i64_w,i32_w]
     rfl
    refine pure_ (i:=5) (N:=some 13) (v:=?_) (a':=?_) #[true,true,true,true,true,true,false,false,false,false,false,false,false,false,false,false,false,false,false,false,false,false] rfl rfl (any_of HT_.out (by kernel_rfl)) (fun _ _ _ h=>h) (Or.inl ⟨by rfl,?_⟩) ?_ ?_
    rotate_left
    ·intro w'
     go_simp
     with_reducible rfl
    rotate_left
    ·simp only [Act.put,zzA,zzB,zzC,i64_w,i32_w]
     rfl
    refine pure_ (i:=6) (N:=some 14) (v:=?_) (a':=?_) #[true,true,true,true,true,true,true,false,false,false,false,false,false,false,false,false,false,false,false,false,false,false] rfl rfl (any_of HT_.out (by kernel_rfl)) (fun _ _ _ h=>h) (Or.inl ⟨by rfl,?_⟩) ?_ ?_
    rotate_left
    ·intro w'
     go_simp
     with_reducible rfl
    rotate_left
    ·simp only [Act.put,zzA,zzB,zzC,i64_w,i32_w]
     rfl
    refine pure_ (i:=7) (N:=some 15) (v:=?_) (a':=?_) #[true,true,true,true,true,true,true,true,false,false,false,false,false,false,false,false,false,false,false,false,false,false] rfl rfl (any_of HT_.out (by kernel_rfl)) (fun _ _ _ h=>h) (Or.inl ⟨by rfl,?_⟩) ?_ ?_
    rotate_left
    ·intro w'
     go_simp
     with_reducible rfl
    rotate_left
    ·simp only [Act.put,zzA,zzB,zzC,i64_w,i32_w]
     rfl
    refine pure_ (i:=8) (N:=some 16) (v:=?_) (a':=?_) #[true,true,true,true,true,true,true,true,true,false,false,false,false,false,false,false,false,false,false,false,false,false] rfl rfl (any_of HT_.out (by kernel_rfl)) (fun _ _ _ h=>h) (Or.inl ⟨by rfl,?_⟩) ?_ ?_
    rotate_left
    ·intro w'
     go_simp
     with_reducible rfl
    rotate_left
    ·simp only [Act.put,zzA,zzB,zzC,i64_w,i32_w]
     rfl
    refine pure_ (i:=10) (N:=some 18) (v:=?_) (a':=?_) #[true,true,true,true,true,true,true,true,true,false,true,false,false,false,false,false,false,false,false,false,false,false] rfl rfl (any_of HT_.out (by kernel_rfl)) (fun _ _ _ h=>h) (Or.inl ⟨by rfl,?_⟩) ?_ ?_
    rotate_left
    ·intro w'
     go_simp
     with_reducible rfl
    rotate_left
    ·simp only [Act.put,zzA,zzB,zzC,i64_w,i32_w]
     rfl
    refine pure_ (i:=11) (N:=some 19) (v:=?_) (a':=?_) #[true,true,true,true,true,true,true,true,true,false,true,true,false,false,false,false,false,false,false,false,false,false] rfl rfl (any_of HT_.out (by kernel_rfl)) (fun _ _ _ h=>h) (Or.inl ⟨by rfl,?_⟩) ?_ ?_
    rotate_left
    ·intro w'
     go_simp
     with_reducible rfl
    rotate_left
    ·simp only [Act.put,zzA,zzB,zzC,i64_w,i32_w]
     rfl
    refine pure_ (i:=12) (N:=some 20) (v:=?_) (a':=?_) #[true,true,true,true,true,true,true,true,true,false,true,true,true,false,false,false,false,false,false,false,false,false] rfl rfl (any_of HT_.out (by kernel_rfl)) (fun _ _ _ h=>h) (Or.inl ⟨by rfl,?_⟩) ?_ ?_
    rotate_left
    ·intro w'
     go_simp
     with_reducible rfl
    rotate_left
    ·simp only [Act.put,zzA,zzB,zzC,i64_w,i32_w]
     rfl
    refine pure_ (i:=13) (N:=some 21) (v:=?_) (a':=?_) #[true,true,true,true,true,true,true,true,true,false,true,true,true,true,false,false,false,false,false,false,false,false] rfl rfl (any_of HT_.out (by kernel_rfl)) (fun _ _ _ h=>h) (Or.inl ⟨by rfl,?_⟩) ?_ ?_
    rotate_left
    ·intro w'
     go_simp
     with_reducible rfl
    rotate_left
    ·simp only [Act.put,zzA,zzB,zzC,i64_w,i32_w]
     rfl
    refine pure_ (i:=14) (N:=some 22) (v:=?_) (a':=?_) #[true,true,true,true,true,true,true,true,true,false,true,true,true,true,true,false,false,false,false,false,false,false] rfl rfl (any_of HT_.out (by kernel_rfl)) (fun _ _ _ h=>h) (Or.inl ⟨by rfl,?_⟩) ?_ ?_
    rotate_left
    ·intro w'
     go_simp
     with_reducible rfl
    rotate_left
    ·simp only [Act.put,zzA,zzB,zzC,i64_w,i32_w]
     rfl
    refine take_ (i:=9) (N:=some 17) (v:=?_) (a':=?_) #[true,true,true,true,true,true,true,true,true,true,true,true,true,true,true,false,false,false,false,false,false,false] rfl rfl (take_ofW HT_.out HW_.out (by kernel_rfl)) (fun _ _ _ h=>h) (Or.inl ⟨by rfl,?_⟩) hHeld ?_ ?_
    rotate_left
    ·rintro w' ⟨s0,s1⟩
     go_simp
     with_reducible rfl
    rotate_left
    ·simp only [Act.put,zzA,zzB,zzC,i64_w,i32_w]
     rfl
    refine take_ (i:=15) (N:=some 23) (v:=?_) (a':=?_) #[true,true,true,true,true,true,true,true,true,true,true,true,true,true,true,true,false,false,false,false,false,false] rfl rfl (take_ofW HT_.out HW_.out (by kernel_rfl)) (fun _ _ _ h=>h) (Or.inl ⟨by rfl,?_⟩) hHeld ?_ ?_
    rotate_left
    ·rintro w' ⟨s0,s1⟩
     go_simp
     with_reducible rfl
    rotate_left
    ·simp only [Act.put,zzA,zzB,zzC,i64_w,i32_w]
     rfl
    refine pure_ (i:=16) (N:=some 24) (v:=?_) (a':=?_) #[true,true,true,true,true,true,true,true,true,true,true,true,true,true,true,true,true,false,false,false,false,false] rfl rfl (any_of HT_.out (by kernel_rfl)) (fun _ _ _ h=>h) (Or.inl ⟨by rfl,?_⟩) ?_ ?_
    rotate_left
    ·intro w'
     go_simp
     with_reducible rfl
    rotate_left
    ·simp only [Act.put,zzA,zzB,zzC,i64_w,i32_w]
     rfl
    refine pure_ (i:=17) (N:=some 25) (v:=?_) (a':=?_) #[true,true,true,true,true,true,true,true,true,true,true,true,true,true,true,true,true,true,false,false,false,false] rfl rfl (any_of HT_.out (by kernel_rfl)) (fun _ _ _ h=>h) (Or.inl ⟨by rfl,?_⟩) ?_ ?_
    rotate_left
    ·intro w'
     go_simp
     with_reducible rfl
    rotate_left
    ·simp only [Act.put,zzA,zzB,zzC,i64_w,i32_w]
     rfl
    refine pure_ (i:=18) (N:=some 26) (v:=?_) (a':=?_) #[true,true,true,true,true,true,true,true,true,true,true,true,true,true,true,true,true,true,true,false,false,false] rfl rfl (any_of HT_.out (by kernel_rfl)) (fun _ _ _ h=>h) (Or.inl ⟨by rfl,?_⟩) ?_ ?_
    rotate_left
    ·intro w'
     go_simp
     with_reducible rfl
    rotate_left
    ·simp only [Act.put,zzA,zzB,zzC,i64_w,i32_w]
     rfl
    refine one_ (i:=19) (N:=some 27) #[true,true,true,true,true,true,true,true,true,true,true,true,true,true,true,true,true,true,true,true,false,false] rfl rfl (one_of HT_.out (by kernel_rfl)) (by decide) (fun K hK=>?_)
    refine goes_ Try.func60 (by kernel_rfl) rfl #[.slice Ac code.length cc,.slice (some ⟨g,0,none⟩) m cx] (by rfl) rfl rfl (by simp only [List.map_toArray,List.map_cons,List.map_nil];rfl) ?_
    with_reducible refine HXd.out.mono ?_
    rintro e w_ ⟨rfl,⟨nd,rfl⟩⟩
    refine ⟨_,rfl,?_⟩
    refine hK.out _ _ ⟨hc4,hc3⟩ (fun hHeld=>?_)
    clear hK K
    refine norm_ (a':=?_) ?_ ?_
    rotate_left
    ·show Act.put _ (some 27) _ = _
     simp only [Act.put,zzA,zzB,zzC,i64_w,i32_w]
     rfl
    refine pure_ (i:=20) (N:=some 28) (v:=?_) (a':=?_) #[true,true,true,true,true,true,true,true,true,true,true,true,true,true,true,true,true,true,true,true,true,false] rfl rfl (any_of HT_.out (by kernel_rfl)) (fun _ _ _ h=>h) (Or.inl ⟨by rfl,?_⟩) ?_ ?_
    rotate_left
    ·intro w'
     go_simp
     with_reducible rfl
    rotate_left
    ·simp only [Act.put,zzA,zzB,zzC,i64_w,i32_w]
     rfl
    refine pure_ (i:=21) (N:=some 29) (v:=?_) (a':=?_) #[true,true,true,true,true,true,true,true,true,true,true,true,true,true,true,true,true,true,true,true,true,true] rfl rfl (any_of HT_.out (by kernel_rfl)) (fun _ _ _ h=>h) (Or.inl ⟨by rfl,?_⟩) ?_ ?_
    rotate_left
    ·intro w'
     go_simp
     with_reducible rfl
    rotate_left
    ·simp only [Act.put,zzA,zzB,zzC,i64_w,i32_w]
     rfl
    refine done_ (done_of HT_.out (by kernel_rfl)) ?_
    exact NoPanic.normal ⟨rfl,_,_,_,_,_,_,_,_,_,_,_,_,_,_,_,_,rfl,by repeat (first|exact Drawn0.refl _|apply Drawn0.step)⟩
  obtain ⟨rfl,t13,t14,t15,t16,t17,t18,t19,t20,t21,t22,t23,t24,t25,t26,t27,t28,rfl,hd⟩:=h
  have hb:=hd.below
  dsimp only
  have F1:=Aside0.mk (HF.out.below hb)
  have O1:=Aside0.mk (Kd.R_below HO.out hb)
  have C1:=Aside0.mk (Kd.R_below HC.out hb)
  have B1:=Aside0.mk (below_step HB.out hb)
  have K1:=Aside0.mk (Kept.of_below hb (fun k=>k = gx))
  have HR:=Aside0.mk hwb
  clear hd hb HF HO HC hwb
  cases wb
  ·have hcx0 : W1.cell? ⟨gx,0,none⟩ = some (.slice A0 N.length c0):=F1.out.cells.1
   have hcx4:=F1.out.cells.2.2
   have k1 : ((o.length : Int) == (N.length : Int)) = true:=by have:=HLN.out;simp;omega
   have k1' : (o.length == N.length) = true:=by have:=HLN.out;simp;omega
   have k1d : decide (o.length = N.length) = true:=by have:=HLN.out;simp;omega
   obtain ⟨fo,fc,hf1,hf2⟩:=F1.out.ex
   have G1:=Aside0.mk hf1
   have hc12 : W1.cell? ⟨gx,2,none⟩ = some fo:=(blk_cell hf1 2).trans rfl
   have hc13 : W1.cell? ⟨gx,3,none⟩ = some fc:=(blk_cell hf1 3).trans rfl
   have hf4:=blk_frozen hf1 4
   clear hf1
   cases b with
   | none =>
    have HRES:=Aside0.mk (srchR_none N L o code)
    clear hf2
    go_wp2_with (first|((with_reducible refine gate_store (t:=4) (p:=55) rfl ?_);refine store_event (t:=4) (p:=55) (v:=?vo55_1) (w1:=W1.setCell ⟨gx,4,none⟩ (.bool true)) ?hg ?ho ?hn ?hr ?_;(case ho=>rfl);(case hg=>rfl);(case hn=>rfl);(case hr=>first|(go_simp;done)|(go_simp;rfl));intro wa ha;have GA:=Aside0.mk (show wa.heap[gx]? = some (.cells #[.slice A0 N.length c0,.slice A1 L.length c1,fo,fc,.bool true] 105 (0,0)) from by rw [ha];exact blk_put G1.out 4 _ rfl);have HA:=Aside0.mk ha;clear ha;have hca : wa.cell? ⟨gx,2,none⟩ = some fo:=(blk_cell GA.out 2).trans rfl;have hfa:=blk_frozen GA.out 2)|((with_reducible refine gate_store (t:=27) (p:=59) rfl ?_);refine store_event (t:=27) (p:=59) (v:=?vo59_2) (w1:=wa.setCell ⟨gx,2,none⟩ (.slice Ao o.length co)) ?hg ?ho ?hn ?hr ?_;(case ho=>rfl);(case hg=>rfl);(case hn=>rfl);(case hr=>first|(go_simp;done)|(go_simp;rfl));intro wb hb;have GB:=Aside0.mk (show wb.heap[gx]? = some (.cells #[.slice A0 N.length c0,.slice A1 L.length c1,.slice Ao o.length co,fc,.bool true] 105 (0,0)) from by rw [hb];exact blk_put GA.out 2 _ rfl);have HBB:=Aside0.mk hb;clear hb;have hcb : wb.cell? ⟨gx,3,none⟩ = some fc:=(blk_cell GB.out 3).trans rfl;have hfb:=blk_frozen GB.out 3)|((with_reducible refine gate_store (t:=27) (p:=63) rfl ?_);refine store_event (t:=27) (p:=63) (v:=?vo63_3) (w1:=wb.setCell ⟨gx,3,none⟩ (.slice Ac code.length cc)) ?hg ?ho ?hn ?hr ?_;(case ho=>rfl);(case hg=>rfl);(case hn=>rfl);(case hr=>first|(go_simp;done)|(go_simp;rfl));intro wd hd;have HDD:=Aside0.mk hd;clear hd))
    first|go_end0|((try simp only [Exit.inBlock,Exit.then]);refine bodyPost_ret (results_none rfl _ _ _) rfl ?_)
    rw [HDD.out,HBB.out,HA.out]
    refine ⟨rfl,?_,?_,below_setB (below_setB (below_setB B1.out HGX.out _) HGX.out _) HGX.out _⟩
    ·rw [HRES.out];exact Fnd.put G1.out O1.out C1.out HCN.out (by have:=HCL.out;omega)
    ·exact Kept.setCell (S:=fun k=>k = gx) (Kept.setCell (S:=fun k=>k = gx) (Kept.setCell (S:=fun k=>k = gx) K1.out (.inl rfl) _) (.inl rfl) _) (.inl rfl) _
   | some p =>
    obtain ⟨p,x⟩:=p
    obtain ⟨hd0,hdl,_,hd⟩:=hf2
    obtain ⟨Ax,cx,ex⟩:=Kd.R_slice hd
    subst ex
    obtain ⟨z,hz⟩ : ∃ z,cmpL code x = z:=⟨_,rfl⟩
    have HXC:=Aside0.mk (show Calls Try.prog 60 #[.slice Ac code.length cc,.slice Ax x.length cx] W1 fun e w'=>e = .returned (.int .i64 z) ∧ Drawn0 W1 w' from by
     have:=cmpR_c (W:=W1) (a:=code) (b:=x) (c:=cc) (d:=cx) (Kd.R_reads' C1.out).2.2 (Kd.R_reads' C1.out).2.1 (Kd.R_reads' hd).2.2 (Kd.R_reads' hd).2.1 (by have:=HCL.out;omega)
     rw [hz] at this
     exact this)
    have HS:=Aside0.mk (srchR_some N L o code p x HR.out)
    clear hd hd0 hdl
    by_cases h2 : z < 0
    ·have HRES:=Aside0.mk (show srchR N L 0 o code (some (p,x)) = some (o,code) from by rw [HS.out,if_pos (by rw [hz];exact h2)])
     have k2 : decide (z < 0) = true:=decide_eq_true h2
     clear hz h2
     go_wp2_with (first|(go_at_call 60;with_reducible refine HXC.out.mono ?_;rintro e w2 ⟨rfl,hdr⟩;have hb:=hdr.below;clear hdr;have HB2:=Aside0.mk hb;clear hb;have hc22 : w2.cell? ⟨gx,2,none⟩ = some fo:=(blk_cell (blk_below G1.out HB2.out) 2).trans rfl;have hc23 : w2.cell? ⟨gx,3,none⟩ = some (.slice Ax x.length cx):=(blk_cell (blk_below G1.out HB2.out) 3).trans rfl;have hc24 : w2.cell? ⟨gx,4,none⟩ = some (.bool true):=(blk_cell (blk_below G1.out HB2.out) 4).trans rfl;have hf24:=blk_frozen (blk_below G1.out HB2.out) 4)|((with_reducible refine gate_store (t:=4) (p:=55) rfl ?_);refine store_event (t:=4) (p:=55) (v:=?vo55_4) (w1:=w2.setCell ⟨gx,4,none⟩ (.bool true)) ?hg ?ho ?hn ?hr ?_;(case ho=>rfl);(case hg=>rfl);(case hn=>rfl);(case hr=>first|(go_simp;done)|(go_simp;rfl));intro wa ha;have GA:=Aside0.mk (show wa.heap[gx]? = some (.cells #[.slice A0 N.length c0,.slice A1 L.length c1,fo,.slice Ax x.length cx,.bool true] 105 (0,0)) from by rw [ha];exact blk_put (blk_below G1.out HB2.out) 4 _ rfl);have HA:=Aside0.mk ha;clear ha;have hca : wa.cell? ⟨gx,2,none⟩ = some fo:=(blk_cell GA.out 2).trans rfl;have hfa:=blk_frozen GA.out 2)|((with_reducible refine gate_store (t:=27) (p:=59) rfl ?_);refine store_event (t:=27) (p:=59) (v:=?vo59_5) (w1:=wa.setCell ⟨gx,2,none⟩ (.slice Ao o.length co)) ?hg ?ho ?hn ?hr ?_;(case ho=>rfl);(case hg=>rfl);(case hn=>rfl);(case hr=>first|(go_simp;done)|(go_simp;rfl));intro wb hb;have GB:=Aside0.mk (show wb.heap[gx]? = some (.cells #[.slice A0 N.length c0,.slice A1 L.length c1,.slice Ao o.length co,.slice Ax x.length cx,.bool true] 105 (0,0)) from by rw [hb];exact blk_put GA.out 2 _ rfl);have HBB:=Aside0.mk hb;clear hb;have hcb : wb.cell? ⟨gx,3,none⟩ = some (.slice Ax x.length cx):=(blk_cell GB.out 3).trans rfl;have hfb:=blk_frozen GB.out 3)|((with_reducible refine gate_store (t:=27) (p:=63) rfl ?_);refine store_event (t:=27) (p:=63) (v:=?vo63_6) (w1:=wb.setCell ⟨gx,3,none⟩ (.slice Ac code.length cc)) ?hg ?ho ?hn ?hr ?_;(case ho=>rfl);(case hg=>rfl);(case hn=>rfl);(case hr=>first|(go_simp;done)|(go_simp;rfl));intro wd hd;have HDD:=Aside0.mk hd;clear hd))
     first|go_end0|((try simp only [Exit.inBlock,Exit.then]);refine bodyPost_ret (results_none rfl _ _ _) rfl ?_)
     rw [HDD.out,HBB.out,HA.out]
     refine ⟨rfl,?_,?_,below_setB (below_setB (below_setB (below_step B1.out HB2.out) HGX.out _) HGX.out _) HGX.out _⟩
     ·rw [HRES.out];exact Fnd.put (blk_below G1.out HB2.out) (Kd.R_below O1.out HB2.out) (Kd.R_below C1.out HB2.out) HCN.out (by have:=HCL.out;omega)
     ·exact Kept.setCell (S:=fun k=>k = gx) (Kept.setCell (S:=fun k=>k = gx) (Kept.setCell (S:=fun k=>k = gx) (Kept.below K1.out HB2.out) (.inl rfl) _) (.inl rfl) _) (.inl rfl) _
    ·have HRES:=Aside0.mk (show srchR N L 0 o code (some (p,x)) = some (p,x) from by rw [HS.out,if_neg (by rw [hz];exact h2)])
     have k2 : decide (z < 0) = false:=decide_eq_false h2
     clear hz h2
     go_wp2_with (first|(go_at_call 60;with_reducible refine HXC.out.mono ?_;rintro e w2 ⟨rfl,hdr⟩;have hb:=hdr.below;clear hdr;have HB2:=Aside0.mk hb;clear hb))
     first|go_end0|((try simp only [Exit.inBlock,Exit.then]);refine bodyPost_ret (results_none rfl _ _ _) rfl ?_)
     exact ⟨rfl,by rw [HRES.out];exact F1.out.below HB2.out,Kept.below K1.out HB2.out,below_step B1.out HB2.out⟩
  ·go_wp2
   first|go_end0|((try simp only [Exit.inBlock,Exit.then]);refine bodyPost_ret (results_none rfl _ _ _) rfl ?_)
   exact ⟨rfl,by rw [srchR_worse _ _ _ _ _ _ HR.out];exact F1.out,K1.out,B1.out⟩
 | succ d ih =>
  intro o code b W ov cv hod ho hc0 hcl hB hF hro hrc
  obtain ⟨Ao,co,rfl⟩:=Kd.R_slice hro
  obtain ⟨Ac,cc,rfl⟩:=Kd.R_slice hrc
  rw [io_len] at hro ⊢
  have HO:=Aside0.mk hro
  have HC:=Aside0.mk hrc
  have HF:=Aside0.mk hF
  have HB:=Aside0.mk hB
  have HON:=Aside0.mk ho
  have HCN:=Aside0.mk hc0
  have HLN:=Aside0.mk hod
  have HLC:=Aside0.mk hcl
  have HCL:=Aside0.mk (show code.length ≤ 20000 ∧ o.length ≤ 9 from by have:=HNN.out;omega)
  obtain ⟨wb,hwb⟩ : ∃ wb,worseR b code = wb:=⟨_,rfl⟩
  clear hro hrc hF hB ho hc0 hod hcl
  go_enter Try.func72,Try.ntmps72
  go_upto_region 0 with (fail)
  refine Code.wp_mono (Q:=fun e a W1=>e = .normal ∧ ∃ t13 t14 t15 t16 t17 t18 t19 t20 t21 t22 t23 t24 t25 t26 t27 t28,a = ⟨#[.pointer (some ⟨gx,0,none⟩),.slice Ao o.length co,.slice Ac code.length cc,undef,undef,undef,undef,undef,.pointer (some ⟨gx,0,none⟩),.pointer (some ⟨gx,0,none⟩),.pointer (some ⟨gx,4,none⟩),.bool b.isSome,.bool b.isSome,t13,t14,t15,t16,t17,t18,t19,t20,t21,t22,t23,t24,t25,t26,t27,t28,.bool wb,undef,undef,undef,undef,undef,undef,undef,undef,undef,undef,undef,undef,undef,undef,undef,undef,undef,undef,undef,undef,undef,undef,undef,undef,undef,undef,undef,undef,undef,undef,undef,undef,undef,undef,undef,undef,undef,undef,undef,undef,undef,undef,undef,undef,undef,undef,undef,undef,undef,undef,undef,undef,undef,undef,undef,undef,undef,undef,undef,undef,undef,undef,undef,undef,undef,undef,undef],[]⟩ ∧ Drawn0 W W1) (fun e a W1 h=>?rest0) ?walk0
  case walk0 =>
   refine wp_region_noPanic ?_
   cases b with
   | none =>
    obtain rfl : false = wb:=hwb
    have hc4 : W.cell? ⟨gx,4,none⟩ = some (.bool false):=HF.out.cells.2.2
    refine start_ (n:=22) (S:=fun w'=>w'.cell? ⟨gx,4,none⟩ = some (.bool false)) (ds:=[]) #[false,false,false,false,false,false,false,false,false,false,false,false,false,false,false,false,false,false,false,false,false,false] (by kernel_rfl) rfl rfl (hc4) (fun hHeld=>?_)
    refine with_tabW tr.tab0 tr.bits0 (fun HT_ HW_=>?_)
    refine pure_ (i:=0) (N:=some 8) (v:=?_) (a':=?_) #[true,false,false,false,false,false,false,false,false,false,false,false,false,false,false,false,false,false,false,false,false,false] rfl rfl (any_of HT_.out (by kernel_rfl)) (fun _ _ _ h=>h) (Or.inl ⟨by rfl,?_⟩) ?_ ?_
    rotate_left
    ·intro w'
     go_simp
     with_reducible rfl
    rotate_left
    ·simp only [Act.put,zzA,zzB,zzC,i64_w,i32_w]
     rfl
    refine pure_ (i:=1) (N:=some 9) (v:=?_) (a':=?_) #[true,true,false,false,false,false,false,false,false,false,false,false,false,false,false,false,false,false,false,false,false,false] rfl rfl (any_of HT_.out (by kernel_rfl)) (fun _ _ _ h=>h) (Or.inl ⟨by rfl,?_⟩) ?_ ?_
    rotate_left
    ·intro w'
     go_simp
     with_reducible rfl
    rotate_left
    ·simp only [Act.put,zzA,zzB,zzC,i64_w,i32_w]
     rfl
    refine pure_ (i:=2) (N:=some 10) (v:=?_) (a':=?_) #[true,true,true,false,false,false,false,false,false,false,false,false,false,false,false,false,false,false,false,false,false,false] rfl rfl (any_of HT_.out (by kernel_rfl)) (fun _ _ _ h=>h) (Or.inl ⟨by rfl,?_⟩) ?_ ?_
    rotate_left
    ·intro w'
     go_simp
     with_reducible rfl
    rotate_left
    ·simp only [Act.put,zzA,zzB,zzC,i64_w,i32_w]
     rfl
    refine take_ (i:=3) (N:=some 11) (v:=?_) (a':=?_) #[true,true,true,true,false,false,false,false,false,false,false,false,false,false,false,false,false,false,false,false,false,false] rfl rfl (take_ofW HT_.out HW_.out (by kernel_rfl)) (fun _ _ _ h=>h) (Or.inl ⟨by rfl,?_⟩) hHeld ?_ ?_
    rotate_left
    ·intro w' s0
     go_simp
     with_reducible rfl
    rotate_left
    ·simp only [Act.put,zzA,zzB,zzC,i64_w,i32_w]
     rfl
    refine pure_ (i:=4) (N:=some 12) (v:=?_) (a':=?_) #[true,true,true,true,true,false,false,false,false,false,false,false,false,false,false,false,false,false,false,false,false,false] rfl rfl (any_of HT_.out (by kernel_rfl)) (fun _ _ _ h=>h) (Or.inl ⟨by rfl,?_⟩) ?_ ?_
    rotate_left
    ·intro w'
     go_simp
     with_reducible rfl
    rotate_left
    ·simp only [Act.put,zzA,zzB,zzC,i64_w,i32_w]
     rfl
    refine pure_ (i:=5) (N:=some 13) (v:=undef) (a':=?_) #[true,true,true,true,true,true,false,false,false,false,false,false,false,false,false,false,false,false,false,false,false,false] rfl rfl (any_of HT_.out (by kernel_rfl)) (fun _ _ _ h=>h) (Or.inr ⟨by rfl,rfl⟩) ?_ ?_
    rotate_left
    ·simp only [Act.put,zzA,zzB,zzC,i64_w,i32_w]
     rfl
    refine pure_ (i:=6) (N:=some 14) (v:=undef) (a':=?_) #[true,true,true,true,true,true,true,false,false,false,false,false,false,false,false,false,false,false,false,false,false,false] rfl rfl (any_of HT_.out (by kernel_rfl)) (fun _ _ _ h=>h) (Or.inr ⟨by rfl,rfl⟩) ?_ ?_
    rotate_left
    ·simp only [Act.put,zzA,zzB,zzC,i64_w,i32_w]
     rfl
    refine pure_ (i:=7) (N:=some 15) (v:=undef) (a':=?_) #[true,true,true,true,true,true,true,true,false,false,false,false,false,false,false,false,false,false,false,false,false,false] rfl rfl (any_of HT_.out (by kernel_rfl)) (fun _ _ _ h=>h) (Or.inr ⟨by rfl,rfl⟩) ?_ ?_
    rotate_left
    ·simp only [Act.put,zzA,zzB,zzC,i64_w,i32_w]
     rfl
    refine pure_ (i:=8) (N:=some 16) (v:=undef) (a':=?_) #[true,true,true,true,true,true,true,true,true,false,false,false,false,false,false,false,false,false,false,false,false,false] rfl rfl (any_of HT_.out (by kernel_rfl)) (fun _ _ _ h=>h) (Or.inr ⟨by rfl,rfl⟩) ?_ ?_
    rotate_left
    ·simp only [Act.put,zzA,zzB,zzC,i64_w,i32_w]
     rfl
    refine pure_ (i:=9) (N:=some 17) (v:=undef) (a':=?_) #[true,true,true,true,true,true,true,true,true,true,false,false,false,false,false,false,false,false,false,false,false,false] rfl rfl (any_of HT_.out (by kernel_rfl)) (fun _ _ _ h=>h) (Or.inr ⟨by rfl,rfl⟩) ?_ ?_
    rotate_left
    ·simp only [Act.put,zzA,zzB,zzC,i64_w,i32_w]
     rfl
    refine pure_ (i:=10) (N:=some 18) (v:=undef) (a':=?_) #[true,true,true,true,true,true,true,true,true,true,true,false,false,false,false,false,false,false,false,false,false,false] rfl rfl (any_of HT_.out (by kernel_rfl)) (fun _ _ _ h=>h) (Or.inr ⟨by rfl,rfl⟩) ?_ ?_
    rotate_left
    ·simp only [Act.put,zzA,zzB,zzC,i64_w,i32_w]
     rfl
    refine pure_ (i:=11) (N:=some 19) (v:=undef) (a':=?_) #[true,true,true,true,true,true,true,true,true,true,true,true,false,false,false,false,false,false,false,false,false,false] rfl rfl (any_of HT_.out (by kernel_rfl)) (fun _ _ _ h=>h) (Or.inr ⟨by rfl,rfl⟩) ?_ ?_
    rotate_left
    ·simp only [Act.put,zzA,zzB,zzC,i64_w,i32_w]
     rfl
    refine pure_ (i:=12) (N:=some 20) (v:=undef) (a':=?_) #[true,true,true,true,true,true,true,true,true,true,true,true,true,false,false,false,false,false,false,false,false,false] rfl rfl (any_of HT_.out (by kernel_rfl)) (fun _ _ _ h=>h) (Or.inr ⟨by rfl,rfl⟩) ?_ ?_
    rotate_left
    ·simp only [Act.put,zzA,zzB,zzC,i64_w,i32_w]
     rfl
    refine pure_ (i:=13) (N:=some 21) (v:=undef) (a':=?_) #[true,true,true,true,true,true,true,true,true,true,true,true,true,true,false,false,false,false,false,false,false,false] rfl rfl (any_of HT_.out (by kernel_rfl)) (fun _ _ _ h=>h) (Or.inr ⟨by rfl,rfl⟩) ?_ ?_
    rotate_left
    ·simp only [Act.put,zzA,zzB,zzC,i64_w,i32_w]
     rfl
    refine pure_ (i:=14) (N:=some 22) (v:=undef) (a':=?_) #[true,true,true,true,true,true,true,true,true,true,true,true,true,true,true,false,false,false,false,false,false,false] rfl rfl (any_of HT_.out (by kernel_rfl)) (fun _ _ _ h=>h) (Or.inr ⟨by rfl,rfl⟩) ?_ ?_
    rotate_left
    ·simp only [Act.put,zzA,zzB,zzC,i64_w,i32_w]
     rfl
    refine pure_ (i:=15) (N:=some 23) (v:=undef) (a':=?_) #[true,true,true,true,true,true,true,true,true,true,true,true,true,true,true,true,false,false,false,false,false,false] rfl rfl (any_of HT_.out (by kernel_rfl)) (fun _ _ _ h=>h) (Or.inr ⟨by rfl,rfl⟩) ?_ ?_
    rotate_left
    ·simp only [Act.put,zzA,zzB,zzC,i64_w,i32_w]
     rfl
    refine pure_ (i:=16) (N:=some 24) (v:=undef) (a':=?_) #[true,true,true,true,true,true,true,true,true,true,true,true,true,true,true,true,true,false,false,false,false,false] rfl rfl (any_of HT_.out (by kernel_rfl)) (fun _ _ _ h=>h) (Or.inr ⟨by rfl,rfl⟩) ?_ ?_
    rotate_left
    ·simp only [Act.put,zzA,zzB,zzC,i64_w,i32_w]
     rfl
    refine pure_ (i:=17) (N:=some 25) (v:=undef) (a':=?_) #[true,true,true,true,true,true,true,true,true,true,true,true,true,true,true,true,true,true,false,false,false,false] rfl rfl (any_of HT_.out (by kernel_rfl)) (fun _ _ _ h=>h) (Or.inr ⟨by rfl,rfl⟩) ?_ ?_
    rotate_left
    ·simp only [Act.put,zzA,zzB,zzC,i64_w,i32_w]
     rfl
    refine pure_ (i:=18) (N:=some 26) (v:=undef) (a':=?_) #[true,true,true,true,true,true,true,true,true,true,true,true,true,true,true,true,true,true,true,false,false,false] rfl rfl (any_of HT_.out (by kernel_rfl)) (fun _ _ _ h=>h) (Or.inr ⟨by rfl,rfl⟩) ?_ ?_
    rotate_left
    ·simp only [Act.put,zzA,zzB,zzC,i64_w,i32_w]
     rfl
    refine pure_ (i:=19) (N:=some 27) (v:=undef) (a':=?_) #[true,true,true,true,true,true,true,true,true,true,true,true,true,true,true,true,true,true,true,true,false,false] rfl rfl (any_of HT_.out (by kernel_rfl)) (fun _ _ _ h=>h) (Or.inr ⟨by rfl,rfl⟩) ?_ ?_
    rotate_left
    ·simp only [Act.put,zzA,zzB,zzC,i64_w,i32_w]
     rfl
    refine pure_ (i:=20) (N:=some 28) (v:=undef) (a':=?_) #[true,true,true,true,true,true,true,true,true,true,true,true,true,true,true,true,true,true,true,true,true,false] rfl rfl (any_of HT_.out (by kernel_rfl)) (fun _ _ _ h=>h) (Or.inr ⟨by rfl,rfl⟩) ?_ ?_
    rotate_left
    ·simp only [Act.put,zzA,zzB,zzC,i64_w,i32_w]
     rfl
    refine pure_ (i:=21) (N:=some 29) (v:=?_) (a':=?_) #[true,true,true,true,true,true,true,true,true,true,true,true,true,true,true,true,true,true,true,true,true,true] rfl rfl (any_of HT_.out (by kernel_rfl)) (fun _ _ _ h=>h) (Or.inl ⟨by rfl,?_⟩) ?_ ?_
    rotate_left
    ·intro w'
     go_simp
     with_reducible rfl
    rotate_left
    ·simp only [Act.put,zzA,zzB,zzC,i64_w,i32_w]
     rfl
    refine done_ (done_of HT_.out (by kernel_rfl)) ?_
    exact NoPanic.normal ⟨rfl,_,_,_,_,_,_,_,_,_,_,_,_,_,_,_,_,rfl,by repeat (first|exact Drawn0.refl _|apply Drawn0.step)⟩
   | some p =>
    obtain ⟨p,x⟩:=p
    obtain ⟨fo,fc,hf1,hf2⟩:=HF.out.ex
    obtain ⟨hd0,hdl,_,hd⟩:=hf2
    have hd1 : 0 < x.length:=List.length_pos_iff.2 hd0
    obtain ⟨g,cx,rfl,_,_,_⟩:=Kd.R_form hd hd1
    have hc4 : W.cell? ⟨gx,4,none⟩ = some (.bool true):=HF.out.cells.2.2
    have hc3 : W.cell? ⟨gx,3,none⟩ = some (.slice (some ⟨g,0,none⟩) x.length cx):=(blk_cell hf1 3).trans rfl
    obtain ⟨_,hdc,hdr⟩:=Kd.R_reads' hd
    obtain ⟨m,hm⟩ : ∃ m : Nat,m = min code.length x.length:=⟨_,rfl⟩
    have hm1 : m ≤ code.length:=by omega
    have hm2 : m ≤ x.length:=by omega
    have hmi : min (code.length : Int) (x.length : Int) = (m : Int):=by omega
    have hmi2 : (if x.length < code.length then (x.length : Int) else (code.length : Int)) = (m : Int):=by split <;> omega
    have hmd : m ≤ cx:=by omega
    have hwb' : decide (0 < cmpL code (x.take m)) = wb:=by rw [hm];exact hwb
    obtain ⟨z,hz⟩ : ∃ z,cmpL code (x.take m) = z:=⟨_,rfl⟩
    rw [hz] at hwb'
    have HXd:=Aside0.mk (show Calls Try.prog 60 #[.slice Ac code.length cc,.slice (some ⟨g,0,none⟩) m cx] W.drew fun e w'=>e = .returned (.int .i64 z) ∧ Drawn0 W.drew w' from by
     have a2:=Kd.C_drewN (Kd.C_take (m:=m) hdr hm2) 1
     have:=cmpR_c (W:=W.drew) (a:=code) (b:=x.take m) (c:=cc) (d:=cx) (Kd.R_reads' (Kd.R_drew HC.out)).2.2 (Kd.R_reads' HC.out).2.1 a2 (by rw [take_len hm2];omega) (by have:=HCL.out;omega)
     rw [take_len hm2,hz] at this
     exact this)
    subst hwb'
    clear hf1 hd hdr hm hz hwb
    refine start_ (n:=22) (S:=fun w'=>w'.cell? ⟨gx,4,none⟩ = some (.bool true) ∧ w'.cell? ⟨gx,3,none⟩ = some (.slice (some ⟨g,0,none⟩) x.length cx)) (ds:=[]) #[false,false,false,false,false,false,false,false,false,false,false,false,false,false,false,false,false,false,false,false,false,false] (by kernel_rfl) rfl rfl ⟨hc4,hc3⟩ (fun hHeld=>?_)
    refine with_tabW tr.tab0 tr.bits0 (fun HT_ HW_=>?_)
    refine pure_ (i:=0) (N:=some 8) (v:=?_) (a':=?_) #[true,false,false,false,false,false,false,false,false,false,false,false,false,false,false,false,false,false,false,false,false,false] rfl rfl (any_of HT_.out (by kernel_rfl)) (fun _ _ _ h=>h) (Or.inl ⟨by rfl,?_⟩) ?_ ?_
    rotate_left
    ·intro w'
     go_simp
     with_reducible rfl
    rotate_left
    ·simp only [Act.put,zzA,zzB,zzC,i64_w,i32_w]
     rfl
    refine pure_ (i:=1) (N:=some 9) (v:=?_) (a':=?_) #[true,true,false,false,false,false,false,false,false,false,false,false,false,false,false,false,false,false,false,false,false,false] rfl rfl (any_of HT_.out (by kernel_rfl)) (fun _ _ _ h=>h) (Or.inl ⟨by rfl,?_⟩) ?_ ?_
    rotate_left
    ·intro w'
     go_simp
     with_reducible rfl
    rotate_left
    ·simp only [Act.put,zzA,zzB,zzC,i64_w,i32_w]
     rfl
    refine pure_ (i:=2) (N:=some 10) (v:=?_) (a':=?_) #[true,true,true,false,false,false,false,false,false,false,false,false,false,false,false,false,false,false,false,false,false,false] rfl rfl (any_of HT_.out (by kernel_rfl)) (fun _ _ _ h=>h) (Or.inl ⟨by rfl,?_⟩) ?_ ?_
    rotate_left
    ·intro w'
     go_simp
     with_reducible rfl
    rotate_left
    ·simp only [Act.put,zzA,zzB,zzC,i64_w,i32_w]
     rfl
    refine take_ (i:=3) (N:=some 11) (v:=?_) (a':=?_) #[true,true,true,true,false,false,false,false,false,false,false,false,false,false,false,false,false,false,false,false,false,false] rfl rfl (take_ofW HT_.out HW_.out (by kernel_rfl)) (fun _ _ _ h=>h) (Or.inl ⟨by rfl,?_⟩) hHeld ?_ ?_
    rotate_left
    ·rintro w' ⟨s0,s1⟩
     go_simp
     with_reducible rfl
    rotate_left
    ·simp only [Act.put,zzA,zzB,zzC,i64_w,i32_w]
     rfl
    refine pure_ (i:=4) (N:=some 12) (v:=?_) (a':=?_) #[true,true,true,true,true,false,false,false,false,false,false,false,false,false,false,false,false,false,false,false,false,false] rfl rfl (any_of HT_.out (by kernel_rfl)) (fun _ _ _ h=>h) (Or.inl ⟨by rfl,?_⟩) ?_ ?_
    rotate_left
    ·intro w'
     go_simp
     with_reducible rfl
    rotate_left
    ·simp only [Act.put,zzA,zzB,zzC,i64_w,i32_w]
     rfl
    refine pure_ (i:=5) (N:=some 13) (v:=?_) (a':=?_) #[true,true,true,true,true,true,false,false,false,false,false,false,false,false,false,false,false,false,false,false,false,false] rfl rfl (any_of HT_.out (by kernel_rfl)) (fun _ _ _ h=>h) (Or.inl ⟨by rfl,?_⟩) ?_ ?_
    rotate_left
    ·intro w'
     go_simp
     with_reducible rfl
    rotate_left
    ·simp only [Act.put,zzA,zzB,zzC,i64_w,i32_w]
     rfl
    refine pure_ (i:=6) (N:=some 14) (v:=?_) (a':=?_) #[true,true,true,true,true,true,true,false,false,false,false,false,false,false,false,false,false,false,false,false,false,false] rfl rfl (any_of HT_.out (by kernel_rfl)) (fun _ _ _ h=>h) (Or.inl ⟨by rfl,?_⟩) ?_ ?_
    rotate_left
    ·intro w'
     go_simp
     with_reducible rfl
    rotate_left
    ·simp only [Act.put,zzA,zzB,zzC,i64_w,i32_w]
     rfl
    refine pure_ (i:=7) (N:=some 15) (v:=?_) (a':=?_) #[true,true,true,true,true,true,true,true,false,false,false,false,false,false,false,false,false,false,false,false,false,false] rfl rfl (any_of HT_.out (by kernel_rfl)) (fun _ _ _ h=>h) (Or.inl ⟨by rfl,?_⟩) ?_ ?_
    rotate_left
    ·intro w'
     go_simp
     with_reducible rfl
    rotate_left
    ·simp only [Act.put,zzA,zzB,zzC,i64_w,i32_w]
     rfl
    refine pure_ (i:=8) (N:=some 16) (v:=?_) (a':=?_) #[true,true,true,true,true,true,true,true,true,false,false,false,false,false,false,false,false,false,false,false,false,false] rfl rfl (any_of HT_.out (by kernel_rfl)) (fun _ _ _ h=>h) (Or.inl ⟨by rfl,?_⟩) ?_ ?_
    rotate_left
    ·intro w'
     go_simp
     with_reducible rfl
    rotate_left
    ·simp only [Act.put,zzA,zzB,zzC,i64_w,i32_w]
     rfl
    refine pure_ (i:=10) (N:=some 18) (v:=?_) (a':=?_) #[true,true,true,true,true,true,true,true,true,false,true,false,false,false,false,false,false,false,false,false,false,false] rfl rfl (any_of HT_.out (by kernel_rfl)) (fun _ _ _ h=>h) (Or.inl ⟨by rfl,?_⟩) ?_ ?_
    rotate_left
    ·intro w'
     go_simp
     with_reducible rfl
    rotate_left
    ·simp only [Act.put,zzA,zzB,zzC,i64_w,i32_w]
     rfl
    refine pure_ (i:=11) (N:=some 19) (v:=?_) (a':=?_) #[true,true,true,true,true,true,true,true,true,false,true,true,false,false,false,false,false,false,false,false,false,false] rfl rfl (any_of HT_.out (by kernel_rfl)) (fun _ _ _ h=>h) (Or.inl ⟨by rfl,?_⟩) ?_ ?_
    rotate_left
    ·intro w'
     go_simp
     with_reducible rfl
    rotate_left
    ·simp only [Act.put,zzA,zzB,zzC,i64_w,i32_w]
     rfl
    refine pure_ (i:=12) (N:=some 20) (v:=?_) (a':=?_) #[true,true,true,true,true,true,true,true,true,false,true,true,true,false,false,false,false,false,false,false,false,false] rfl rfl (any_of HT_.out (by kernel_rfl)) (fun _ _ _ h=>h) (Or.inl ⟨by rfl,?_⟩) ?_ ?_
    rotate_left
    ·intro w'
     go_simp
     with_reducible rfl
    rotate_left
    ·simp only [Act.put,zzA,zzB,zzC,i64_w,i32_w]
     rfl
    refine pure_ (i:=13) (N:=some 21) (v:=?_) (a':=?_) #[true,true,true,true,true,true,true,true,true,false,true,true,true,true,false,false,false,false,false,false,false,false] rfl rfl (any_of HT_.out (by kernel_rfl)) (fun _ _ _ h=>h) (Or.inl ⟨by rfl,?_⟩) ?_ ?_
    rotate_left
    ·intro w'
     go_simp
     with_reducible rfl
    rotate_left
    ·simp only [Act.put,zzA,zzB,zzC,i64_w,i32_w]
     rfl
    refine pure_ (i:=14) (N:=some 22) (v:=?_) (a':=?_) #[true,true,true,true,true,true,true,true,true,false,true,true,true,true,true,false,false,false,false,false,false,false] rfl rfl (any_of HT_.out (by kernel_rfl)) (fun _ _ _ h=>h) (Or.inl ⟨by rfl,?_⟩) ?_ ?_
    rotate_left
    ·intro w'
     go_simp
     with_reducible rfl
    rotate_left
    ·simp only [Act.put,zzA,zzB,zzC,i64_w,i32_w]
     rfl
    refine take_ (i:=9) (N:=some 17) (v:=?_) (a':=?_) #[true,true,true,true,true,true,true,true,true,true,true,true,true,true,true,false,false,false,false,false,false,false] rfl rfl (take_ofW HT_.out HW_.out (by kernel_rfl)) (fun _ _ _ h=>h) (Or.inl ⟨by rfl,?_⟩) hHeld ?_ ?_
    rotate_left
    ·rintro w' ⟨s0,s1⟩
     go_simp
     with_reducible rfl
    rotate_left
    ·simp only [Act.put,zzA,zzB,zzC,i64_w,i32_w]
     rfl
    refine take_ (i:=15) (N:=some 23) (v:=?_) (a':=?_) #[true,true,true,true,true,true,true,true,true,true,true,true,true,true,true,true,false,false,false,false,false,false] rfl rfl (take_ofW HT_.out HW_.out (by kernel_rfl)) (fun _ _ _ h=>h) (Or.inl ⟨by rfl,?_⟩) hHeld ?_ ?_
    rotate_left
    ·rintro w' ⟨s0,s1⟩
     go_simp
     with_reducible rfl
    rotate_left
    ·simp only [Act.put,zzA,zzB,zzC,i64_w,i32_w]
     rfl
    refine pure_ (i:=16) (N:=some 24) (v:=?_) (a':=?_) #[true,true,true,true,true,true,true,true,true,true,true,true,true,true,true,true,true,false,false,false,false,false] rfl rfl (any_of HT_.out (by kernel_rfl)) (fun _ _ _ h=>h) (Or.inl ⟨by rfl,?_⟩) ?_ ?_
    rotate_left
    ·intro w'
     go_simp
     with_reducible rfl
    rotate_left
    ·simp only [Act.put,zzA,zzB,zzC,i64_w,i32_w]
     rfl
    refine pure_ (i:=17) (N:=some 25) (v:=?_) (a':=?_) #[true,true,true,true,true,true,true,true,true,true,true,true,true,true,true,true,true,true,false,false,false,false] rfl rfl (any_of HT_.out (by kernel_rfl)) (fun _ _ _ h=>h) (Or.inl ⟨by rfl,?_⟩) ?_ ?_
    rotate_left
    ·intro w'
     go_simp
     with_reducible rfl
    rotate_left
    ·simp only [Act.put,zzA,zzB,zzC,i64_w,i32_w]
     rfl
    refine pure_ (i:=18) (N:=some 26) (v:=?_) (a':=?_) #[true,true,true,true,true,true,true,true,true,true,true,true,true,true,true,true,true,true,true,false,false,false] rfl rfl (any_of HT_.out (by kernel_rfl)) (fun _ _ _ h=>h) (Or.inl ⟨by rfl,?_⟩) ?_ ?_
    rotate_left
    ·intro w'
     go_simp
     with_reducible rfl
    rotate_left
    ·simp only [Act.put,zzA,zzB,zzC,i64_w,i32_w]
     rfl
    refine one_ (i:=19) (N:=some 27) #[true,true,true,true,true,true,true,true,true,true,true,true,true,true,true,true,true,true,true,true,false,false] rfl rfl (one_of HT_.out (by kernel_rfl)) (by decide) (fun K hK=>?_)
    refine goes_ Try.func60 (by kernel_rfl) rfl #[.slice Ac code.length cc,.slice (some ⟨g,0,none⟩) m cx] (by rfl) rfl rfl (by simp only [List.map_toArray,List.map_cons,List.map_nil];rfl) ?_
    with_reducible refine HXd.out.mono ?_
    rintro e w_ ⟨rfl,⟨nd,rfl⟩⟩
    refine ⟨_,rfl,?_⟩
    refine hK.out _ _ ⟨hc4,hc3⟩ (fun hHeld=>?_)
    clear hK K
    refine norm_ (a':=?_) ?_ ?_
    rotate_left
    ·show Act.put _ (some 27) _ = _
     simp only [Act.put,zzA,zzB,zzC,i64_w,i32_w]
     rfl
    refine pure_ (i:=20) (N:=some 28) (v:=?_) (a':=?_) #[true,true,true,true,true,true,true,true,true,true,true,true,true,true,true,true,true,true,true,true,true,false] rfl rfl (any_of HT_.out (by kernel_rfl)) (fun _ _ _ h=>h) (Or.inl ⟨by rfl,?_⟩) ?_ ?_
    rotate_left
    ·intro w'
     go_simp
     with_reducible rfl
    rotate_left
    ·simp only [Act.put,zzA,zzB,zzC,i64_w,i32_w]
     rfl
    refine pure_ (i:=21) (N:=some 29) (v:=?_) (a':=?_) #[true,true,true,true,true,true,true,true,true,true,true,true,true,true,true,true,true,true,true,true,true,true] rfl rfl (any_of HT_.out (by kernel_rfl)) (fun _ _ _ h=>h) (Or.inl ⟨by rfl,?_⟩) ?_ ?_
    rotate_left
    ·intro w'
     go_simp
     with_reducible rfl
    rotate_left
    ·simp only [Act.put,zzA,zzB,zzC,i64_w,i32_w]
     rfl
    refine done_ (done_of HT_.out (by kernel_rfl)) ?_
    exact NoPanic.normal ⟨rfl,_,_,_,_,_,_,_,_,_,_,_,_,_,_,_,_,rfl,by repeat (first|exact Drawn0.refl _|apply Drawn0.step)⟩
  obtain ⟨rfl,t13,t14,t15,t16,t17,t18,t19,t20,t21,t22,t23,t24,t25,t26,t27,t28,rfl,hd⟩:=h
  have hb:=hd.below
  dsimp only
  have F1:=Aside0.mk (HF.out.below hb)
  have O1:=Aside0.mk (Kd.R_below HO.out hb)
  have C1:=Aside0.mk (Kd.R_below HC.out hb)
  have B1:=Aside0.mk (below_step HB.out hb)
  have K1:=Aside0.mk (Kept.of_below hb (fun k=>k = gx))
  have HR:=Aside0.mk hwb
  clear hd hb HF HO HC hwb
  cases wb
  ·have hcx0 : W1.cell? ⟨gx,0,none⟩ = some (.slice A0 N.length c0):=F1.out.cells.1
   have k1 : ((o.length : Int) == (N.length : Int)) = false:=by have:=HLN.out;simp;omega
   have k1' : (o.length == N.length) = false:=by have:=HLN.out;simp;omega
   have k1d : decide (o.length = N.length) = false:=by have:=HLN.out;simp;omega
   have HSR:=Aside0.mk (srchR_succ N L d o code b HR.out)
   go_wp2
   go_loopw [6] (fun v6 wr=>∃ (i : Nat) (bb : Found),i ≤ N.length ∧ v6 = .int .i64 (i : Int) ∧ Aside0 ((List.range i).foldl (stepR N L d o code) b = bb) ∧ Aside0 (Fnd wr Ws.heap.size gx A0 c0 N A1 c1 L bb) ∧ Aside0 (Kd.R (Kd.int .i64) 3 wr Ws.heap.size (fun _=>True) (.slice Ao o.length co) (io o)) ∧ Aside0 (Kd.R (Kd.int .i64) 3 wr Ws.heap.size (fun _=>True) (.slice Ac code.length cc) code) ∧ Aside0 (Kept W wr (fun k=>k = gx)) ∧ Aside0 (Below Ws.heap.size Ws wr)) (fun v _=>N.length - (intOf v).toNat)
   case atStart=>exact ⟨0,b,by omega,rfl,⟨rfl⟩,F1,O1,C1,K1,B1⟩
   case round =>
    clear F1 O1 C1 K1 B1 hcx0
    obtain ⟨i,bb,hi,rfl,HQ,F3,O3,C3,K3,B3⟩:=hrel
    have hcx0 : wr.cell? ⟨gx,0,none⟩ = some (.slice A0 N.length c0):=F3.out.cells.1
    have hn9:=HNN.out
    by_cases h1 : i < N.length
    ·have k3 : decide ((i : Int) < (N.length : Int)) = true:=decide_eq_true (by omega)
     have k3' : decide (i < N.length) = true:=decide_eq_true h1
     have HQ2:=Aside0.mk (show (List.range (i + 1)).foldl (stepR N L d o code) b = stepR N L d o code bb i from by rw [List.range_succ,List.foldl_append,HQ.out];rfl)
     have HOP:=Aside0.mk (fun (W1 : World) (hw : Below wr.heap.size wr W1)=>open_calls (W:=W1) (F3.out.below hw) (Kd.C_below HN0.out (below_step B3.out hw)) HC0.out (Kd.C_below HL0.out (below_step B3.out hw)) HC1.out HLL.out (by omega) (o:=o) (A:=Ao) (c:=co) (v:=i) (by have:=HCL.out;omega) (by have:=(Kd.R_reads' (Kd.R_below O3.out hw)).2.2;rw [io_len] at this;exact this) (Kd.R_reads' O3.out).2.1 h1)
     obtain ⟨z,hz⟩ : ∃ z,openB N L o i = z:=⟨_,rfl⟩
     rw [hz] at HOP
     have HZ:=Aside0.mk hz
     have HBr:=Aside0.mk (Below.refl wr.heap.size wr)
     clear hz
     cases z
     ·have HST:=Aside0.mk (show stepR N L d o code bb i = bb from by rw [stepR,if_neg (by rw [HZ.out];simp)])
      go_wp2_with (first|(go_at_call 86;with_reducible refine (HOP.out _ (by repeat (first|(with_reducible first|exact HBr.out|apply zzD|apply zzE|apply zzF)|exact HBr.out))).mono ?_;rintro e w4 ⟨rfl,hb⟩;have HBr_:=Aside0.mk (below_step (by repeat (first|(with_reducible first|exact HBr.out|apply zzD|apply zzE|apply zzF)|exact HBr.out)) hb);clear HBr;have HBr:=HBr_;clear hb HBr_))
      go_roundw
      case rel=>exact ⟨i + 1,bb,by omega,by first|rfl|simp,Aside0.mk (HQ2.out.trans HST.out),Aside0.mk (F3.out.below HBr.out),Aside0.mk (Kd.R_below O3.out HBr.out),Aside0.mk (Kd.R_below C3.out HBr.out),Aside0.mk (Kept.below K3.out HBr.out),Aside0.mk (below_step B3.out HBr.out)⟩
      case measure=>show N.length - ((i : Int) + 1).toNat < N.length - ((i : Nat) : Int).toNat;omega
     ·have HST:=Aside0.mk (show stepR N L d o code bb i = srchR N L d (o ++ [i]) (code ++ placeS N L (SB L) o i) bb from by rw [stepR,if_pos HZ.out])
      have HPL:=Aside0.mk (show (placeS N L (SB L) o i).length ≤ 2000 from by have:=place_len (fits_SB (by have:=HLL.out;omega) (L:=L)) h1 o HON.out;have:=HCL.out;omega)
      go_upto_region 11 with (first|(go_at_call 86;with_reducible refine (HOP.out _ (by repeat (first|(with_reducible first|exact HBr.out|apply zzD|apply zzE|apply zzF)|exact HBr.out))).mono ?_;rintro e w4 ⟨rfl,hb⟩;have HBr_:=Aside0.mk (below_step (by repeat (first|(with_reducible first|exact HBr.out|apply zzD|apply zzE|apply zzF)|exact HBr.out)) hb);clear HBr;have HBr:=HBr_;clear hb HBr_;have F4:=Aside0.mk (F3.out.below HBr.out);have O4:=Aside0.mk (Kd.R_below O3.out HBr.out);have C4:=Aside0.mk (Kd.R_below C3.out HBr.out);have B4:=Aside0.mk (below_step B3.out HBr.out);have BR4:=Aside0.mk (Below.refl w4.heap.size w4);have OC4:=Aside0.mk (show ∀ W1,Below w4.heap.size w4 W1 → Kd.C (Kd.int .i64) W1 Ao o.length (io o) from fun W1 hw=>by have:=(Kd.R_reads' (Kd.R_below O4.out hw)).2.2;rw [io_len] at this;exact this))|((with_reducible refine gate_builtin (b:=.append) (xs:=#[.tmp 78,.tmp 79]) rfl ?_);at_builtin;refine Kd.R_append_rows (Kd.int .i64) (Rr:=(Kd.int .i64).K _) (w0:=w4) (W:=_) w4.heap.size rfl (.tmp 78) (.tmp 79) 27 3 (.int .i64 0) 8 rfl Try.underlying27 info3 rfl (by decide) (by omega) (.slice (some ⟨_,0,none⟩) 0 0) [] (io o) Ao o.length co (fun _=>True) (fun _=>False) rfl rfl (R_empty (blk_new w4 _) (Nat.le_refl _)) (OC4.out _ (by repeat (first|(with_reducible first|exact BR4.out|apply zzD|apply zzE|apply zzF)|exact BR4.out))) (fun _ _ h=>h) (fun _ hk=>hk.elim) (fun _ _=>trivial) (by repeat (first|(with_reducible first|exact BR4.out|apply zzD|apply zzE|apply zzF)|exact BR4.out)) (Below.size (by repeat (first|(with_reducible first|exact BR4.out|apply zzD|apply zzE|apply zzF)|exact BR4.out))) (by have:=HCL.out;simp;omega) ?_;intro v5 w5 ho5 hb5 hg5 ha5;rw [List.nil_append] at ho5;have R5:=Aside0.mk ho5;have B5:=Aside0.mk hb5;clear ho5 hb5 hg5 ha5)|((with_reducible refine gate_builtin (b:=.append) (xs:=#[.tmp 80,.tmp 82]) rfl ?_);at_builtin;refine Kd.R_append (Kd.int .i64) (w0:=w4) (W:=w5) w4.heap.size rfl (.tmp 80) (.tmp 82) 27 3 (.int .i64 0) 8 rfl Try.underlying27 info3 rfl (by decide) (by omega) v5 (io o) (i : Int) [.int .i64 (i : Int)] (fun _=>True) (fun _=>False) rfl rfl rfl (fun _ hk=>hk.elim) (fun _ _=>trivial) R5.out B5.out B5.out.size (by rw [io_len];have:=HCL.out;omega) ?_;intro v9 w9 ho9 hb9 hg9 ha9;have R9:=Aside0.mk ho9;have D9:=Aside0.mk hb9;clear ho9 hb9 hg9 ha9))
      have hio : io o ++ [(i : Int)] = io (o ++ [i]):=by simp [io]
      rw [hio] at R9
      clear hio
      obtain ⟨A9,c9,e9⟩:=Kd.R_slice R9.out
      subst e9
      have N9:=Aside0.mk (Kd.R_lower R9.out B4.out.size)
      have F9:=Aside0.mk (F4.out.below D9.out)
      have O9:=Aside0.mk (Kd.R_below O4.out D9.out)
      have C9:=Aside0.mk (Kd.R_below C4.out D9.out)
      have HB9:=Aside0.mk (below_step B4.out D9.out)
      have BX:=Aside0.mk (Below.refl w9.heap.size w9)
      have K9:=Aside0.mk (Kept.below K3.out (below_step HBr.out D9.out))
      have hcx0 : w9.cell? ⟨gx,0,none⟩ = some (.slice A0 N.length c0):=F9.out.cells.1
      have hcx1 : w9.cell? ⟨gx,1,none⟩ = some (.slice A1 L.length c1):=F9.out.cells.2.1
      clear R9 D9 R5 B5 OC4 F4 O4 C4 BR4 B4 HBr HOP F3 O3 C3 K3 B3
      refine start_ (n:=13) (S:=fun w'=>w'.cell? ⟨gx,0,none⟩ = some (.slice A0 N.length c0) ∧ w'.cell? ⟨gx,1,none⟩ = some (.slice A1 L.length c1)) (ds:=[]) #[false,false,false,false,false,false,false,false,false,false,false,false,false] (by kernel_rfl) rfl rfl ⟨hcx0,hcx1⟩ (fun hHeld=>?_)
      refine with_tabW tr.tab11 tr.bits11 (fun HT_ HW_=>?_)
      refine pure_ (i:=0) (N:=some 84) (v:=?_) (a':=?_) #[true,false,false,false,false,false,false,false,false,false,false,false,false] rfl rfl (any_of HT_.out (by kernel_rfl)) (fun _ _ _ h=>h) (Or.inl ⟨by rfl,?_⟩) ?_ ?_
      rotate_left
      ·intro w'
       go_simp
       with_reducible rfl
      rotate_left
      ·simp only [Act.put,zzA,zzB,zzC,i64_w,i32_w]
       rfl
      refine pure_ (i:=1) (N:=some 85) (v:=?_) (a':=?_) #[true,true,false,false,false,false,false,false,false,false,false,false,false] rfl rfl (any_of HT_.out (by kernel_rfl)) (fun _ _ _ h=>h) (Or.inl ⟨by rfl,?_⟩) ?_ ?_
      rotate_left
      ·intro w'
       go_simp
       with_reducible rfl
      rotate_left
      ·simp only [Act.put,zzA,zzB,zzC,i64_w,i32_w]
       rfl
      refine pure_ (i:=3) (N:=some 87) (v:=?_) (a':=?_) #[true,true,false,true,false,false,false,false,false,false,false,false,false] rfl rfl (any_of HT_.out (by kernel_rfl)) (fun _ _ _ h=>h) (Or.inl ⟨by rfl,?_⟩) ?_ ?_
      rotate_left
      ·intro w'
       go_simp
       with_reducible rfl
      rotate_left
      ·simp only [Act.put,zzA,zzB,zzC,i64_w,i32_w]
       rfl
      refine pure_ (i:=5) (N:=some 89) (v:=?_) (a':=?_) #[true,true,false,true,false,true,false,false,false,false,false,false,false] rfl rfl (any_of HT_.out (by kernel_rfl)) (fun _ _ _ h=>h) (Or.inl ⟨by rfl,?_⟩) ?_ ?_
      rotate_left
      ·intro w'
       go_simp
       with_reducible rfl
      rotate_left
      ·simp only [Act.put,zzA,zzB,zzC,i64_w,i32_w]
       rfl
      refine pure_ (i:=6) (N:=some 90) (v:=?_) (a':=?_) #[true,true,false,true,false,true,true,false,false,false,false,false,false] rfl rfl (any_of HT_.out (by kernel_rfl)) (fun _ _ _ h=>h) (Or.inl ⟨by rfl,?_⟩) ?_ ?_
      rotate_left
      ·intro w'
       go_simp
       with_reducible rfl
      rotate_left
      ·simp only [Act.put,zzA,zzB,zzC,i64_w,i32_w]
       rfl
      refine pure_ (i:=7) (N:=some 91) (v:=?_) (a':=?_) #[true,true,false,true,false,true,true,true,false,false,false,false,false] rfl rfl (any_of HT_.out (by kernel_rfl)) (fun _ _ _ h=>h) (Or.inl ⟨by rfl,?_⟩) ?_ ?_
      rotate_left
      ·intro w'
       go_simp
       with_reducible rfl
      rotate_left
      ·simp only [Act.put,zzA,zzB,zzC,i64_w,i32_w]
       rfl
      refine pure_ (i:=9) (N:=some 93) (v:=?_) (a':=?_) #[true,true,false,true,false,true,true,true,false,true,false,false,false] rfl rfl (any_of HT_.out (by kernel_rfl)) (fun _ _ _ h=>h) (Or.inl ⟨by rfl,?_⟩) ?_ ?_
      rotate_left
      ·intro w'
       go_simp
       with_reducible rfl
      rotate_left
      ·simp only [Act.put,zzA,zzB,zzC,i64_w,i32_w]
       rfl
      refine take_ (i:=8) (N:=some 92) (v:=?_) (a':=?_) #[true,true,false,true,false,true,true,true,true,true,false,false,false] rfl rfl (take_ofW HT_.out HW_.out (by kernel_rfl)) (fun _ _ _ h=>h) (Or.inl ⟨by rfl,?_⟩) hHeld ?_ ?_
      rotate_left
      ·rintro w' ⟨s0,s1⟩
       go_simp
       with_reducible rfl
      rotate_left
      ·simp only [Act.put,zzA,zzB,zzC,i64_w,i32_w]
       rfl
      refine one_ (i:=2) (N:=some 86) #[true,true,true,true,false,true,true,true,true,true,false,false,false] rfl rfl (one_of HT_.out (by kernel_rfl)) (by decide) (fun K hK=>?_)
      refine value_ (w1:=?_) (v:=?_) (by rfl) rfl ?_ ?_
      rotate_left 2
      ·go_simp
       constructor
       ·rfl
       ·rfl
      refine hK.out _ _ ⟨(pw_cell_below (w:=w9) (by repeat (first|(with_reducible first|exact BX.out|apply zzD|apply zzE|apply zzF)|exact BX.out)) hcx0),(pw_cell_below (w:=w9) (by repeat (first|(with_reducible first|exact BX.out|apply zzD|apply zzE|apply zzF)|exact BX.out)) hcx1)⟩ (fun hHeld=>?_)
      clear hK K
      refine norm_ (a':=?_) ?_ ?_
      rotate_left
      ·show Act.put _ (some 86) _ = _
       simp only [Act.put,zzA,zzB,zzC,i64_w,i32_w]
       rfl
      refine one_ (i:=4) (N:=some 88) #[true,true,true,true,true,true,true,true,true,true,false,false,false] rfl rfl (one_of HT_.out (by kernel_rfl)) (by decide) (fun K hK=>?_)
      refine app_any (w0:=w9) (W:=_) w9.heap.size (by rfl) (.tmp 86) (.tmp 87) 27 rfl Try.underlying27 info3 (.slice (some ⟨_,0,none⟩) 0 0) [] code Ac cc rfl rfl (R_empty (blk_new w9 _) (Nat.le_refl _)) (Kd.C_below (Kd.R_reads' C9.out).2.2 (by repeat (first|(with_reducible first|exact BX.out|apply zzD|apply zzE|apply zzF)|exact BX.out))) (by repeat (first|(with_reducible first|exact BX.out|apply zzD|apply zzE|apply zzF)|exact BX.out)) (Below.size (by repeat (first|(with_reducible first|exact BX.out|apply zzD|apply zzE|apply zzF)|exact BX.out))) (by have:=HCL.out;simp;omega) ?_
      intro v10 w10 ho10 hb10 hg10 ha10
      rw [List.nil_append] at ho10
      have R10:=Aside0.mk ho10
      have B10:=Aside0.mk hb10
      clear ho10 hb10 hg10 ha10
      have F10:=Aside0.mk (F9.out.below B10.out)
      have N10:=Aside0.mk (Kd.R_below N9.out B10.out)
      have hx100 : w10.cell? ⟨gx,0,none⟩ = some (.slice A0 N.length c0):=(F10.out.cells).1
      have hx101 : w10.cell? ⟨gx,1,none⟩ = some (.slice A1 L.length c1):=(F10.out.cells).2.1
      refine hK.out _ _ ⟨hx100,hx101⟩ (fun hHeld=>?_)
      clear hK K
      refine norm_ (a':=?_) ?_ ?_
      rotate_left
      ·show Act.put _ (some 88) _ = _
       simp only [Act.put,zzA,zzB,zzC,i64_w,i32_w]
       rfl
      refine one_ (i:=10) (N:=some 94) #[true,true,true,true,true,true,true,true,true,true,true,false,false] rfl rfl (one_of HT_.out (by kernel_rfl)) (by decide) (fun K hK=>?_)
      refine goes_ Try.func70 (by kernel_rfl) rfl #[.agg #[.slice A0 N.length c0,.slice A1 L.length c1],.slice A9 (io (o ++ [i])).length c9] (by rfl) rfl rfl (by simp only [List.map_toArray,List.map_cons,List.map_nil];rfl) ?_
      with_reducible refine (pieceR_c (W:=w10) (Kd.C_below HN0.out (below_step HB9.out B10.out)) HC0.out (Kd.C_below HL0.out (below_step HB9.out B10.out)) HC1.out HLL.out h1 (by have:=HCL.out;omega) (Kd.R_reads' N10.out).2.2 (Kd.R_reads' N10.out).2.1).mono ?_
      rintro e w11 ⟨v11,rfl,o11,b11⟩
      refine ⟨_,rfl,?_⟩
      have R11:=Aside0.mk o11
      have B11:=Aside0.mk (below_step B10.out b11)
      have R10':=Aside0.mk (Kd.R_below R10.out b11)
      have F11:=Aside0.mk (F10.out.below b11)
      clear o11 b11
      obtain ⟨A11,c11,e11⟩:=Kd.R_slice R11.out
      subst e11
      have hx110 : w11.cell? ⟨gx,0,none⟩ = some (.slice A0 N.length c0):=(F11.out.cells).1
      have hx111 : w11.cell? ⟨gx,1,none⟩ = some (.slice A1 L.length c1):=(F11.out.cells).2.1
      refine hK.out _ _ ⟨hx110,hx111⟩ (fun hHeld=>?_)
      clear hK K
      refine norm_ (a':=?_) ?_ ?_
      rotate_left
      ·show Act.put _ (some 94) _ = _
       simp only [Act.put,zzA,zzB,zzC,i64_w,i32_w]
       rfl
      refine one_ (i:=11) (N:=some 95) #[true,true,true,true,true,true,true,true,true,true,true,true,false] rfl rfl (one_of HT_.out (by kernel_rfl)) (by decide) (fun K hK=>?_)
      refine app_any (w0:=w9) (W:=w11) w9.heap.size (by rfl) (.tmp 88) (.tmp 94) 27 rfl Try.underlying27 info3 v10 code (placeS N L (SB L) o i) A11 c11 rfl rfl R10'.out (Kd.R_reads' R11.out).2.2 B11.out B11.out.size (by have:=HPL.out;have:=HCL.out;omega) ?_
      intro v12 w12 ho12 hb12 hg12 ha12
      have R12:=Aside0.mk ho12
      have B12:=Aside0.mk hb12
      clear ho12 hb12 hg12 ha12
      have F12:=Aside0.mk (F9.out.below B12.out)
      have IH:=Aside0.mk (ih (o ++ [i]) (code ++ placeS N L (SB L) o i) bb w12 (.slice A9 (io (o ++ [i])).length c9) v12 (by have:=HLN.out;simp;omega) (by intro j hj;rcases List.mem_append.1 hj with hj|hj;exact HON.out j hj;rw [List.mem_singleton.1 hj];exact h1) (by simp [HCN.out]) (by have:=HLC.out;have:=HPL.out;simp only [List.length_append,List.length_cons,List.length_nil];omega) (below_step HB9.out B12.out) F12.out (Kd.R_below N9.out B12.out) (Kd.R_lower R12.out HB9.out.size))
      have hx120 : w12.cell? ⟨gx,0,none⟩ = some (.slice A0 N.length c0):=(F12.out.cells).1
      have hx121 : w12.cell? ⟨gx,1,none⟩ = some (.slice A1 L.length c1):=(F12.out.cells).2.1
      refine hK.out _ _ ⟨hx120,hx121⟩ (fun hHeld=>?_)
      clear hK K
      refine norm_ (a':=?_) ?_ ?_
      rotate_left
      ·show Act.put _ (some 95) _ = _
       simp only [Act.put,zzA,zzB,zzC,i64_w,i32_w]
       rfl
      refine one_ (i:=12) (N:=some 96) #[true,true,true,true,true,true,true,true,true,true,true,true,true] rfl rfl (one_of HT_.out (by kernel_rfl)) (by decide) (fun K hK=>?_)
      refine goes_ Try.func72 (by kernel_rfl) rfl #[.pointer (some ⟨gx,0,none⟩),.slice A9 (io (o ++ [i])).length c9,v12] (by rfl) rfl rfl (by simp only [List.map_toArray,List.map_cons,List.map_nil];rfl) ?_
      with_reducible refine (IH.out).mono ?_
      rintro e w13 ⟨rfl,p1,p2,p3⟩
      refine ⟨_,rfl,?_⟩
      have F13:=Aside0.mk p1
      have K13:=Aside0.mk p2
      have B13:=Aside0.mk p3
      clear p1 p2 p3
      have hx130 : w13.cell? ⟨gx,0,none⟩ = some (.slice A0 N.length c0):=(F13.out.cells).1
      have hx131 : w13.cell? ⟨gx,1,none⟩ = some (.slice A1 L.length c1):=(F13.out.cells).2.1
      refine hK.out _ _ ⟨hx130,hx131⟩ (fun hHeld=>?_)
      clear hK K
      refine norm_ (a':=?_) ?_ ?_
      rotate_left
      ·show Act.put _ (some 96) _ = _
       simp only [Act.put,zzA,zzB,zzC,i64_w,i32_w]
       rfl
      refine done_ (done_of HT_.out (by kernel_rfl)) ?_
      have O13:=Aside0.mk (show Kd.R (Kd.int .i64) 3 w13 Ws.heap.size (fun _=>True) (.slice Ao o.length co) (io o) from by
       obtain ⟨_,_,h,_⟩:=F12.out.ex
       exact Kd.R_mono (Kd.R_kept (Kd.R_types (Kd.R_below O9.out B12.out) h (by intro q hq;simp [Kd.int,Kd.scalar] at hq;omega)) K13.out (fun k hk=>hk.2)) (fun _ _=>trivial))
      have C13:=Aside0.mk (show Kd.R (Kd.int .i64) 3 w13 Ws.heap.size (fun _=>True) (.slice Ac code.length cc) code from by
       obtain ⟨_,_,h,_⟩:=F12.out.ex
       exact Kd.R_mono (Kd.R_kept (Kd.R_types (Kd.R_below C9.out B12.out) h (by intro q hq;simp [Kd.int,Kd.scalar] at hq;omega)) K13.out (fun k hk=>hk.2)) (fun _ _=>trivial))
      have KK:=Aside0.mk (Kept.then_ (Kept.below K9.out B12.out) K13.out (fun k hk=>.inl hk))
      clear O9 C9 K9 F9 N9 HB9 BX R10 B10 F10 N10 R11 B11 R10' F11 R12 B12 F12 IH K13
      go_wp2
      go_roundw
      case rel=>exact ⟨i + 1,_,by omega,by first|rfl|simp,Aside0.mk (HQ2.out.trans HST.out),F13,O13,C13,KK,B13⟩
      case measure=>show N.length - ((i : Int) + 1).toNat < N.length - ((i : Nat) : Int).toNat;omega
    ·have k3 : decide ((i : Int) < (N.length : Int)) = false:=decide_eq_false (by omega)
     have k3' : decide (i < N.length) = false:=decide_eq_false h1
     obtain rfl : i = N.length:=by omega
     go_wp2
     first|go_end0|((try simp only [Exit.inBlock,Exit.then]);refine bodyPost_ret (results_none rfl _ _ _) rfl ?_)
     exact ⟨rfl,by rw [HSR.out,HQ.out];exact F3.out,K3.out,B3.out⟩
  ·go_wp2
   first|go_end0|((try simp only [Exit.inBlock,Exit.then]);refine bodyPost_ret (results_none rfl _ _ _) rfl ?_)
   exact ⟨rfl,by rw [srchR_worse _ _ _ _ _ _ HR.out];exact F1.out,K1.out,B1.out⟩
end
end Go.Proofs.Ytgmomcjnldahjaa.Pr
namespace Go.Proofs.Ytgmomcjnldahjaa.Pr
open Go.RowKit Go.Proofs.YtgmomcjnldahjaaW.PrintWords Go.Proofs.YtgmomcjnldahjaaW.PrintLast Go.Proofs.YtgmomcjnldahjaaW.PrintMore
attribute [local go_sem] max2_int min2_int max_two min_two max_three min_three max_four min_four
set_option linter.unusedVariables false
set_option linter.unusedSimpArgs false
def bestR (N : List Int) (L : List S34) : Found:=srchR N L N.length [] [(N.length : Int)] none
section
variable {w : World} {A0 : Option Addr} {c0 : Nat} {N : List Int} {A1 : Option Addr} {c1 : Nat} {L : List S34}
set_option maxHeartbeats 80000000 in
set_option maxRecDepth 100000 in
theorem find_calls (hr0 : Kd.C (Kd.int .i64) w A0 N.length N) (hc0 : N.length ≤ c0) (hr1 : Kd.C k34 w A1 L.length L) (hc1 : L.length ≤ c1) (hl : L.length ≤ 100) (hn : N.length ≤ 9) :
  Calls Try.prog 55 #[.agg #[.slice A0 N.length c0,.slice A1 L.length c1]] w fun e w'=>∃ ov cv,e = .returned (.tuple #[ov,cv]) ∧ BestV w' w.heap.size (fun _=>True) ov cv (bestR N L) ∧ Below w.heap.size w w':=by
 have HT:=Aside0.mk (fun (gx : Nat) (hgx : w.heap.size ≤ gx)=>try_calls (gx:=gx) hr0 hc0 hr1 hc1 hl hn hgx N.length [] [(N.length : Int)] none)
 clear hr0 hc0 hr1 hc1
 have HB:=Aside0.mk (Below.refl w.heap.size w)
 have hu30:=Try.underlying30
 have hu105:=Try.underlying105
 go_enter Try.func55,Try.ntmps55
 go_upto_region 3 with (first|((with_reducible refine gate_dst (N:=1) rfl ?_);refine box_event ?hg (N:=1) ?hd (cs:=#[.slice A0 N.length c0,.slice A1 L.length c1]) (t:=30) ?hr ?_;(case hd=>rfl);(case hg=>rfl);(case hr=>first|(go_simp;done)|(go_simp;rfl));intro gb hg w1 hbox hb;have n0_:=Aside0.mk (below_step HB.out hb);clear HB;have HB:=n0_;clear n0_ hb hg;have BK:=Aside0.mk hbox;have hcgb0 : w1.cell? ⟨gb,0,none⟩ = some (.slice A0 N.length c0):=(blk_cell hbox 0).trans rfl;have hcgb1 : w1.cell? ⟨gb,1,none⟩ = some (.slice A1 L.length c1):=(blk_cell hbox 1).trans rfl;clear hbox)|((with_reducible refine gate_dst (N:=7) rfl ?_);refine box_event ?hg (N:=7) ?hd (cs:=#[.slice A0 N.length c0,.slice A1 L.length c1,.slice none 0 0,.slice none 0 0,.bool false]) (t:=105) ?hr ?_;(case hd=>rfl);(case hg=>rfl);(case hr=>first|(go_simp;done)|(go_simp;rfl));intro gx hg w2 hbox hb;have BXb:=Aside0.mk (show _ ≤ gx from by rw [hg];exact HB.out.size);have BK_:=Aside0.mk (blk_below (g:=gb) (o:=.cells #[.slice A0 N.length c0,.slice A1 L.length c1] 30 (0,0)) (by (with_reducible repeat (first|refine blk_drewN ?_ _|refine blk_drew ?_|refine blk_alloc ?_ _));exact BK.out) hb);have n0_:=Aside0.mk (below_step (by repeat (first|(with_reducible first|exact HB.out|apply zzD|apply zzE|apply zzF)|exact HB.out)) hb);clear HB BK;have HB:=n0_;have BK:=BK_;clear n0_ hb hg BK_;have BX:=Aside0.mk hbox;clear hbox;have hcw2gb0 : w2.cell? ⟨gb,0,none⟩ = some (.slice A0 N.length c0):=(blk_cell BK.out 0).trans rfl;have hcw2gb1 : w2.cell? ⟨gb,1,none⟩ = some (.slice A1 L.length c1):=(blk_cell BK.out 1).trans rfl;have hcw2gx0 : w2.cell? ⟨gx,0,none⟩ = some (.slice A0 N.length c0):=(blk_cell BX.out 0).trans rfl;have hcw2gx1 : w2.cell? ⟨gx,1,none⟩ = some (.slice A1 L.length c1):=(blk_cell BX.out 1).trans rfl;have hcw2gx2 : w2.cell? ⟨gx,2,none⟩ = some (.slice none 0 0):=(blk_cell BX.out 2).trans rfl;have hcw2gx3 : w2.cell? ⟨gx,3,none⟩ = some (.slice none 0 0):=(blk_cell BX.out 3).trans rfl;have hcw2gx4 : w2.cell? ⟨gx,4,none⟩ = some (.bool false):=(blk_cell BX.out 4).trans rfl)|((with_reducible refine gate_dst (N:=12) rfl ?_);refine Kd.R_lit (Kd.int .i64) (w0:=w) w.heap.size 3 ?hg (N:=12) ?hd (xs:=[(N.length : Int)]) (inner:=[.int .i64 (N.length : Int)]) (ok:=fun _=>True) (okp:=fun _=>True) ?hr ?hp (fun _ hk=>hk) trivial HB.out HB.out.size (by simp) ?_;(case hd=>rfl);(case hg=>rfl);(case hr=>first|(go_simp;done)|(go_simp;rfl));(case hp=>exact (Reps.one (show Kd.M (Kd.int .i64) _ _ _ (N.length : Int) [.int .i64 (N.length : Int)] from rfl) (Reps.none _ _)));intro v5 w5 ho5 hb5 hg5 hn5;have RC:=Aside0.mk ho5;have HB5:=Aside0.mk hb5;have hbl : Below w2.heap.size w2 w5:=⟨hg5.os,hg5.tape,hg5.output,hg5.size,fun k hk=>hg5.block k hk (by simp)⟩;have BX5:=Aside0.mk (blk_below BX.out hbl);clear hg5 hn5 ho5 hb5 hbl;have FR:=Aside0.mk (HT.out gx BXb.out w5 (.slice none 0 0) v5 (by simp) (by simp) (by simp) (by simp) HB5.out ⟨_,_,BX5.out,rfl,rfl⟩ (Kd.R_nil _ _ _ _ _) RC.out))|(go_at_call 72;with_reducible refine FR.out.mono ?_;rintro e w6 ⟨rfl,p1,p2,p3⟩;have P1:=Aside0.mk p1;have P3:=Aside0.mk p3;clear p1 p2 p3))
 obtain ⟨ov,cv,g1,g2⟩:=P1.out.ex
 have G2:=Aside0.mk g2
 have hg2 : w6.cell? ⟨gx,2,none⟩ = some ov:=(blk_cell g1 2).trans rfl
 have hg3 : w6.cell? ⟨gx,3,none⟩ = some cv:=(blk_cell g1 3).trans rfl
 clear g1 g2
 try go_wp2
 repeat (go_quiet (fail);try go_wp2)
 go_ret2
 exact ⟨ov,cv,rfl,G2.out.below (by first|exact Below.refl _ _|exact zzF (Below.refl _ _)|exact zzE (Below.refl _ _) _),by first|exact P3.out|exact zzF P3.out|exact zzE P3.out _⟩
theorem validR_c (hr0 : Kd.C (Kd.int .i64) w A0 N.length N) (hc0 : N.length ≤ c0) (hr1 : Kd.C k34 w A1 L.length L) (hc1 : L.length ≤ c1) (hl : L.length ≤ 1000000) (hn : N.length ≤ 1000000) :
  Calls Try.prog 52 #[.agg #[.slice A0 N.length c0,.slice A1 L.length c1]] w fun e w'=>e = .returned (.int .i64 (validE N L)) ∧ Below w.heap.size w w':=by
 obtain ⟨q,hq⟩:=(validR_ev hl hn).rounds
 exact scarfjointref09_Valid.calls q A0 c0 N A1 c1 L _ w hr0 hc0 hr1 hc1 hq
theorem valid_len {N : List Int} {L : List S34} (h : validE N L = 0) : L.length ≤ 80:=by
 unfold validE at h
 split at h
 ·rename_i h1;exact absurd h h1
 ·rename_i h1
  have h2 : gvalidE N L = 0:=Classical.byContradiction h1
  unfold gvalidE at h2
  split at h2
  ·exact absurd h2 (by decide)
  ·omega
set_option maxHeartbeats 80000000 in
set_option maxRecDepth 100000 in
theorem codeR_calls (hr0 : Kd.C (Kd.int .i64) w A0 N.length N) (hc0 : N.length ≤ c0) (hr1 : Kd.C k34 w A1 L.length L) (hc1 : L.length ≤ c1) (hl : L.length ≤ 1000000) (hn : N.length ≤ 1000000) :
  Calls Try.prog 27 #[.agg #[.slice A0 N.length c0,.slice A1 L.length c1]] w fun e w'=>Below w.heap.size w w' ∧ ((validE N L ≠ 0 ∧ e = .returned (.tuple #[.slice none 0 0,.int .i64 (validE N L)])) ∨
   (validE N L = 0 ∧ ∃ ov cv,e = .returned (.tuple #[cv,.int .i64 0]) ∧ BestV w' w.heap.size (fun _=>True) ov cv (bestR N L))):=by
 have HV:=Aside0.mk (fun W (hw : Below w.heap.size w W)=>validR_c (w:=W) (Kd.C_below hr0 hw) hc0 (Kd.C_below hr1 hw) hc1 hl hn)
 have hu30:=Try.underlying30
 have HB:=Aside0.mk (Below.refl w.heap.size w)
 by_cases h1 : validE N L = 0
 ·have HE:=Aside0.mk h1
  have HFD:=Aside0.mk (fun W (hw : Below w.heap.size w W)=>find_calls (w:=W) (Kd.C_below hr0 hw) hc0 (Kd.C_below hr1 hw) hc1 (by have:=valid_len h1;omega) (by have:=(validE_zero h1).1;omega))
  clear hr0 hr1 hc0 hc1 h1 hl hn
  go_enter Try.func27,Try.ntmps27
  go_wp2_with (first|((with_reducible refine gate_dst (N:=1) rfl ?_);refine box_event ?hg (N:=1) ?hd (cs:=#[.slice A0 N.length c0,.slice A1 L.length c1]) (t:=30) ?hr ?_;(case hd=>rfl);(case hg=>rfl);(case hr=>first|(go_simp;done)|(go_simp;rfl));intro gb hg w1 hbox hb;have n0_:=Aside0.mk (below_step HB.out hb);clear HB;have HB:=n0_;clear n0_ hb hg;have BK:=Aside0.mk hbox;have hcgb0 : w1.cell? ⟨gb,0,none⟩ = some (.slice A0 N.length c0):=(blk_cell hbox 0).trans rfl;have hcgb1 : w1.cell? ⟨gb,1,none⟩ = some (.slice A1 L.length c1):=(blk_cell hbox 1).trans rfl;clear hbox)|(go_at_call 52;with_reducible refine (HV.out _ (by repeat (first|(with_reducible first|exact HB.out|apply zzD|apply zzE|apply zzF)|exact HB.out))).mono ?_;rw [HE.out];rintro e w2 ⟨rfl,hb⟩;have BK_:=Aside0.mk (blk_below (g:=gb) (o:=.cells #[.slice A0 N.length c0,.slice A1 L.length c1] 30 (0,0)) (by (with_reducible repeat (first|refine blk_drewN ?_ _|refine blk_drew ?_|refine blk_alloc ?_ _));exact BK.out) hb);have n0_:=Aside0.mk (below_step (by repeat (first|(with_reducible first|exact HB.out|apply zzD|apply zzE|apply zzF)|exact HB.out)) hb);clear HB BK;have HB:=n0_;have BK:=BK_;clear n0_ hb BK_;have hcw20 : w2.cell? ⟨gb,0,none⟩ = some (.slice A0 N.length c0):=(blk_cell BK.out 0).trans rfl;have hcw21 : w2.cell? ⟨gb,1,none⟩ = some (.slice A1 L.length c1):=(blk_cell BK.out 1).trans rfl;have HL3:=Aside0.mk HB.out.size)|(go_at_call 55;with_reducible refine (HFD.out _ HB.out).mono ?_;rintro e w3 ⟨ov,cv,rfl,p1,hb⟩;have P1:=Aside0.mk p1;clear p1;have BK_:=Aside0.mk (blk_below (g:=gb) (o:=.cells #[.slice A0 N.length c0,.slice A1 L.length c1] 30 (0,0)) (by (with_reducible repeat (first|refine blk_drewN ?_ _|refine blk_drew ?_|refine blk_alloc ?_ _));exact BK.out) hb);have n0_:=Aside0.mk (below_step (by repeat (first|(with_reducible first|exact HB.out|apply zzD|apply zzE|apply zzF)|exact HB.out)) hb);clear HB BK;have HB:=n0_;have BK:=BK_;clear n0_ hb BK_))
  go_ret2
  exact ⟨HB.out,.inr ⟨HE.out,ov,cv,rfl,P1.out.lower HL3.out⟩⟩
 ·obtain ⟨E,hE⟩ : ∃ E,validE N L = E:=⟨_,rfl⟩
  have HE:=Aside0.mk hE
  have k1 : (E != 0) = true:=bne_iff_ne.mpr (by rw [← hE];exact h1)
  have k1' : (E == 0) = false:=beq_eq_false_iff_ne.mpr (by rw [← hE];exact h1)
  have H1:=Aside0.mk h1
  clear hr0 hr1 hc0 hc1 hE h1 hl hn
  go_enter Try.func27,Try.ntmps27
  go_wp2_with (first|((with_reducible refine gate_dst (N:=1) rfl ?_);refine box_event ?hg (N:=1) ?hd (cs:=#[.slice A0 N.length c0,.slice A1 L.length c1]) (t:=30) ?hr ?_;(case hd=>rfl);(case hg=>rfl);(case hr=>first|(go_simp;done)|(go_simp;rfl));intro gb hg w1 hbox hb;have n0_:=Aside0.mk (below_step HB.out hb);clear HB;have HB:=n0_;clear n0_ hb hg;have BK:=Aside0.mk hbox;have hcgb0 : w1.cell? ⟨gb,0,none⟩ = some (.slice A0 N.length c0):=(blk_cell hbox 0).trans rfl;have hcgb1 : w1.cell? ⟨gb,1,none⟩ = some (.slice A1 L.length c1):=(blk_cell hbox 1).trans rfl;clear hbox)|(go_at_call 52;with_reducible refine (HV.out _ (by repeat (first|(with_reducible first|exact HB.out|apply zzD|apply zzE|apply zzF)|exact HB.out))).mono ?_;rw [HE.out];rintro e w2 ⟨rfl,hb⟩;have BK_:=Aside0.mk (blk_below (g:=gb) (o:=.cells #[.slice A0 N.length c0,.slice A1 L.length c1] 30 (0,0)) (by (with_reducible repeat (first|refine blk_drewN ?_ _|refine blk_drew ?_|refine blk_alloc ?_ _));exact BK.out) hb);have n0_:=Aside0.mk (below_step (by repeat (first|(with_reducible first|exact HB.out|apply zzD|apply zzE|apply zzF)|exact HB.out)) hb);clear HB BK;have HB:=n0_;have BK:=BK_;clear n0_ hb BK_;have hcw20 : w2.cell? ⟨gb,0,none⟩ = some (.slice A0 N.length c0):=(blk_cell BK.out 0).trans rfl;have hcw21 : w2.cell? ⟨gb,1,none⟩ = some (.slice A1 L.length c1):=(blk_cell BK.out 1).trans rfl))
  go_ret2
  exact ⟨HB.out,.inl ⟨H1.out,by rw [HE.out];rfl⟩⟩
end
end Go.Proofs.Ytgmomcjnldahjaa.Pr
namespace Go.Proofs.Ytgmomcjnldahjaa.Pr
open Go.RowKit Go.Proofs.YtgmomcjnldahjaaW.PrintWords Go.Proofs.YtgmomcjnldahjaaW.PrintLast Go.Proofs.YtgmomcjnldahjaaW.PrintMore
set_option linter.unusedVariables false
set_option linter.unusedSimpArgs false
section
variable {N : List Int} {L : List S34} {S : Nat → Nat → List Int}
def tl (L : List S34) (S : Nat → Nat → List Int) (i j : Nat) : Nat:=(typesS L S i j).length
def sumP (L : List S34) (S : Nat → Nat → List Int) (o : List Nat) : Nat:=(o.map fun i=>(o.map fun j=>tl L S i j).sum).sum
theorem map_sum_add {α : Type} (f g : α → Nat) : ∀ l : List α,(l.map fun a=>f a + g a).sum = (l.map f).sum + (l.map g).sum
 | [] => rfl
 | a :: l => by simp only [List.map_cons,List.sum_cons,map_sum_add f g l];omega
theorem sumP_snoc (o : List Nat) (v : Nat) : sumP L S (o ++ [v]) = sumP L S o + (o.map fun i=>tl L S i v).sum + (o.map fun j=>tl L S v j).sum + tl L S v v:=by
 unfold sumP
 simp only [List.map_append,List.sum_append_nat,List.map_cons,List.map_nil,List.sum_cons,List.sum_nil,Nat.add_zero]
 rw [map_sum_add]
 omega
theorem flat_len (k : Nat) : ∀ pre : List Nat,(pre.flatMap fun j=>typesS L S j k ++ typesS L S k j).length = (pre.map fun j=>tl L S j k).sum + (pre.map fun j=>tl L S k j).sum
 | [] => rfl
 | j :: pre => by
  simp only [List.flatMap_cons,List.length_append,List.map_cons,List.sum_cons,flat_len k pre,tl];omega
theorem placeS_len (pre : List Nat) (k : Nat) : (placeS N L S pre k).length + sumP L S pre = 1 + sumP L S (pre ++ [k]):=by
 rw [sumP_snoc]
 simp only [placeS,List.length_cons,List.length_append,flat_len,tl]
 omega
theorem codeL_length : ∀ (o pre : List Nat),(codeL N L S pre o).length + sumP L S pre = o.length + sumP L S (pre ++ o)
 | [],pre => by simp [codeL]
 | k :: o,pre => by
  have ih:=codeL_length o (pre ++ [k])
  have h:=placeS_len (N:=N) (L:=L) (S:=S) pre k
  rw [List.append_assoc] at ih
  simp only [codeL,List.length_append,List.length_cons,List.singleton_append] at ih ⊢
  omega
theorem sumP_app (o : List Nat) : ∀ r : List Nat,sumP L S o ≤ sumP L S (o ++ r):=fun r=>by
 have h:=codeL_length (N:=[]) (L:=L) (S:=S) r o
 have h2 : r.length ≤ (codeL [] L S o r).length:=by
  have : ∀ (r o : List Nat),r.length ≤ (codeL [] L S o r).length:=fun r=>by
   induction r with
   | nil => intro o;simp
   | cons k r ih => intro o;have:=ih (o ++ [k]);simp only [codeL,List.length_append,List.length_cons,placeS];omega
  exact this r o
 omega
theorem sumP_perm {o p : List Nat} (h : o.Perm p) : sumP L S o = sumP L S p:=by
 unfold sumP
 have e : (o.map fun i=>(o.map fun j=>tl L S i j).sum) = (o.map fun i=>(p.map fun j=>tl L S i j).sum):=List.map_congr_left fun i _=>(h.map _).sum_nat
 rw [e]
 exact (h.map _).sum_nat
theorem good_perm {n : Nat} {o : List Nat} (h : GoodO n o) : (o ++ (List.range n).filter (fun v=>!decide (v ∈ o))).Perm (List.range n):=by
 refine (List.perm_ext_iff_of_nodup ?_ List.nodup_range).2 (fun a=>?_)
 ·rw [List.nodup_append]
  refine ⟨h.1,List.nodup_range.sublist List.filter_sublist,fun a ha b hb e=>?_⟩
  subst e
  have:=(List.mem_filter.1 hb).2
  simp [ha] at this
 ·rw [List.mem_append,List.mem_filter,List.mem_range]
  constructor
  ·rintro (h1 | ⟨h1,_⟩)
   ·exact h.2 a h1
   ·exact h1
  ·intro h1
   by_cases ha : a ∈ o
   ·exact .inl ha
   ·exact .inr ⟨h1,by simp [ha]⟩
theorem full_perm {n : Nat} {p : List Nat} (h : GoodO n p) (hl : p.length = n) : p.Perm (List.range n) :=
 (List.perm_ext_iff_of_nodup h.1 List.nodup_range).2 fun a=>⟨fun ha=>List.mem_range.2 (h.2 a ha),fun ha=>nodup_all h.1 h.2 hl (List.mem_range.1 ha)⟩
theorem code_shorter {o p : List Nat} (ho : GoodO N.length o) (hp : GoodO N.length p) (hl : p.length = N.length) : ((N.length : Int) :: codeL N L S [] o).length ≤ (codeS N L S p).length:=by
 have h1:=codeL_length (N:=N) (L:=L) (S:=S) o []
 have h2:=codeL_length (N:=N) (L:=L) (S:=S) p []
 have h3:=sumP_app (L:=L) (S:=S) o ((List.range N.length).filter (fun v=>!decide (v ∈ o)))
 rw [sumP_perm (good_perm ho),← sumP_perm (full_perm hp hl)] at h3
 have h4 : o.length ≤ N.length:=nodup_le _ _ ho.1 ho.2
 simp only [List.nil_append] at h1 h2
 simp only [codeS,List.length_cons]
 omega
theorem worse_same {o : List Nat} {b : Found} (hb : FoundOk N L S b) (ho : GoodO N.length o) : worseR b ((N.length : Int) :: codeL N L S [] o) = worseS b ((N.length : Int) :: codeL N L S [] o):=by
 cases b with
 | none => rfl
 | some p =>
  obtain ⟨p,x⟩:=p
  obtain ⟨h1,h2,rfl⟩:=hb p x rfl
  have hs:=code_shorter (S:=S) (L:=L) ho h1 h2
  show decide (0 < cmpL ((N.length : Int) :: codeL N L S [] o) ((codeS N L S p).take (min ((N.length : Int) :: codeL N L S [] o).length (codeS N L S p).length))) = decide (0 < cmpL (((N.length : Int) :: codeL N L S [] o).take (min ((N.length : Int) :: codeL N L S [] o).length (codeS N L S p).length)) ((codeS N L S p).take (min ((N.length : Int) :: codeL N L S [] o).length (codeS N L S p).length)))
  rw [Nat.min_eq_left hs,List.take_of_length_le (l:=(N.length : Int) :: codeL N L S [] o) (Nat.le_refl _)]
theorem twin_iff (a b : Nat) : twinB N L S a b = true ↔ rd N (a : Int) = rd N (b : Int) ∧ typesS L S a a = typesS L S b b ∧ typesS L S a b = typesS L S b a ∧ ∀ c,c < N.length → c ≠ a → c ≠ b → typesS L S a c = typesS L S b c ∧ typesS L S c a = typesS L S c b:=by
 unfold twinB
 simp only [Bool.and_eq_true,decide_eq_true_eq]
 refine and_congr Iff.rfl (and_congr Iff.rfl (and_congr Iff.rfl ?_))
 rw [Bool.not_eq_true',List.any_eq_false]
 constructor
 ·intro h c hc h1 h2
  have:=h c (List.mem_range.2 hc)
  simp [tellB,h1,h2] at this
  exact this
 ·intro h c hc
  have hc:=List.mem_range.1 hc
  by_cases h1 : c = a
  ·simp [tellB,h1]
  ·by_cases h2 : c = b
   ·simp [tellB,h2]
   ·have:=h c hc h1 h2
    simp [tellB,this.1,this.2]
theorem twin_trans {a b c : Nat} (ha : a < N.length) (hb : b < N.length) (hc : c < N.length) (hab : a ≠ b) (hbc : b ≠ c) (hac : a ≠ c) (h1 : twinB N L S a b = true) (h2 : twinB N L S b c = true) : twinB N L S a c = true:=by
 rw [twin_iff] at *
 obtain ⟨n1,s1,x1,t1⟩:=h1
 obtain ⟨n2,s2,x2,t2⟩:=h2
 obtain ⟨p1,p2⟩:=t1 c hc hac.symm hbc.symm
 obtain ⟨q1,q2⟩:=t2 a ha hab hac
 refine ⟨n1.trans n2,s1.trans s2,?_,fun d hd h3 h4=>?_⟩
 ·rw [p1,x2,p2]
 ·by_cases h5 : d = b
  ·subst h5
   exact ⟨q2.trans (p1.trans x2),q1.trans (p2.trans x2.symm)⟩
  ·obtain ⟨r1,r2⟩:=t1 d hd h3 h5
   obtain ⟨u1,u2⟩:=t2 d hd h5 h4
   exact ⟨r1.trans u1,r2.trans u2⟩
end
section
variable {N : List Int} {L : List S34}
theorem open_iff (o : List Nat) (m : Nat) : openB N L o m = false ↔ m ∈ o ∨ ∃ u,u < m ∧ u ∉ o ∧ twinB N L (SB L) u m = true:=by
 unfold openB
 rw [Bool.not_eq_false',Bool.or_eq_true,decide_eq_true_eq,List.any_eq_true]
 refine or_congr Iff.rfl ⟨?_,?_⟩
 ·rintro ⟨u,hu,h⟩
  simp only [Bool.and_eq_true,Bool.not_eq_true',decide_eq_false_iff_not] at h
  exact ⟨u,List.mem_range.1 hu,h.1,h.2⟩
 ·rintro ⟨u,hu,h1,h2⟩
  exact ⟨u,List.mem_range.2 hu,by simp [h1,h2]⟩
theorem srch_same : ∀ (d : Nat) (o : List Nat) (c : List Int) (b : Found),o.length + d = N.length → GoodO N.length o → c = (N.length : Int) :: codeL N L (SB L) [] o → FoundOk N L (SB L) b →
  srch N L (SB L) (twM N L (SB L)) d o c b = srchR N L d o c b
 | 0,o,c,b,hd,ho,hc,hb => by
  have hw : worseR b c = worseS b c:=by rw [hc];exact worse_same hb ho
  unfold srch srchR
  rw [hw]
  cases b <;> rfl
 | d + 1,o,c,b,hd,ho,hc,hb => by
  have hw : worseR b c = worseS b c:=by rw [hc];exact worse_same hb ho
  cases hx : worseS b c
  ·rw [srch_succ _ _ _ _ _ _ _ _ hx,srchR_succ _ _ _ _ _ _ (hw.trans hx)]
   have key : ∀ m,m ≤ N.length → ∀ st,(List.range m).foldl (stepS N L (SB L) (twM N L (SB L)) d o c) ([],b) = st →
     st.2 = (List.range m).foldl (stepR N L d o c) b ∧ FoundOk N L (SB L) st.2 ∧ (∀ u ∈ st.1,u < m ∧ u ∉ o) ∧ (∀ u,u < m → u ∉ o → u ∈ st.1 ∨ ∃ x,x ∈ st.1 ∧ x < u ∧ twinB N L (SB L) x u = true):=fun m=>by
    induction m with
    | zero =>
     intro _ st e
     subst e
     exact ⟨rfl,hb,fun u hu=>absurd hu (by simp),fun u hu=>absurd hu (by omega)⟩
    | succ m ih =>
     intro hm st e
     rw [List.range_succ,List.foldl_append] at e
     obtain ⟨e1,e2,e3,e4⟩:=ih (by omega) _ rfl
     rw [List.range_succ,List.foldl_append,← e1]
     generalize (List.range m).foldl (stepS N L (SB L) (twM N L (SB L)) d o c) ([],b) = s0 at e e1 e2 e3 e4 ⊢
     subst e
     have hiff : (m ∈ o ∨ s0.1.any (fun u=>twM N L (SB L) u m) = true) ↔ openB N L o m = false:=by
      rw [open_iff,List.any_eq_true]
      refine ⟨?_,?_⟩
      ·rintro (h | ⟨u,hu,h⟩)
       ·exact .inl h
       ·have h2:=e3 u hu
        unfold twM at h
        rw [Bool.and_eq_true] at h
        exact .inr ⟨u,h2.1,h2.2,h.2⟩
      ·rintro (h | ⟨u,h1,h2,h3⟩)
       ·exact .inl h
       ·refine .inr ?_
        rcases e4 u h1 h2 with h4 | ⟨x,h4,h5,h6⟩
        ·refine ⟨u,h4,?_⟩
         unfold twM
         rw [Bool.and_eq_true]
         exact ⟨decide_eq_true (by omega),h3⟩
        ·refine ⟨x,h4,?_⟩
         unfold twM
         rw [Bool.and_eq_true]
         exact ⟨decide_eq_true (by omega),twin_trans (by omega) (by omega) (by omega) (by omega) (by omega) (by omega) h6 h3⟩
     show ((stepS N L (SB L) (twM N L (SB L)) d o c) s0 m).2 = (stepR N L d o c) s0.2 m ∧ FoundOk N L (SB L) ((stepS N L (SB L) (twM N L (SB L)) d o c) s0 m).2 ∧ (∀ u ∈ ((stepS N L (SB L) (twM N L (SB L)) d o c) s0 m).1,u < m + 1 ∧ u ∉ o) ∧ (∀ u,u < m + 1 → u ∉ o → u ∈ ((stepS N L (SB L) (twM N L (SB L)) d o c) s0 m).1 ∨ ∃ x,x ∈ ((stepS N L (SB L) (twM N L (SB L)) d o c) s0 m).1 ∧ x < u ∧ twinB N L (SB L) x u = true)
     unfold stepS stepR
     by_cases hop : openB N L o m = false
     ·rw [if_pos (hiff.2 hop),if_neg (by rw [hop];simp)]
      refine ⟨rfl,e2,fun u hu=>⟨by have:=(e3 u hu).1;omega,(e3 u hu).2⟩,fun u hu hn=>?_⟩
      by_cases hum : u = m
      ·subst hum
       rcases hiff.2 hop with h|h
       ·exact absurd h hn
       ·obtain ⟨x,h1,h2⟩:=List.any_eq_true.1 h
        unfold twM at h2
        rw [Bool.and_eq_true] at h2
        exact .inr ⟨x,h1,(e3 x h1).1,h2.2⟩
      ·exact e4 u (by omega) hn
     ·have hno : ¬ (m ∈ o ∨ s0.1.any (fun u=>twM N L (SB L) u m) = true):=fun h=>hop (hiff.1 h)
      rw [if_neg hno,if_pos (by simpa using hop)]
      have hmo : m ∉ o:=fun h=>hno (.inl h)
      have hg : GoodO N.length (o ++ [m]):=good_snoc ho (by omega) hmo
      have hcc : c ++ placeS N L (SB L) o m = (N.length : Int) :: codeL N L (SB L) [] (o ++ [m]):=by rw [hc,codeL_snoc,List.cons_append]
      refine ⟨srch_same d (o ++ [m]) _ s0.2 (by simp;omega) hg hcc e2,srch_ok d (o ++ [m]) _ s0.2 (by simp;omega) hg hcc e2,fun u hu=>?_,fun u hu hn=>?_⟩
      ·rcases List.mem_append.1 hu with h|h
       ·exact ⟨by have:=(e3 u h).1;omega,(e3 u h).2⟩
       ·rw [List.mem_singleton.1 h];exact ⟨by omega,hmo⟩
      ·by_cases hum : u = m
       ·exact .inl (by simp [hum])
       ·rcases e4 u (by omega) hn with h | ⟨x,h1,h2,h3⟩
        ·exact .inl (by simp [h])
        ·exact .inr ⟨x,by simp [h1],h2,h3⟩
   exact (key N.length (Nat.le_refl _) _ rfl).1
  ·rw [srch_worse _ _ _ _ _ _ _ _ hx,srchR_worse _ _ _ _ _ _ (hw.trans hx)]
theorem best_same (N : List Int) (L : List S34) : bestS N L (SB L) = bestR N L :=
 srch_same N.length [] [(N.length : Int)] none (by simp) ⟨List.nodup_nil,fun v hv=>absurd hv (by simp)⟩ rfl (fun p x e=>by cases e)
end
end Go.Proofs.Ytgmomcjnldahjaa.Pr
namespace Go.Proofs.Ytgmomcjnldahjaa.Pr
open Go.RowKit Go.Proofs.YtgmomcjnldahjaaW.PrintWords Go.Proofs.YtgmomcjnldahjaaW.PrintLast Go.Proofs.YtgmomcjnldahjaaW.PrintMore
attribute [local go_sem] max2_int min2_int max_two min_two max_three min_three max_four min_four
set_option linter.unusedVariables false
set_option linter.unusedSimpArgs false
def awN : List Int:=[3,1]
def awL : List S34:=[⟨0,0,1⟩]
theorem aw_best : srch awN awL (SB awL) (twM awN awL (SB awL)) awN.length [] [(awN.length : Int)] none = some ([1,0],[2,1,0,3,0,1,0,0]):=by decide +kernel
theorem aw_codein : codeinE awN awL [0,1] = 0 ∧ codeS awN awL (SB awL) ([0,1].map Int.toNat) = [2,3,0,1,1,0,0,0]:=by decide +kernel
theorem aw_valid : validE awN awL = 0:=by decide +kernel
theorem C_34 {W : World} {g : Nat} {x : S34} (h : W.heap[g]? = some (.cells #[.int .i64 x.f0,.int .i64 x.f1,.int .i64 x.f2] 34 (0,0))) : Kd.C k34 W (some ⟨g,0,none⟩) 1 [x]:=by
 refine ⟨rfl,by omega,fun _=>⟨_,rfl,fun j p hp=>?_⟩⟩
 rcases j with _|j
 ·obtain rfl:=Option.some.inj hp
  refine ⟨_,rfl,k34_mk W x,fun a u hu=>?_⟩
  have e1 : 0 * k34.sz + a = a:=by omega
  rw [add_plain,blk_cell h,e1,← hu]
  simp
 ·exact absurd hp (by simp)
theorem C_ints {W : World} {g : Nat} (P : List Int) (h : W.heap[g]? = some (.cells (P.map (Value.int .i64)).toArray 3 (0,0))) (hl : P.length ≤ 1000000) : Kd.C (Kd.int .i64) W (some ⟨g,0,none⟩) P.length P:=C_full h rfl hl
section
variable {W : World} {gN gL gO : Nat}
theorem aw1 (hN : W.heap[gN]? = some (.cells #[.int .i64 3,.int .i64 1] 3 (0,0))) (hL : W.heap[gL]? = some (.cells #[.int .i64 0,.int .i64 0,.int .i64 1] 34 (0,0))) (hO : W.heap[gO]? = some (.cells #[.int .i64 0,.int .i64 1] 3 (0,0))) :
  Calls Try.prog 21 #[.agg #[.slice (some ⟨gN,0,none⟩) 2 2,.slice (some ⟨gL,0,none⟩) 1 1],.slice (some ⟨gO,0,none⟩) 2 2] W fun e w'=>∃ A c,e = .returned (.tuple #[.slice A 8 c,.int .i64 0]) ∧ 8 ≤ c ∧ Kd.C (Kd.int .i64) w' A 8 [2,3,0,1,1,0,0,0] ∧ Below W.heap.size W w':=by
 have h:=codein_calls (w:=W) (A0:=some ⟨gN,0,none⟩) (c0:=2) (N:=awN) (A1:=some ⟨gL,0,none⟩) (c1:=1) (L:=awL) (A2:=some ⟨gO,0,none⟩) (c2:=2) (o:=[0,1]) (SB awL) (C_ints awN hN (by decide)) (by decide) (C_34 hL) (by decide) (C_ints [0,1] hO (by decide)) (by decide) (by decide) (fun h=>ok_SB (small_of_valid h) (by decide))
 refine Calls.mono h fun e w' ⟨hb,h2⟩=>?_
 rcases h2 with ⟨h3,_⟩ | ⟨_,v,rfl,hr⟩
 ·exact absurd aw_codein.1 h3
 ·rw [aw_codein.2] at hr
  obtain ⟨A,c,rfl⟩:=Kd.R_slice hr
  have:=Kd.R_reads' hr
  exact ⟨A,c,rfl,this.2.1,this.2.2,hb⟩
theorem aw2 (hN : W.heap[gN]? = some (.cells #[.int .i64 3,.int .i64 1] 3 (0,0))) (hL : W.heap[gL]? = some (.cells #[.int .i64 0,.int .i64 0,.int .i64 1] 34 (0,0))) :
  Calls Try.prog 25 #[.agg #[.slice (some ⟨gN,0,none⟩) 2 2,.slice (some ⟨gL,0,none⟩) 1 1]] W fun e w'=>∃ A c,e = .returned (.tuple #[.slice A 8 c,.int .i64 0]) ∧ 8 ≤ c ∧ Kd.C (Kd.int .i64) w' A 8 [2,1,0,3,0,1,0,0] ∧ Below W.heap.size W w':=by
 have h:=code25_calls (w:=W) (A0:=some ⟨gN,0,none⟩) (c0:=2) (N:=awN) (A1:=some ⟨gL,0,none⟩) (c1:=1) (L:=awL) (SB awL) (C_ints awN hN (by decide)) (by decide) (C_34 hL) (by decide) (fun h=>ok_SB (small_of_valid h) (by decide))
 refine Calls.mono h fun e w' ⟨hb,h2⟩=>?_
 rcases h2 with ⟨h3,_⟩ | ⟨_,ov,cv,rfl,hr⟩
 ·exact absurd aw_valid h3
 ·rw [aw_best] at hr
  obtain ⟨_,_,_,hr⟩:=hr
  obtain ⟨A,c,rfl⟩:=Kd.R_slice hr
  have:=Kd.R_reads' hr
  exact ⟨A,c,rfl,this.2.1,this.2.2,hb⟩
theorem aw3 (hN : W.heap[gN]? = some (.cells #[.int .i64 3,.int .i64 1] 3 (0,0))) (hL : W.heap[gL]? = some (.cells #[.int .i64 0,.int .i64 0,.int .i64 1] 34 (0,0))) :
  Calls Try.prog 28 #[.agg #[.slice (some ⟨gN,0,none⟩) 2 2,.slice (some ⟨gL,0,none⟩) 1 1]] W fun e w'=>∃ Ax cx Ay cy Ap cp Aq cq,e = .returned (.tuple #[.agg #[.slice Ax 2 cx,.slice Ay 1 cy],.agg #[.slice Ap 2 cp,.slice Aq 1 cq],.int .i64 0]) ∧
   2 ≤ cx ∧ Kd.C (Kd.int .i64) w' Ax 2 [1,3] ∧ 1 ≤ cy ∧ Kd.C k34 w' Ay 1 [⟨0,1,0⟩] ∧ 2 ≤ cp ∧ Kd.C (Kd.int .i64) w' Ap 2 [1,0] ∧ Below W.heap.size W w':=by
 have h:=of_calls (w:=W) (A0:=some ⟨gN,0,none⟩) (c0:=2) (N:=awN) (A1:=some ⟨gL,0,none⟩) (c1:=1) (L:=awL) (S:=SB awL) (o:=[1,0]) (code:=[2,1,0,3,0,1,0,0]) (C_ints awN hN (by decide)) (by decide) (C_34 hL) (by decide) (fun h=>ok_SB (small_of_valid h) (by decide)) (fun _=>⟨aw_best,rfl,by decide⟩)
 refine Calls.mono h fun e w' ⟨hb,h2⟩=>?_
 rcases h2 with ⟨h3,_⟩ | ⟨_,Ax,cx,Ay,cy,Ap,cp,Aq,cq,rfl,h1,h2,h3,h4,h5,h6,_,_⟩
 ·exact absurd aw_valid h3
 ·have e : (ofE awL (SB awL) [1,0] awN.length).2 = [⟨0,1,0⟩]:=rfl
  rw [e] at h3 h4
  exact ⟨Ax,cx,Ay,cy,Ap,cp,Aq,cq,rfl,h2,h1,h4,h3,h6,h5,hb⟩
end
set_option maxHeartbeats 80000000 in
set_option maxRecDepth 100000 in
theorem awake_calls (w : World) : Calls Try.prog 11 #[] w fun e w'=>e = .returned (.bool true) ∧ Below w.heap.size w w':=by
 have HB:=Aside0.mk (Below.refl w.heap.size w)
 have hu30:=Try.underlying30
 have hu55:=Try.underlying55
 go_enter Try.func11,Try.ntmps11
 go_upto_region 2 with (fail)
 have F:=blk3 w (Obj.cells #[Value.int IntKind.i64 3,Value.int IntKind.i64 1] 3) (Obj.cells #[Value.int IntKind.i64 0,Value.int IntKind.i64 0,Value.int IntKind.i64 1] 34) (Obj.cells #[Value.slice (some ⟨w.heap.size,0,none⟩) 2 2,Value.slice (some ⟨w.heap.size + 1,0,none⟩) 1 1] 30)
 have hb : Below w.heap.size w (((w.alloc (Obj.cells #[Value.int IntKind.i64 3,Value.int IntKind.i64 1] 3)).alloc (Obj.cells #[Value.int IntKind.i64 0,Value.int IntKind.i64 0,Value.int IntKind.i64 1] 34)).alloc (Obj.cells #[Value.slice (some ⟨w.heap.size,0,none⟩) 2 2,Value.slice (some ⟨w.heap.size + 1,0,none⟩) 1 1] 30)):=zzD (zzD (zzD (Below.refl _ _) _) _) _
 obtain ⟨f1,f2,f3,_⟩:=F
 replace f1 : (((w.alloc (Obj.cells #[Value.int IntKind.i64 3,Value.int IntKind.i64 1] 3)).alloc (Obj.cells #[Value.int IntKind.i64 0,Value.int IntKind.i64 0,Value.int IntKind.i64 1] 34)).alloc (Obj.cells #[Value.slice (some ⟨w.heap.size,0,none⟩) 2 2,Value.slice (some ⟨w.heap.size + 1,0,none⟩) 1 1] 30)).heap[w.heap.size]? = _:=f1
 replace f2 : (((w.alloc (Obj.cells #[Value.int IntKind.i64 3,Value.int IntKind.i64 1] 3)).alloc (Obj.cells #[Value.int IntKind.i64 0,Value.int IntKind.i64 0,Value.int IntKind.i64 1] 34)).alloc (Obj.cells #[Value.slice (some ⟨w.heap.size,0,none⟩) 2 2,Value.slice (some ⟨w.heap.size + 1,0,none⟩) 1 1] 30)).heap[w.heap.size + 1]? = _:=f2
 replace f3 : (((w.alloc (Obj.cells #[Value.int IntKind.i64 3,Value.int IntKind.i64 1] 3)).alloc (Obj.cells #[Value.int IntKind.i64 0,Value.int IntKind.i64 0,Value.int IntKind.i64 1] 34)).alloc (Obj.cells #[Value.slice (some ⟨w.heap.size,0,none⟩) 2 2,Value.slice (some ⟨w.heap.size + 1,0,none⟩) 1 1] 30)).heap[w.heap.size + 1 + 1]? = _:=f3
 generalize ((w.alloc (Obj.cells #[Value.int IntKind.i64 3,Value.int IntKind.i64 1] 3)).alloc (Obj.cells #[Value.int IntKind.i64 0,Value.int IntKind.i64 0,Value.int IntKind.i64 1] 34)).alloc (Obj.cells #[Value.slice (some ⟨w.heap.size,0,none⟩) 2 2,Value.slice (some ⟨w.heap.size + 1,0,none⟩) 1 1] 30) = w1 at f1 f2 f3 hb ⊢
 generalize w.heap.size + 1 + 1 = g1 at f3 ⊢
 generalize w.heap.size + 1 = gL at f2 f3 ⊢
 generalize hgN : w.heap.size = gN at f1 f3 ⊢
 clear HB hgN
 have HB:=Aside0.mk hb
 have HL:=Aside0.mk (Below.refl w1.heap.size w1)
 have F1:=Aside0.mk f1
 have F2:=Aside0.mk f2
 have F3:=Aside0.mk f3
 have hc0 : w1.cell? ⟨g1,0,none⟩ = some (.slice (some ⟨gN,0,none⟩) 2 2):=(blk_cell f3 0).trans rfl
 have hc1 : w1.cell? ⟨g1,1,none⟩ = some (.slice (some ⟨gL,0,none⟩) 1 1):=(blk_cell f3 1).trans rfl
 clear f1 f2 f3 hb
 go_upto_region 5 with (first|(go_at_call 21;with_reducible refine (aw1 (blk_below F1.out (by repeat (first|(with_reducible first|exact HL.out|apply zzD|apply zzE|apply zzF)|exact HL.out))) (blk_below F2.out (by repeat (first|(with_reducible first|exact HL.out|apply zzD|apply zzE|apply zzF)|exact HL.out))) (blk_new _ _)).mono ?_;rintro e w2 ⟨A2,c2,rfl,l2,r2,hb⟩;have L2:=Aside0.mk l2;have R2:=Aside0.mk r2;clear l2 r2;have HB_:=Aside0.mk (below_step (by repeat (first|(with_reducible first|exact HB.out|apply zzD|apply zzE|apply zzF)|exact HB.out)) hb);have HL_:=Aside0.mk (below_step (by repeat (first|(with_reducible first|exact HL.out|apply zzD|apply zzE|apply zzF)|exact HL.out)) hb);clear HB HL;have HB:=HB_;have HL:=HL_;clear hb HB_ HL_;have H2:=Aside0.mk (Below.refl w2.heap.size w2);have hc20 : w2.cell? ⟨g1,0,none⟩ = some (.slice (some ⟨gN,0,none⟩) 2 2):=(blk_cell (blk_below F3.out HL.out) 0).trans rfl;have hc21 : w2.cell? ⟨g1,1,none⟩ = some (.slice (some ⟨gL,0,none⟩) 1 1):=(blk_cell (blk_below F3.out HL.out) 1).trans rfl)|(go_at_call 25;with_reducible refine (aw2 (blk_below F1.out (by repeat (first|(with_reducible first|exact HL.out|apply zzD|apply zzE|apply zzF)|exact HL.out))) (blk_below F2.out (by repeat (first|(with_reducible first|exact HL.out|apply zzD|apply zzE|apply zzF)|exact HL.out)))).mono ?_;rintro e w3 ⟨A3,c3,rfl,l3,r3,hb⟩;have L3:=Aside0.mk l3;have R3:=Aside0.mk r3;clear l3 r3;have HB_:=Aside0.mk (below_step (by repeat (first|(with_reducible first|exact HB.out|apply zzD|apply zzE|apply zzF)|exact HB.out)) hb);have HL_:=Aside0.mk (below_step (by repeat (first|(with_reducible first|exact HL.out|apply zzD|apply zzE|apply zzF)|exact HL.out)) hb);have H2_:=Aside0.mk (below_step (by repeat (first|(with_reducible first|exact H2.out|apply zzD|apply zzE|apply zzF)|exact H2.out)) hb);clear HB HL H2;have HB:=HB_;have HL:=HL_;have H2:=H2_;clear hb HB_ HL_ H2_;have H3:=Aside0.mk (Below.refl w3.heap.size w3);have hc30 : w3.cell? ⟨g1,0,none⟩ = some (.slice (some ⟨gN,0,none⟩) 2 2):=(blk_cell (blk_below F3.out HL.out) 0).trans rfl;have hc31 : w3.cell? ⟨g1,1,none⟩ = some (.slice (some ⟨gL,0,none⟩) 1 1):=(blk_cell (blk_below F3.out HL.out) 1).trans rfl)|(go_at_call 28;with_reducible refine (aw3 (blk_below F1.out (by repeat (first|(with_reducible first|exact HL.out|apply zzD|apply zzE|apply zzF)|exact HL.out))) (blk_below F2.out (by repeat (first|(with_reducible first|exact HL.out|apply zzD|apply zzE|apply zzF)|exact HL.out)))).mono ?_;rintro e w4 ⟨Ax,cx,Ay,cy,Ap,cp,Aq,cq,rfl,lx,rx,ly,ry,lp,rp,hb⟩;have LX:=Aside0.mk lx;have RX:=Aside0.mk rx;have LY:=Aside0.mk ly;have RY:=Aside0.mk ry;have LP:=Aside0.mk lp;have RP:=Aside0.mk rp;clear lx rx ly ry lp rp;have HB_:=Aside0.mk (below_step (by repeat (first|(with_reducible first|exact HB.out|apply zzD|apply zzE|apply zzF)|exact HB.out)) hb);have HL_:=Aside0.mk (below_step (by repeat (first|(with_reducible first|exact HL.out|apply zzD|apply zzE|apply zzF)|exact HL.out)) hb);have H2_:=Aside0.mk (below_step (by repeat (first|(with_reducible first|exact H2.out|apply zzD|apply zzE|apply zzF)|exact H2.out)) hb);have H3_:=Aside0.mk (below_step (by repeat (first|(with_reducible first|exact H3.out|apply zzD|apply zzE|apply zzF)|exact H3.out)) hb);clear HB HL H2 H3;have HB:=HB_;have HL:=HL_;have H2:=H2_;have H3:=H3_;clear hb HB_ HL_ H2_ H3_;have H4:=Aside0.mk (Below.refl w4.heap.size w4)))
 have B6:=Aside0.mk (blk_alloc (blk_new w4 (Obj.cells #[Value.slice Ax 2 cx,Value.slice Ay 1 cy] 30)) (Obj.cells #[Value.slice Ap 2 cp,Value.slice Aq 1 cq] 55))
 have B7:=Aside0.mk (blk_new2 w4 (Obj.cells #[Value.slice Ax 2 cx,Value.slice Ay 1 cy] 30) (Obj.cells #[Value.slice Ap 2 cp,Value.slice Aq 1 cq] 55))
 have hb:=zzD (zzD (Below.refl w4.heap.size w4) (Obj.cells #[Value.slice Ax 2 cx,Value.slice Ay 1 cy] 30)) (Obj.cells #[Value.slice Ap 2 cp,Value.slice Aq 1 cq] 55)
 generalize (w4.alloc (Obj.cells #[Value.slice Ax 2 cx,Value.slice Ay 1 cy] 30)).alloc (Obj.cells #[Value.slice Ap 2 cp,Value.slice Aq 1 cq] 55) = w5 at B6 B7 hb ⊢
 have HB_:=Aside0.mk (below_step (by repeat (first|(with_reducible first|exact HB.out|apply zzD|apply zzE|apply zzF)|exact HB.out)) hb);have HL_:=Aside0.mk (below_step (by repeat (first|(with_reducible first|exact HL.out|apply zzD|apply zzE|apply zzF)|exact HL.out)) hb);have H2_:=Aside0.mk (below_step (by repeat (first|(with_reducible first|exact H2.out|apply zzD|apply zzE|apply zzF)|exact H2.out)) hb);have H3_:=Aside0.mk (below_step (by repeat (first|(with_reducible first|exact H3.out|apply zzD|apply zzE|apply zzF)|exact H3.out)) hb);have H4_:=Aside0.mk (below_step (by repeat (first|(with_reducible first|exact H4.out|apply zzD|apply zzE|apply zzF)|exact H4.out)) hb);clear HB HL H2 H3 H4;have HB:=HB_;have HL:=HL_;have H2:=H2_;have H3:=H3_;have H4:=H4_;clear hb HB_ HL_ H2_ H3_ H4_
 generalize w4.heap.size + 1 = g7 at B7 ⊢
 generalize hg6 : w4.heap.size = g6 at B6 ⊢
 have H5:=Aside0.mk (Below.refl w5.heap.size w5)
 clear hg6
 have K2:=Aside0.mk (fun (W : World) (hw : Below w2.heap.size w2 W) (gx : Nat) (hx : W.heap[gx]? = some (.cells #[.int .i64 2,.int .i64 3,.int .i64 0,.int .i64 1,.int .i64 1,.int .i64 0,.int .i64 0,.int .i64 0] 3 (0,0)))=>show Calls Try.prog 16 #[.slice A2 8 c2,.slice (some ⟨gx,0,none⟩) 8 8] W fun e w'=>e = .returned (.bool true) ∧ Drawn0 W w' from equal_c (a:=[2,3,0,1,1,0,0,0]) (b:=[2,3,0,1,1,0,0,0]) (Kd.C_below R2.out hw) L2.out (C_ints [2,3,0,1,1,0,0,0] hx (by decide)) (by decide) (by decide))
 have K3:=Aside0.mk (fun (W : World) (hw : Below w3.heap.size w3 W) (gx : Nat) (hx : W.heap[gx]? = some (.cells #[.int .i64 2,.int .i64 1,.int .i64 0,.int .i64 3,.int .i64 0,.int .i64 1,.int .i64 0,.int .i64 0] 3 (0,0)))=>show Calls Try.prog 16 #[.slice A3 8 c3,.slice (some ⟨gx,0,none⟩) 8 8] W fun e w'=>e = .returned (.bool true) ∧ Drawn0 W w' from equal_c (a:=[2,1,0,3,0,1,0,0]) (b:=[2,1,0,3,0,1,0,0]) (Kd.C_below R3.out hw) L3.out (C_ints [2,1,0,3,0,1,0,0] hx (by decide)) (by decide) (by decide))
 have KP:=Aside0.mk (fun (W : World) (hw : Below w4.heap.size w4 W) (gx : Nat) (hx : W.heap[gx]? = some (.cells #[.int .i64 1,.int .i64 0] 3 (0,0)))=>show Calls Try.prog 16 #[.slice Ap 2 cp,.slice (some ⟨gx,0,none⟩) 2 2] W fun e w'=>e = .returned (.bool true) ∧ Drawn0 W w' from equal_c (a:=[1,0]) (b:=[1,0]) (Kd.C_below RP.out hw) LP.out (C_ints [1,0] hx (by decide)) (by decide) (by decide))
 have KS:=Aside0.mk (fun (W : World) (hw : Below w4.heap.size w4 W) (gx gy : Nat) (hx : W.heap[gx]? = some (.cells #[.int .i64 1,.int .i64 3] 3 (0,0))) (hy : W.heap[gy]? = some (.cells #[.int .i64 0,.int .i64 1,.int .i64 0] 34 (0,0)))=>show Calls Try.prog 20 #[.agg #[.slice Ax 2 cx,.slice Ay 1 cy],.agg #[.slice (some ⟨gx,0,none⟩) 2 2,.slice (some ⟨gy,0,none⟩) 1 1]] W fun e w'=>e = .returned (.bool true) ∧ Below W.heap.size W w' from
  scarfjointref05_Same.calls 9 Ax cx [1,3] Ay cy [⟨0,1,0⟩] (some ⟨gx,0,none⟩) 2 [1,3] (some ⟨gy,0,none⟩) 1 [⟨0,1,0⟩] true W (Kd.C_below RX.out hw) LX.out (Kd.C_below RY.out hw) LY.out (C_ints [1,3] hx (by decide)) (by decide) (C_34 hy) (by decide) (by decide +kernel))
 have hc60 : w5.cell? ⟨g6,0,none⟩ = some (.slice Ax 2 cx):=(blk_cell B6.out 0).trans rfl
 have hc61 : w5.cell? ⟨g6,1,none⟩ = some (.slice Ay 1 cy):=(blk_cell B6.out 1).trans rfl
 clear hc0 hc1
 go_wp2_with (first|(go_at_call 16;with_reducible refine (K2.out _ (by repeat (first|(with_reducible first|exact H2.out|apply zzD|apply zzE|apply zzF)|exact H2.out)) _ (blk_new _ _)).mono ?_;rintro e w6 ⟨rfl,hdr⟩;have hb:=hdr.below;clear hdr;have HB_:=Aside0.mk (below_step (by repeat (first|(with_reducible first|exact HB.out|apply zzD|apply zzE|apply zzF)|exact HB.out)) hb);have HL_:=Aside0.mk (below_step (by repeat (first|(with_reducible first|exact HL.out|apply zzD|apply zzE|apply zzF)|exact HL.out)) hb);have H2_:=Aside0.mk (below_step (by repeat (first|(with_reducible first|exact H2.out|apply zzD|apply zzE|apply zzF)|exact H2.out)) hb);have H3_:=Aside0.mk (below_step (by repeat (first|(with_reducible first|exact H3.out|apply zzD|apply zzE|apply zzF)|exact H3.out)) hb);have H4_:=Aside0.mk (below_step (by repeat (first|(with_reducible first|exact H4.out|apply zzD|apply zzE|apply zzF)|exact H4.out)) hb);have H5_:=Aside0.mk (below_step (by repeat (first|(with_reducible first|exact H5.out|apply zzD|apply zzE|apply zzF)|exact H5.out)) hb);clear HB HL H2 H3 H4 H5;have HB:=HB_;have HL:=HL_;have H2:=H2_;have H3:=H3_;have H4:=H4_;have H5:=H5_;clear hb HB_ HL_ H2_ H3_ H4_ H5_)|(go_at_call 16;with_reducible refine (K3.out _ (by repeat (first|(with_reducible first|exact H3.out|apply zzD|apply zzE|apply zzF)|exact H3.out)) _ (blk_new _ _)).mono ?_;rintro e w7 ⟨rfl,hdr⟩;have hb:=hdr.below;clear hdr;have HB_:=Aside0.mk (below_step (by repeat (first|(with_reducible first|exact HB.out|apply zzD|apply zzE|apply zzF)|exact HB.out)) hb);have HL_:=Aside0.mk (below_step (by repeat (first|(with_reducible first|exact HL.out|apply zzD|apply zzE|apply zzF)|exact HL.out)) hb);have H2_:=Aside0.mk (below_step (by repeat (first|(with_reducible first|exact H2.out|apply zzD|apply zzE|apply zzF)|exact H2.out)) hb);have H3_:=Aside0.mk (below_step (by repeat (first|(with_reducible first|exact H3.out|apply zzD|apply zzE|apply zzF)|exact H3.out)) hb);have H4_:=Aside0.mk (below_step (by repeat (first|(with_reducible first|exact H4.out|apply zzD|apply zzE|apply zzF)|exact H4.out)) hb);have H5_:=Aside0.mk (below_step (by repeat (first|(with_reducible first|exact H5.out|apply zzD|apply zzE|apply zzF)|exact H5.out)) hb);clear HB HL H2 H3 H4 H5;have HB:=HB_;have HL:=HL_;have H2:=H2_;have H3:=H3_;have H4:=H4_;have H5:=H5_;clear hb HB_ HL_ H2_ H3_ H4_ H5_;have hc70 : w7.cell? ⟨g6,0,none⟩ = some (.slice Ax 2 cx):=(blk_cell (blk_below B6.out H5.out) 0).trans rfl;have hc71 : w7.cell? ⟨g6,1,none⟩ = some (.slice Ay 1 cy):=(blk_cell (blk_below B6.out H5.out) 1).trans rfl)|(go_at_call 20;with_reducible refine (KS.out _ (by repeat (first|(with_reducible first|exact H4.out|apply zzD|apply zzE|apply zzF)|exact H4.out)) _ _ (blk_alloc (blk_new _ _) _) (blk_new2 _ _ _)).mono ?_;rintro e w8 ⟨rfl,hb⟩;have HB_:=Aside0.mk (below_step (by repeat (first|(with_reducible first|exact HB.out|apply zzD|apply zzE|apply zzF)|exact HB.out)) hb);have HL_:=Aside0.mk (below_step (by repeat (first|(with_reducible first|exact HL.out|apply zzD|apply zzE|apply zzF)|exact HL.out)) hb);have H2_:=Aside0.mk (below_step (by repeat (first|(with_reducible first|exact H2.out|apply zzD|apply zzE|apply zzF)|exact H2.out)) hb);have H3_:=Aside0.mk (below_step (by repeat (first|(with_reducible first|exact H3.out|apply zzD|apply zzE|apply zzF)|exact H3.out)) hb);have H4_:=Aside0.mk (below_step (by repeat (first|(with_reducible first|exact H4.out|apply zzD|apply zzE|apply zzF)|exact H4.out)) hb);have H5_:=Aside0.mk (below_step (by repeat (first|(with_reducible first|exact H5.out|apply zzD|apply zzE|apply zzF)|exact H5.out)) hb);clear HB HL H2 H3 H4 H5;have HB:=HB_;have HL:=HL_;have H2:=H2_;have H3:=H3_;have H4:=H4_;have H5:=H5_;clear hb HB_ HL_ H2_ H3_ H4_ H5_;have hc80 : w8.cell? ⟨g7,0,none⟩ = some (.slice Ap 2 cp):=(blk_cell (blk_below B7.out H5.out) 0).trans rfl)|(go_at_call 16;with_reducible refine (KP.out _ (by repeat (first|(with_reducible first|exact H4.out|apply zzD|apply zzE|apply zzF)|exact H4.out)) _ (blk_new _ _)).mono ?_;rintro e w9 ⟨rfl,hdr⟩;have hb:=hdr.below;clear hdr;have HB_:=Aside0.mk (below_step (by repeat (first|(with_reducible first|exact HB.out|apply zzD|apply zzE|apply zzF)|exact HB.out)) hb);have HL_:=Aside0.mk (below_step (by repeat (first|(with_reducible first|exact HL.out|apply zzD|apply zzE|apply zzF)|exact HL.out)) hb);have H2_:=Aside0.mk (below_step (by repeat (first|(with_reducible first|exact H2.out|apply zzD|apply zzE|apply zzF)|exact H2.out)) hb);have H3_:=Aside0.mk (below_step (by repeat (first|(with_reducible first|exact H3.out|apply zzD|apply zzE|apply zzF)|exact H3.out)) hb);have H4_:=Aside0.mk (below_step (by repeat (first|(with_reducible first|exact H4.out|apply zzD|apply zzE|apply zzF)|exact H4.out)) hb);have H5_:=Aside0.mk (below_step (by repeat (first|(with_reducible first|exact H5.out|apply zzD|apply zzE|apply zzF)|exact H5.out)) hb);clear HB HL H2 H3 H4 H5;have HB:=HB_;have HL:=HL_;have H2:=H2_;have H3:=H3_;have H4:=H4_;have H5:=H5_;clear hb HB_ HL_ H2_ H3_ H4_ H5_))
 go_ret
 exact ⟨rfl,(by repeat (first|(with_reducible first|exact HB.out|apply zzD|apply zzE|apply zzF)|exact HB.out))⟩
end Go.Proofs.Ytgmomcjnldahjaa.Pr
namespace Go.Proofs.Ytgmomcjnldahjaa.Pr
open Go.RowKit Go.Proofs.YtgmomcjnldahjaaW.PrintWords Go.Proofs.YtgmomcjnldahjaaW.PrintLast Go.Proofs.YtgmomcjnldahjaaW.PrintMore
attribute [local go_sem] max2_int min2_int max_two min_two max_three min_three max_four min_four
set_option linter.unusedVariables false
set_option linter.unusedSimpArgs false
section
variable {w : World} {A0 : Option Addr} {c0 : Nat} {N : List Int} {A1 : Option Addr} {c1 : Nat} {L : List S34}
theorem light_c (hr0 : Kd.C (Kd.int .i64) w A0 N.length N) (hc0 : N.length ≤ c0) (hr1 : Kd.C k34 w A1 L.length L) (hc1 : L.length ≤ c1) :
  Calls Try.prog 23 #[.agg #[.slice A0 N.length c0,.slice A1 L.length c1]] w fun e w'=>e = .returned (.bool (lightB N L)) ∧ Below w.heap.size w w':=by
 obtain ⟨q,hq⟩:=(lightR_ev N L).rounds
 exact scarfjointref09_Light.calls q A0 c0 N A1 c1 L _ w hr0 hc0 hr1 hc1 hq
theorem copied_c (hr0 : Kd.C (Kd.int .i64) w A0 N.length N) (hc0 : N.length ≤ c0) (hr1 : Kd.C k34 w A1 L.length L) (hc1 : L.length ≤ c1) (hl : L.length ≤ 1000000) (hn : N.length ≤ 1000000) :
  Calls Try.prog 13 #[.agg #[.slice A0 N.length c0,.slice A1 L.length c1]] w fun e w'=>∃ B0 d0 B1 d1,e = .returned (.agg #[.slice B0 N.length d0,.slice B1 L.length d1]) ∧ Kd.C (Kd.int .i64) w' B0 N.length N ∧ N.length ≤ d0 ∧ Kd.C k34 w' B1 L.length L ∧ L.length ≤ d1 ∧ Below w.heap.size w w':=by
 refine Calls.mono (scarfjointref05_Copied.calls A0 c0 N A1 c1 L N L w hr0 hc0 hr1 hc1 (copied_eq hl hn)) fun e w' h=>?_
 obtain ⟨v0,v1,rfl,h0,h1,hb⟩:=h
 obtain ⟨B0,d0,rfl⟩:=Kd.R_slice h0
 obtain ⟨B1,d1,rfl⟩:=Kd.R_slice h1
 exact ⟨B0,d0,B1,d1,rfl,(Kd.R_reads' h0).2.2,(Kd.R_reads' h0).2.1,(Kd.R_reads' h1).2.2,(Kd.R_reads' h1).2.1,hb⟩
end
end Go.Proofs.Ytgmomcjnldahjaa.Pr
namespace Go.Proofs.Ytgmomcjnldahjaa.Pr
open Go.RowKit Go.Proofs.YtgmomcjnldahjaaW.PrintWords Go.Proofs.YtgmomcjnldahjaaW.PrintLast Go.Proofs.YtgmomcjnldahjaaW.PrintMore
attribute [local go_sem] max2_int min2_int max_two min_two max_three min_three max_four min_four
set_option linter.unusedVariables false
set_option linter.unusedSimpArgs false
def codeG (N : List Int) (L : List S34) : List Int:=match bestR N L with
 | some (_,c) => c
 | none => []
theorem codeG_is (N : List Int) (L : List S34) : ∃ o,bestR N L = some (o,codeG N L) ∧ codeG N L = codeS N L (SB L) o ∧ GoodO N.length o ∧ o.length = N.length:=by
 obtain ⟨o,h1,h2,h3⟩:=best_is N L (SB L)
 rw [best_same] at h1
 have e : codeG N L = codeS N L (SB L) o:=by unfold codeG;rw [h1]
 exact ⟨o,by rw [h1,e],e,h2,h3⟩
def cmpE (N : List Int) (L : List S34) (M : List Int) (K : List S34) : Int × Int:=if validE N L ≠ 0 then (0,validE N L) else if validE M K ≠ 0 then (0,validE M K) else (cmpL (codeG N L) (codeG M K),0)
section
variable {w : World} {A0 : Option Addr} {c0 : Nat} {N : List Int} {A1 : Option Addr} {c1 : Nat} {L : List S34} {B0 : Option Addr} {d0 : Nat} {M : List Int} {B1 : Option Addr} {d1 : Nat} {K : List S34}
theorem tabU_c (hr0 : Kd.C (Kd.int .i64) w A0 N.length N) (hc0 : N.length ≤ c0) (hr1 : Kd.C k34 w A1 L.length L) (hc1 : L.length ≤ c1) (hv : validE N L = 0) (hL : L.length < 20) :
  Calls Try.prog 39 #[.agg #[.slice A0 N.length c0,.slice A1 L.length c1]] w fun e w'=>∃ gt gR,e = .returned (.pointer (some ⟨gt,0,none⟩)) ∧ Tab w' gt A0 c0 N A1 c1 L gR (SB L) ∧ Below w.heap.size w w':=by
 obtain ⟨h1,h2,h3⟩:=ok_SB (N:=N) (small_of_valid hv) hL
 obtain ⟨h4,h5⟩:=validE_zero hv
 refine Calls.mono (tabled_calls A0 c0 N A1 c1 L w hr0 hc0 hr1 hc1 (by omega) hL (fun a ha=>h5 _ (rd_mem34 ha)) (SB L) h3) fun e w' ⟨gt,gR,e1,q1,q2,hb⟩=>?_
 rw [row_eq] at q1
 exact ⟨gt,gR,e1,⟨q1,Kd.C_below hr0 hb,Kd.C_below hr1 hb,q2,hc0,hc1,by omega,by omega,h2⟩,hb⟩
theorem bestU_c {gt gR : Nat} (hT : Tab w gt A0 c0 N A1 c1 L gR (SB L)) (hn : N.length ≤ 9) :
  Calls Try.prog 38 #[.pointer (some ⟨gt,0,none⟩)] w fun e w'=>∃ ov A c,e = .returned (.tuple #[ov,.slice A (codeG N L).length c]) ∧ (codeG N L).length ≤ 1000000 ∧ (codeG N L).length ≤ c ∧ Kd.C (Kd.int .i64) w' A (codeG N L).length (codeG N L) ∧ Below w.heap.size w w':=by
 refine Calls.mono (best_calls hT hn) fun e w' ⟨ov,cv,e1,q,hb⟩=>?_
 obtain ⟨o,h1,_⟩:=codeG_is N L
 rw [show srch N L (SB L) (twM N L (SB L)) N.length [] [(N.length : Int)] none = some (o,codeG N L) from by rw [← h1,← best_same];rfl] at q
 obtain ⟨_,hl,_,hr⟩:=q
 obtain ⟨A,c,rfl⟩:=Kd.R_slice hr
 exact ⟨ov,A,c,e1,hl,(Kd.R_reads' hr).2.1,(Kd.R_reads' hr).2.2,hb⟩
set_option maxHeartbeats 80000000 in
set_option maxRecDepth 100000 in
theorem compare_calls (hr0 : Kd.C (Kd.int .i64) w A0 N.length N) (hc0 : N.length ≤ c0) (hr1 : Kd.C k34 w A1 L.length L) (hc1 : L.length ≤ c1) (hs0 : Kd.C (Kd.int .i64) w B0 M.length M) (hd0 : M.length ≤ d0) (hs1 : Kd.C k34 w B1 K.length K) (hd1 : K.length ≤ d1) (hL : validE N L = 0 → L.length < 20) (hK : validE M K = 0 → K.length < 20) :
  Calls Try.prog 14 #[.agg #[.slice A0 N.length c0,.slice A1 L.length c1],.agg #[.slice B0 M.length d0,.slice B1 K.length d1]] w fun e w'=>e = .returned (.tuple #[.int .i64 (cmpE N L M K).1,.int .i64 (cmpE N L M K).2]) ∧ Below w.heap.size w w':=by
 have HVA:=Aside0.mk (fun W (hw : Below w.heap.size w W)=>valid_calls A0 c0 N A1 c1 L W (Kd.C_below hr0 hw) hc0 (Kd.C_below hr1 hw) hc1)
 have HVB:=Aside0.mk (fun W (hw : Below w.heap.size w W)=>valid_calls B0 d0 M B1 d1 K W (Kd.C_below hs0 hw) hd0 (Kd.C_below hs1 hw) hd1)
 have hu30:=Try.underlying30
 have HB:=Aside0.mk (Below.refl w.heap.size w)
 by_cases h1 : validE N L = 0
 ·have HEA:=Aside0.mk h1
  have HTA:=Aside0.mk (fun W (hw : Below w.heap.size w W)=>tabU_c (w:=W) (Kd.C_below hr0 hw) hc0 (Kd.C_below hr1 hw) hc1 h1 (hL h1))
  have HNA:=Aside0.mk (validE_zero h1).1
  by_cases h2 : validE M K = 0
  ·have HEB:=Aside0.mk h2
   have HTB:=Aside0.mk (fun W (hw : Below w.heap.size w W)=>tabU_c (w:=W) (Kd.C_below hs0 hw) hd0 (Kd.C_below hs1 hw) hd1 h2 (hK h2))
   have HNB:=Aside0.mk (validE_zero h2).1
   have HX:=Aside0.mk (show cmpE N L M K = (cmpL (codeG N L) (codeG M K),0) from by rw [cmpE,if_neg (by simp [h1]),if_neg (by simp [h2])])
   clear hr0 hc0 hr1 hc1 hs0 hd0 hs1 hd1 hL hK h1 h2
   go_enter Try.func14,Try.ntmps14
   go_wp2_with (first|((with_reducible refine gate_dst (N:=2) rfl ?_);refine box_event ?hg (N:=2) ?hd (cs:=#[.slice A0 N.length c0,.slice A1 L.length c1]) (t:=30) ?hr ?_;(case hd=>rfl);(case hg=>rfl);(case hr=>first|(go_simp;done)|(go_simp;rfl));intro ga hg w1 hbox hb;have n0_:=Aside0.mk (below_step HB.out hb);clear HB;have HB:=n0_;clear n0_ hb hg;have BA:=Aside0.mk hbox;have hcga0 : w1.cell? ⟨ga,0,none⟩ = some (.slice A0 N.length c0):=(blk_cell hbox 0).trans rfl;have hcga1 : w1.cell? ⟨ga,1,none⟩ = some (.slice A1 L.length c1):=(blk_cell hbox 1).trans rfl;clear hbox)|((with_reducible refine gate_dst (N:=3) rfl ?_);refine box_event ?hg (N:=3) ?hd (cs:=#[.slice B0 M.length d0,.slice B1 K.length d1]) (t:=30) ?hr ?_;(case hd=>rfl);(case hg=>rfl);(case hr=>first|(go_simp;done)|(go_simp;rfl));intro gb hg w2 hbox hb;have BBb:=Aside0.mk (show _ ≤ gb from by rw [hg];exact HB.out.size);have BA_:=Aside0.mk (blk_below (g:=ga) (o:=.cells #[.slice A0 N.length c0,.slice A1 L.length c1] 30 (0,0)) (by (with_reducible repeat (first|refine blk_drewN ?_ _|refine blk_drew ?_|refine blk_alloc ?_ _));exact BA.out) hb);have n0_:=Aside0.mk (below_step (by repeat (first|(with_reducible first|exact HB.out|apply zzD|apply zzE|apply zzF)|exact HB.out)) hb);clear HB BA;have HB:=n0_;have BA:=BA_;clear n0_ hb hg BA_;have BB:=Aside0.mk hbox;clear hbox;have hcw2ga0 : w2.cell? ⟨ga,0,none⟩ = some (.slice A0 N.length c0):=(blk_cell BA.out 0).trans rfl;have hcw2ga1 : w2.cell? ⟨ga,1,none⟩ = some (.slice A1 L.length c1):=(blk_cell BA.out 1).trans rfl;have hcw2gb0 : w2.cell? ⟨gb,0,none⟩ = some (.slice B0 M.length d0):=(blk_cell BB.out 0).trans rfl;have hcw2gb1 : w2.cell? ⟨gb,1,none⟩ = some (.slice B1 K.length d1):=(blk_cell BB.out 1).trans rfl)|(go_at_call 37;with_reducible refine (HVA.out _ (by repeat (first|(with_reducible first|exact HB.out|apply zzD|apply zzE|apply zzF)|exact HB.out))).mono ?_;rw [HEA.out];rintro e w3 ⟨rfl,hb⟩;have BA_:=Aside0.mk (blk_below (g:=ga) (o:=.cells #[.slice A0 N.length c0,.slice A1 L.length c1] 30 (0,0)) (by (with_reducible repeat (first|refine blk_drewN ?_ _|refine blk_drew ?_|refine blk_alloc ?_ _));exact BA.out) hb);have BB_:=Aside0.mk (blk_below (g:=gb) (o:=.cells #[.slice B0 M.length d0,.slice B1 K.length d1] 30 (0,0)) (by (with_reducible repeat (first|refine blk_drewN ?_ _|refine blk_drew ?_|refine blk_alloc ?_ _));exact BB.out) hb);have n0_:=Aside0.mk (below_step (by repeat (first|(with_reducible first|exact HB.out|apply zzD|apply zzE|apply zzF)|exact HB.out)) hb);clear HB BA BB;have HB:=n0_;have BA:=BA_;have BB:=BB_;clear n0_ hb BA_ BB_;have hcw30 : w3.cell? ⟨ga,0,none⟩ = some (.slice A0 N.length c0):=(blk_cell BA.out 0).trans rfl;have hcw31 : w3.cell? ⟨ga,1,none⟩ = some (.slice A1 L.length c1):=(blk_cell BA.out 1).trans rfl;have hcw30 : w3.cell? ⟨gb,0,none⟩ = some (.slice B0 M.length d0):=(blk_cell BB.out 0).trans rfl;have hcw31 : w3.cell? ⟨gb,1,none⟩ = some (.slice B1 K.length d1):=(blk_cell BB.out 1).trans rfl)|(go_at_call 37;with_reducible refine (HVB.out _ (by repeat (first|(with_reducible first|exact HB.out|apply zzD|apply zzE|apply zzF)|exact HB.out))).mono ?_;rw [HEB.out];rintro e w4 ⟨rfl,hb⟩;have BA_:=Aside0.mk (blk_below (g:=ga) (o:=.cells #[.slice A0 N.length c0,.slice A1 L.length c1] 30 (0,0)) (by (with_reducible repeat (first|refine blk_drewN ?_ _|refine blk_drew ?_|refine blk_alloc ?_ _));exact BA.out) hb);have BB_:=Aside0.mk (blk_below (g:=gb) (o:=.cells #[.slice B0 M.length d0,.slice B1 K.length d1] 30 (0,0)) (by (with_reducible repeat (first|refine blk_drewN ?_ _|refine blk_drew ?_|refine blk_alloc ?_ _));exact BB.out) hb);have n0_:=Aside0.mk (below_step (by repeat (first|(with_reducible first|exact HB.out|apply zzD|apply zzE|apply zzF)|exact HB.out)) hb);clear HB BA BB;have HB:=n0_;have BA:=BA_;have BB:=BB_;clear n0_ hb BA_ BB_;have hcw40 : w4.cell? ⟨ga,0,none⟩ = some (.slice A0 N.length c0):=(blk_cell BA.out 0).trans rfl;have hcw41 : w4.cell? ⟨ga,1,none⟩ = some (.slice A1 L.length c1):=(blk_cell BA.out 1).trans rfl;have hcw40 : w4.cell? ⟨gb,0,none⟩ = some (.slice B0 M.length d0):=(blk_cell BB.out 0).trans rfl;have hcw41 : w4.cell? ⟨gb,1,none⟩ = some (.slice B1 K.length d1):=(blk_cell BB.out 1).trans rfl)|(go_at_call 39;with_reducible refine (HTA.out _ (by repeat (first|(with_reducible first|exact HB.out|apply zzD|apply zzE|apply zzF)|exact HB.out))).mono ?_;rintro e w5 ⟨gt,gR,rfl,t1,hb⟩;have KT:=Aside0.mk (bestU_c t1 (by have:=HNA.out;omega));clear t1;have BA_:=Aside0.mk (blk_below (g:=ga) (o:=.cells #[.slice A0 N.length c0,.slice A1 L.length c1] 30 (0,0)) (by (with_reducible repeat (first|refine blk_drewN ?_ _|refine blk_drew ?_|refine blk_alloc ?_ _));exact BA.out) hb);have BB_:=Aside0.mk (blk_below (g:=gb) (o:=.cells #[.slice B0 M.length d0,.slice B1 K.length d1] 30 (0,0)) (by (with_reducible repeat (first|refine blk_drewN ?_ _|refine blk_drew ?_|refine blk_alloc ?_ _));exact BB.out) hb);have n0_:=Aside0.mk (below_step (by repeat (first|(with_reducible first|exact HB.out|apply zzD|apply zzE|apply zzF)|exact HB.out)) hb);clear HB BA BB;have HB:=n0_;have BA:=BA_;have BB:=BB_;clear n0_ hb BA_ BB_)|(go_at_call 38;with_reducible refine KT.out.mono ?_;rintro e w6 ⟨ov6,A6,c6,rfl,l6,m6,r6,hb⟩;have L6:=Aside0.mk l6;have M6:=Aside0.mk m6;have R6:=Aside0.mk r6;clear l6 m6 r6;have BA_:=Aside0.mk (blk_below (g:=ga) (o:=.cells #[.slice A0 N.length c0,.slice A1 L.length c1] 30 (0,0)) (by (with_reducible repeat (first|refine blk_drewN ?_ _|refine blk_drew ?_|refine blk_alloc ?_ _));exact BA.out) hb);have BB_:=Aside0.mk (blk_below (g:=gb) (o:=.cells #[.slice B0 M.length d0,.slice B1 K.length d1] 30 (0,0)) (by (with_reducible repeat (first|refine blk_drewN ?_ _|refine blk_drew ?_|refine blk_alloc ?_ _));exact BB.out) hb);have n0_:=Aside0.mk (below_step (by repeat (first|(with_reducible first|exact HB.out|apply zzD|apply zzE|apply zzF)|exact HB.out)) hb);clear HB BA BB;have HB:=n0_;have BA:=BA_;have BB:=BB_;clear n0_ hb BA_ BB_;have hcw60 : w6.cell? ⟨gb,0,none⟩ = some (.slice B0 M.length d0):=(blk_cell BB.out 0).trans rfl;have hcw61 : w6.cell? ⟨gb,1,none⟩ = some (.slice B1 K.length d1):=(blk_cell BB.out 1).trans rfl;have H6:=Aside0.mk (Below.refl w6.heap.size w6))|(go_at_call 39;with_reducible refine (HTB.out _ (by repeat (first|(with_reducible first|exact HB.out|apply zzD|apply zzE|apply zzF)|exact HB.out))).mono ?_;rintro e w7 ⟨gu,gS,rfl,t1,hb⟩;have KU:=Aside0.mk (bestU_c t1 (by have:=HNB.out;omega));clear t1;have HB_:=Aside0.mk (below_step (by repeat (first|(with_reducible first|exact HB.out|apply zzD|apply zzE|apply zzF)|exact HB.out)) hb);have H6_:=Aside0.mk (below_step (by repeat (first|(with_reducible first|exact H6.out|apply zzD|apply zzE|apply zzF)|exact H6.out)) hb);clear HB H6;have HB:=HB_;have H6:=H6_;clear hb HB_ H6_)|(go_at_call 38;with_reducible refine KU.out.mono ?_;rintro e w8 ⟨ov8,A8,c8,rfl,l8,m8,r8,hb⟩;have M8:=Aside0.mk m8;have R8:=Aside0.mk r8;clear l8 m8 r8;have HB_:=Aside0.mk (below_step (by repeat (first|(with_reducible first|exact HB.out|apply zzD|apply zzE|apply zzF)|exact HB.out)) hb);have H6_:=Aside0.mk (below_step (by repeat (first|(with_reducible first|exact H6.out|apply zzD|apply zzE|apply zzF)|exact H6.out)) hb);clear HB H6;have HB:=HB_;have H6:=H6_;clear hb HB_ H6_;have KC:=Aside0.mk (compare_c (W:=w8) (Kd.C_below R6.out H6.out) M6.out R8.out M8.out L6.out))|(go_at_call 26;with_reducible refine KC.out.mono ?_;rintro e w9 ⟨rfl,hdr⟩;have hb:=hdr.below;clear hdr;have HB_:=Aside0.mk (below_step (by repeat (first|(with_reducible first|exact HB.out|apply zzD|apply zzE|apply zzF)|exact HB.out)) hb);clear HB;have HB:=HB_;clear hb HB_))
   go_ret2
   exact ⟨by rw [HX.out];rfl,(by repeat (first|(with_reducible first|exact HB.out|apply zzD|apply zzE|apply zzF)|exact HB.out))⟩
  ·obtain ⟨E,hE⟩ : ∃ E,validE M K = E:=⟨_,rfl⟩
   have HX:=Aside0.mk (show cmpE N L M K = (0,E) from by rw [cmpE,if_neg (by simp [h1]),if_pos h2,hE])
   rw [hE] at HVB h2
   have k1 : (E != 0) = true:=bne_iff_ne.mpr h2
   have k1' : (E == 0) = false:=beq_eq_false_iff_ne.mpr h2
   clear hr0 hc0 hr1 hc1 hs0 hd0 hs1 hd1 hL hK h1 h2 hE
   go_enter Try.func14,Try.ntmps14
   go_wp2_with (first|((with_reducible refine gate_dst (N:=2) rfl ?_);refine box_event ?hg (N:=2) ?hd (cs:=#[.slice A0 N.length c0,.slice A1 L.length c1]) (t:=30) ?hr ?_;(case hd=>rfl);(case hg=>rfl);(case hr=>first|(go_simp;done)|(go_simp;rfl));intro ga hg w1 hbox hb;have n0_:=Aside0.mk (below_step HB.out hb);clear HB;have HB:=n0_;clear n0_ hb hg;have BA:=Aside0.mk hbox;have hcga0 : w1.cell? ⟨ga,0,none⟩ = some (.slice A0 N.length c0):=(blk_cell hbox 0).trans rfl;have hcga1 : w1.cell? ⟨ga,1,none⟩ = some (.slice A1 L.length c1):=(blk_cell hbox 1).trans rfl;clear hbox)|((with_reducible refine gate_dst (N:=3) rfl ?_);refine box_event ?hg (N:=3) ?hd (cs:=#[.slice B0 M.length d0,.slice B1 K.length d1]) (t:=30) ?hr ?_;(case hd=>rfl);(case hg=>rfl);(case hr=>first|(go_simp;done)|(go_simp;rfl));intro gb hg w2 hbox hb;have BBb:=Aside0.mk (show _ ≤ gb from by rw [hg];exact HB.out.size);have BA_:=Aside0.mk (blk_below (g:=ga) (o:=.cells #[.slice A0 N.length c0,.slice A1 L.length c1] 30 (0,0)) (by (with_reducible repeat (first|refine blk_drewN ?_ _|refine blk_drew ?_|refine blk_alloc ?_ _));exact BA.out) hb);have n0_:=Aside0.mk (below_step (by repeat (first|(with_reducible first|exact HB.out|apply zzD|apply zzE|apply zzF)|exact HB.out)) hb);clear HB BA;have HB:=n0_;have BA:=BA_;clear n0_ hb hg BA_;have BB:=Aside0.mk hbox;clear hbox;have hcw2ga0 : w2.cell? ⟨ga,0,none⟩ = some (.slice A0 N.length c0):=(blk_cell BA.out 0).trans rfl;have hcw2ga1 : w2.cell? ⟨ga,1,none⟩ = some (.slice A1 L.length c1):=(blk_cell BA.out 1).trans rfl;have hcw2gb0 : w2.cell? ⟨gb,0,none⟩ = some (.slice B0 M.length d0):=(blk_cell BB.out 0).trans rfl;have hcw2gb1 : w2.cell? ⟨gb,1,none⟩ = some (.slice B1 K.length d1):=(blk_cell BB.out 1).trans rfl)|(go_at_call 37;with_reducible refine (HVA.out _ (by repeat (first|(with_reducible first|exact HB.out|apply zzD|apply zzE|apply zzF)|exact HB.out))).mono ?_;rw [HEA.out];rintro e w3 ⟨rfl,hb⟩;have BA_:=Aside0.mk (blk_below (g:=ga) (o:=.cells #[.slice A0 N.length c0,.slice A1 L.length c1] 30 (0,0)) (by (with_reducible repeat (first|refine blk_drewN ?_ _|refine blk_drew ?_|refine blk_alloc ?_ _));exact BA.out) hb);have BB_:=Aside0.mk (blk_below (g:=gb) (o:=.cells #[.slice B0 M.length d0,.slice B1 K.length d1] 30 (0,0)) (by (with_reducible repeat (first|refine blk_drewN ?_ _|refine blk_drew ?_|refine blk_alloc ?_ _));exact BB.out) hb);have n0_:=Aside0.mk (below_step (by repeat (first|(with_reducible first|exact HB.out|apply zzD|apply zzE|apply zzF)|exact HB.out)) hb);clear HB BA BB;have HB:=n0_;have BA:=BA_;have BB:=BB_;clear n0_ hb BA_ BB_;have hcw30 : w3.cell? ⟨ga,0,none⟩ = some (.slice A0 N.length c0):=(blk_cell BA.out 0).trans rfl;have hcw31 : w3.cell? ⟨ga,1,none⟩ = some (.slice A1 L.length c1):=(blk_cell BA.out 1).trans rfl;have hcw30 : w3.cell? ⟨gb,0,none⟩ = some (.slice B0 M.length d0):=(blk_cell BB.out 0).trans rfl;have hcw31 : w3.cell? ⟨gb,1,none⟩ = some (.slice B1 K.length d1):=(blk_cell BB.out 1).trans rfl)|(go_at_call 37;with_reducible refine (HVB.out _ (by repeat (first|(with_reducible first|exact HB.out|apply zzD|apply zzE|apply zzF)|exact HB.out))).mono ?_;rintro e w4 ⟨rfl,hb⟩;have BA_:=Aside0.mk (blk_below (g:=ga) (o:=.cells #[.slice A0 N.length c0,.slice A1 L.length c1] 30 (0,0)) (by (with_reducible repeat (first|refine blk_drewN ?_ _|refine blk_drew ?_|refine blk_alloc ?_ _));exact BA.out) hb);have BB_:=Aside0.mk (blk_below (g:=gb) (o:=.cells #[.slice B0 M.length d0,.slice B1 K.length d1] 30 (0,0)) (by (with_reducible repeat (first|refine blk_drewN ?_ _|refine blk_drew ?_|refine blk_alloc ?_ _));exact BB.out) hb);have n0_:=Aside0.mk (below_step (by repeat (first|(with_reducible first|exact HB.out|apply zzD|apply zzE|apply zzF)|exact HB.out)) hb);clear HB BA BB;have HB:=n0_;have BA:=BA_;have BB:=BB_;clear n0_ hb BA_ BB_))
   go_ret2
   exact ⟨by rw [HX.out];rfl,(by repeat (first|(with_reducible first|exact HB.out|apply zzD|apply zzE|apply zzF)|exact HB.out))⟩
 ·obtain ⟨E,hE⟩ : ∃ E,validE N L = E:=⟨_,rfl⟩
  have HX:=Aside0.mk (show cmpE N L M K = (0,E) from by rw [cmpE,if_pos h1,hE])
  rw [hE] at HVA h1
  have k1 : (E != 0) = true:=bne_iff_ne.mpr h1
  have k1' : (E == 0) = false:=beq_eq_false_iff_ne.mpr h1
  clear hr0 hc0 hr1 hc1 hs0 hd0 hs1 hd1 hL hK h1 hE
  go_enter Try.func14,Try.ntmps14
  go_wp2_with (first|((with_reducible refine gate_dst (N:=2) rfl ?_);refine box_event ?hg (N:=2) ?hd (cs:=#[.slice A0 N.length c0,.slice A1 L.length c1]) (t:=30) ?hr ?_;(case hd=>rfl);(case hg=>rfl);(case hr=>first|(go_simp;done)|(go_simp;rfl));intro ga hg w1 hbox hb;have n0_:=Aside0.mk (below_step HB.out hb);clear HB;have HB:=n0_;clear n0_ hb hg;have BA:=Aside0.mk hbox;have hcga0 : w1.cell? ⟨ga,0,none⟩ = some (.slice A0 N.length c0):=(blk_cell hbox 0).trans rfl;have hcga1 : w1.cell? ⟨ga,1,none⟩ = some (.slice A1 L.length c1):=(blk_cell hbox 1).trans rfl;clear hbox)|((with_reducible refine gate_dst (N:=3) rfl ?_);refine box_event ?hg (N:=3) ?hd (cs:=#[.slice B0 M.length d0,.slice B1 K.length d1]) (t:=30) ?hr ?_;(case hd=>rfl);(case hg=>rfl);(case hr=>first|(go_simp;done)|(go_simp;rfl));intro gb hg w2 hbox hb;have BBb:=Aside0.mk (show _ ≤ gb from by rw [hg];exact HB.out.size);have BA_:=Aside0.mk (blk_below (g:=ga) (o:=.cells #[.slice A0 N.length c0,.slice A1 L.length c1] 30 (0,0)) (by (with_reducible repeat (first|refine blk_drewN ?_ _|refine blk_drew ?_|refine blk_alloc ?_ _));exact BA.out) hb);have n0_:=Aside0.mk (below_step (by repeat (first|(with_reducible first|exact HB.out|apply zzD|apply zzE|apply zzF)|exact HB.out)) hb);clear HB BA;have HB:=n0_;have BA:=BA_;clear n0_ hb hg BA_;have BB:=Aside0.mk hbox;clear hbox;have hcw2ga0 : w2.cell? ⟨ga,0,none⟩ = some (.slice A0 N.length c0):=(blk_cell BA.out 0).trans rfl;have hcw2ga1 : w2.cell? ⟨ga,1,none⟩ = some (.slice A1 L.length c1):=(blk_cell BA.out 1).trans rfl;have hcw2gb0 : w2.cell? ⟨gb,0,none⟩ = some (.slice B0 M.length d0):=(blk_cell BB.out 0).trans rfl;have hcw2gb1 : w2.cell? ⟨gb,1,none⟩ = some (.slice B1 K.length d1):=(blk_cell BB.out 1).trans rfl)|(go_at_call 37;with_reducible refine (HVA.out _ (by repeat (first|(with_reducible first|exact HB.out|apply zzD|apply zzE|apply zzF)|exact HB.out))).mono ?_;rintro e w3 ⟨rfl,hb⟩;have BA_:=Aside0.mk (blk_below (g:=ga) (o:=.cells #[.slice A0 N.length c0,.slice A1 L.length c1] 30 (0,0)) (by (with_reducible repeat (first|refine blk_drewN ?_ _|refine blk_drew ?_|refine blk_alloc ?_ _));exact BA.out) hb);have BB_:=Aside0.mk (blk_below (g:=gb) (o:=.cells #[.slice B0 M.length d0,.slice B1 K.length d1] 30 (0,0)) (by (with_reducible repeat (first|refine blk_drewN ?_ _|refine blk_drew ?_|refine blk_alloc ?_ _));exact BB.out) hb);have n0_:=Aside0.mk (below_step (by repeat (first|(with_reducible first|exact HB.out|apply zzD|apply zzE|apply zzF)|exact HB.out)) hb);clear HB BA BB;have HB:=n0_;have BA:=BA_;have BB:=BB_;clear n0_ hb BA_ BB_))
  go_ret2
  exact ⟨by rw [HX.out];rfl,(by repeat (first|(with_reducible first|exact HB.out|apply zzD|apply zzE|apply zzF)|exact HB.out))⟩
theorem codeRG_c (hr0 : Kd.C (Kd.int .i64) w A0 N.length N) (hc0 : N.length ≤ c0) (hr1 : Kd.C k34 w A1 L.length L) (hc1 : L.length ≤ c1) (hl : L.length ≤ 1000000) (hn : N.length ≤ 1000000) :
  Calls Try.prog 27 #[.agg #[.slice A0 N.length c0,.slice A1 L.length c1]] w fun e w'=>Below w.heap.size w w' ∧ ((validE N L ≠ 0 ∧ e = .returned (.tuple #[.slice none 0 0,.int .i64 (validE N L)])) ∨
   (validE N L = 0 ∧ ∃ A c,e = .returned (.tuple #[.slice A (codeG N L).length c,.int .i64 0]) ∧ (codeG N L).length ≤ 1000000 ∧ (codeG N L).length ≤ c ∧ Kd.C (Kd.int .i64) w' A (codeG N L).length (codeG N L))):=by
 refine Calls.mono (codeR_calls hr0 hc0 hr1 hc1 hl hn) fun e w' ⟨hb,h⟩=>⟨hb,?_⟩
 rcases h with h | ⟨h1,ov,cv,rfl,h2⟩
 ·exact .inl h
 ·obtain ⟨o,e1,_⟩:=codeG_is N L
  rw [e1] at h2
  obtain ⟨_,hl,_,hr⟩:=h2
  obtain ⟨A,c,rfl⟩:=Kd.R_slice hr
  exact .inr ⟨h1,A,c,rfl,hl,(Kd.R_reads' hr).2.1,(Kd.R_reads' hr).2.2⟩
set_option maxHeartbeats 80000000 in
set_option maxRecDepth 100000 in
theorem compareR_calls (hr0 : Kd.C (Kd.int .i64) w A0 N.length N) (hc0 : N.length ≤ c0) (hr1 : Kd.C k34 w A1 L.length L) (hc1 : L.length ≤ c1) (hs0 : Kd.C (Kd.int .i64) w B0 M.length M) (hd0 : M.length ≤ d0) (hs1 : Kd.C k34 w B1 K.length K) (hd1 : K.length ≤ d1) (hl : N.length ≤ 1000000 ∧ L.length ≤ 1000000 ∧ M.length ≤ 1000000 ∧ K.length ≤ 1000000) :
  Calls Try.prog 31 #[.agg #[.slice A0 N.length c0,.slice A1 L.length c1],.agg #[.slice B0 M.length d0,.slice B1 K.length d1]] w fun e w'=>e = .returned (.tuple #[.int .i64 (cmpE N L M K).1,.int .i64 (cmpE N L M K).2]) ∧ Below w.heap.size w w':=by
 have HCA:=Aside0.mk (fun W (hw : Below w.heap.size w W)=>codeRG_c (w:=W) (Kd.C_below hr0 hw) hc0 (Kd.C_below hr1 hw) hc1 hl.2.1 hl.1)
 have HCB:=Aside0.mk (fun W (hw : Below w.heap.size w W)=>codeRG_c (w:=W) (Kd.C_below hs0 hw) hd0 (Kd.C_below hs1 hw) hd1 hl.2.2.2 hl.2.2.1)
 have hu30:=Try.underlying30
 have HB:=Aside0.mk (Below.refl w.heap.size w)
 clear hr0 hc0 hr1 hc1 hs0 hd0 hs1 hd1 hl
 by_cases h1 : validE N L = 0
 ·have HEA:=Aside0.mk h1
  by_cases h2 : validE M K = 0
  ·have HEB:=Aside0.mk h2
   have HX:=Aside0.mk (show cmpE N L M K = (cmpL (codeG N L) (codeG M K),0) from by rw [cmpE,if_neg (by simp [h1]),if_neg (by simp [h2])])
   clear h1 h2
   go_enter Try.func31,Try.ntmps31
   go_wp2_with (first|((with_reducible refine gate_dst (N:=2) rfl ?_);refine box_event ?hg (N:=2) ?hd (cs:=#[.slice A0 N.length c0,.slice A1 L.length c1]) (t:=30) ?hr ?_;(case hd=>rfl);(case hg=>rfl);(case hr=>first|(go_simp;done)|(go_simp;rfl));intro ga hg w1 hbox hb;have n0_:=Aside0.mk (below_step HB.out hb);clear HB;have HB:=n0_;clear n0_ hb hg;have BA:=Aside0.mk hbox;have hcga0 : w1.cell? ⟨ga,0,none⟩ = some (.slice A0 N.length c0):=(blk_cell hbox 0).trans rfl;have hcga1 : w1.cell? ⟨ga,1,none⟩ = some (.slice A1 L.length c1):=(blk_cell hbox 1).trans rfl;clear hbox)|((with_reducible refine gate_dst (N:=3) rfl ?_);refine box_event ?hg (N:=3) ?hd (cs:=#[.slice B0 M.length d0,.slice B1 K.length d1]) (t:=30) ?hr ?_;(case hd=>rfl);(case hg=>rfl);(case hr=>first|(go_simp;done)|(go_simp;rfl));intro gb hg w2 hbox hb;have BBb:=Aside0.mk (show _ ≤ gb from by rw [hg];exact HB.out.size);have BA_:=Aside0.mk (blk_below (g:=ga) (o:=.cells #[.slice A0 N.length c0,.slice A1 L.length c1] 30 (0,0)) (by (with_reducible repeat (first|refine blk_drewN ?_ _|refine blk_drew ?_|refine blk_alloc ?_ _));exact BA.out) hb);have n0_:=Aside0.mk (below_step (by repeat (first|(with_reducible first|exact HB.out|apply zzD|apply zzE|apply zzF)|exact HB.out)) hb);clear HB BA;have HB:=n0_;have BA:=BA_;clear n0_ hb hg BA_;have BB:=Aside0.mk hbox;clear hbox;have hcw2ga0 : w2.cell? ⟨ga,0,none⟩ = some (.slice A0 N.length c0):=(blk_cell BA.out 0).trans rfl;have hcw2ga1 : w2.cell? ⟨ga,1,none⟩ = some (.slice A1 L.length c1):=(blk_cell BA.out 1).trans rfl;have hcw2gb0 : w2.cell? ⟨gb,0,none⟩ = some (.slice B0 M.length d0):=(blk_cell BB.out 0).trans rfl;have hcw2gb1 : w2.cell? ⟨gb,1,none⟩ = some (.slice B1 K.length d1):=(blk_cell BB.out 1).trans rfl)|(go_at_call 27;with_reducible refine (HCA.out _ (by repeat (first|(with_reducible first|exact HB.out|apply zzD|apply zzE|apply zzF)|exact HB.out))).mono ?_;rintro e w6 ⟨hb,⟨hx,_⟩ | ⟨_,A6,c6,rfl,l6,m6,r6⟩⟩;(case inl=>exact absurd HEA.out hx);have L6:=Aside0.mk l6;have M6:=Aside0.mk m6;have R6:=Aside0.mk r6;clear l6 m6 r6;have BA_:=Aside0.mk (blk_below (g:=ga) (o:=.cells #[.slice A0 N.length c0,.slice A1 L.length c1] 30 (0,0)) (by (with_reducible repeat (first|refine blk_drewN ?_ _|refine blk_drew ?_|refine blk_alloc ?_ _));exact BA.out) hb);have BB_:=Aside0.mk (blk_below (g:=gb) (o:=.cells #[.slice B0 M.length d0,.slice B1 K.length d1] 30 (0,0)) (by (with_reducible repeat (first|refine blk_drewN ?_ _|refine blk_drew ?_|refine blk_alloc ?_ _));exact BB.out) hb);have n0_:=Aside0.mk (below_step (by repeat (first|(with_reducible first|exact HB.out|apply zzD|apply zzE|apply zzF)|exact HB.out)) hb);clear HB BA BB;have HB:=n0_;have BA:=BA_;have BB:=BB_;clear n0_ hb BA_ BB_;have hcw60 : w6.cell? ⟨gb,0,none⟩ = some (.slice B0 M.length d0):=(blk_cell BB.out 0).trans rfl;have hcw61 : w6.cell? ⟨gb,1,none⟩ = some (.slice B1 K.length d1):=(blk_cell BB.out 1).trans rfl;have H6:=Aside0.mk (Below.refl w6.heap.size w6))|(go_at_call 27;with_reducible refine (HCB.out _ (by repeat (first|(with_reducible first|exact HB.out|apply zzD|apply zzE|apply zzF)|exact HB.out))).mono ?_;rintro e w8 ⟨hb,⟨hx,_⟩ | ⟨_,A8,c8,rfl,l8,m8,r8⟩⟩;(case inl=>exact absurd HEB.out hx);have M8:=Aside0.mk m8;have R8:=Aside0.mk r8;clear l8 m8 r8;have HB_:=Aside0.mk (below_step (by repeat (first|(with_reducible first|exact HB.out|apply zzD|apply zzE|apply zzF)|exact HB.out)) hb);have H6_:=Aside0.mk (below_step (by repeat (first|(with_reducible first|exact H6.out|apply zzD|apply zzE|apply zzF)|exact H6.out)) hb);clear HB H6;have HB:=HB_;have H6:=H6_;clear hb HB_ H6_;have KC:=Aside0.mk (cmpR_c (W:=w8) (Kd.C_below R6.out H6.out) M6.out R8.out M8.out L6.out))|(go_at_call 60;with_reducible refine KC.out.mono ?_;rintro e w9 ⟨rfl,hdr⟩;have hb:=hdr.below;clear hdr;have HB_:=Aside0.mk (below_step (by repeat (first|(with_reducible first|exact HB.out|apply zzD|apply zzE|apply zzF)|exact HB.out)) hb);clear HB;have HB:=HB_;clear hb HB_))
   go_ret2
   exact ⟨by rw [HX.out];rfl,(by repeat (first|(with_reducible first|exact HB.out|apply zzD|apply zzE|apply zzF)|exact HB.out))⟩
  ·obtain ⟨E,hE⟩ : ∃ E,validE M K = E:=⟨_,rfl⟩
   have HX:=Aside0.mk (show cmpE N L M K = (0,E) from by rw [cmpE,if_neg (by simp [h1]),if_pos h2,hE])
   rw [hE] at HCB h2
   have HZ:=Aside0.mk h2
   have k1 : (E != 0) = true:=bne_iff_ne.mpr h2
   have k1' : (E == 0) = false:=beq_eq_false_iff_ne.mpr h2
   clear h1 h2 hE
   go_enter Try.func31,Try.ntmps31
   go_wp2_with (first|((with_reducible refine gate_dst (N:=2) rfl ?_);refine box_event ?hg (N:=2) ?hd (cs:=#[.slice A0 N.length c0,.slice A1 L.length c1]) (t:=30) ?hr ?_;(case hd=>rfl);(case hg=>rfl);(case hr=>first|(go_simp;done)|(go_simp;rfl));intro ga hg w1 hbox hb;have n0_:=Aside0.mk (below_step HB.out hb);clear HB;have HB:=n0_;clear n0_ hb hg;have BA:=Aside0.mk hbox;have hcga0 : w1.cell? ⟨ga,0,none⟩ = some (.slice A0 N.length c0):=(blk_cell hbox 0).trans rfl;have hcga1 : w1.cell? ⟨ga,1,none⟩ = some (.slice A1 L.length c1):=(blk_cell hbox 1).trans rfl;clear hbox)|((with_reducible refine gate_dst (N:=3) rfl ?_);refine box_event ?hg (N:=3) ?hd (cs:=#[.slice B0 M.length d0,.slice B1 K.length d1]) (t:=30) ?hr ?_;(case hd=>rfl);(case hg=>rfl);(case hr=>first|(go_simp;done)|(go_simp;rfl));intro gb hg w2 hbox hb;have BBb:=Aside0.mk (show _ ≤ gb from by rw [hg];exact HB.out.size);have BA_:=Aside0.mk (blk_below (g:=ga) (o:=.cells #[.slice A0 N.length c0,.slice A1 L.length c1] 30 (0,0)) (by (with_reducible repeat (first|refine blk_drewN ?_ _|refine blk_drew ?_|refine blk_alloc ?_ _));exact BA.out) hb);have n0_:=Aside0.mk (below_step (by repeat (first|(with_reducible first|exact HB.out|apply zzD|apply zzE|apply zzF)|exact HB.out)) hb);clear HB BA;have HB:=n0_;have BA:=BA_;clear n0_ hb hg BA_;have BB:=Aside0.mk hbox;clear hbox;have hcw2ga0 : w2.cell? ⟨ga,0,none⟩ = some (.slice A0 N.length c0):=(blk_cell BA.out 0).trans rfl;have hcw2ga1 : w2.cell? ⟨ga,1,none⟩ = some (.slice A1 L.length c1):=(blk_cell BA.out 1).trans rfl;have hcw2gb0 : w2.cell? ⟨gb,0,none⟩ = some (.slice B0 M.length d0):=(blk_cell BB.out 0).trans rfl;have hcw2gb1 : w2.cell? ⟨gb,1,none⟩ = some (.slice B1 K.length d1):=(blk_cell BB.out 1).trans rfl)|(go_at_call 27;with_reducible refine (HCA.out _ (by repeat (first|(with_reducible first|exact HB.out|apply zzD|apply zzE|apply zzF)|exact HB.out))).mono ?_;rintro e w6 ⟨hb,⟨hx,_⟩ | ⟨_,A6,c6,rfl,l6,m6,r6⟩⟩;(case inl=>exact absurd HEA.out hx);clear l6 m6 r6;have BA_:=Aside0.mk (blk_below (g:=ga) (o:=.cells #[.slice A0 N.length c0,.slice A1 L.length c1] 30 (0,0)) (by (with_reducible repeat (first|refine blk_drewN ?_ _|refine blk_drew ?_|refine blk_alloc ?_ _));exact BA.out) hb);have BB_:=Aside0.mk (blk_below (g:=gb) (o:=.cells #[.slice B0 M.length d0,.slice B1 K.length d1] 30 (0,0)) (by (with_reducible repeat (first|refine blk_drewN ?_ _|refine blk_drew ?_|refine blk_alloc ?_ _));exact BB.out) hb);have n0_:=Aside0.mk (below_step (by repeat (first|(with_reducible first|exact HB.out|apply zzD|apply zzE|apply zzF)|exact HB.out)) hb);clear HB BA BB;have HB:=n0_;have BA:=BA_;have BB:=BB_;clear n0_ hb BA_ BB_;have hcw60 : w6.cell? ⟨gb,0,none⟩ = some (.slice B0 M.length d0):=(blk_cell BB.out 0).trans rfl;have hcw61 : w6.cell? ⟨gb,1,none⟩ = some (.slice B1 K.length d1):=(blk_cell BB.out 1).trans rfl)|(go_at_call 27;with_reducible refine (HCB.out _ (by repeat (first|(with_reducible first|exact HB.out|apply zzD|apply zzE|apply zzF)|exact HB.out))).mono ?_;rintro e w8 ⟨hb,⟨_,rfl⟩ | ⟨hx,_⟩⟩;rotate_left;exact absurd hx HZ.out;have HB_:=Aside0.mk (below_step (by repeat (first|(with_reducible first|exact HB.out|apply zzD|apply zzE|apply zzF)|exact HB.out)) hb);clear HB;have HB:=HB_;clear hb HB_))
   go_ret2
   exact ⟨by rw [HX.out];rfl,(by repeat (first|(with_reducible first|exact HB.out|apply zzD|apply zzE|apply zzF)|exact HB.out))⟩
 ·obtain ⟨E,hE⟩ : ∃ E,validE N L = E:=⟨_,rfl⟩
  have HX:=Aside0.mk (show cmpE N L M K = (0,E) from by rw [cmpE,if_pos h1,hE])
  rw [hE] at HCA h1
  have HZ:=Aside0.mk h1
  have k1 : (E != 0) = true:=bne_iff_ne.mpr h1
  have k1' : (E == 0) = false:=beq_eq_false_iff_ne.mpr h1
  clear h1 hE
  go_enter Try.func31,Try.ntmps31
  go_wp2_with (first|((with_reducible refine gate_dst (N:=2) rfl ?_);refine box_event ?hg (N:=2) ?hd (cs:=#[.slice A0 N.length c0,.slice A1 L.length c1]) (t:=30) ?hr ?_;(case hd=>rfl);(case hg=>rfl);(case hr=>first|(go_simp;done)|(go_simp;rfl));intro ga hg w1 hbox hb;have n0_:=Aside0.mk (below_step HB.out hb);clear HB;have HB:=n0_;clear n0_ hb hg;have BA:=Aside0.mk hbox;have hcga0 : w1.cell? ⟨ga,0,none⟩ = some (.slice A0 N.length c0):=(blk_cell hbox 0).trans rfl;have hcga1 : w1.cell? ⟨ga,1,none⟩ = some (.slice A1 L.length c1):=(blk_cell hbox 1).trans rfl;clear hbox)|((with_reducible refine gate_dst (N:=3) rfl ?_);refine box_event ?hg (N:=3) ?hd (cs:=#[.slice B0 M.length d0,.slice B1 K.length d1]) (t:=30) ?hr ?_;(case hd=>rfl);(case hg=>rfl);(case hr=>first|(go_simp;done)|(go_simp;rfl));intro gb hg w2 hbox hb;have BBb:=Aside0.mk (show _ ≤ gb from by rw [hg];exact HB.out.size);have BA_:=Aside0.mk (blk_below (g:=ga) (o:=.cells #[.slice A0 N.length c0,.slice A1 L.length c1] 30 (0,0)) (by (with_reducible repeat (first|refine blk_drewN ?_ _|refine blk_drew ?_|refine blk_alloc ?_ _));exact BA.out) hb);have n0_:=Aside0.mk (below_step (by repeat (first|(with_reducible first|exact HB.out|apply zzD|apply zzE|apply zzF)|exact HB.out)) hb);clear HB BA;have HB:=n0_;have BA:=BA_;clear n0_ hb hg BA_;have BB:=Aside0.mk hbox;clear hbox;have hcw2ga0 : w2.cell? ⟨ga,0,none⟩ = some (.slice A0 N.length c0):=(blk_cell BA.out 0).trans rfl;have hcw2ga1 : w2.cell? ⟨ga,1,none⟩ = some (.slice A1 L.length c1):=(blk_cell BA.out 1).trans rfl;have hcw2gb0 : w2.cell? ⟨gb,0,none⟩ = some (.slice B0 M.length d0):=(blk_cell BB.out 0).trans rfl;have hcw2gb1 : w2.cell? ⟨gb,1,none⟩ = some (.slice B1 K.length d1):=(blk_cell BB.out 1).trans rfl)|(go_at_call 27;with_reducible refine (HCA.out _ (by repeat (first|(with_reducible first|exact HB.out|apply zzD|apply zzE|apply zzF)|exact HB.out))).mono ?_;rintro e w6 ⟨hb,⟨_,rfl⟩ | ⟨hx,_⟩⟩;rotate_left;exact absurd hx HZ.out;have HB_:=Aside0.mk (below_step (by repeat (first|(with_reducible first|exact HB.out|apply zzD|apply zzE|apply zzF)|exact HB.out)) hb);clear HB;have HB:=HB_;clear hb HB_))
  go_ret2
  exact ⟨by rw [HX.out];rfl,(by repeat (first|(with_reducible first|exact HB.out|apply zzD|apply zzE|apply zzF)|exact HB.out))⟩
end
end Go.Proofs.Ytgmomcjnldahjaa.Pr
