/- Part 3 of what the law CanonCompare rests on: this project's own texts (Sa, Ua, Sb, Sc, Sd, Pr5, Pr6, Pr7, Pr8), merged and without what is not used. Conditions: each theorem has its own. -/
import Derived.Test.YtgmomcjnldahjaaKCanonCompare2
import Derived.Test.YtgmomcjnldahjaaKCanonCompare1
open List renaming setIfInBounds_toArray → zzA, set_cons_zero → zzB, set_cons_succ → zzC
open Go.Proofs.YtgmomcjnldahjaaW.PrintWords renaming below_alloc → zzD, pw_below_drewN → zzE, below_drew1 → zzF
namespace Go.Proofs.Ytgmomcjnldahjaa.Pr
open Go.RowKit Go.Proofs.YtgmomcjnldahjaaW.PrintWords Go.Proofs.YtgmomcjnldahjaaW.PrintLast Go.Proofs.YtgmomcjnldahjaaW.PrintMore
attribute [local go_sem] max2_int min2_int max_two min_two max_three min_three max_four min_four
set_option linter.unusedVariables false
set_option linter.unusedSimpArgs false
def posB (L : List S34) (t : Int) (out : List Int) : Nat → Nat
 | 0 => 0
 | n + 1 => if (rd_T34 L (rd out (n : Int))).f0 > t then posB L t out n else n + 1
def insB (L : List S34) (i : Int) (out : List Int) : List Int:=out.take (posB L (rd_T34 L i).f0 out out.length) ++ [i] ++ out.drop (posB L (rd_T34 L i).f0 out out.length)
def betw (L : List S34) (f t : Int) : Nat → List Int
 | 0 => []
 | n + 1 => if (rd_T34 L (n : Int)).f1 = f ∧ (rd_T34 L (n : Int)).f2 = t then insB L n (betw L f t n) else betw L f t n
theorem posB_le (L : List S34) (t : Int) (out : List Int) : ∀ n,posB L t out n ≤ n
 | 0 => Nat.le_refl _
 | n + 1 => by unfold posB;have:=posB_le L t out n;split <;> omega
theorem insB_len (L : List S34) (i : Int) (out : List Int) : (insB L i out).length = out.length + 1:=by
 have:=posB_le L (rd_T34 L i).f0 out out.length
 simp [insB];omega
theorem insB_mem {L : List S34} {i a : Int} {out : List Int} : a ∈ insB L i out ↔ a = i ∨ a ∈ out:=by
 unfold insB
 generalize posB L (rd_T34 L i).f0 out out.length = p
 have : a ∈ out ↔ a ∈ out.take p ∨ a ∈ out.drop p:=by rw [← List.mem_append,List.take_append_drop]
 rw [this];simp;constructor <;> (rintro (h|h|h) <;> simp [h])
theorem betw_len (L : List S34) (f t : Int) : ∀ n,(betw L f t n).length ≤ n
 | 0 => Nat.le_refl _
 | n + 1 => by
  unfold betw;have:=betw_len L f t n
  split
  ·rw [insB_len];omega
  ·omega
theorem betw_mem {L : List S34} {f t : Int} : ∀ n,∀ a ∈ betw L f t n,0 ≤ a ∧ a < n
 | 0,a,h => by simp [betw] at h
 | n + 1,a,h => by
  unfold betw at h
  split at h
  ·rcases insB_mem.1 h with rfl|h
   ·omega
   ·have:=betw_mem n a h;omega
  ·have:=betw_mem n a h;omega
theorem rd_nat {l : List Int} {n : Nat} (h : n < l.length) : rd l (n : Int) ∈ l:=by
 unfold rd;rw [Int.toNat_natCast,List.getD_eq_getElem?_getD,List.getElem?_eq_getElem h];exact List.getElem_mem h
theorem app_n {P : Program} {ops : Array Oper} {Q : Exit → Act → World → Prop} {Kc : Act → World → Prop} {o : Oper} {a : Act} {w0 W : World} (base : Nat) (hw : Region.wanted o (yielded ops a.tmps) = true) (s x : Operand) (t : TypeId)
  (ho : o.op = .call { callee:=.builtin .append,args:=#[s,x],argTypes:=#[t,t] }) (ht : P.underlying t = some (.slice 3)) (hinfo : (P.info? 3).map (fun i=>(i.zero,i.size,i.bytes)) = some (some (.int .i64 0),1,8))
  (v : Value) (xs ys : List Int) (n : Nat) (A : Option Addr) (c : Nat) (hs : a.eval s = v) (hx : a.eval x = .slice A n c) (HO : Kd.R (Kd.int .i64) 3 W base (fun _=>True) v xs) (HR : Kd.C (Kd.int .i64) W A n ys) (hn : ys.length = n) (HB : Below base w0 W) (hbase : base ≤ W.heap.size) (hl : (xs.length + ys.length) * 8 ≤ 140737488355328)
  (h : ∀ v1 w1,Kd.R (Kd.int .i64) 3 w1 base (fun _=>True) v1 (xs ++ ys) → Below base w0 w1 → W.grownBy w1 v.ownBlock → (v1.ownBlock = v.ownBlock ∨ ∃ b,v1.ownBlock = some b ∧ W.heap.size ≤ b) → Kc (a.put o.dst v1) w1) :
  if Region.wanted o (yielded ops a.tmps) = true then Oper.wp P o a W Kc Q else Kc (a.put o.dst undef) W:=by
 subst hn
 exact app_any (w0:=w0) base hw s x t ho ht hinfo v xs ys A c hs hx HO HR HB hbase hl h
theorem blk_new2 (W : World) (o o' : Obj) : ((W.alloc o).alloc o').heap[W.heap.size + 1]? = some o':=by
 have:=blk_new (W.alloc o) o'
 rw [show (W.alloc o).heap.size = W.heap.size + 1 from Array.size_push ..] at this
 exact this
theorem R_empty {W : World} {base g : Nat} (hg : W.heap[g]? = some (.cells #[] 3 (0,0))) (hb : base ≤ g) : Kd.R (Kd.int .i64) 3 W base (fun _=>True) (.slice (some ⟨g,0,none⟩) 0 0) ([] : List Int):=by
 exact ⟨fun _ _=>trivial,[],⟨rfl,.inr ⟨g,0,#[],rfl,hb,hg,Nat.le_refl _,Nat.zero_le _,rfl,rfl⟩⟩,Reps.none _ _⟩
set_option maxHeartbeats 8000000 in
set_option maxRecDepth 100000 in
theorem between_calls {w : World} {A0 : Option Addr} {c0 : Nat} {N : List Int} {A1 : Option Addr} {c1 : Nat} {L : List S34} (f t : Int) (hr1 : Kd.C k34 w A1 L.length L) (hc1 : L.length ≤ c1) (hl : L.length ≤ 1000000) :
  Calls Try.prog 73 #[.agg #[.slice A0 N.length c0,.slice A1 L.length c1],.int .i64 f,.int .i64 t] w fun e w'=>∃ v,e = .returned v ∧ Kd.R (Kd.int .i64) 3 w' w.heap.size (fun _=>True) v (betw L f t L.length) ∧ Below w.heap.size w w':=by
 have HR1:=Aside0.mk hr1
 have HL:=Aside0.mk hl
 have hu30:=Try.underlying30
 have HB:=Aside0.mk (Below.refl w.heap.size w)
 clear hr1 hc1 hl
 go_enter Try.func73,Try.ntmps73
 go_wp2_with (first|((with_reducible refine gate_dst (N:=3) rfl ?_);refine box_event ?hg (N:=3) ?hd (cs:=#[.slice A0 N.length c0,.slice A1 L.length c1]) (t:=30) ?hr ?_;(case hd=>rfl);(case hg=>rfl);(case hr=>first|(go_simp;done)|(go_simp;rfl));intro gb hg w1 hbox hb;have n0_:=Aside0.mk (below_step HB.out hb);clear HB;have HB:=n0_;clear n0_;have GB:=Aside0.mk (show w.heap.size ≤ gb by omega);clear hb hg;have BK:=Aside0.mk hbox;clear hbox))
 go_loopw [7,8] (fun v7 v8 wr=>∃ n : Nat,n ≤ L.length ∧ v8 = .int .i64 (n : Int) ∧ Aside0 (Kd.R (Kd.int .i64) 3 wr w.heap.size (fun _=>True) v7 (betw L f t n)) ∧ Aside0 (wr.heap[gb]? = some (.cells #[.slice A0 N.length c0,.slice A1 L.length c1] 30 (0,0))) ∧ Aside0 (Below w.heap.size w wr)) (fun _ v _=>L.length - (intOf v).toNat)
 case atStart=>exact ⟨0,by omega,rfl,Aside0.mk (Kd.R_nil _ _ _ _ _),BK,HB⟩
 case round =>
  clear BK HB
  obtain ⟨n,hn,rfl,HO,BK,HB⟩:=hrel
  have hb1 : wr.cell? ⟨gb,1,none⟩ = some (.slice A1 L.length c1):=(blk_cell BK.out 1).trans rfl
  have hn' : (n : Int) ≤ 1000000:=by have:=HL.out;omega
  by_cases h1 : n < L.length
  ·have k1 : decide ((n : Int) < (L.length : Int)) = true:=decide_eq_true (by omega)
   have k1' : decide (n < L.length) = true:=decide_eq_true h1
   obtain ⟨ad,rfl,hx0,hx1,hx2⟩:=at_T34 (Kd.C_below HR1.out HB.out) (n : Int) (by omega) (by omega)
   simp only [Int.toNat_natCast] at hx0 hx1 hx2
   by_cases hf : (rd_T34 L (n : Int)).f1 = f
   ·have kf : ((rd_T34 L (n : Int)).f1 != f) = false:=by simp [hf]
    by_cases ht : (rd_T34 L (n : Int)).f2 = t
    ·have kt : ((rd_T34 L (n : Int)).f2 != t) = false:=by simp [ht]
     have HBT:=Aside0.mk (show betw L f t (n + 1) = insB L n (betw L f t n) from by rw [betw,if_pos ⟨hf,ht⟩])
     obtain ⟨A,cc,e7⟩:=Kd.R_slice HO.out
     subst e7
     clear hf ht
     go_wp2
     go_loopw [9] (fun v wq=>∃ m : Nat,m ≤ (betw L f t n).length ∧ v = .int .i64 (m : Int) ∧ Aside0 (Kd.R (Kd.int .i64) 3 wq w.heap.size (fun _=>True) (.slice A (betw L f t n).length cc) (betw L f t n)) ∧ Aside0 (wq.heap[gb]? = some (.cells #[.slice A0 N.length c0,.slice (some ad) L.length c1] 30 (0,0))) ∧ Aside0 (Below w.heap.size w wq) ∧ Aside0 (posB L (rd_T34 L (n : Int)).f0 (betw L f t n) (betw L f t n).length = posB L (rd_T34 L (n : Int)).f0 (betw L f t n) m)) (fun v _=>(intOf v).toNat)
     case atStart=>exact ⟨(betw L f t n).length,by omega,rfl,HO,BK,HB,Aside0.mk rfl⟩
     case round =>
      clear HO BK HB hb1 hx0 hx1 hx2
      obtain ⟨m,hm,rfl,HO,BK,HB,HP⟩:=hrel
      have hb1 : wr.cell? ⟨gb,1,none⟩ = some (.slice (some ad) L.length c1):=(blk_cell BK.out 1).trans rfl
      obtain ⟨ad1,e1,hx0,hx1,hx2⟩:=at_T34 (Kd.C_below HR1.out HB.out) (n : Int) (by omega) (by omega)
      obtain rfl : ad = ad1:=by injection e1
      simp only [Int.toNat_natCast] at hx0 hx1 hx2
      have hlm : (betw L f t n).length ≤ 1000000:=by have:=betw_len L f t n;omega
      by_cases h2 : m = 0
      ·have HPM:=Aside0.mk (show posB L (rd_T34 L (n : Int)).f0 (betw L f t n) m = m from by rw [h2];rfl)
       have k2 : decide ((m : Int) > 0) = false:=decide_eq_false (by omega)
       have k2' : decide (0 < (m : Int)) = false:=decide_eq_false (by omega)
       have k2n : decide (0 < m) = false:=decide_eq_false (by omega)
       clear h2
       go_wp2
       repeat (go_quiet (fail);try go_wp2)
       have HI:=Aside0.mk (show insB L (n : Int) (betw L f t n) = (betw L f t n).take m ++ [(n : Int)] ++ (betw L f t n).drop m from by unfold insB;rw [HP.out,HPM.out])
       have HC:=Aside0.mk (Kd.R_reads' HO.out).2.2
       have hcc : (betw L f t n).length ≤ cc:=(Kd.R_reads' HO.out).2.1
       have hmc : m ≤ cc:=by omega
       have hmi : (m : Int) ≤ (cc : Int):=by omega
       have hmi2 : (m : Int) ≤ ((betw L f t n).length : Int):=by omega
       have HTL:=Aside0.mk (show ((betw L f t n).take m).length = m from by rw [List.length_take];omega)
       have HDL:=Aside0.mk (show ((betw L f t n).drop m).length = (betw L f t n).length - m from by rw [List.length_drop])
       have HT:=Aside0.mk (show ∀ W,Below wr.heap.size wr W → Kd.C (Kd.int .i64) W A m ((betw L f t n).take m) from fun W h=>by have:=Kd.C_take (m:=m) (Kd.C_below HC.out h) hm;rwa [HTL.out] at this)
       have HDR:=Aside0.mk (show ∀ W,Below wr.heap.size wr W → Kd.C (Kd.int .i64) W (if cc = m then A else A.map (·.add m)) ((betw L f t n).length - m) ((betw L f t n).drop m) from fun W h=>by have:=Kd.C_drop (m:=m) (c:=cc) (Kd.C_below HC.out h) hm hcc;rw [HDL.out] at this;simpa [Kd.int,Kd.scalar] using this)
       have HLM:=Aside0.mk hlm
       clear hlm
       go_region_held3 (fun W' : World=>True) (trivial) (first
        | (refine app_n (w0:=wr) (W:=_) wr.heap.size (by rfl) (.tmp 60) (.tmp 63) 27 rfl Try.underlying27 info3 (.slice (some ⟨_,0,none⟩) 0 0) [] ((betw L f t n).take m) m _ _ rfl rfl (R_empty (by first|exact blk_new (wr.drewN _) _|exact blk_alloc (blk_new (wr.drewN _) _) _|exact blk_new2 (wr.drewN _) _ _) (by omega)) (HT.out _ (by repeat (first|(with_reducible first|exact (Below.refl wr.heap.size wr)|apply zzD|apply zzE|apply zzF)|exact (Below.refl wr.heap.size wr)))) HTL.out (by repeat (first|(with_reducible first|exact (Below.refl wr.heap.size wr)|apply zzD|apply zzE|apply zzF)|exact (Below.refl wr.heap.size wr))) (Below.size (by repeat (first|(with_reducible first|exact (Below.refl wr.heap.size wr)|apply zzD|apply zzE|apply zzF)|exact (Below.refl wr.heap.size wr)))) (by rw [HTL.out];have:=HLM.out;simp;omega) ?_;intro v4 w4 ho4 hb4 hg4 ha4;rw [List.nil_append] at ho4;have R4:=Aside0.mk ho4;have B4:=Aside0.mk hb4;(try (have HX4:=Aside0.mk (show w4.heap[wr.heap.size + 1]? = some (Obj.cells #[.int .i64 (n : Int)] 3 (0,0)) from blk_grown (blk_new2 (wr.drewN _) _ _) hg4 (by simp [Value.ownBlock]))));(try (have HX4:=Aside0.mk (show w4.heap[wr.heap.size]? = some (Obj.cells #[.int .i64 (n : Int)] 3 (0,0)) from blk_grown (blk_alloc (blk_new (wr.drewN _) _) _) hg4 (by simp [Value.ownBlock]))));clear ho4 hb4 hg4 ha4)
        | (refine app_n (w0:=wr) (W:=_) wr.heap.size (by rfl) (.tmp 64) (.tmp 66) 27 rfl Try.underlying27 info3 v4 ((betw L f t n).take m) [(n : Int)] 1 _ _ rfl rfl (by repeat (first|(with_reducible first|exact R4.out|apply Kd.R_alloc|apply Kd.R_drewN|apply Kd.R_drew)|exact R4.out)) (by first|exact box_C (blk_new _ _)|exact box_C HX4.out) rfl (by repeat (first|(with_reducible first|exact B4.out|apply zzD|apply zzE|apply zzF)|exact B4.out)) (Below.size (by repeat (first|(with_reducible first|exact B4.out|apply zzD|apply zzE|apply zzF)|exact B4.out))) (by rw [HTL.out];have:=HLM.out;simp;omega) ?_;intro v7 w7 ho7 hb7 hg7 ha7;have R7:=Aside0.mk ho7;have B7:=Aside0.mk hb7;clear ho7 hb7 hg7 ha7)
        | (refine app_n (w0:=wr) (W:=_) wr.heap.size (by rfl) (.tmp 67) (.tmp 70) 27 rfl Try.underlying27 info3 v7 ((betw L f t n).take m ++ [(n : Int)]) ((betw L f t n).drop m) _ _ _ rfl rfl R7.out (HDR.out w7 B7.out) HDL.out B7.out B7.out.size (by rw [List.length_append,HTL.out,HDL.out];have:=HLM.out;simp;omega) ?_;intro v11 w11 ho11 hb11 hg11 ha11;have R11:=Aside0.mk ho11;have B11:=Aside0.mk hb11;clear ho11 hb11 hg11 ha11))
       all_goals
        try go_wp2
        go_roundw
        case rel=>exact ⟨n + 1,by omega,by first|rfl|simp,Aside0.mk (by rw [HBT.out,HI.out];exact Kd.R_lower (by first|exact R11.out|exact Kd.R_drewN R11.out _) HB.out.size),Aside0.mk (by first|exact blk_below BK.out B11.out|exact blk_drewN (blk_below BK.out B11.out) _),Aside0.mk (by first|exact below_step HB.out B11.out|exact zzE (below_step HB.out B11.out) _)⟩
        case measure=>show L.length - ((n : Int) + 1).toNat < L.length - ((n : Nat) : Int).toNat;omega
      ·obtain ⟨q,hmq⟩ : ∃ q,m = q + 1:=⟨m - 1,by omega⟩
       have k2 : decide ((m : Int) > 0) = true:=decide_eq_true (by omega)
       have k2' : decide (0 < (m : Int)) = true:=decide_eq_true (by omega)
       have k2n : decide (0 < m) = true:=decide_eq_true (by omega)
       have hq : (m : Int) - 1 = (q : Int):=by omega
       obtain ⟨_,hcc,hC⟩:=Kd.R_reads' HO.out
       obtain ⟨ao,rfl,hq0⟩:=Kd.at_int hC (q : Int) (by omega) (by omega)
       simp only [Int.toNat_natCast] at hq0
       have hmem:=betw_mem n _ (rd_nat (l:=betw L f t n) (n:=q) (by omega))
       obtain ⟨z,hz⟩ : ∃ z,rd (betw L f t n) (q : Int) = z:=⟨_,rfl⟩
       rw [hz] at hq0 hmem
       obtain ⟨ad2,e2,hz0,hz1,hz2⟩:=at_T34 (Kd.C_below HR1.out HB.out) z hmem.1 (by omega)
       obtain rfl : ad = ad2:=by injection e2
       have hzn : 0 ≤ z:=hmem.1
       have hzl : z < (L.length : Int):=by omega
       have hql : (q : Int) < ((betw L f t n).length : Int):=by omega
       by_cases h3 : (rd_T34 L z).f0 > (rd_T34 L (n : Int)).f0
       ·have k3 : decide ((rd_T34 L z).f0 > (rd_T34 L (n : Int)).f0) = true:=decide_eq_true h3
        have k3' : decide ((rd_T34 L (n : Int)).f0 < (rd_T34 L z).f0) = true:=decide_eq_true h3
        have HPQ:=Aside0.mk (show posB L (rd_T34 L (n : Int)).f0 (betw L f t n) m = posB L (rd_T34 L (n : Int)).f0 (betw L f t n) q from by rw [hmq,posB,hz,if_pos h3])
        clear h3 hz hC
        go_wp2
        repeat (go_quiet (fail);try go_wp2)
        go_roundw
        case rel=>exact ⟨q,by omega,by first|rfl|simp,Aside0.mk (by first|exact HO.out|exact Kd.R_drewN HO.out _),Aside0.mk (by first|exact BK.out|exact blk_drewN BK.out _),Aside0.mk (by first|exact HB.out|exact zzE HB.out _),Aside0.mk (HP.out.trans HPQ.out)⟩
        case measure=>show ((q : Int)).toNat < ((m : Int)).toNat;omega
       ·have k3 : decide ((rd_T34 L z).f0 > (rd_T34 L (n : Int)).f0) = false:=decide_eq_false h3
        have k3' : decide ((rd_T34 L (n : Int)).f0 < (rd_T34 L z).f0) = false:=decide_eq_false h3
        have HPM:=Aside0.mk (show posB L (rd_T34 L (n : Int)).f0 (betw L f t n) m = m from by rw [hmq,posB,hz,if_neg h3])
        have HI:=Aside0.mk (show insB L (n : Int) (betw L f t n) = (betw L f t n).take m ++ [(n : Int)] ++ (betw L f t n).drop m from by unfold insB;rw [HP.out,HPM.out])
        clear h3 hz hC hmq
        go_wp2
        repeat (go_quiet (fail);try go_wp2)
        clear hcc hq0 k2 k2' k2n k3 k3' hq hz0 hz1 hz2
        obtain ⟨A,hA⟩ : ∃ A,some ao = A:=⟨_,rfl⟩
        rw [hA] at HO ⊢
        clear hA
        have HC:=Aside0.mk (Kd.R_reads' HO.out).2.2
        have hcc : (betw L f t n).length ≤ cc:=(Kd.R_reads' HO.out).2.1
        have hmc : m ≤ cc:=by omega
        have hm0 : (0 : Int) ≤ (m : Int):=by omega
        have hmi : (m : Int) ≤ (cc : Int):=by omega
        have hmi2 : (m : Int) ≤ ((betw L f t n).length : Int):=by omega
        have HTL:=Aside0.mk (show ((betw L f t n).take m).length = m from by rw [List.length_take];omega)
        have HDL:=Aside0.mk (show ((betw L f t n).drop m).length = (betw L f t n).length - m from by rw [List.length_drop])
        have HT:=Aside0.mk (show ∀ W,Below wr.heap.size wr W → Kd.C (Kd.int .i64) W A m ((betw L f t n).take m) from fun W h=>by have:=Kd.C_take (m:=m) (Kd.C_below HC.out h) hm;rwa [HTL.out] at this)
        have HDR:=Aside0.mk (show ∀ W,Below wr.heap.size wr W → Kd.C (Kd.int .i64) W (if cc = m then A else A.map (·.add m)) ((betw L f t n).length - m) ((betw L f t n).drop m) from fun W h=>by have:=Kd.C_drop (m:=m) (c:=cc) (Kd.C_below HC.out h) hm hcc;rw [HDL.out] at this;simpa [Kd.int,Kd.scalar] using this)
        have HLM:=Aside0.mk hlm
        clear hlm
        go_region_held3 (fun W' : World=>True) (trivial) (first
         | (refine app_n (w0:=wr) (W:=_) wr.heap.size (by rfl) (.tmp 60) (.tmp 63) 27 rfl Try.underlying27 info3 (.slice (some ⟨_,0,none⟩) 0 0) [] ((betw L f t n).take m) m _ _ rfl rfl (R_empty (by first|exact blk_new (wr.drewN _) _|exact blk_alloc (blk_new (wr.drewN _) _) _|exact blk_new2 (wr.drewN _) _ _) (by omega)) (HT.out _ (by repeat (first|(with_reducible first|exact (Below.refl wr.heap.size wr)|apply zzD|apply zzE|apply zzF)|exact (Below.refl wr.heap.size wr)))) HTL.out (by repeat (first|(with_reducible first|exact (Below.refl wr.heap.size wr)|apply zzD|apply zzE|apply zzF)|exact (Below.refl wr.heap.size wr))) (Below.size (by repeat (first|(with_reducible first|exact (Below.refl wr.heap.size wr)|apply zzD|apply zzE|apply zzF)|exact (Below.refl wr.heap.size wr)))) (by rw [HTL.out];have:=HLM.out;simp;omega) ?_;intro v4 w4 ho4 hb4 hg4 ha4;rw [List.nil_append] at ho4;have R4:=Aside0.mk ho4;have B4:=Aside0.mk hb4;(try (have HX4:=Aside0.mk (show w4.heap[wr.heap.size + 1]? = some (Obj.cells #[.int .i64 (n : Int)] 3 (0,0)) from blk_grown (blk_new2 (wr.drewN _) _ _) hg4 (by simp [Value.ownBlock]))));(try (have HX4:=Aside0.mk (show w4.heap[wr.heap.size]? = some (Obj.cells #[.int .i64 (n : Int)] 3 (0,0)) from blk_grown (blk_alloc (blk_new (wr.drewN _) _) _) hg4 (by simp [Value.ownBlock]))));clear ho4 hb4 hg4 ha4)
         | (refine app_n (w0:=wr) (W:=_) wr.heap.size (by rfl) (.tmp 64) (.tmp 66) 27 rfl Try.underlying27 info3 v4 ((betw L f t n).take m) [(n : Int)] 1 _ _ rfl rfl (by repeat (first|(with_reducible first|exact R4.out|apply Kd.R_alloc|apply Kd.R_drewN|apply Kd.R_drew)|exact R4.out)) (by first|exact box_C (blk_new _ _)|exact box_C HX4.out) rfl (by repeat (first|(with_reducible first|exact B4.out|apply zzD|apply zzE|apply zzF)|exact B4.out)) (Below.size (by repeat (first|(with_reducible first|exact B4.out|apply zzD|apply zzE|apply zzF)|exact B4.out))) (by rw [HTL.out];have:=HLM.out;simp;omega) ?_;intro v7 w7 ho7 hb7 hg7 ha7;have R7:=Aside0.mk ho7;have B7:=Aside0.mk hb7;clear ho7 hb7 hg7 ha7)
         | (refine app_n (w0:=wr) (W:=_) wr.heap.size (by rfl) (.tmp 67) (.tmp 70) 27 rfl Try.underlying27 info3 v7 ((betw L f t n).take m ++ [(n : Int)]) ((betw L f t n).drop m) _ _ _ rfl rfl R7.out (HDR.out w7 B7.out) HDL.out B7.out B7.out.size (by rw [List.length_append,HTL.out,HDL.out];have:=HLM.out;simp;omega) ?_;intro v11 w11 ho11 hb11 hg11 ha11;have R11:=Aside0.mk ho11;have B11:=Aside0.mk hb11;clear ho11 hb11 hg11 ha11))
        all_goals
         try go_wp2
         go_roundw
         case rel=>exact ⟨n + 1,by omega,by first|rfl|simp,Aside0.mk (by rw [HBT.out,HI.out];exact Kd.R_lower (by first|exact R11.out|exact Kd.R_drewN R11.out _) HB.out.size),Aside0.mk (by first|exact blk_below BK.out B11.out|exact blk_drewN (blk_below BK.out B11.out) _),Aside0.mk (by first|exact below_step HB.out B11.out|exact zzE (below_step HB.out B11.out) _)⟩
         case measure=>show L.length - ((n : Int) + 1).toNat < L.length - ((n : Nat) : Int).toNat;omega
    ·have kt : ((rd_T34 L (n : Int)).f2 != t) = true:=by simp [ht]
     have HBT:=Aside0.mk (show betw L f t (n + 1) = betw L f t n from by rw [betw,if_neg (fun h=>ht h.2)])
     clear hf ht
     go_wp2
     go_roundw
     case rel=>exact ⟨n + 1,by omega,by first|rfl|simp,Aside0.mk (by rw [HBT.out];exact HO.out),BK,HB⟩
     case measure=>show L.length - ((n : Int) + 1).toNat < L.length - ((n : Nat) : Int).toNat;omega
   ·have kf : ((rd_T34 L (n : Int)).f1 != f) = true:=by simp [hf]
    have HBT:=Aside0.mk (show betw L f t (n + 1) = betw L f t n from by rw [betw,if_neg (fun h=>hf h.1)])
    clear hf
    go_wp2
    go_roundw
    case rel=>exact ⟨n + 1,by omega,by first|rfl|simp,Aside0.mk (by rw [HBT.out];exact HO.out),BK,HB⟩
    case measure=>show L.length - ((n : Int) + 1).toNat < L.length - ((n : Nat) : Int).toNat;omega
  ·have k1 : decide ((n : Int) < (L.length : Int)) = false:=decide_eq_false (by omega)
   have k1' : decide (n < L.length) = false:=decide_eq_false h1
   obtain rfl : n = L.length:=by omega
   go_wp2
   go_ret
   exact ⟨_,rfl,HO.out,HB.out⟩
end Go.Proofs.Ytgmomcjnldahjaa.Pr
namespace Go.Proofs.Ytgmomcjnldahjaa.Pr
open Go.RowKit Go.Proofs.YtgmomcjnldahjaaW.PrintWords Go.Proofs.YtgmomcjnldahjaaW.PrintLast Go.Proofs.YtgmomcjnldahjaaW.PrintMore
set_option linter.unusedVariables false
set_option linter.unusedSimpArgs false
def SB (L : List S34) (i j : Nat) : List Int:=betw L (i : Int) (j : Int) L.length
theorem posB_app (L : List S34) (t : Int) (A X : List Int) : ∀ n,n ≤ A.length → posB L t (A ++ X) n = posB L t A n
 | 0,_ => rfl
 | n + 1,h => by
  have e : rd (A ++ X) (n : Int) = rd A (n : Int):=by
   unfold rd
   rw [Int.toNat_natCast,List.getD_eq_getElem?_getD,List.getD_eq_getElem?_getD,List.getElem?_append_left (by omega)]
  unfold posB
  rw [e,posB_app L t A X n (by omega)]
def Small (L : List S34) : Prop:=∀ a : Int,0 ≤ a → a < L.length → 0 ≤ (rd_T34 L a).f0 ∧ (rd_T34 L a).f0 ≤ 99
theorem tabled_1_eq {L : List S34} (hs : Small L) {a b : Int} (ha : 0 ≤ a ∧ a < L.length) (hb : 0 ≤ b ∧ b < L.length) : canon_tabled_1.f a b L = some ((rd_T34 L a).f0 - (rd_T34 L b).f0):=by
 unfold canon_tabled_1.f
 have:=hs a ha.1 ha.2
 have:=hs b hb.1 hb.2
 rw [if_pos ha.1,if_pos ha.2,if_pos hb.1,if_pos hb.2,w64 (by omega)]
theorem sort_inner {L : List S34} (hs : Small L) (n x8 : Int) {r : List Int} (e : Int) (he : 0 ≤ e ∧ e < L.length) (hx : 0 ≤ x8 ∧ x8 ≤ 1000000) : ∀ (m : Nat) (A B : List Int),A.length = m → (∀ a ∈ A,0 ≤ a ∧ a < L.length) → (A ++ e :: B).length ≤ 1000000 →
  Ev (fun q=>slices_insertionSortCmpFunc_int.l0 q (A.take (posB L (rd_T34 L e).f0 A A.length) ++ e :: (A.drop (posB L (rd_T34 L e).f0 A A.length) ++ B)) 0 n L (x8 + 1)) r →
  Ev (fun q=>slices_insertionSortCmpFunc_int.l1 q (A ++ e :: B) 0 n L x8 (A.length : Int)) r
 | 0,A,B,hA,hin,hl,h => by
  obtain rfl : A = []:=List.eq_nil_of_length_eq_zero hA
  refine Ev.step (fun q=>?_) h
  rw [slices_insertionSortCmpFunc_int.l1,if_neg (by simp),w64 (by omega)]
  rfl
 | m + 1,A,B,hA,hin,hl,h => by
  obtain ⟨A',a,rfl⟩ : ∃ A' a,A = A' ++ [a]:=⟨A.dropLast,A.getLast (by intro e;simp [e] at hA),(List.dropLast_concat_getLast _).symm⟩
  have hlen : A'.length = m:=by simpa using hA
  have ha:=hin a (by simp)
  have e1 : rd (A' ++ [a] ++ e :: B) ((A' ++ [a]).length : Int) = e:=rd_at (rest:=B) rfl
  have e2 : rd (A' ++ [a] ++ e :: B) (A'.length : Int) = a:=rd_at (rest:=e :: B) (by simp)
  have e3 : rd (A' ++ [a]) (A'.length : Int) = a:=rd_at (rest:=[]) rfl
  have hw : wrap64 (((A' ++ [a]).length : Int) - 1) = (A'.length : Int):=by rw [w64 (by simp at hl ⊢;omega)];simp
  have hp : posB L (rd_T34 L e).f0 (A' ++ [a]) (A' ++ [a]).length = if (rd_T34 L a).f0 > (rd_T34 L e).f0 then posB L (rd_T34 L e).f0 A' A'.length else A'.length + 1:=by
   rw [show (A' ++ [a]).length = A'.length + 1 by simp,posB,e3,posB_app L _ A' [a] A'.length (Nat.le_refl _)]
  have hl1 : (A' ++ [a]).length = A'.length + 1:=by simp
  have hl2 : (A' ++ [a] ++ e :: B).length = A'.length + 2 + B.length:=by simp;omega
  by_cases hc : (rd_T34 L a).f0 > (rd_T34 L e).f0
  ·have hset : ((A' ++ [a] ++ e :: B).set ((A' ++ [a]).length : Int).toNat a).set (A'.length : Int).toNat e = A' ++ e :: a :: B:=by
    rw [Int.toNat_natCast,Int.toNat_natCast,List.append_assoc,hl1]
    rw [List.set_append_right (h:=by omega),List.set_append_right (h:=by omega)]
    simp
   have ih:=sort_inner hs n x8 (r:=r) e he hx m A' (a :: B) hlen (fun x hx'=>hin x (by simp [hx'])) (by simp at hl ⊢;omega) (by
    have hpl:=posB_le L (rd_T34 L e).f0 A' A'.length
    rw [hp,if_pos hc,List.take_append_of_le_length hpl,List.drop_append_of_le_length hpl] at h
    simpa using h)
   refine Ev.step (fun q=>?_) ih
   rw [slices_insertionSortCmpFunc_int.l1,hw,e1,e2,hset,if_pos (by omega),if_pos (by omega),if_pos (by omega),if_pos (by omega),if_pos (by omega),tabled_1_eq hs he ha,Option.bind_some,if_pos (by omega)]
  ·rw [hp,if_neg hc,List.take_of_length_le (by omega),List.drop_of_length_le (by omega)] at h
   refine Ev.step (fun q=>?_) h
   rw [slices_insertionSortCmpFunc_int.l1,hw,e1,e2,if_pos (by omega),if_pos (by omega),if_pos (by omega),if_pos (by omega),if_pos (by omega),tabled_1_eq hs he ha,Option.bind_some,if_neg (by omega),w64 (by omega)]
   rfl
theorem sort_outer {L : List S34} (hs : Small L) (n : Nat) (hn : n ≤ 1000000) : ∀ (rest A : List Int),A.length + rest.length = n → (∀ a ∈ A ++ rest,0 ≤ a ∧ a < L.length) →
  Ev (fun q=>slices_insertionSortCmpFunc_int.l0 q (A ++ rest) 0 (n : Int) L (A.length : Int)) (rest.foldl (fun acc e=>insB L e acc) A)
 | [],A,hl,_ => by
  refine Ev.step (f:=fun _=>some A) (fun q=>?_) (Ev.now _)
  rw [slices_insertionSortCmpFunc_int.l0,if_neg (by simp at hl;omega),List.append_nil]
 | e :: rest,A,hl,hin => by
  have ih:=sort_outer hs n hn rest (insB L e A) (by rw [insB_len];simp at hl;omega) (fun a ha=>by
   rcases List.mem_append.1 ha with h|h
   ·rcases insB_mem.1 h with rfl|h
    ·exact hin a (by simp)
    ·exact hin a (by simp [h])
   ·exact hin a (by simp [h]))
  have hi:=sort_inner hs (n : Int) (A.length : Int) (r:=rest.foldl (fun acc e=>insB L e acc) (insB L e A)) e (hin e (by simp)) (by simp at hl;omega) A.length A rest rfl (fun a ha=>hin a (by simp [ha])) (by simp at hl ⊢;omega) (by
   have e1 : ((A.length : Int) + 1) = ((insB L e A).length : Int):=by rw [insB_len];omega
   rw [e1]
   simpa [insB] using ih)
  refine Ev.step (fun q=>?_) hi
  rw [slices_insertionSortCmpFunc_int.l0,if_pos (by simp at hl;omega)]
theorem sort_ev {L : List S34} (hs : Small L) (l : List Int) (hl : l.length ≤ 1000000) (hin : ∀ a ∈ l,0 ≤ a ∧ a < L.length) : Ev (fun q=>slices_insertionSortCmpFunc_int.f q l 0 (l.length : Int) L) (l.foldl (fun acc e=>insB L e acc) []):=by
 cases l with
 | nil =>
  refine Ev.step (f:=fun _=>some []) (fun q=>?_) (Ev.now _)
  rw [slices_insertionSortCmpFunc_int.f,w64 (by omega),slices_insertionSortCmpFunc_int.l0,if_neg (by simp)]
 | cons x l =>
  have h:=sort_outer hs (x :: l).length hl l [x] (by simp;omega) hin
  have e1 : insB L x [] = [x]:=rfl
  rw [List.foldl_cons,e1]
  unfold slices_insertionSortCmpFunc_int.f
  rw [w64 (by omega)]
  exact h
theorem foldl_betw (L : List S34) (i j : Nat) : ∀ n,(rowE L n i j).foldl (fun acc e=>insB L e acc) [] = betw L (i : Int) (j : Int) n
 | 0 => rfl
 | n + 1 => by
  have e : rowE L (n + 1) i j = rowE L n i j ++ (if (rd_T34 L (n : Int)).f1 = (i : Int) ∧ (rd_T34 L (n : Int)).f2 = (j : Int) then [(n : Int)] else []):=by
   unfold rowE
   rw [List.range_succ,List.filter_append,List.map_append]
   congr 1
   by_cases h : (rd_T34 L (n : Int)).f1 = (i : Int) ∧ (rd_T34 L (n : Int)).f2 = (j : Int)
   ·rw [if_pos h,List.filter_cons_of_pos (by simpa using h)];rfl
   ·rw [if_neg h,List.filter_cons_of_neg (by simpa using h)];rfl
  rw [e,List.foldl_append,foldl_betw L i j n,betw]
  split <;> rfl
theorem rowE_mem {L : List S34} {n i j : Nat} : ∀ a ∈ rowE L n i j,0 ≤ a ∧ a < n:=fun a ha=>by
 unfold rowE at ha
 obtain ⟨m,hm,rfl⟩:=List.mem_map.1 ha
 have:=List.mem_range.1 (List.mem_filter.1 hm).1
 omega
theorem fits_SB {n : Nat} {L : List S34} (hL : L.length ≤ 100) : Fits n L (SB L):=fun i j _ _=>⟨Nat.le_trans (betw_len _ _ _ _) hL,fun a ha=>betw_mem _ a ha⟩
theorem ok_SB {N : List Int} {L : List S34} (hs : Small L) (hL : L.length < 20) : L.length < 20 ∧ Fits N.length L (SB L) ∧ ∀ i j,i < N.length → j < N.length → ∃ k,slices_insertionSortCmpFunc_int.f k (rowE L L.length i j) 0 ((rowE L L.length i j).length : Int) L = some (SB L i j):=by
 refine ⟨hL,fits_SB (by omega),fun i j _ _=>?_⟩
 have hl:=rowE_len L L.length i j
 have h:=sort_ev hs (rowE L L.length i j) (by omega) (fun a ha=>rowE_mem a ha)
 rw [foldl_betw] at h
 exact h.rounds
theorem small_of_valid {N : List Int} {L : List S34} (h : validE N L = 0) : Small L:=by
 have h2 : gvalidE N L = 0:=by
  unfold validE at h
  split at h
  ·rename_i h1;exact absurd h h1
  ·rename_i h1;exact Classical.byContradiction h1
 intro a h0 h1
 unfold gvalidE at h2
 split at h2
 ·exact absurd h2 (by decide)
 ·split at h2
  ·exact absurd h2 (by decide)
  ·split at h2
   ·exact absurd h2 (by decide)
   ·rename_i h3
    have hx : rd_T34 L a ∈ L:=by
     obtain ⟨m,rfl⟩:=Int.eq_ofNat_of_zero_le h0
     exact rd_mem34 (by omega)
    have h4 : fitsB (rd_T34 L a) N.length = true:=by
     apply Classical.byContradiction
     intro h5
     exact h3 (List.any_eq_true.mpr ⟨_,hx,by simpa using h5⟩)
    simp only [fitsB,withinB,Bool.and_eq_true,decide_eq_true_eq] at h4
    omega
end Go.Proofs.Ytgmomcjnldahjaa.Pr
namespace Go.Proofs.Ytgmomcjnldahjaa.Pr
open Go.RowKit Go.Proofs.YtgmomcjnldahjaaW.PrintWords Go.Proofs.YtgmomcjnldahjaaW.PrintLast Go.Proofs.YtgmomcjnldahjaaW.PrintMore
set_option linter.unusedVariables false
def scarfjointref09_between.f (l0_0 : List Int) (l0_1 : List (S34)) (a1 : Int) (a2 : Int) : Option (List Int):=if l0_1.length ≤ 1000000 then some (betw l0_1 a1 a2 l0_1.length) else none
theorem scarfjointref09_between.calls (A0_0 : Option Addr) (c0_0 : Nat) (l0_0 : List Int) (A0_1 : Option Addr) (c0_1 : Nat) (l0_1 : List (S34)) (a1 : Int) (a2 : Int) (r : List Int) (w : World) (hr0_0 : Kd.C (Kd.int .i64) w A0_0 l0_0.length l0_0) (hc0_0 : l0_0.length ≤ c0_0) (hr0_1 : Kd.C k34 w A0_1 l0_1.length l0_1) (hc0_1 : l0_1.length ≤ c0_1) (h : scarfjointref09_between.f l0_0 l0_1 a1 a2 = some r) :
  Calls Try.prog 73 #[.agg #[.slice A0_0 l0_0.length c0_0,.slice A0_1 l0_1.length c0_1],.int .i64 a1,.int .i64 a2] w fun e w'=>∃ v0_ : Value,e = .returned (v0_) ∧ Kd.R (Kd.int .i64) 3 w' w.heap.size (fun _=>True) v0_ r ∧ Below w.heap.size w w':=by
 unfold scarfjointref09_between.f at h
 split at h
 ·rename_i hl
  obtain rfl:=Option.some.inj h
  exact between_calls a1 a2 hr0_1 hc0_1 hl
 ·exact absurd h (by simp)
end Go.Proofs.Ytgmomcjnldahjaa.Pr
namespace Go.Proofs.Ytgmomcjnldahjaa.Pr
open Go.RowKit Go.Proofs.YtgmomcjnldahjaaW.PrintWords Go.Proofs.YtgmomcjnldahjaaW.PrintLast Go.Proofs.YtgmomcjnldahjaaW.PrintMore
attribute [local go_sem] max2_int min2_int max_two min_two max_three min_three max_four min_four
set_option linter.unusedVariables false
set_option linter.unusedSimpArgs false
def scarfjointref09_types.l0 : Nat → List Int → List Int → Int → List Int → List (S34) → Option (List Int)
 | 0,_,_,_,_,_ => none
 | k + 1,x7,x8,x9,x269000,x269001 => if x9 < (x7.length : Int) then (if 0 ≤ x9 then (if 0 ≤ (rd x7 x9) then (if (rd x7 x9) < (x269001.length : Int) then (if x8.length < 17592186044416 then (scarfjointref09_types.l0 k x7 (x8 ++ [(rd_T34 x269001 (rd x7 x9)).f0]) (wrap64 (x9 + 1)) x269000 x269001) else (none)) else (none)) else (none)) else (none)) else (some x8)
def scarfjointref09_types.f (k : Nat) (l0_0 : List Int) (l0_1 : List (S34)) (a1 : Int) (a2 : Int) : Option (List Int):=(scarfjointref09_between.f l0_0 l0_1 a1 a2).bind fun t269=>(scarfjointref09_types.l0 k t269 (([(t269.length : Int)] : List Int)) 0 l0_0 l0_1)
def scarfjointref09_types.T6 : Bool × List (List Nat × List Nat):=(true,[([],[]),([],[]),([1],[1]),([],[]),([],[]),([3,4],[3,4]),([5],[5]),([2,6],[2,6]),([7],[7]),([8],[8]),([9],[9]),([0,10],[0,10]),([11,11,0,1,2,3,4,5,6,7,8,9,10,11],[0,11])])
def scarfjointref09_types.B6 : List Nat:=[0,0,2,0,0,24,56,126,254,510,1022,2047,4095]
theorem scarfjointref09_types.tab6 : rtab .any (opsOf Try.f85 6) = scarfjointref09_types.T6:=by kernel_rfl
theorem scarfjointref09_types.bits6 : waitsOk scarfjointref09_types.T6.2 scarfjointref09_types.B6 = true:=by kernel_rfl
set_option maxHeartbeats 8000000 in
set_option maxRecDepth 100000 in
theorem scarfjointref09_types.calls (k : Nat) (A0_0 : Option Addr) (c0_0 : Nat) (l0_0 : List Int) (A0_1 : Option Addr) (c0_1 : Nat) (l0_1 : List (S34)) (a1 : Int) (a2 : Int) (r : List Int) (w : World) (hr0_0 : Kd.C (Kd.int .i64) w A0_0 l0_0.length l0_0) (hc0_0 : l0_0.length ≤ c0_0) (hr0_1 : Kd.C k34 w A0_1 l0_1.length l0_1) (hc0_1 : l0_1.length ≤ c0_1) (h : scarfjointref09_types.f k l0_0 l0_1 a1 a2 = some r) :
  Calls Try.prog 85 #[.agg #[.slice A0_0 l0_0.length c0_0,.slice A0_1 l0_1.length c0_1],.int .i64 a1,.int .i64 a2] w fun e w'=>∃ v0_ : Value,e = .returned (v0_) ∧ Kd.R (Kd.int .i64) 3 w' w.heap.size (fun _=>True) v0_ r ∧ Below w.heap.size w w':=by
 have hu30:=Try.underlying30
 have HR0_0:=Aside0.mk hr0_0
 have HC0_0:=Aside0.mk hc0_0
 clear hr0_0 hc0_0
 have HR0_1:=Aside0.mk hr0_1
 have HC0_1:=Aside0.mk hc0_1
 clear hr0_1 hc0_1
 have HB:=Aside0.mk (Below.refl w.heap.size w)
 have H : ((scarfjointref09_between.f l0_0 l0_1 a1 a2).bind fun t269=>(scarfjointref09_types.l0 k t269 (([(t269.length : Int)] : List Int)) 0 l0_0 l0_1)) = some r:=h
 clear h
 replace H:=Option.bind_eq_some_iff.mp H
 obtain ⟨t269,A40,H⟩:=H
 replace H : (scarfjointref09_types.l0 k t269 (([(t269.length : Int)] : List Int)) 0 l0_0 l0_1) = some r:=H
 have A4:=Aside0.mk A40
 clear A40
 obtain ⟨y272,hy272⟩ : ∃ y_ : List Int,y_ = (([(t269.length : Int)] : List Int)):=⟨_,rfl⟩
 replace H : (scarfjointref09_types.l0 k t269 y272 0 l0_0 l0_1) = some r:=by first|(rw [hy272];with_reducible exact H)|(have H2_:=(Option.bind_some _ _).symm.trans H;rw [hy272];with_reducible exact H2_)|(have H2_:=(Option.bind_some _ _).symm.trans H;with_reducible exact H2_)|with_reducible exact H|(rw [hy272];exact H)|exact H
 have Ny272:=Aside0.mk hy272
 clear hy272
 have H':=Aside0.mk H
 clear H
 go_enter Try.func85,Try.ntmps85
 go_wp2_with (first|((with_reducible refine gate_dst (N:=3) rfl ?_);refine box_event ?hg (N:=3) ?hd (cs:=#[.slice A0_0 l0_0.length c0_0,.slice A0_1 l0_1.length c0_1]) (t:=30) ?hr ?_;(case hd=>rfl);(case hg=>rfl);(case hr=>first|(go_simp;done)|(go_simp;rfl));intro gb268 hg w5 hbox hb;have n0_:=Aside0.mk (below_step (by repeat (first|(with_reducible first|exact HB.out|apply zzD|apply zzE|apply zzF)|exact HB.out)) hb);have n1_:=Aside0.mk (hbox);have n2_:=Aside0.mk ((by rw [hg];exact (below_size (by repeat (first|(with_reducible first|exact HB.out|apply zzD|apply zzE|apply zzF)|exact HB.out))) : w.heap.size ≤ gb268));have n3_:=Aside0.mk ((by rw [hg];exact (below_size (by repeat (first|(with_reducible first|exact HB.out|apply zzD|apply zzE|apply zzF)|exact HB.out))) : w.heap.size ≤ gb268));clear HB;have HB:=n0_;have BK268:=n1_;have GW268:=n2_;have GE268:=n3_;clear n0_ n1_ n2_ n3_;clear hb hbox hg;have hcz6_0 : w5.cell? ⟨gb268,0,none⟩ = some (.slice A0_0 l0_0.length c0_0):=(blk_cell BK268.out 0).trans rfl;have hcz6_1 : w5.cell? ⟨gb268,1,none⟩ = some (.slice A0_1 l0_1.length c0_1):=(blk_cell BK268.out 1).trans rfl;have hfz6_0:=blk_frozen BK268.out 0;have hfz6_1:=blk_frozen BK268.out 1)|((with_reducible refine gate_callee (f:=73) rfl ?_);refine goesL_ (some 13) rfl rfl Try.func73 (by kernel_rfl) rfl #[.agg #[.slice A0_0 l0_0.length c0_0,.slice A0_1 l0_1.length c0_1],.int .i64 a1,.int .i64 a2] rfl (by (try simp only [List.map_toArray,List.map_cons,List.map_nil]);first|done|rfl|(simp only [List.length_drop,List.length_take];rfl)) ?_;(with_reducible refine (scarfjointref09_between.calls _ _ l0_0 _ _ l0_1 a1 a2 t269 _ ?side1 ?side2 ?side3 ?side4 A4.out).mono ?_);(case side1=>repeat (first|exact (Kd.C_below HR0_0.out HB.out)|(with_reducible refine Kd.C_alloc ?_ _)|(with_reducible refine Kd.C_drewN ?_ _)|(with_reducible refine Kd.C_drew ?_)));(case side2=>exact HC0_0.out);(case side3=>repeat (first|exact (Kd.C_below HR0_1.out HB.out)|(with_reducible refine Kd.C_alloc ?_ _)|(with_reducible refine Kd.C_drewN ?_ _)|(with_reducible refine Kd.C_drew ?_)));(case side4=>exact HC0_1.out);rintro e w7 ⟨v270,rfl,ho0,hb⟩;refine ⟨_,rfl,?_⟩;have n0_:=Aside0.mk (Kd.R_lower ho0 (below_size (by repeat (first|(with_reducible first|exact HB.out|apply zzD|apply zzE|apply zzF|refine below_set ?_ GE268.out)|exact HB.out))));have n1_:=Aside0.mk (blk_below (g:=gb268) (o:=.cells #[.slice A0_0 l0_0.length c0_0,.slice A0_1 l0_1.length c0_1] 30 (0,0)) (by (with_reducible repeat (first|refine blk_drewN ?_ _|refine blk_drew ?_|refine blk_alloc ?_ _));exact BK268.out) hb);have n2_:=Aside0.mk (below_step (by repeat (first|(with_reducible first|exact HB.out|apply zzD|apply zzE|apply zzF|refine below_set ?_ GE268.out)|exact HB.out)) hb);clear BK268;clear HB;have HO271:=n0_;have BK268:=n1_;have HB:=n2_;clear n0_ n1_ n2_;(try clear hb);(try clear hb2);(try clear hk);(try clear hi);(try clear ho0);obtain ⟨Ao8,co8,eo8⟩:=Kd.R_slice HO271.out;subst eo8)|((with_reducible refine gate_dst (N:=16) rfl ?_);refine Kd.R_lit (Kd.int .i64) _ 3 ?hg (N:=16) ?hd (xs:=([(t269.length : Int)] : List Int)) (inner:=[.int .i64 (t269.length : Int)]) (ok:=fun _=>True) (okp:=fun _=>True) ?hr ?hp (fun _ hk=>hk) trivial (Below.refl _ _) (Nat.le_refl _) (by simp) ?_;(case hd=>rfl);(case hg=>rfl);(case hr=>first|(go_simp;done)|(go_simp;rfl));(case hp=>exact (Reps.one (show Kd.M (Kd.int .i64) _ _ _ (t269.length : Int) [.int .i64 (t269.length : Int)] from rfl) (Reps.none _ _)));intro v273 w9 ho10 hb hg_ hnew_;clear hg_ hnew_;(first|rw [← Ny272.out] at ho10|(simp only [Int.reduceToNat] at ho10;rw [← Ny272.out] at ho10));have n0_:=Aside0.mk (Kd.R_elder' (by (with_reducible repeat (first|apply Kd.R_alloc|apply Kd.R_drewN|apply Kd.R_drew));exact HO271.out) (Kd.R_base ho10) hb);have n1_:=Aside0.mk (Kd.R_lower (Kd.R_new' ho10 (Kd.R_lt (by (with_reducible repeat (first|apply Kd.R_alloc|apply Kd.R_drewN|apply Kd.R_drew));exact HO271.out))) (below_size (by repeat (first|(with_reducible first|exact HB.out|apply zzD|apply zzE|apply zzF|refine below_set ?_ GE268.out)|exact HB.out))));have n2_:=Aside0.mk (blk_below (g:=gb268) (o:=.cells #[.slice A0_0 l0_0.length c0_0,.slice A0_1 l0_1.length c0_1] 30 (0,0)) (by (with_reducible repeat (first|refine blk_drewN ?_ _|refine blk_drew ?_|refine blk_alloc ?_ _));exact BK268.out) hb);have n3_:=Aside0.mk (below_step (by repeat (first|(with_reducible first|exact HB.out|apply zzD|apply zzE|apply zzF|refine below_set ?_ GE268.out)|exact HB.out)) hb);clear HO271;clear BK268;clear HB;have HO271:=n0_;have HO274:=n1_;have BK268:=n2_;have HB:=n3_;clear n0_ n1_ n2_ n3_;clear hb ho10))
 go_loopg [8,9] k (fun kq v8 v9 w'=>∃ (x8_1 : List Int) (x9_1 : Int),v9 = .int .i64 x9_1 ∧ Aside0 (scarfjointref09_types.l0 kq t269 x8_1 x9_1 l0_0 l0_1 = some r) ∧ Aside0 (kq ≤ k) ∧ Aside0 (Kd.R (Kd.int .i64) 3 w' w.heap.size (fun k_=>some k_ ≠ (v8 : Value).ownBlock) (.slice Ao8 t269.length co8) t269) ∧ Aside0 (Kd.R (Kd.int .i64) 3 w' w.heap.size (fun k_=>some k_ ≠ ((.slice Ao8 t269.length co8) : Value).ownBlock) v8 x8_1) ∧ Aside0 (w'.heap[gb268]? = some (.cells #[(.slice A0_0 l0_0.length c0_0),(.slice A0_1 l0_1.length c0_1)] 30 (0,0))) ∧ Aside0 (Below w.heap.size w w'))
 case atStart=>exact ⟨(y272),(0),(by first|rfl|(simp;done)|(simp [*];done)),H',⟨Nat.le_refl _⟩,⟨by (with_reducible repeat (first|apply Kd.R_alloc|apply Kd.R_drewN|apply Kd.R_drew));exact Kd.R_mono HO271.out (fun _ hk=>hk.2)⟩,⟨by (with_reducible repeat (first|apply Kd.R_alloc|apply Kd.R_drewN|apply Kd.R_drew));exact Kd.R_mono HO274.out (fun _ hk=>hk.2)⟩,⟨by (with_reducible repeat (first|refine blk_drewN ?_ _|refine blk_drew ?_|refine blk_alloc ?_ _));exact BK268.out⟩,⟨by repeat (first|(with_reducible first|exact HB.out|apply zzD|apply zzE|apply zzF|refine below_set ?_ GE268.out)|exact HB.out)⟩⟩
 case round =>
  clear H'
  try clear p2
  try clear c7
  try clear c8
  try clear hcz6_0
  try clear hcz6_1
  try clear hfz6_0
  try clear hfz6_1
  obtain ⟨x8_1,x9_1,rfl,HA,HK1,HO_7,HO_8,BK268,HB⟩:=hrel
  cases gk with
  | zero => exact absurd HA.out (by simp [scarfjointref09_types.l0])
  | succ k1 =>
   have H:=HA.out
   clear HA
   simp only [scarfjointref09_types.l0] at H
   by_cases c11 : x9_1 < (t269.length : Int)
   ·rw [if_pos c11] at H
    have c11b0 : decide (x9_1 < (t269.length : Int)) = true:=decide_eq_true c11
    clear c11
    by_cases c12 : 0 ≤ x9_1
    ·rw [if_pos c12] at H
     have c12b0 : decide (0 ≤ x9_1) = true:=decide_eq_true c12
     clear c12
     by_cases c13 : 0 ≤ (rd t269 x9_1)
     ·rw [if_pos c13] at H
      have c13b0 : decide (0 ≤ (rd t269 x9_1)) = true:=decide_eq_true c13
      clear c13
      by_cases c14 : (rd t269 x9_1) < (l0_1.length : Int)
      ·rw [if_pos c14] at H
       have c14b0 : decide ((rd t269 x9_1) < (l0_1.length : Int)) = true:=decide_eq_true c14
       clear c14
       by_cases c15 : x8_1.length < 17592186044416
       ·rw [if_pos c15] at H
        have LMc15:=Aside0.mk c15
        clear c15
        obtain ⟨y277,hy277⟩ : ∃ y_ : List Int,y_ = (x8_1 ++ [(rd_T34 l0_1 (rd t269 x9_1)).f0]):=⟨_,rfl⟩
        replace H : (scarfjointref09_types.l0 k1 t269 y277 (wrap64 (x9_1 + 1)) l0_0 l0_1) = some r:=by first|(rw [hy277];with_reducible exact H)|(have H2_:=(Option.bind_some _ _).symm.trans H;rw [hy277];with_reducible exact H2_)|(have H2_:=(Option.bind_some _ _).symm.trans H;with_reducible exact H2_)|with_reducible exact H|(rw [hy277];exact H)|exact H
        have Ny277:=Aside0.mk hy277
        clear hy277
        have H':=Aside0.mk H
        clear H
        try go_wp2
        have n0_:=Aside0.mk (Kd.R_drew HO_7.out)
        have n1_:=Aside0.mk (Kd.R_drew HO_8.out)
        have n2_:=Aside0.mk (blk_drew BK268.out)
        have n3_:=Aside0.mk (zzF HB.out)
        clear HO_7
        clear HO_8
        clear BK268
        clear HB
        have HO_7:=n0_
        have HO_8:=n1_
        have BK268:=n2_
        have HB:=n3_
        clear n0_ n1_ n2_ n3_
        have p275 : 0 ≤ (x9_1 : Int):=of_decide_eq_true (by first|(with_reducible assumption)|assumption)
        have q275 : x9_1 < (t269.length : Int):=of_decide_eq_true (by first|(with_reducible assumption)|assumption)
        obtain ⟨ad275,e275,hx275_0⟩:=Kd.at_int (Kd.R_reads' HO_7.out).2.2 x9_1 p275 q275
        cases e275
        replace p275:=eq_true p275
        replace q275:=eq_true q275
        have p276 : 0 ≤ ((rd t269 x9_1) : Int):=of_decide_eq_true (by first|(with_reducible assumption)|assumption)
        have q276 : (rd t269 x9_1) < (l0_1.length : Int):=of_decide_eq_true (by first|(with_reducible assumption)|assumption)
        obtain ⟨ad276,e276,hx276_0,hx276_1,hx276_2⟩:=at_T34 HR0_1.out (rd t269 x9_1) p276 q276
        have hw276_2:=hx276_2
        have hw276_1:=hx276_1
        have hw276_0:=hx276_0
        cases e276
        replace hx276_0:=(HB.out.cell (World.block_lt_of_cell? w _ hx276_0)).trans hx276_0
        replace hx276_1:=(HB.out.cell (World.block_lt_of_cell? w _ hx276_1)).trans hx276_1
        replace hx276_2:=(HB.out.cell (World.block_lt_of_cell? w _ hx276_2)).trans hx276_2
        replace p276:=eq_true p276
        replace q276:=eq_true q276
        refine start_ (n:=13) (S:=fun w'=>w'.cell? ⟨gb268,0,none⟩ = some (.slice A0_0 l0_0.length c0_0) ∧ w'.cell? ⟨gb268,1,none⟩ = some (.slice (some ad276) l0_1.length c0_1) ∧ w'.cell? (ad275.add (x9_1).toNat) = some (.int .i64 (rd t269 x9_1)) ∧ w'.cell? (ad276.add (((rd t269 x9_1)).toNat * 3)) = some (.int .i64 ((rd_T34 l0_1 (rd t269 x9_1)).f0)) ∧ w'.cell? ⟨(ad276.add (((rd t269 x9_1)).toNat * 3)).block,(ad276.add (((rd t269 x9_1)).toNat * 3)).off + 1,none⟩ = some (.int .i64 ((rd_T34 l0_1 (rd t269 x9_1)).f1)) ∧ w'.cell? ⟨(ad276.add (((rd t269 x9_1)).toNat * 3)).block,(ad276.add (((rd t269 x9_1)).toNat * 3)).off + 2,none⟩ = some (.int .i64 ((rd_T34 l0_1 (rd t269 x9_1)).f2))) (ds:=[10,11]) #[false,false,false,false,false,false,false,false,false,false,false,false,false] (by kernel_rfl) rfl rfl ⟨(blk_cell BK268.out 0).trans rfl,(blk_cell BK268.out 1).trans rfl,hx275_0,((HB.out.cell (World.block_lt_of_cell? w _ hw276_0)).trans hw276_0),((HB.out.cell (World.block_lt_of_cell? w _ hw276_1)).trans hw276_1),((HB.out.cell (World.block_lt_of_cell? w _ hw276_2)).trans hw276_2)⟩ (fun hHeld=>?_);refine with_tabW scarfjointref09_types.tab6 scarfjointref09_types.bits6 (fun HT_ HW_=>?_)
        generalize wr.drew = w16 at HO_7 HO_8 BK268 HB hx275_0 hx276_0 hx276_1 hx276_2 hHeld ⊢
        refine pure_ (i:=0) (N:=some 23) (v:=?_) (a':=?_) #[true,false,false,false,false,false,false,false,false,false,false,false,false] rfl rfl (any_of HT_.out (by kernel_rfl)) (fun _ _ _ h=>h) (Or.inl ⟨by rfl,?_⟩) ?_ ?_
        rotate_left
        ·intro w'
         go_simp
         with_reducible rfl
        rotate_left
        ·simp only [Act.put,zzA,zzB,zzC,i64_w,i32_w]
         rfl
        refine pure_ (i:=1) (N:=some 24) (v:=?_) (a':=?_) #[true,true,false,false,false,false,false,false,false,false,false,false,false] rfl rfl (any_of HT_.out (by kernel_rfl)) (fun _ _ _ h=>h) (Or.inl ⟨by rfl,?_⟩) ?_ ?_
        rotate_left
        ·intro w'
         go_simp
         with_reducible rfl
        rotate_left
        ·simp only [Act.put,zzA,zzB,zzC,i64_w,i32_w]
         rfl
        refine pure_ (i:=3) (N:=some 26) (v:=?_) (a':=?_) #[true,true,false,true,false,false,false,false,false,false,false,false,false] rfl rfl (any_of HT_.out (by kernel_rfl)) (fun _ _ _ h=>h) (Or.inl ⟨by rfl,?_⟩) ?_ ?_
        rotate_left
        ·intro w'
         go_simp
         with_reducible rfl
        rotate_left
        ·simp only [Act.put,zzA,zzB,zzC,i64_w,i32_w]
         rfl
        refine pure_ (i:=4) (N:=some 27) (v:=?_) (a':=?_) #[true,true,false,true,true,false,false,false,false,false,false,false,false] rfl rfl (any_of HT_.out (by kernel_rfl)) (fun _ _ _ h=>h) (Or.inl ⟨by rfl,?_⟩) ?_ ?_
        rotate_left
        ·intro w'
         go_simp
         with_reducible rfl
        rotate_left
        ·simp only [Act.put,zzA,zzB,zzC,i64_w,i32_w]
         rfl
        refine pure_ (i:=5) (N:=some 28) (v:=?_) (a':=?_) #[true,true,false,true,true,true,false,false,false,false,false,false,false] rfl rfl (any_of HT_.out (by kernel_rfl)) (fun _ _ _ h=>h) (Or.inl ⟨by rfl,?_⟩) ?_ ?_
        rotate_left
        ·intro w'
         go_simp
         with_reducible rfl
        rotate_left
        ·simp only [Act.put,zzA,zzB,zzC,i64_w,i32_w]
         rfl
        refine take_ (i:=2) (N:=some 25) (v:=?_) (a':=?_) #[true,true,true,true,true,true,false,false,false,false,false,false,false] rfl rfl (take_ofW HT_.out HW_.out (by kernel_rfl)) (fun _ _ _ h=>h) (Or.inl ⟨by rfl,?_⟩) hHeld ?_ ?_
        rotate_left
        ·rintro w' ⟨s0,s1,s2,s3,s4,s5⟩
         go_simp
         with_reducible rfl
        rotate_left
        ·simp only [Act.put,zzA,zzB,zzC,i64_w,i32_w]
         rfl
        refine take_ (i:=6) (N:=some 29) (v:=?_) (a':=?_) #[true,true,true,true,true,true,true,false,false,false,false,false,false] rfl rfl (take_ofW HT_.out HW_.out (by kernel_rfl)) (fun _ _ _ h=>h) (Or.inl ⟨by rfl,?_⟩) hHeld ?_ ?_
        rotate_left
        ·rintro w' ⟨s0,s1,s2,s3,s4,s5⟩
         go_simp
         with_reducible rfl
        rotate_left
        ·simp only [Act.put,zzA,zzB,zzC,i64_w,i32_w]
         rfl
        refine pure_ (i:=7) (N:=some 30) (v:=?_) (a':=?_) #[true,true,true,true,true,true,true,true,false,false,false,false,false] rfl rfl (any_of HT_.out (by kernel_rfl)) (fun _ _ _ h=>h) (Or.inl ⟨by rfl,?_⟩) ?_ ?_
        rotate_left
        ·intro w'
         go_simp
         with_reducible rfl
        rotate_left
        ·simp only [Act.put,zzA,zzB,zzC,i64_w,i32_w]
         rfl
        refine pure_ (i:=8) (N:=some 31) (v:=?_) (a':=?_) #[true,true,true,true,true,true,true,true,true,false,false,false,false] rfl rfl (any_of HT_.out (by kernel_rfl)) (fun _ _ _ h=>h) (Or.inl ⟨by rfl,?_⟩) ?_ ?_
        rotate_left
        ·intro w'
         go_simp
         with_reducible rfl
        rotate_left
        ·simp only [Act.put,zzA,zzB,zzC,i64_w,i32_w]
         rfl
        refine take_ (i:=9) (N:=some 32) (v:=?_) (a':=?_) #[true,true,true,true,true,true,true,true,true,true,false,false,false] rfl rfl (take_ofW HT_.out HW_.out (by kernel_rfl)) (fun _ _ _ h=>h) (Or.inl ⟨by rfl,?_⟩) hHeld ?_ ?_
        rotate_left
        ·rintro w' ⟨s0,s1,s2,s3,s4,s5⟩
         go_simp
         with_reducible rfl
        rotate_left
        ·simp only [Act.put,zzA,zzB,zzC,i64_w,i32_w]
         rfl
        refine last_ (i:=10) (N:=some 33) #[true,true,true,true,true,true,true,true,true,true,true,false,false] rfl rfl (one_of HT_.out (by kernel_rfl)) (by decide) (fun K hK=>?_)
        refine value_ (w1:=?_) (v:=?_) (by rfl) rfl ?_ ?_
        rotate_left 2
        ·go_simp
         constructor
         ·rfl
         ·rfl
        refine hK.out _ _ ?_
        clear hK K
        refine norm_ (a':=?_) ?_ ?_
        rotate_left
        ·show Act.put _ (some 33) _ = _
         simp only [Act.put,zzA,zzB,zzC,i64_w,i32_w]
         rfl
        refine last_ (i:=11) (N:=some 34) #[true,true,true,true,true,true,true,true,true,true,true,true,false] rfl rfl (one_of HT_.out (by kernel_rfl)) (by decide) (fun K hK=>?_)
        refine Kd.R_append_step (Kd.int .i64) (w0:=w) w.heap.size (by rfl) (.tmp 23) (.tmp 33) 27 3 (.int .i64 0) 8 rfl Try.underlying27 info3 rfl (by decide) (by omega) u8 x8_1 ((rd_T34 l0_1 (rd t269 x9_1)).f0) [.int .i64 ((rd_T34 l0_1 (rd t269 x9_1)).f0)] (fun k_=>some k_ ≠ (.slice (some ad275) t269.length co8 : Value).ownBlock) (fun _=>False) rfl rfl ?aP (fun _ hk=>hk.elim) ?aF ?aO ?aB ?aS ?aL ?_
        (case aP=>exact rfl)
        (case aB=>exact (by repeat (first|(with_reducible first|exact HB.out|apply zzD|apply zzE|apply zzF|refine below_set ?_ GE268.out)|exact HB.out)))
        (case aF=>exact (fun k_ hk=>Kd.fresh' (Kd.R_lt (by (with_reducible repeat (first|apply Kd.R_alloc|apply Kd.R_drewN|apply Kd.R_drew));exact HO_7.out)) k_ hk))
        (case aO=>exact (by (with_reducible repeat (first|apply Kd.R_alloc|apply Kd.R_drewN|apply Kd.R_drew));exact HO_8.out))
        (case aS=>exact (below_size (by repeat (first|(with_reducible first|exact HB.out|apply zzD|apply zzE|apply zzF|refine below_set ?_ GE268.out)|exact HB.out))))
        (case aL=>have:=LMc15.out;omega)
        intro v278 w17 ho hb hg hat
        rw [← Ny277.out] at ho
        have n0_:=Aside0.mk (Kd.R_after (ok:=(fun _=>True)) (by (with_reducible repeat (first|apply Kd.R_alloc|apply Kd.R_drewN|apply Kd.R_drew));exact Kd.R_mono HO_7.out (fun _ hk=>⟨trivial,hk⟩)) hg hat)
        have n1_:=Aside0.mk (blk_grown (g:=gb268) (o:=.cells #[.slice A0_0 l0_0.length c0_0,.slice (some ad276) l0_1.length c0_1] 30 (0,0)) (by (with_reducible repeat (first|refine blk_drewN ?_ _|refine blk_drew ?_|refine blk_alloc ?_ _));exact BK268.out) hg (Kd.R_ne HO_8.out BK268.out (by decide)))
        have n2_:=Aside0.mk (hb)
        have n3_:=Aside0.mk (ho)
        clear HO_7
        clear BK268
        clear HB
        clear HO_8
        have HO_7:=n0_
        have BK268:=n1_
        have HB:=n2_
        have HO279:=n3_
        clear n0_ n1_ n2_ n3_
        clear ho hb hg hat
        refine hK.out _ _ ?_
        clear hK K
        refine norm_ (a':=?_) ?_ ?_
        rotate_left
        ·show Act.put _ (some 34) _ = _
         simp only [Act.put,zzA,zzB,zzC,i64_w,i32_w]
         rfl
        refine pure_ (i:=12) (N:=some 8) (v:=?_) (a':=?_) #[true,true,true,true,true,true,true,true,true,true,true,true,true] rfl rfl (any_of HT_.out (by kernel_rfl)) (fun _ _ _ h=>h) (Or.inl ⟨by rfl,?_⟩) ?_ ?_
        rotate_left
        ·intro w'
         go_simp
         with_reducible rfl
        rotate_left
        ·simp only [Act.put,zzA,zzB,zzC,i64_w,i32_w]
         rfl
        refine done_ (done_of HT_.out (by kernel_rfl)) ?_
        try go_wp2
        go_roundg k1
        case measure=>have:=HK1.out;omega
        case rel=>exact ⟨(y277),(wrap64 (x9_1 + 1)),(by first|rfl|(simp;done)|(simp [*];done)),H',⟨by have:=HK1.out;omega⟩,⟨by (with_reducible repeat (first|apply Kd.R_alloc|apply Kd.R_drewN|apply Kd.R_drew));exact Kd.R_mono HO_7.out (fun _ hk=>hk.2)⟩,⟨by (with_reducible repeat (first|apply Kd.R_alloc|apply Kd.R_drewN|apply Kd.R_drew));exact HO279.out⟩,⟨by (with_reducible repeat (first|refine blk_drewN ?_ _|refine blk_drew ?_|refine blk_alloc ?_ _));exact BK268.out⟩,⟨by repeat (first|(with_reducible first|exact HB.out|apply zzD|apply zzE|apply zzF|refine below_set ?_ GE268.out)|exact HB.out)⟩⟩
       ·rw [if_neg c15] at H
        exact absurd H (by simp)
      ·rw [if_neg c14] at H
       exact absurd H (by simp)
     ·rw [if_neg c13] at H
      exact absurd H (by simp)
    ·rw [if_neg c12] at H
     exact absurd H (by simp)
   ·rw [if_neg c11] at H
    have c11b0 : decide (x9_1 < (t269.length : Int)) = false:=decide_eq_false c11
    clear c11
    obtain rfl:=Option.some.inj H
    go_wp2
    go_ret
    exact ⟨_,by first|rfl|(simp [errW_none,errW_some] <;> rfl)|(simp [*,errW_none,errW_some] <;> rfl),by (with_reducible repeat (first|apply Kd.R_alloc|apply Kd.R_drewN|apply Kd.R_drew));exact Kd.R_mono HO_8.out (fun _ hk=>trivial),by repeat (first|(with_reducible first|exact HB.out|apply zzD|apply zzE|apply zzF|refine below_set ?_ GE268.out)|exact HB.out)⟩
end Go.Proofs.Ytgmomcjnldahjaa.Pr
namespace Go.Proofs.Ytgmomcjnldahjaa.Pr
open Go.RowKit Go.Proofs.YtgmomcjnldahjaaW.PrintWords Go.Proofs.YtgmomcjnldahjaaW.PrintLast Go.Proofs.YtgmomcjnldahjaaW.PrintMore
attribute [local go_sem] max2_int min2_int max_two min_two max_three min_three max_four min_four
set_option linter.unusedVariables false
set_option linter.unusedSimpArgs false
def scarfjointref09_piece.l0 : Nat → List Int → Int → List Int → Int → List Int → List (S34) → Option (List Int)
 | 0,_,_,_,_,_,_ => none
 | k + 1,x1,x5,x6,x7,x281000,x281001 => if (wrap64 (x7 + 1)) < (x1.length : Int) then (if 0 ≤ x7 then (if x7 < (x1.length : Int) then ((scarfjointref09_types.f k x281000 x281001 (rd x1 x7) x5).bind fun t287 => (if x6.length + t287.length < 17592186044416 then ((some (x6 ++ t287 : List Int)).bind fun y290 => ((scarfjointref09_types.f k x281000 x281001 x5 (rd x1 x7)).bind fun t294 => (if y290.length + t294.length < 17592186044416 then (scarfjointref09_piece.l0 k x1 x5 (y290 ++ t294) (wrap64 (x7 + 1)) x281000 x281001) else (none)))) else (none))) else (none)) else (none)) else ((scarfjointref09_types.f k x281000 x281001 x5 x5).bind fun t300 => (if x6.length + t300.length < 17592186044416 then (some (x6 ++ t300)) else (none)))
def scarfjointref09_piece.f (k : Nat) (l0_0 : List Int) (l0_1 : List (S34)) (l1 : List Int) : Option (List Int):=if 0 ≤ (wrap64 ((l1.length : Int) - 1)) then (if (wrap64 ((l1.length : Int) - 1)) < (l1.length : Int) then (if 0 ≤ (rd l1 (wrap64 ((l1.length : Int) - 1))) then (if (rd l1 (wrap64 ((l1.length : Int) - 1))) < (l0_0.length : Int) then (scarfjointref09_piece.l0 k l1 (rd l1 (wrap64 ((l1.length : Int) - 1))) (([rd l0_0 (rd l1 (wrap64 ((l1.length : Int) - 1)))] : List Int)) 0 l0_0 l0_1) else (none)) else (none)) else (none)) else (none)
def scarfjointref09_piece.T6 : Bool × List (List Nat × List Nat):=(true,[([],[]),([],[]),([],[]),([],[]),([2,3],[2,3]),([4],[4]),([],[]),([1,5,6],[1,5,6]),([0,7,7],[0,7]),([8,8,0,1,2,3,4,5,6,7,8],[0,8])])
def scarfjointref09_piece.B6 : List Nat:=[0,0,0,0,12,28,0,126,255,511]
theorem scarfjointref09_piece.tab6 : rtab .any (opsOf Try.f70 6) = scarfjointref09_piece.T6:=by kernel_rfl
theorem scarfjointref09_piece.bits6 : waitsOk scarfjointref09_piece.T6.2 scarfjointref09_piece.B6 = true:=by kernel_rfl
def scarfjointref09_piece.T7 : Bool × List (List Nat × List Nat):=(true,[([],[]),([],[]),([],[]),([],[]),([],[]),([3,4],[3,4]),([5],[5]),([1,2,6],[1,2,6]),([0,7,7],[0,7]),([8,8,0,1,2,3,4,5,6,7,8],[0,8])])
def scarfjointref09_piece.B7 : List Nat:=[0,0,0,0,0,24,56,126,255,511]
theorem scarfjointref09_piece.tab7 : rtab .any (opsOf Try.f70 7) = scarfjointref09_piece.T7:=by kernel_rfl
theorem scarfjointref09_piece.bits7 : waitsOk scarfjointref09_piece.T7.2 scarfjointref09_piece.B7 = true:=by kernel_rfl
set_option maxHeartbeats 8000000 in
set_option maxRecDepth 100000 in
theorem scarfjointref09_piece.calls (k : Nat) (A0_0 : Option Addr) (c0_0 : Nat) (l0_0 : List Int) (A0_1 : Option Addr) (c0_1 : Nat) (l0_1 : List (S34)) (A1 : Option Addr) (c1 : Nat) (l1 : List Int) (r : List Int) (w : World) (hr0_0 : Kd.C (Kd.int .i64) w A0_0 l0_0.length l0_0) (hc0_0 : l0_0.length ≤ c0_0) (hr0_1 : Kd.C k34 w A0_1 l0_1.length l0_1) (hc0_1 : l0_1.length ≤ c0_1) (hr1 : Kd.C (Kd.int .i64) w A1 l1.length l1) (hc1 : l1.length ≤ c1) (h : scarfjointref09_piece.f k l0_0 l0_1 l1 = some r) :
  Calls Try.prog 70 #[.agg #[.slice A0_0 l0_0.length c0_0,.slice A0_1 l0_1.length c0_1],.slice A1 l1.length c1] w fun e w'=>∃ v0_ : Value,e = .returned (v0_) ∧ Kd.R (Kd.int .i64) 3 w' w.heap.size (fun _=>True) v0_ r ∧ Below w.heap.size w w':=by
 have hu30:=Try.underlying30
 have HR0_0:=Aside0.mk hr0_0
 have HC0_0:=Aside0.mk hc0_0
 clear hr0_0 hc0_0
 have HR0_1:=Aside0.mk hr0_1
 have HC0_1:=Aside0.mk hc0_1
 clear hr0_1 hc0_1
 have HR1:=Aside0.mk hr1
 have HC1:=Aside0.mk hc1
 clear hr1 hc1
 have HB:=Aside0.mk (Below.refl w.heap.size w)
 have H : (if 0 ≤ (wrap64 ((l1.length : Int) - 1)) then (if (wrap64 ((l1.length : Int) - 1)) < (l1.length : Int) then (if 0 ≤ (rd l1 (wrap64 ((l1.length : Int) - 1))) then (if (rd l1 (wrap64 ((l1.length : Int) - 1))) < (l0_0.length : Int) then (scarfjointref09_piece.l0 k l1 (rd l1 (wrap64 ((l1.length : Int) - 1))) (([rd l0_0 (rd l1 (wrap64 ((l1.length : Int) - 1)))] : List Int)) 0 l0_0 l0_1) else (none)) else (none)) else (none)) else (none)) = some r:=h
 clear h
 obtain ⟨ji3,hji3⟩ : ∃ j_ : Int,(wrap64 ((l1.length : Int) - 1)) = j_:=⟨_,rfl⟩
 replace H : (if 0 ≤ (ji3) then (if (ji3) < (l1.length : Int) then (if 0 ≤ (rd l1 (ji3)) then (if (rd l1 (ji3)) < (l0_0.length : Int) then (scarfjointref09_piece.l0 k l1 (rd l1 (ji3)) (([rd l0_0 (rd l1 (ji3))] : List Int)) 0 l0_0 l0_1) else (none)) else (none)) else (none)) else (none)) = some r:=by first|(rw [hji3] at H;exact H)|(simp only [hji3] at H ⊢;exact H)
 have hji3w : (IntKind.i64.wrap ((l1.length : Int) - 1)) = ji3:=(i64_w _).trans hji3
 by_cases c4 : 0 ≤ (ji3)
 ·rw [if_pos c4] at H
  have c4b0 : decide (0 ≤ (ji3)) = true:=decide_eq_true c4
  clear c4
  by_cases c5 : (ji3) < (l1.length : Int)
  ·rw [if_pos c5] at H
   have c5b0 : decide ((ji3) < (l1.length : Int)) = true:=decide_eq_true c5
   clear c5
   by_cases c6 : 0 ≤ (rd l1 (ji3))
   ·rw [if_pos c6] at H
    have c6b0 : decide (0 ≤ (rd l1 (ji3))) = true:=decide_eq_true c6
    clear c6
    by_cases c7 : (rd l1 (ji3)) < (l0_0.length : Int)
    ·rw [if_pos c7] at H
     have c7b0 : decide ((rd l1 (ji3)) < (l0_0.length : Int)) = true:=decide_eq_true c7
     clear c7
     obtain ⟨y283,hy283⟩ : ∃ y_ : List Int,y_ = (([rd l0_0 (rd l1 (ji3))] : List Int)):=⟨_,rfl⟩
     replace H : (scarfjointref09_piece.l0 k l1 (rd l1 (ji3)) y283 0 l0_0 l0_1) = some r:=by first|(rw [hy283];with_reducible exact H)|(have H2_:=(Option.bind_some _ _).symm.trans H;rw [hy283];with_reducible exact H2_)|(have H2_:=(Option.bind_some _ _).symm.trans H;with_reducible exact H2_)|with_reducible exact H|(rw [hy283];exact H)|exact H
     have Ny283:=Aside0.mk hy283
     clear hy283
     have H':=Aside0.mk H
     clear H
     go_enter Try.func70,Try.ntmps70
     go_wp2_with (first|((with_reducible refine gate_dst (N:=2) rfl ?_);refine box_event ?hg (N:=2) ?hd (cs:=#[.slice A0_0 l0_0.length c0_0,.slice A0_1 l0_1.length c0_1]) (t:=30) ?hr ?_;(case hd=>rfl);(case hg=>rfl);(case hr=>first|(go_simp;done)|(go_simp;rfl));intro gb280 hg w8 hbox hb;have n0_:=Aside0.mk (below_step (by repeat (first|(with_reducible first|exact HB.out|apply zzD|apply zzE|apply zzF)|exact HB.out)) hb);have n1_:=Aside0.mk (hbox);have n2_:=Aside0.mk ((by rw [hg];exact (below_size (by repeat (first|(with_reducible first|exact HB.out|apply zzD|apply zzE|apply zzF)|exact HB.out))) : w.heap.size ≤ gb280));have n3_:=Aside0.mk ((by rw [hg];exact (below_size (by repeat (first|(with_reducible first|exact HB.out|apply zzD|apply zzE|apply zzF)|exact HB.out))) : w.heap.size ≤ gb280));clear HB;have HB:=n0_;have BK280:=n1_;have GW280:=n2_;have GE280:=n3_;clear n0_ n1_ n2_ n3_;clear hb hbox hg;have p281 : 0 ≤ ((ji3) : Int):=of_decide_eq_true (by first|(with_reducible assumption)|assumption);have q281 : (ji3) < (l1.length : Int):=of_decide_eq_true (by first|(with_reducible assumption)|assumption);obtain ⟨ad281,e281,hx281_0⟩:=Kd.at_int HR1.out (ji3) p281 q281;cases e281;replace hx281_0:=(HB.out.cell (World.block_lt_of_cell? w _ hx281_0)).trans hx281_0;replace p281:=eq_true p281;replace q281:=eq_true q281;have hcz9_0 : w8.cell? ⟨gb280,0,none⟩ = some (.slice A0_0 l0_0.length c0_0):=(blk_cell BK280.out 0).trans rfl;have hcz9_1 : w8.cell? ⟨gb280,1,none⟩ = some (.slice A0_1 l0_1.length c0_1):=(blk_cell BK280.out 1).trans rfl;have hfz9_0:=blk_frozen BK280.out 0;have hfz9_1:=blk_frozen BK280.out 1;have p282 : 0 ≤ ((rd l1 (ji3)) : Int):=of_decide_eq_true (by first|(with_reducible assumption)|assumption);have q282 : (rd l1 (ji3)) < (l0_0.length : Int):=of_decide_eq_true (by first|(with_reducible assumption)|assumption);obtain ⟨ad282,e282,hx282_0⟩:=Kd.at_int HR0_0.out (rd l1 (ji3)) p282 q282;cases e282;replace hx282_0:=(HB.out.cell (World.block_lt_of_cell? w _ hx282_0)).trans hx282_0;replace p282:=eq_true p282;replace q282:=eq_true q282)|((with_reducible refine gate_dst (N:=19) rfl ?_);refine Kd.R_lit (Kd.int .i64) _ 3 ?hg (N:=19) ?hd (xs:=([rd l0_0 (rd l1 (ji3))] : List Int)) (inner:=[.int .i64 (rd l0_0 (rd l1 (ji3)))]) (ok:=fun _=>True) (okp:=fun _=>True) ?hr ?hp (fun _ hk=>hk) trivial (Below.refl _ _) (Nat.le_refl _) (by simp) ?_;(case hd=>rfl);(case hg=>rfl);(case hr=>first|(go_simp;done)|(go_simp;rfl));(case hp=>exact (Reps.one (show Kd.M (Kd.int .i64) _ _ _ (rd l0_0 (rd l1 (ji3))) [.int .i64 (rd l0_0 (rd l1 (ji3)))] from rfl) (Reps.none _ _)));intro v284 w10 ho11 hb hg_ hnew_;clear hg_ hnew_;(first|rw [← Ny283.out] at ho11|(simp only [Int.reduceToNat] at ho11;rw [← Ny283.out] at ho11));have n0_:=Aside0.mk (Kd.R_lower ho11 (below_size (by repeat (first|(with_reducible first|exact HB.out|apply zzD|apply zzE|apply zzF|refine below_set ?_ GE280.out)|exact HB.out))));have n1_:=Aside0.mk (blk_below (g:=gb280) (o:=.cells #[.slice (some ad282) l0_0.length c0_0,.slice A0_1 l0_1.length c0_1] 30 (0,0)) (by (with_reducible repeat (first|refine blk_drewN ?_ _|refine blk_drew ?_|refine blk_alloc ?_ _));exact BK280.out) hb);have n2_:=Aside0.mk (below_step (by repeat (first|(with_reducible first|exact HB.out|apply zzD|apply zzE|apply zzF|refine below_set ?_ GE280.out)|exact HB.out)) hb);clear BK280;clear HB;have HO285:=n0_;have BK280:=n1_;have HB:=n2_;clear n0_ n1_ n2_;clear hb ho11))
     go_loopg [6,7] k (fun kq v6 v7 w'=>∃ (x6_1 : List Int) (x7_1 : Int),v7 = .int .i64 x7_1 ∧ Aside0 (scarfjointref09_piece.l0 kq l1 (rd l1 (ji3)) x6_1 x7_1 l0_0 l0_1 = some r) ∧ Aside0 (kq ≤ k) ∧ Aside0 (Kd.R (Kd.int .i64) 3 w' w.heap.size (fun _=>True) v6 x6_1) ∧ Aside0 (w'.heap[gb280]? = some (.cells #[(.slice (some ad282) l0_0.length c0_0),(.slice A0_1 l0_1.length c0_1)] 30 (0,0))) ∧ Aside0 (Below w.heap.size w w'))
     case atStart=>exact ⟨(y283),(0),(by first|rfl|(simp;done)|(simp [*];done)),H',⟨Nat.le_refl _⟩,⟨by (with_reducible repeat (first|apply Kd.R_alloc|apply Kd.R_drewN|apply Kd.R_drew));exact HO285.out⟩,⟨by (with_reducible repeat (first|refine blk_drewN ?_ _|refine blk_drew ?_|refine blk_alloc ?_ _));exact BK280.out⟩,⟨by repeat (first|(with_reducible first|exact HB.out|apply zzD|apply zzE|apply zzF|refine below_set ?_ GE280.out)|exact HB.out)⟩⟩
     case round =>
      clear H'
      try clear c1
      try clear p2
      try clear q2
      try clear hx2
      try clear c4
      try clear c4b0
      try clear c5
      try clear c5b0
      try clear c6
      try clear c6b0
      try clear p6
      try clear c7
      try clear c7b0
      try clear hcz9_0
      try clear hcz9_1
      try clear hfz9_0
      try clear hfz9_1
      try clear hx281_0
      try clear hx282_0
      try clear p281
      try clear p282
      try clear q281
      try clear q282
      obtain ⟨x6_1,x7_1,rfl,HA,HK1,HO_6,BK280,HB⟩:=hrel
      cases gk with
      | zero => exact absurd HA.out (by simp [scarfjointref09_piece.l0])
      | succ k1 =>
       have H:=HA.out
       clear HA
       simp only [scarfjointref09_piece.l0] at H
       by_cases c12 : (wrap64 (x7_1 + 1)) < (l1.length : Int)
       ·rw [if_pos c12] at H
        have c12b0 : decide ((wrap64 (x7_1 + 1)) < (l1.length : Int)) = true:=decide_eq_true c12
        clear c12
        by_cases c13 : 0 ≤ x7_1
        ·rw [if_pos c13] at H
         have c13b0 : decide (0 ≤ x7_1) = true:=decide_eq_true c13
         clear c13
         by_cases c14 : x7_1 < (l1.length : Int)
         ·rw [if_pos c14] at H
          have c14b0 : decide (x7_1 < (l1.length : Int)) = true:=decide_eq_true c14
          clear c14
          replace H:=Option.bind_eq_some_iff.mp H
          obtain ⟨t287,A150,H⟩:=H
          replace H : (if x6_1.length + t287.length < 17592186044416 then ((some (x6_1 ++ t287 : List Int)).bind fun y290=>((scarfjointref09_types.f k1 l0_0 l0_1 (rd l1 (ji3)) (rd l1 x7_1)).bind fun t294=>(if y290.length + t294.length < 17592186044416 then (scarfjointref09_piece.l0 k1 l1 (rd l1 (ji3)) (y290 ++ t294) (wrap64 (x7_1 + 1)) l0_0 l0_1) else (none)))) else (none)) = some r:=H
          have A15:=Aside0.mk A150
          clear A150
          by_cases c16 : x6_1.length + t287.length < 17592186044416
          ·rw [if_pos c16] at H
           have LMc16:=Aside0.mk c16
           clear c16
           obtain ⟨y290,hy290⟩ : ∃ y_ : List Int,y_ = (x6_1 ++ t287):=⟨_,rfl⟩
           replace H : ((scarfjointref09_types.f k1 l0_0 l0_1 (rd l1 (ji3)) (rd l1 x7_1)).bind fun t294=>(if y290.length + t294.length < 17592186044416 then (scarfjointref09_piece.l0 k1 l1 (rd l1 (ji3)) (y290 ++ t294) (wrap64 (x7_1 + 1)) l0_0 l0_1) else (none))) = some r:=by first|(rw [hy290];with_reducible exact H)|(have H2_:=(Option.bind_some _ _).symm.trans H;rw [hy290];with_reducible exact H2_)|(have H2_:=(Option.bind_some _ _).symm.trans H;with_reducible exact H2_)|with_reducible exact H|(rw [hy290];exact H)|exact H
           have Ny290:=Aside0.mk hy290
           clear hy290
           replace H:=Option.bind_eq_some_iff.mp H
           obtain ⟨t294,A170,H⟩:=H
           replace H : (if y290.length + t294.length < 17592186044416 then (scarfjointref09_piece.l0 k1 l1 (rd l1 (ji3)) (y290 ++ t294) (wrap64 (x7_1 + 1)) l0_0 l0_1) else (none)) = some r:=H
           have A17:=Aside0.mk A170
           clear A170
           by_cases c18 : y290.length + t294.length < 17592186044416
           ·rw [if_pos c18] at H
            have LMc18:=Aside0.mk c18
            clear c18
            obtain ⟨y297,hy297⟩ : ∃ y_ : List Int,y_ = (y290 ++ t294):=⟨_,rfl⟩
            replace H : (scarfjointref09_piece.l0 k1 l1 (rd l1 (ji3)) y297 (wrap64 (x7_1 + 1)) l0_0 l0_1) = some r:=by first|(rw [hy297];with_reducible exact H)|(have H2_:=(Option.bind_some _ _).symm.trans H;rw [hy297];with_reducible exact H2_)|(have H2_:=(Option.bind_some _ _).symm.trans H;with_reducible exact H2_)|with_reducible exact H|(rw [hy297];exact H)|exact H
            have Ny297:=Aside0.mk hy297
            clear hy297
            have H':=Aside0.mk H
            clear H
            try go_wp2
            have n0_:=Aside0.mk (Kd.R_drew HO_6.out)
            have n1_:=Aside0.mk (blk_drew BK280.out)
            have n2_:=Aside0.mk (zzF HB.out)
            clear HO_6
            clear BK280
            clear HB
            have HO_6:=n0_
            have BK280:=n1_
            have HB:=n2_
            clear n0_ n1_ n2_
            have p286 : 0 ≤ (x7_1 : Int):=of_decide_eq_true (by first|(with_reducible assumption)|assumption)
            have q286 : x7_1 < (l1.length : Int):=of_decide_eq_true (by first|(with_reducible assumption)|assumption)
            obtain ⟨ad286,e286,hx286_0⟩:=Kd.at_int HR1.out x7_1 p286 q286
            have hw286_0:=hx286_0
            obtain rfl : ad281 = ad286:=(by injection e286)
            replace hx286_0:=(HB.out.cell (World.block_lt_of_cell? w _ hx286_0)).trans hx286_0
            replace p286:=eq_true p286
            replace q286:=eq_true q286
            refine start_ (n:=10) (S:=fun w'=>w'.cell? ⟨gb280,0,none⟩ = some (.slice (some ad282) l0_0.length c0_0) ∧ w'.cell? ⟨gb280,1,none⟩ = some (.slice A0_1 l0_1.length c0_1) ∧ w'.cell? (ad281.add (x7_1).toNat) = some (.int .i64 (rd l1 x7_1))) (ds:=[]) #[false,false,false,false,false,false,false,false,false,false] (by kernel_rfl) rfl rfl ⟨(blk_cell BK280.out 0).trans rfl,(blk_cell BK280.out 1).trans rfl,((HB.out.cell (World.block_lt_of_cell? w _ hw286_0)).trans hw286_0)⟩ (fun hHeld=>?_);refine with_tabW scarfjointref09_piece.tab6 scarfjointref09_piece.bits6 (fun HT_ HW_=>?_)
            generalize wr.drew = w19 at HO_6 BK280 HB hx286_0 hHeld ⊢
            refine pure_ (i:=0) (N:=some 27) (v:=?_) (a':=?_) #[true,false,false,false,false,false,false,false,false,false] rfl rfl (any_of HT_.out (by kernel_rfl)) (fun _ _ _ h=>h) (Or.inl ⟨by rfl,?_⟩) ?_ ?_
            rotate_left
            ·intro w'
             go_simp
             with_reducible rfl
            rotate_left
            ·simp only [Act.put,zzA,zzB,zzC,i64_w,i32_w]
             rfl
            refine pure_ (i:=2) (N:=some 29) (v:=?_) (a':=?_) #[true,false,true,false,false,false,false,false,false,false] rfl rfl (any_of HT_.out (by kernel_rfl)) (fun _ _ _ h=>h) (Or.inl ⟨by rfl,?_⟩) ?_ ?_
            rotate_left
            ·intro w'
             go_simp
             with_reducible rfl
            rotate_left
            ·simp only [Act.put,zzA,zzB,zzC,i64_w,i32_w]
             rfl
            refine pure_ (i:=3) (N:=some 30) (v:=?_) (a':=?_) #[true,false,true,true,false,false,false,false,false,false] rfl rfl (any_of HT_.out (by kernel_rfl)) (fun _ _ _ h=>h) (Or.inl ⟨by rfl,?_⟩) ?_ ?_
            rotate_left
            ·intro w'
             go_simp
             with_reducible rfl
            rotate_left
            ·simp only [Act.put,zzA,zzB,zzC,i64_w,i32_w]
             rfl
            refine pure_ (i:=4) (N:=some 31) (v:=?_) (a':=?_) #[true,false,true,true,true,false,false,false,false,false] rfl rfl (any_of HT_.out (by kernel_rfl)) (fun _ _ _ h=>h) (Or.inl ⟨by rfl,?_⟩) ?_ ?_
            rotate_left
            ·intro w'
             go_simp
             with_reducible rfl
            rotate_left
            ·simp only [Act.put,zzA,zzB,zzC,i64_w,i32_w]
             rfl
            refine pure_ (i:=6) (N:=some 33) (v:=?_) (a':=?_) #[true,false,true,true,true,false,true,false,false,false] rfl rfl (any_of HT_.out (by kernel_rfl)) (fun _ _ _ h=>h) (Or.inl ⟨by rfl,?_⟩) ?_ ?_
            rotate_left
            ·intro w'
             go_simp
             with_reducible rfl
            rotate_left
            ·simp only [Act.put,zzA,zzB,zzC,i64_w,i32_w]
             rfl
            refine take_ (i:=1) (N:=some 28) (v:=?_) (a':=?_) #[true,true,true,true,true,false,true,false,false,false] rfl rfl (take_ofW HT_.out HW_.out (by kernel_rfl)) (fun _ _ _ h=>h) (Or.inl ⟨by rfl,?_⟩) hHeld ?_ ?_
            rotate_left
            ·rintro w' ⟨s0,s1,s2⟩
             go_simp
             with_reducible rfl
            rotate_left
            ·simp only [Act.put,zzA,zzB,zzC,i64_w,i32_w]
             rfl
            refine take_ (i:=5) (N:=some 32) (v:=?_) (a':=?_) #[true,true,true,true,true,true,true,false,false,false] rfl rfl (take_ofW HT_.out HW_.out (by kernel_rfl)) (fun _ _ _ h=>h) (Or.inl ⟨by rfl,?_⟩) hHeld ?_ ?_
            rotate_left
            ·rintro w' ⟨s0,s1,s2⟩
             go_simp
             with_reducible rfl
            rotate_left
            ·simp only [Act.put,zzA,zzB,zzC,i64_w,i32_w]
             rfl
            refine one_ (i:=7) (N:=some 34) #[true,true,true,true,true,true,true,true,false,false] rfl rfl (one_of HT_.out (by kernel_rfl)) (by decide) (fun K hK=>?_)
            refine goes_ Try.func85 (by kernel_rfl) rfl #[.agg #[.slice (some ad282) l0_0.length c0_0,.slice A0_1 l0_1.length c0_1],.int .i64 (rd l1 x7_1),.int .i64 (rd l1 (ji3))] (by rfl) rfl rfl (by (try simp only [List.map_toArray,List.map_cons,List.map_nil]);first|done|(simp only [hji3];rfl)|rfl|(simp only [List.length_drop,List.length_take];rfl)) ?_
            with_reducible refine (scarfjointref09_types.calls k1 _ _ l0_0 _ _ l0_1 (rd l1 x7_1) (rd l1 (ji3)) t287 _ ?side1 ?side2 ?side3 ?side4 A15.out).mono ?_
            (case side1=>repeat (first|exact (Kd.C_below HR0_0.out HB.out)|(with_reducible refine Kd.C_alloc ?_ _)|(with_reducible refine Kd.C_drewN ?_ _)|(with_reducible refine Kd.C_drew ?_)))
            (case side2=>exact HC0_0.out)
            (case side3=>repeat (first|exact (Kd.C_below HR0_1.out HB.out)|(with_reducible refine Kd.C_alloc ?_ _)|(with_reducible refine Kd.C_drewN ?_ _)|(with_reducible refine Kd.C_drew ?_)))
            (case side4=>exact HC0_1.out)
            rintro e w20 ⟨v288,rfl,ho0,hb⟩
            refine ⟨_,rfl,?_⟩
            have n0_:=Aside0.mk (Kd.R_elder' (by (with_reducible repeat (first|apply Kd.R_alloc|apply Kd.R_drewN|apply Kd.R_drew));exact HO_6.out) (Kd.R_base ho0) hb)
            have n1_:=Aside0.mk (Kd.R_lower (Kd.R_new' ho0 (Kd.R_lt (by (with_reducible repeat (first|apply Kd.R_alloc|apply Kd.R_drewN|apply Kd.R_drew));exact HO_6.out))) (below_size (by repeat (first|(with_reducible first|exact HB.out|apply zzD|apply zzE|apply zzF|refine below_set ?_ GE280.out)|exact HB.out))))
            have n2_:=Aside0.mk (blk_below (g:=gb280) (o:=.cells #[.slice (some ad282) l0_0.length c0_0,.slice A0_1 l0_1.length c0_1] 30 (0,0)) (by (with_reducible repeat (first|refine blk_drewN ?_ _|refine blk_drew ?_|refine blk_alloc ?_ _));exact BK280.out) hb)
            have n3_:=Aside0.mk (below_step (by repeat (first|(with_reducible first|exact HB.out|apply zzD|apply zzE|apply zzF|refine below_set ?_ GE280.out)|exact HB.out)) hb)
            clear HO_6
            clear BK280
            clear HB
            have HO_6:=n0_
            have HO289:=n1_
            have BK280:=n2_
            have HB:=n3_
            clear n0_ n1_ n2_ n3_
            (try clear hb)
            (try clear hb2)
            (try clear hk)
            (try clear hi)
            (try clear ho0)
            obtain ⟨Ao22,co22,eo22⟩:=Kd.R_slice HO289.out
            (first|subst eo22|(injection eo22 with f1_ f2_ f3_;have f4_:=f1_.symm;have f5_:=f3_.symm;clear f1_ f2_ f3_;subst f4_;subst f5_))
            refine hK.out _ _ ⟨(blk_cell BK280.out 0).trans rfl,(blk_cell BK280.out 1).trans rfl,((HB.out.cell (World.block_lt_of_cell? w _ hw286_0)).trans hw286_0)⟩ (fun hHeld=>?_)
            clear hK K
            refine norm_ (a':=?_) ?_ ?_
            rotate_left
            ·show Act.put _ (some 34) _ = _
             simp only [Act.put,zzA,zzB,zzC,i64_w,i32_w]
             rfl
            refine one_ (i:=8) (N:=some 35) #[true,true,true,true,true,true,true,true,true,false] rfl rfl (one_of HT_.out (by kernel_rfl)) (by decide) (fun K hK=>?_)
            refine Kd.R_append_rows_step (Kd.int .i64) (w0:=w) w.heap.size (by rfl) (.tmp 27) (.tmp 34) 27 3 (.int .i64 0) 8 rfl Try.underlying27 info3 rfl (by decide) (by omega) u6 x6_1 t287 _ _ _ (fun k_=>some k_ ≠ (.slice Ao22 t287.length co22 : Value).ownBlock) (fun _=>False) rfl rfl ?aO ?aR (fun _ _ h=>h) (fun _ h=>h.elim) ?aF ?aB ?aS ?aL ?_
            (case aR=>repeat (first|exact (Kd.R_reads' HO289.out).2.2|(with_reducible refine Kd.C_alloc ?_ _)|(with_reducible refine Kd.C_drewN ?_ _)|(with_reducible refine Kd.C_drew ?_)))
            (case aB=>exact (by repeat (first|(with_reducible first|exact HB.out|apply zzD|apply zzE|apply zzF|refine below_set ?_ GE280.out)|exact HB.out)))
            (case aF=>exact (fun k_ hk=>Kd.fresh' (Kd.R_lt (by (with_reducible repeat (first|apply Kd.R_alloc|apply Kd.R_drewN|apply Kd.R_drew));exact HO289.out)) k_ hk))
            (case aO=>exact (by (with_reducible repeat (first|apply Kd.R_alloc|apply Kd.R_drewN|apply Kd.R_drew));exact Kd.R_mono HO_6.out (fun _ hk=>hk.2)))
            (case aS=>exact (below_size (by repeat (first|(with_reducible first|exact HB.out|apply zzD|apply zzE|apply zzF|refine below_set ?_ GE280.out)|exact HB.out))))
            (case aL=>have:=LMc16.out;omega)
            intro v291 w21 ho hb hg hat
            rw [← Ny290.out] at ho
            have n0_:=Aside0.mk (blk_grown (g:=gb280) (o:=.cells #[.slice (some ad282) l0_0.length c0_0,.slice A0_1 l0_1.length c0_1] 30 (0,0)) (by (with_reducible repeat (first|refine blk_drewN ?_ _|refine blk_drew ?_|refine blk_alloc ?_ _));exact BK280.out) hg (Kd.R_ne HO_6.out BK280.out (by decide)))
            have n1_:=Aside0.mk (Kd.R_after (ok:=(fun _=>True)) (by (with_reducible repeat (first|apply Kd.R_alloc|apply Kd.R_drewN|apply Kd.R_drew));exact HO289.out) hg hat)
            have n2_:=Aside0.mk (hb)
            have n3_:=Aside0.mk (ho)
            clear BK280
            clear HO289
            clear HB
            clear HO_6
            have BK280:=n0_
            have HO289:=n1_
            have HB:=n2_
            have HO292:=n3_
            clear n0_ n1_ n2_ n3_
            clear ho hb hg hat
            refine hK.out _ _ ⟨(blk_cell BK280.out 0).trans rfl,(blk_cell BK280.out 1).trans rfl,((HB.out.cell (World.block_lt_of_cell? w _ hw286_0)).trans hw286_0)⟩ (fun hHeld=>?_)
            clear hK K
            refine norm_ (a':=?_) ?_ ?_
            rotate_left
            ·show Act.put _ (some 35) _ = _
             simp only [Act.put,zzA,zzB,zzC,i64_w,i32_w]
             rfl
            refine pure_ (i:=9) (N:=some 6) (v:=?_) (a':=?_) #[true,true,true,true,true,true,true,true,true,true] rfl rfl (any_of HT_.out (by kernel_rfl)) (fun _ _ _ h=>h) (Or.inl ⟨by rfl,?_⟩) ?_ ?_
            rotate_left
            ·intro w'
             go_simp
             with_reducible rfl
            rotate_left
            ·simp only [Act.put,zzA,zzB,zzC,i64_w,i32_w]
             rfl
            refine done_ (done_of HT_.out (by kernel_rfl)) ?_
            try go_wp2
            have n0_:=Aside0.mk (Kd.R_drew HO289.out)
            have n1_:=Aside0.mk (Kd.R_drew HO292.out)
            have n2_:=Aside0.mk (blk_drew BK280.out)
            have n3_:=Aside0.mk (zzF HB.out)
            clear HO289
            clear HO292
            clear BK280
            clear HB
            have HO289:=n0_
            have HO292:=n1_
            have BK280:=n2_
            have HB:=n3_
            clear n0_ n1_ n2_ n3_
            have p293 : 0 ≤ (x7_1 : Int):=of_decide_eq_true (by first|(with_reducible assumption)|assumption)
            have q293 : x7_1 < (l1.length : Int):=of_decide_eq_true (by first|(with_reducible assumption)|assumption)
            obtain ⟨ad293,e293,hx293_0⟩:=Kd.at_int HR1.out x7_1 p293 q293
            have hw293_0:=hx293_0
            obtain rfl : ad281 = ad293:=(by injection e293)
            replace hx293_0:=(HB.out.cell (World.block_lt_of_cell? w _ hx293_0)).trans hx293_0
            replace p293:=eq_true p293
            replace q293:=eq_true q293
            refine start_ (n:=10) (S:=fun w'=>w'.cell? ⟨gb280,0,none⟩ = some (.slice (some ad282) l0_0.length c0_0) ∧ w'.cell? ⟨gb280,1,none⟩ = some (.slice A0_1 l0_1.length c0_1) ∧ w'.cell? (ad281.add (x7_1).toNat) = some (.int .i64 (rd l1 x7_1))) (ds:=[]) #[false,false,false,false,false,false,false,false,false,false] (by kernel_rfl) rfl rfl ⟨(blk_cell BK280.out 0).trans rfl,(blk_cell BK280.out 1).trans rfl,((HB.out.cell (World.block_lt_of_cell? w _ hw293_0)).trans hw293_0)⟩ (fun hHeld=>?_);refine with_tabW scarfjointref09_piece.tab7 scarfjointref09_piece.bits7 (fun HT_ HW_=>?_)
            generalize w21.drew = w23 at HO289 HO292 BK280 HB hx293_0 hHeld ⊢
            refine pure_ (i:=0) (N:=some 36) (v:=?_) (a':=?_) #[true,false,false,false,false,false,false,false,false,false] rfl rfl (any_of HT_.out (by kernel_rfl)) (fun _ _ _ h=>h) (Or.inl ⟨by rfl,?_⟩) ?_ ?_
            rotate_left
            ·intro w'
             go_simp
             with_reducible rfl
            rotate_left
            ·simp only [Act.put,zzA,zzB,zzC,i64_w,i32_w]
             rfl
            refine pure_ (i:=2) (N:=some 38) (v:=?_) (a':=?_) #[true,false,true,false,false,false,false,false,false,false] rfl rfl (any_of HT_.out (by kernel_rfl)) (fun _ _ _ h=>h) (Or.inl ⟨by rfl,?_⟩) ?_ ?_
            rotate_left
            ·intro w'
             go_simp
             with_reducible rfl
            rotate_left
            ·simp only [Act.put,zzA,zzB,zzC,i64_w,i32_w]
             rfl
            refine pure_ (i:=3) (N:=some 39) (v:=?_) (a':=?_) #[true,false,true,true,false,false,false,false,false,false] rfl rfl (any_of HT_.out (by kernel_rfl)) (fun _ _ _ h=>h) (Or.inl ⟨by rfl,?_⟩) ?_ ?_
            rotate_left
            ·intro w'
             go_simp
             with_reducible rfl
            rotate_left
            ·simp only [Act.put,zzA,zzB,zzC,i64_w,i32_w]
             rfl
            refine pure_ (i:=4) (N:=some 40) (v:=?_) (a':=?_) #[true,false,true,true,true,false,false,false,false,false] rfl rfl (any_of HT_.out (by kernel_rfl)) (fun _ _ _ h=>h) (Or.inl ⟨by rfl,?_⟩) ?_ ?_
            rotate_left
            ·intro w'
             go_simp
             with_reducible rfl
            rotate_left
            ·simp only [Act.put,zzA,zzB,zzC,i64_w,i32_w]
             rfl
            refine pure_ (i:=5) (N:=some 41) (v:=?_) (a':=?_) #[true,false,true,true,true,true,false,false,false,false] rfl rfl (any_of HT_.out (by kernel_rfl)) (fun _ _ _ h=>h) (Or.inl ⟨by rfl,?_⟩) ?_ ?_
            rotate_left
            ·intro w'
             go_simp
             with_reducible rfl
            rotate_left
            ·simp only [Act.put,zzA,zzB,zzC,i64_w,i32_w]
             rfl
            refine take_ (i:=1) (N:=some 37) (v:=?_) (a':=?_) #[true,true,true,true,true,true,false,false,false,false] rfl rfl (take_ofW HT_.out HW_.out (by kernel_rfl)) (fun _ _ _ h=>h) (Or.inl ⟨by rfl,?_⟩) hHeld ?_ ?_
            rotate_left
            ·rintro w' ⟨s0,s1,s2⟩
             go_simp
             with_reducible rfl
            rotate_left
            ·simp only [Act.put,zzA,zzB,zzC,i64_w,i32_w]
             rfl
            refine take_ (i:=6) (N:=some 42) (v:=?_) (a':=?_) #[true,true,true,true,true,true,true,false,false,false] rfl rfl (take_ofW HT_.out HW_.out (by kernel_rfl)) (fun _ _ _ h=>h) (Or.inl ⟨by rfl,?_⟩) hHeld ?_ ?_
            rotate_left
            ·rintro w' ⟨s0,s1,s2⟩
             go_simp
             with_reducible rfl
            rotate_left
            ·simp only [Act.put,zzA,zzB,zzC,i64_w,i32_w]
             rfl
            refine one_ (i:=7) (N:=some 43) #[true,true,true,true,true,true,true,true,false,false] rfl rfl (one_of HT_.out (by kernel_rfl)) (by decide) (fun K hK=>?_)
            refine goes_ Try.func85 (by kernel_rfl) rfl #[.agg #[.slice (some ad282) l0_0.length c0_0,.slice A0_1 l0_1.length c0_1],.int .i64 (rd l1 (ji3)),.int .i64 (rd l1 x7_1)] (by rfl) rfl rfl (by (try simp only [List.map_toArray,List.map_cons,List.map_nil]);first|done|(simp only [hji3];rfl)|rfl|(simp only [List.length_drop,List.length_take];rfl)) ?_
            with_reducible refine (scarfjointref09_types.calls k1 _ _ l0_0 _ _ l0_1 (rd l1 (ji3)) (rd l1 x7_1) t294 _ ?side1 ?side2 ?side3 ?side4 A17.out).mono ?_
            (case side1=>repeat (first|exact (Kd.C_below HR0_0.out HB.out)|(with_reducible refine Kd.C_alloc ?_ _)|(with_reducible refine Kd.C_drewN ?_ _)|(with_reducible refine Kd.C_drew ?_)))
            (case side2=>exact HC0_0.out)
            (case side3=>repeat (first|exact (Kd.C_below HR0_1.out HB.out)|(with_reducible refine Kd.C_alloc ?_ _)|(with_reducible refine Kd.C_drewN ?_ _)|(with_reducible refine Kd.C_drew ?_)))
            (case side4=>exact HC0_1.out)
            rintro e w24 ⟨v295,rfl,ho0,hb⟩
            refine ⟨_,rfl,?_⟩
            have n0_:=Aside0.mk (Kd.R_elder' (by (with_reducible repeat (first|apply Kd.R_alloc|apply Kd.R_drewN|apply Kd.R_drew));exact HO289.out) (Kd.R_base ho0) hb)
            have n1_:=Aside0.mk (Kd.R_elder' (by (with_reducible repeat (first|apply Kd.R_alloc|apply Kd.R_drewN|apply Kd.R_drew));exact HO292.out) (Kd.R_base ho0) hb)
            have n2_:=Aside0.mk (Kd.R_lower (Kd.R_new' (Kd.R_new' ho0 (Kd.R_lt (by (with_reducible repeat (first|apply Kd.R_alloc|apply Kd.R_drewN|apply Kd.R_drew));exact HO289.out))) (Kd.R_lt (by (with_reducible repeat (first|apply Kd.R_alloc|apply Kd.R_drewN|apply Kd.R_drew));exact HO292.out))) (below_size (by repeat (first|(with_reducible first|exact HB.out|apply zzD|apply zzE|apply zzF|refine below_set ?_ GE280.out)|exact HB.out))))
            have n3_:=Aside0.mk (blk_below (g:=gb280) (o:=.cells #[.slice (some ad282) l0_0.length c0_0,.slice A0_1 l0_1.length c0_1] 30 (0,0)) (by (with_reducible repeat (first|refine blk_drewN ?_ _|refine blk_drew ?_|refine blk_alloc ?_ _));exact BK280.out) hb)
            have n4_:=Aside0.mk (below_step (by repeat (first|(with_reducible first|exact HB.out|apply zzD|apply zzE|apply zzF|refine below_set ?_ GE280.out)|exact HB.out)) hb)
            clear HO289
            clear HO292
            clear BK280
            clear HB
            have HO289:=n0_
            have HO292:=n1_
            have HO296:=n2_
            have BK280:=n3_
            have HB:=n4_
            clear n0_ n1_ n2_ n3_ n4_
            (try clear hb)
            (try clear hb2)
            (try clear hk)
            (try clear hi)
            (try clear ho0)
            obtain ⟨Ao26,co26,eo26⟩:=Kd.R_slice HO296.out
            (first|subst eo26|(injection eo26 with f1_ f2_ f3_;have f4_:=f1_.symm;have f5_:=f3_.symm;clear f1_ f2_ f3_;subst f4_;subst f5_))
            refine hK.out _ _ ⟨(blk_cell BK280.out 0).trans rfl,(blk_cell BK280.out 1).trans rfl,((HB.out.cell (World.block_lt_of_cell? w _ hw293_0)).trans hw293_0)⟩ (fun hHeld=>?_)
            clear hK K
            refine norm_ (a':=?_) ?_ ?_
            rotate_left
            ·show Act.put _ (some 43) _ = _
             simp only [Act.put,zzA,zzB,zzC,i64_w,i32_w]
             rfl
            refine one_ (i:=8) (N:=some 44) #[true,true,true,true,true,true,true,true,true,false] rfl rfl (one_of HT_.out (by kernel_rfl)) (by decide) (fun K hK=>?_)
            refine Kd.R_append_rows_step (Kd.int .i64) (w0:=w) w.heap.size (by rfl) (.tmp 36) (.tmp 43) 27 3 (.int .i64 0) 8 rfl Try.underlying27 info3 rfl (by decide) (by omega) v291 y290 t294 _ _ _ (fun k_=>some k_ ≠ (.slice Ao22 t287.length co22 : Value).ownBlock ∧ some k_ ≠ (.slice Ao26 t294.length co26 : Value).ownBlock) (fun _=>False) rfl rfl ?aO ?aR (fun _ _ h=>h) (fun _ h=>h.elim) ?aF ?aB ?aS ?aL ?_
            (case aR=>repeat (first|exact (Kd.R_reads' HO296.out).2.2|(with_reducible refine Kd.C_alloc ?_ _)|(with_reducible refine Kd.C_drewN ?_ _)|(with_reducible refine Kd.C_drew ?_)))
            (case aB=>exact (by repeat (first|(with_reducible first|exact HB.out|apply zzD|apply zzE|apply zzF|refine below_set ?_ GE280.out)|exact HB.out)))
            (case aF=>exact (fun k_ hk=>⟨Kd.fresh' (Kd.R_lt (by (with_reducible repeat (first|apply Kd.R_alloc|apply Kd.R_drewN|apply Kd.R_drew));exact HO289.out)) k_ hk,Kd.fresh' (Kd.R_lt (by (with_reducible repeat (first|apply Kd.R_alloc|apply Kd.R_drewN|apply Kd.R_drew));exact HO296.out)) k_ hk⟩))
            (case aO=>exact (by (with_reducible repeat (first|apply Kd.R_alloc|apply Kd.R_drewN|apply Kd.R_drew));exact HO292.out))
            (case aS=>exact (below_size (by repeat (first|(with_reducible first|exact HB.out|apply zzD|apply zzE|apply zzF|refine below_set ?_ GE280.out)|exact HB.out))))
            (case aL=>have:=LMc18.out;omega)
            intro v298 w25 ho hb hg hat
            rw [← Ny297.out] at ho
            have n0_:=Aside0.mk (blk_grown (g:=gb280) (o:=.cells #[.slice (some ad282) l0_0.length c0_0,.slice A0_1 l0_1.length c0_1] 30 (0,0)) (by (with_reducible repeat (first|refine blk_drewN ?_ _|refine blk_drew ?_|refine blk_alloc ?_ _));exact BK280.out) hg (Kd.R_ne HO292.out BK280.out (by decide)))
            have n1_:=Aside0.mk (Kd.R_after (ok:=(fun k_=>some k_ ≠ (.slice Ao26 t294.length co26 : Value).ownBlock)) (by (with_reducible repeat (first|apply Kd.R_alloc|apply Kd.R_drewN|apply Kd.R_drew));exact Kd.R_mono HO289.out (fun _ hk=>⟨hk.2,hk.1.2⟩)) hg hat)
            have n2_:=Aside0.mk (Kd.R_after (ok:=(fun k_=>some k_ ≠ (.slice Ao22 t287.length co22 : Value).ownBlock)) (by (with_reducible repeat (first|apply Kd.R_alloc|apply Kd.R_drewN|apply Kd.R_drew));exact Kd.R_mono HO296.out (fun _ hk=>⟨hk.1.2,hk.2⟩)) hg hat)
            have n3_:=Aside0.mk (hb)
            have n4_:=Aside0.mk (ho)
            clear BK280
            clear HO289
            clear HO296
            clear HB
            clear HO292
            have BK280:=n0_
            have HO289:=n1_
            have HO296:=n2_
            have HB:=n3_
            have HO299:=n4_
            clear n0_ n1_ n2_ n3_ n4_
            clear ho hb hg hat
            refine hK.out _ _ ⟨(blk_cell BK280.out 0).trans rfl,(blk_cell BK280.out 1).trans rfl,((HB.out.cell (World.block_lt_of_cell? w _ hw293_0)).trans hw293_0)⟩ (fun hHeld=>?_)
            clear hK K
            refine norm_ (a':=?_) ?_ ?_
            rotate_left
            ·show Act.put _ (some 44) _ = _
             simp only [Act.put,zzA,zzB,zzC,i64_w,i32_w]
             rfl
            refine pure_ (i:=9) (N:=some 6) (v:=?_) (a':=?_) #[true,true,true,true,true,true,true,true,true,true] rfl rfl (any_of HT_.out (by kernel_rfl)) (fun _ _ _ h=>h) (Or.inl ⟨by rfl,?_⟩) ?_ ?_
            rotate_left
            ·intro w'
             go_simp
             with_reducible rfl
            rotate_left
            ·simp only [Act.put,zzA,zzB,zzC,i64_w,i32_w]
             rfl
            refine done_ (done_of HT_.out (by kernel_rfl)) ?_
            try go_wp2
            go_roundg k1
            case measure=>have:=HK1.out;omega
            case rel=>exact ⟨(y297),(wrap64 (x7_1 + 1)),(by first|rfl|(simp;done)|(simp [*];done)),H',⟨by have:=HK1.out;omega⟩,⟨by (with_reducible repeat (first|apply Kd.R_alloc|apply Kd.R_drewN|apply Kd.R_drew));exact Kd.R_mono HO299.out (fun _ hk=>trivial)⟩,⟨by (with_reducible repeat (first|refine blk_drewN ?_ _|refine blk_drew ?_|refine blk_alloc ?_ _));exact BK280.out⟩,⟨by repeat (first|(with_reducible first|exact HB.out|apply zzD|apply zzE|apply zzF|refine below_set ?_ GE280.out)|exact HB.out)⟩⟩
           ·rw [if_neg c18] at H
            exact absurd H (by simp)
          ·rw [if_neg c16] at H
           exact absurd H (by simp)
         ·rw [if_neg c14] at H
          exact absurd H (by simp)
        ·rw [if_neg c13] at H
         exact absurd H (by simp)
       ·rw [if_neg c12] at H
        have c12b0 : decide ((wrap64 (x7_1 + 1)) < (l1.length : Int)) = false:=decide_eq_false c12
        clear c12
        replace H:=Option.bind_eq_some_iff.mp H
        obtain ⟨t300,A270,H⟩:=H
        replace H : (if x6_1.length + t300.length < 17592186044416 then (some (x6_1 ++ t300)) else (none)) = some r:=H
        have A27:=Aside0.mk A270
        clear A270
        by_cases c28 : x6_1.length + t300.length < 17592186044416
        ·rw [if_pos c28] at H
         have LMc28:=Aside0.mk c28
         clear c28
         obtain ⟨y303,hy303⟩ : ∃ y_ : List Int,y_ = (x6_1 ++ t300):=⟨_,rfl⟩
         replace H : (some y303) = some r:=by first|(rw [hy303];with_reducible exact H)|(have H2_:=(Option.bind_some _ _).symm.trans H;rw [hy303];with_reducible exact H2_)|(have H2_:=(Option.bind_some _ _).symm.trans H;with_reducible exact H2_)|with_reducible exact H|(rw [hy303];exact H)|exact H
         have Ny303:=Aside0.mk hy303
         clear hy303
         obtain rfl:=Option.some.inj H
         have hcz29_0 : wr.cell? ⟨gb280,0,none⟩ = some (.slice (some ad282) l0_0.length c0_0):=(blk_cell BK280.out 0).trans rfl
         have hcz29_1 : wr.cell? ⟨gb280,1,none⟩ = some (.slice A0_1 l0_1.length c0_1):=(blk_cell BK280.out 1).trans rfl
         have hfz29_0:=blk_frozen BK280.out 0
         have hfz29_1:=blk_frozen BK280.out 1
         go_wp2_with (first|((with_reducible refine gate_callee (f:=85) rfl ?_);refine goesL_ (some 49) rfl rfl Try.func85 (by kernel_rfl) rfl #[.agg #[.slice (some ad282) l0_0.length c0_0,.slice A0_1 l0_1.length c0_1],.int .i64 (rd l1 (ji3)),.int .i64 (rd l1 (ji3))] rfl (by (try simp only [List.map_toArray,List.map_cons,List.map_nil]);first|done|(simp only [hji3];rfl)|rfl|(simp only [List.length_drop,List.length_take];rfl)) ?_;(with_reducible refine (scarfjointref09_types.calls k1 _ _ l0_0 _ _ l0_1 (rd l1 (ji3)) (rd l1 (ji3)) t300 _ ?side1 ?side2 ?side3 ?side4 A27.out).mono ?_);(case side1=>repeat (first|exact (Kd.C_below HR0_0.out HB.out)|(with_reducible refine Kd.C_alloc ?_ _)|(with_reducible refine Kd.C_drewN ?_ _)|(with_reducible refine Kd.C_drew ?_)));(case side2=>exact HC0_0.out);(case side3=>repeat (first|exact (Kd.C_below HR0_1.out HB.out)|(with_reducible refine Kd.C_alloc ?_ _)|(with_reducible refine Kd.C_drewN ?_ _)|(with_reducible refine Kd.C_drew ?_)));(case side4=>exact HC0_1.out);rintro e w30 ⟨v301,rfl,ho0,hb⟩;refine ⟨_,rfl,?_⟩;have n0_:=Aside0.mk (Kd.R_elder' (by (with_reducible repeat (first|apply Kd.R_alloc|apply Kd.R_drewN|apply Kd.R_drew));exact HO_6.out) (Kd.R_base ho0) hb);have n1_:=Aside0.mk (Kd.R_lower (Kd.R_new' ho0 (Kd.R_lt (by (with_reducible repeat (first|apply Kd.R_alloc|apply Kd.R_drewN|apply Kd.R_drew));exact HO_6.out))) (below_size (by repeat (first|(with_reducible first|exact HB.out|apply zzD|apply zzE|apply zzF|refine below_set ?_ GE280.out)|exact HB.out))));have n2_:=Aside0.mk (blk_below (g:=gb280) (o:=.cells #[.slice (some ad282) l0_0.length c0_0,.slice A0_1 l0_1.length c0_1] 30 (0,0)) (by (with_reducible repeat (first|refine blk_drewN ?_ _|refine blk_drew ?_|refine blk_alloc ?_ _));exact BK280.out) hb);have n3_:=Aside0.mk (below_step (by repeat (first|(with_reducible first|exact HB.out|apply zzD|apply zzE|apply zzF|refine below_set ?_ GE280.out)|exact HB.out)) hb);clear HO_6;clear BK280;clear HB;have HO_6:=n0_;have HO302:=n1_;have BK280:=n2_;have HB:=n3_;clear n0_ n1_ n2_ n3_;(try clear hb);(try clear hb2);(try clear hk);(try clear hi);(try clear ho0);obtain ⟨Ao32,co32,eo32⟩:=Kd.R_slice HO302.out;subst eo32)|((with_reducible refine gate_builtin (b:=.append) (xs:=#[.tmp 45,.tmp 49]) rfl ?_);at_builtin;refine Kd.R_append_rows (Kd.int .i64) (w0:=w) w.heap.size rfl (.tmp 45) (.tmp 49) 27 3 (.int .i64 0) 8 rfl Try.underlying27 info3 rfl (by decide) (by omega) u6 x6_1 t300 _ _ _ (fun k_=>some k_ ≠ (.slice Ao32 t300.length co32 : Value).ownBlock) (fun _=>False) rfl rfl ?aO ?aR (fun _ _ h=>h) (fun _ h=>h.elim) ?aF ?aB ?aS ?aL ?_;(case aR=>repeat (first|exact (Kd.R_reads' HO302.out).2.2|(with_reducible refine Kd.C_alloc ?_ _)|(with_reducible refine Kd.C_drewN ?_ _)|(with_reducible refine Kd.C_drew ?_)));(case aB=>exact (by repeat (first|(with_reducible first|exact HB.out|apply zzD|apply zzE|apply zzF|refine below_set ?_ GE280.out)|exact HB.out)));(case aF=>exact (fun k_ hk=>Kd.fresh' (Kd.R_lt (by (with_reducible repeat (first|apply Kd.R_alloc|apply Kd.R_drewN|apply Kd.R_drew));exact HO302.out)) k_ hk));(case aO=>exact (by (with_reducible repeat (first|apply Kd.R_alloc|apply Kd.R_drewN|apply Kd.R_drew));exact Kd.R_mono HO_6.out (fun _ hk=>hk.2)));(case aS=>exact (below_size (by repeat (first|(with_reducible first|exact HB.out|apply zzD|apply zzE|apply zzF|refine below_set ?_ GE280.out)|exact HB.out))));(case aL=>have:=LMc28.out;omega);intro v304 w31 ho hb hg hat;rw [← Ny303.out] at ho;have n0_:=Aside0.mk (blk_grown (g:=gb280) (o:=.cells #[.slice (some ad282) l0_0.length c0_0,.slice A0_1 l0_1.length c0_1] 30 (0,0)) (by (with_reducible repeat (first|refine blk_drewN ?_ _|refine blk_drew ?_|refine blk_alloc ?_ _));exact BK280.out) hg (Kd.R_ne HO_6.out BK280.out (by decide)));have n1_:=Aside0.mk (Kd.R_after (ok:=(fun _=>True)) (by (with_reducible repeat (first|apply Kd.R_alloc|apply Kd.R_drewN|apply Kd.R_drew));exact HO302.out) hg hat);have n2_:=Aside0.mk (hb);have n3_:=Aside0.mk (ho);clear BK280;clear HO302;clear HB;clear HO_6;have BK280:=n0_;have HO302:=n1_;have HB:=n2_;have HO305:=n3_;clear n0_ n1_ n2_ n3_;clear ho hb hg hat))
         go_ret
         exact ⟨_,by first|rfl|(simp [errW_none,errW_some] <;> rfl)|(simp only [← hji3];first|rfl|(simp [errW_none,errW_some] <;> rfl))|(simp [*,errW_none,errW_some] <;> rfl),by (with_reducible repeat (first|apply Kd.R_alloc|apply Kd.R_drewN|apply Kd.R_drew));exact Kd.R_mono HO305.out (fun _ hk=>trivial),by repeat (first|(with_reducible first|exact HB.out|apply zzD|apply zzE|apply zzF|refine below_set ?_ GE280.out)|exact HB.out)⟩
        ·rw [if_neg c28] at H
         exact absurd H (by simp)
    ·rw [if_neg c7] at H
     exact absurd H (by simp)
   ·rw [if_neg c6] at H
    exact absurd H (by simp)
  ·rw [if_neg c5] at H
   exact absurd H (by simp)
 ·rw [if_neg c4] at H
  exact absurd H (by simp)
end Go.Proofs.Ytgmomcjnldahjaa.Pr
namespace Go.Proofs.Ytgmomcjnldahjaa.Pr
open Go.RowKit Go.Proofs.YtgmomcjnldahjaaW.PrintWords Go.Proofs.YtgmomcjnldahjaaW.PrintLast Go.Proofs.YtgmomcjnldahjaaW.PrintMore
attribute [local go_sem] max2_int min2_int max_two min_two max_three min_three max_four min_four
set_option linter.unusedVariables false
set_option linter.unusedSimpArgs false
def scarfjointref05_Copied.f (l0_0 : List Int) (l0_1 : List (S34)) : Option (List Int × (List (S34))):=(some (([] : List Int) : List Int)).bind fun y182=>(if y182.length + l0_0.length < 17592186044416 then ((some (([] : List (S34)) : List (S34))).bind fun y188=>(if y188.length + l0_1.length < 5864062014805 then (some ((y182 ++ l0_0),(y188 ++ l0_1))) else (none))) else (none))
def scarfjointref05_Copied.T1 : Bool × List (List Nat × List Nat):=(true,[([],[]),([],[]),([1],[1]),([0,2],[0,2]),([],[]),([],[]),([5],[5]),([4,6,3],[4,6]),([3,7],[3,7]),([8,7,0,1,2,3,4,5,6,7,8],[8])])
def scarfjointref05_Copied.B1 : List Nat:=[0,0,2,7,0,0,32,127,255,511]
theorem scarfjointref05_Copied.tab1 : rtab .any (opsOf Try.f13 1) = scarfjointref05_Copied.T1:=by kernel_rfl
theorem scarfjointref05_Copied.bits1 : waitsOk scarfjointref05_Copied.T1.2 scarfjointref05_Copied.B1 = true:=by kernel_rfl
set_option maxHeartbeats 8000000 in
set_option maxRecDepth 100000 in
theorem scarfjointref05_Copied.calls (A0_0 : Option Addr) (c0_0 : Nat) (l0_0 : List Int) (A0_1 : Option Addr) (c0_1 : Nat) (l0_1 : List (S34)) (r1 : List Int) (r2 : List (S34)) (w : World) (hr0_0 : Kd.C (Kd.int .i64) w A0_0 l0_0.length l0_0) (hc0_0 : l0_0.length ≤ c0_0) (hr0_1 : Kd.C k34 w A0_1 l0_1.length l0_1) (hc0_1 : l0_1.length ≤ c0_1) (h : scarfjointref05_Copied.f l0_0 l0_1 = some (r1,r2)) :
  Calls Try.prog 13 #[.agg #[.slice A0_0 l0_0.length c0_0,.slice A0_1 l0_1.length c0_1]] w fun e w'=>∃ v0_ v1_ : Value,e = .returned (.agg #[v0_,v1_]) ∧ Kd.R (Kd.int .i64) 3 w' w.heap.size (fun _=>True) v0_ r1 ∧ Kd.R k34 34 w' w.heap.size (fun _=>True) v1_ r2 ∧ Below w.heap.size w w':=by
 have hu30:=Try.underlying30
 have HR0_0:=Aside0.mk hr0_0
 have HC0_0:=Aside0.mk hc0_0
 clear hr0_0 hc0_0
 have HR0_1:=Aside0.mk hr0_1
 have HC0_1:=Aside0.mk hc0_1
 clear hr0_1 hc0_1
 have HB:=Aside0.mk (Below.refl w.heap.size w)
 have H : ((some (([] : List Int) : List Int)).bind fun y182=>(if y182.length + l0_0.length < 17592186044416 then ((some (([] : List (S34)) : List (S34))).bind fun y188=>(if y188.length + l0_1.length < 5864062014805 then (some ((y182 ++ l0_0),(y188 ++ l0_1))) else (none))) else (none))) = some (r1,r2):=h
 clear h
 obtain ⟨y182,hy182⟩ : ∃ y_ : List Int,y_ = (([] : List Int)):=⟨_,rfl⟩
 replace H : (if y182.length + l0_0.length < 17592186044416 then ((some (([] : List (S34)) : List (S34))).bind fun y188=>(if y188.length + l0_1.length < 5864062014805 then (some ((y182 ++ l0_0),(y188 ++ l0_1))) else (none))) else (none)) = some (r1,r2):=by first|(rw [hy182];with_reducible exact H)|(have H2_:=(Option.bind_some _ _).symm.trans H;rw [hy182];with_reducible exact H2_)|(have H2_:=(Option.bind_some _ _).symm.trans H;with_reducible exact H2_)|with_reducible exact H|(rw [hy182];exact H)|exact H
 have Ny182:=Aside0.mk hy182
 clear hy182
 by_cases c2 : y182.length + l0_0.length < 17592186044416
 ·rw [if_pos c2] at H
  have LMc2:=Aside0.mk c2
  clear c2
  obtain ⟨y185,hy185⟩ : ∃ y_ : List Int,y_ = (y182 ++ l0_0):=⟨_,rfl⟩
  replace H : ((some (([] : List (S34)) : List (S34))).bind fun y188=>(if y188.length + l0_1.length < 5864062014805 then (some (y185,(y188 ++ l0_1))) else (none))) = some (r1,r2):=by first|(rw [hy185];with_reducible exact H)|(have H2_:=(Option.bind_some _ _).symm.trans H;rw [hy185];with_reducible exact H2_)|(have H2_:=(Option.bind_some _ _).symm.trans H;with_reducible exact H2_)|with_reducible exact H|(rw [hy185];exact H)|exact H
  have Ny185:=Aside0.mk hy185
  clear hy185
  obtain ⟨y188,hy188⟩ : ∃ y_ : List (S34),y_ = (([] : List (S34))):=⟨_,rfl⟩
  replace H : (if y188.length + l0_1.length < 5864062014805 then (some (y185,(y188 ++ l0_1))) else (none)) = some (r1,r2):=by first|(rw [hy188];with_reducible exact H)|(have H2_:=(Option.bind_some _ _).symm.trans H;rw [hy188];with_reducible exact H2_)|(have H2_:=(Option.bind_some _ _).symm.trans H;with_reducible exact H2_)|with_reducible exact H|(rw [hy188];exact H)|exact H
  have Ny188:=Aside0.mk hy188
  clear hy188
  by_cases c3 : y188.length + l0_1.length < 5864062014805
  ·rw [if_pos c3] at H
   have LMc3:=Aside0.mk c3
   clear c3
   obtain ⟨y191,hy191⟩ : ∃ y_ : List (S34),y_ = (y188 ++ l0_1):=⟨_,rfl⟩
   replace H : (some (y185,y191)) = some (r1,r2):=by first|(rw [hy191];with_reducible exact H)|(have H2_:=(Option.bind_some _ _).symm.trans H;rw [hy191];with_reducible exact H2_)|(have H2_:=(Option.bind_some _ _).symm.trans H;with_reducible exact H2_)|with_reducible exact H|(rw [hy191];exact H)|exact H
   have Ny191:=Aside0.mk hy191
   clear hy191
   simp only [Option.some.injEq,Prod.mk.injEq] at H
   obtain ⟨rfl,rfl⟩:=H
   go_enter Try.func13,Try.ntmps13
   try go_wp2_with (first|((with_reducible refine gate_dst (N:=1) rfl ?_);refine box_event ?hg (N:=1) ?hd (cs:=#[.slice A0_0 l0_0.length c0_0,.slice A0_1 l0_1.length c0_1]) (t:=30) ?hr ?_;(case hd=>rfl);(case hg=>rfl);(case hr=>first|(go_simp;done)|(go_simp;rfl));intro gb180 hg w4 hbox hb;have n0_:=Aside0.mk (below_step (by repeat (first|(with_reducible first|exact HB.out|apply zzD|apply zzE|apply zzF)|exact HB.out)) hb);have n1_:=Aside0.mk (hbox);have n2_:=Aside0.mk ((by rw [hg];exact (below_size (by repeat (first|(with_reducible first|exact HB.out|apply zzD|apply zzE|apply zzF)|exact HB.out))) : w.heap.size ≤ gb180));have n3_:=Aside0.mk ((by rw [hg];exact (below_size (by repeat (first|(with_reducible first|exact HB.out|apply zzD|apply zzE|apply zzF)|exact HB.out))) : w.heap.size ≤ gb180));clear HB;have HB:=n0_;have BK180:=n1_;have GW180:=n2_;have GE180:=n3_;clear n0_ n1_ n2_ n3_;clear hb hbox hg)|((with_reducible refine gate_dst (N:=2) rfl ?_);refine box_event ?hg (N:=2) ?hd (cs:=#[.slice none 0 0,.slice none 0 0]) (t:=30) ?hr ?_;(case hd=>rfl);(case hg=>rfl);(case hr=>first|(go_simp;done)|(go_simp;rfl));intro gb181 hg w5 hbox hb;have n0_:=Aside0.mk (blk_below (g:=gb180) (o:=.cells #[.slice A0_0 l0_0.length c0_0,.slice A0_1 l0_1.length c0_1] 30 (0,0)) (by (with_reducible repeat (first|refine blk_drewN ?_ _|refine blk_drew ?_|refine blk_alloc ?_ _));exact BK180.out) hb);have n1_:=Aside0.mk (below_step (by repeat (first|(with_reducible first|exact HB.out|apply zzD|apply zzE|apply zzF|refine below_set ?_ GE180.out)|exact HB.out)) hb);have n2_:=Aside0.mk (hbox);have n3_:=Aside0.mk ((by rw [hg];exact (below_size (by repeat (first|(with_reducible first|exact HB.out|apply zzD|apply zzE|apply zzF|refine below_set ?_ GE180.out)|exact HB.out))) : w.heap.size ≤ gb181));have n4_:=Aside0.mk ((by rw [hg];exact (below_size (by repeat (first|(with_reducible first|exact HB.out|apply zzD|apply zzE|apply zzF|refine below_set ?_ GE180.out)|exact HB.out))) : w.heap.size ≤ gb181));have n5_:=Aside0.mk ((by rw [hg];exact Nat.ne_of_lt (blk_lt (g:=gb180) (o:=.cells #[.slice A0_0 l0_0.length c0_0,.slice A0_1 l0_1.length c0_1] 30 (0,0)) (by (with_reducible repeat (first|refine blk_drewN ?_ _|refine blk_drew ?_|refine blk_alloc ?_ _));exact BK180.out)) : gb180 ≠ gb181));have n6_:=Aside0.mk ((by rw [hg];exact Nat.ne_of_gt (blk_lt (g:=gb180) (o:=.cells #[.slice A0_0 l0_0.length c0_0,.slice A0_1 l0_1.length c0_1] 30 (0,0)) (by (with_reducible repeat (first|refine blk_drewN ?_ _|refine blk_drew ?_|refine blk_alloc ?_ _));exact BK180.out)) : gb181 ≠ gb180));clear BK180;clear HB;have BK180:=n0_;have HB:=n1_;have BK181:=n2_;have GW181:=n3_;have GE181:=n4_;have NB180_181:=n5_;have NB181_180:=n6_;clear n0_ n1_ n2_ n3_ n4_ n5_ n6_;clear hb hbox hg))
   have n0_:=Aside0.mk (blk_drew BK180.out)
   have n1_:=Aside0.mk (blk_drew BK181.out)
   have n2_:=Aside0.mk (zzF HB.out)
   clear BK180
   clear BK181
   clear HB
   have BK180:=n0_
   have BK181:=n1_
   have HB:=n2_
   clear n0_ n1_ n2_
   refine start_ (n:=10) (S:=fun w'=>w'.cell? ⟨gb180,0,none⟩ = some (.slice A0_0 l0_0.length c0_0) ∧ w'.cell? ⟨gb180,1,none⟩ = some (.slice A0_1 l0_1.length c0_1)) (ds:=[]) #[false,false,false,false,false,false,false,false,false,false] (by kernel_rfl) rfl rfl ⟨(blk_cell BK180.out 0).trans rfl,(blk_cell BK180.out 1).trans rfl⟩ (fun hHeld=>?_);refine with_tabW scarfjointref05_Copied.tab1 scarfjointref05_Copied.bits1 (fun HT_ HW_=>?_)
   generalize w5.drew = w6 at BK180 BK181 HB hHeld ⊢
   refine pure_ (i:=1) (N:=some 4) (v:=?_) (a':=?_) #[false,true,false,false,false,false,false,false,false,false] rfl rfl (any_of HT_.out (by kernel_rfl)) (fun _ _ _ h=>h) (Or.inl ⟨by rfl,?_⟩) ?_ ?_
   rotate_left
   ·intro w'
    go_simp
    with_reducible rfl
   rotate_left
   ·simp only [Act.put,zzA,zzB,zzC,i64_w,i32_w]
    rfl
   refine pure_ (i:=5) (N:=some 8) (v:=?_) (a':=?_) #[false,true,false,false,false,true,false,false,false,false] rfl rfl (any_of HT_.out (by kernel_rfl)) (fun _ _ _ h=>h) (Or.inl ⟨by rfl,?_⟩) ?_ ?_
   rotate_left
   ·intro w'
    go_simp
    with_reducible rfl
   rotate_left
   ·simp only [Act.put,zzA,zzB,zzC,i64_w,i32_w]
    rfl
   refine take_ (i:=2) (N:=some 5) (v:=?_) (a':=?_) #[false,true,true,false,false,true,false,false,false,false] rfl rfl (take_ofW HT_.out HW_.out (by kernel_rfl)) (fun _ _ _ h=>h) (Or.inl ⟨by rfl,?_⟩) hHeld ?_ ?_
   rotate_left
   ·rintro w' ⟨s0,s1⟩
    go_simp
    with_reducible rfl
   rotate_left
   ·simp only [Act.put,zzA,zzB,zzC,i64_w,i32_w]
    rfl
   refine take_ (i:=6) (N:=some 9) (v:=?_) (a':=?_) #[false,true,true,false,false,true,true,false,false,false] rfl rfl (take_ofW HT_.out HW_.out (by kernel_rfl)) (fun _ _ _ h=>h) (Or.inl ⟨by rfl,?_⟩) hHeld ?_ ?_
   rotate_left
   ·rintro w' ⟨s0,s1⟩
    go_simp
    with_reducible rfl
   rotate_left
   ·simp only [Act.put,zzA,zzB,zzC,i64_w,i32_w]
    rfl
   refine join_ (σ:=Value × Value × Value) 3 #[true,true,true,true,true,true,true,false,false,false] (fun s_=>[(3,s_.1),(6,s_.2.1),(7,s_.2.2)]) (fun s_ w'=>(w'.cell? ⟨gb180,0,none⟩ = some (.slice A0_0 l0_0.length c0_0) ∧ w'.cell? ⟨gb180,1,none⟩ = some (.slice A0_1 l0_1.length c0_1)) ∧ (Kd.R (Kd.int .i64) 3 w' w.heap.size (fun _=>True) s_.2.1 y185) ∧ (Kd.R k34 34 w' w.heap.size (fun _=>True) s_.2.2 y188) ∧ (w'.heap[gb180]? = some (.cells #[.slice A0_0 l0_0.length c0_0,.slice A0_1 l0_1.length c0_1] 30 (0,0))) ∧ (w'.heap[gb181]? = some (.cells #[.slice none 0 0,.slice none 0 0] 30 (0,0))) ∧ (Below w.heap.size w w')) ?_ ?_
   rotate_left
   ·intro hCont
    refine two_ (i:=0) (j:=4) (Ni:=some 3) (Nj:=some 7) #[true,true,true,false,false,true,true,false,false,false] #[false,true,true,false,true,true,true,false,false,false] rfl rfl rfl rfl (two_of HT_.out (by kernel_rfl)) (by decide) (by decide) (fun K hK=>?_) (fun K hK=>?_)
    ·skip
     refine Kd.R_lit_step (Kd.int .i64) _ 3 ?hg (N:=3) ?hd (xs:=([] : List Int)) (inner:=[]) (ok:=fun _=>True) (okp:=fun _=>True) ?hr ?hp (fun _ hk=>hk) trivial (Below.refl _ _) (Nat.le_refl _) (by simp) ?_;(case hd=>rfl);(case hg=>rfl);(case hr=>first|(go_simp;done)|(go_simp;rfl));(case hp=>exact (Reps.none _ _))
     intro v183 w7 ho8 hb hg_ hnew_
     clear hg_ hnew_
     (first|rw [← Ny182.out] at ho8|(simp only [Int.reduceToNat] at ho8;rw [← Ny182.out] at ho8))
     have n0_:=Aside0.mk (Kd.R_lower ho8 (below_size (by repeat (first|(with_reducible first|exact HB.out|apply zzD|apply zzE|apply zzF|refine below_set ?_ GE180.out|refine below_set ?_ GE181.out)|exact HB.out))))
     have n1_:=Aside0.mk (blk_below (g:=gb180) (o:=.cells #[.slice A0_0 l0_0.length c0_0,.slice A0_1 l0_1.length c0_1] 30 (0,0)) (by (with_reducible repeat (first|refine blk_drewN ?_ _|refine blk_drew ?_|refine blk_alloc ?_ _));exact BK180.out) hb)
     have n2_:=Aside0.mk (blk_below (g:=gb181) (o:=.cells #[.slice none 0 0,.slice none 0 0] 30 (0,0)) (by (with_reducible repeat (first|refine blk_drewN ?_ _|refine blk_drew ?_|refine blk_alloc ?_ _));exact BK181.out) hb)
     have n3_:=Aside0.mk (below_step (by repeat (first|(with_reducible first|exact HB.out|apply zzD|apply zzE|apply zzF|refine below_set ?_ GE180.out|refine below_set ?_ GE181.out)|exact HB.out)) hb)
     clear BK180
     clear BK181
     clear HB
     have HO184:=n0_
     have BK180:=n1_
     have BK181:=n2_
     have HB:=n3_
     clear n0_ n1_ n2_ n3_
     clear hb ho8
     refine hK.out _ _ ⟨(blk_cell BK180.out 0).trans rfl,(blk_cell BK180.out 1).trans rfl⟩ (fun hHeld=>?_)
     clear hK K
     refine norm_ (a':=?_) ?_ ?_
     rotate_left
     ·show Act.put _ (some 3) _ = _
      simp only [Act.put,zzA,zzB,zzC,i64_w,i32_w]
      rfl
     refine two_ (i:=3) (j:=4) (Ni:=some 6) (Nj:=some 7) #[true,true,true,true,false,true,true,false,false,false] #[true,true,true,false,true,true,true,false,false,false] rfl rfl rfl rfl (two_of HT_.out (by kernel_rfl)) (by decide) (by decide) (fun K hK=>?_) (fun K hK=>?_)
     ·skip
      refine Kd.R_append_rows_step (Kd.int .i64) (w0:=w) w.heap.size (by rfl) (.tmp 3) (.tmp 5) 27 3 (.int .i64 0) 8 rfl Try.underlying27 info3 rfl (by decide) (by omega) v183 y182 l0_0 _ _ _ (fun _=>True) (fun _=>False) rfl rfl ?aO ?aR (fun _ _ h=>h) (fun _ h=>h.elim) ?aF ?aB ?aS ?aL ?_
      (case aR=>repeat (first|exact (Kd.C_below HR0_0.out HB.out)|(with_reducible refine Kd.C_alloc ?_ _)|(with_reducible refine Kd.C_drewN ?_ _)|(with_reducible refine Kd.C_drew ?_)))
      (case aB=>exact (by repeat (first|(with_reducible first|exact HB.out|apply zzD|apply zzE|apply zzF|refine below_set ?_ GE180.out|refine below_set ?_ GE181.out)|exact HB.out)))
      (case aF=>exact (fun _ _=>trivial))
      (case aO=>exact (by (with_reducible repeat (first|apply Kd.R_alloc|apply Kd.R_drewN|apply Kd.R_drew));exact HO184.out))
      (case aS=>exact (below_size (by repeat (first|(with_reducible first|exact HB.out|apply zzD|apply zzE|apply zzF|refine below_set ?_ GE180.out|refine below_set ?_ GE181.out)|exact HB.out))))
      (case aL=>have:=LMc2.out;omega)
      intro v186 w9 ho hb hg hat
      rw [← Ny185.out] at ho
      have n0_:=Aside0.mk (blk_grown (g:=gb180) (o:=.cells #[.slice A0_0 l0_0.length c0_0,.slice A0_1 l0_1.length c0_1] 30 (0,0)) (by (with_reducible repeat (first|refine blk_drewN ?_ _|refine blk_drew ?_|refine blk_alloc ?_ _));exact BK180.out) hg (Kd.R_ne HO184.out BK180.out (by decide)))
      have n1_:=Aside0.mk (blk_grown (g:=gb181) (o:=.cells #[.slice none 0 0,.slice none 0 0] 30 (0,0)) (by (with_reducible repeat (first|refine blk_drewN ?_ _|refine blk_drew ?_|refine blk_alloc ?_ _));exact BK181.out) hg (Kd.R_ne HO184.out BK181.out (by decide)))
      have n2_:=Aside0.mk (hb)
      have n3_:=Aside0.mk (ho)
      clear BK180
      clear BK181
      clear HB
      clear HO184
      have BK180:=n0_
      have BK181:=n1_
      have HB:=n2_
      have HO187:=n3_
      clear n0_ n1_ n2_ n3_
      clear ho hb hg hat
      refine hK.out _ _ ⟨(blk_cell BK180.out 0).trans rfl,(blk_cell BK180.out 1).trans rfl⟩ (fun hHeld=>?_)
      clear hK K
      refine norm_ (a':=?_) ?_ ?_
      rotate_left
      ·show Act.put _ (some 6) _ = _
       simp only [Act.put,zzA,zzB,zzC,i64_w,i32_w]
       rfl
      refine one_ (i:=4) (N:=some 7) #[true,true,true,true,true,true,true,false,false,false] rfl rfl (one_of HT_.out (by kernel_rfl)) (by decide) (fun K hK=>?_)
      refine Kd.R_lit_step k34 _ 34 ?hg (N:=7) ?hd (xs:=([] : List (S34))) (inner:=[]) (ok:=fun _=>True) (okp:=fun _=>True) ?hr ?hp (fun _ hk=>hk) trivial (Below.refl _ _) (Nat.le_refl _) (by simp) ?_;(case hd=>rfl);(case hg=>rfl);(case hr=>first|(go_simp;done)|(go_simp;rfl));(case hp=>exact (Reps.none _ _))
      intro v189 w10 ho11 hb hg_ hnew_
      clear hg_ hnew_
      (first|rw [← Ny188.out] at ho11|(simp only [Int.reduceToNat] at ho11;rw [← Ny188.out] at ho11))
      have n0_:=Aside0.mk (Kd.R_below (by (with_reducible repeat (first|apply Kd.R_alloc|apply Kd.R_drewN|apply Kd.R_drew));exact HO187.out) hb)
      have n1_:=Aside0.mk (Kd.R_lower ho11 (below_size (by repeat (first|(with_reducible first|exact HB.out|apply zzD|apply zzE|apply zzF|refine below_set ?_ GE180.out|refine below_set ?_ GE181.out)|exact HB.out))))
      have n2_:=Aside0.mk (blk_below (g:=gb180) (o:=.cells #[.slice A0_0 l0_0.length c0_0,.slice A0_1 l0_1.length c0_1] 30 (0,0)) (by (with_reducible repeat (first|refine blk_drewN ?_ _|refine blk_drew ?_|refine blk_alloc ?_ _));exact BK180.out) hb)
      have n3_:=Aside0.mk (blk_below (g:=gb181) (o:=.cells #[.slice none 0 0,.slice none 0 0] 30 (0,0)) (by (with_reducible repeat (first|refine blk_drewN ?_ _|refine blk_drew ?_|refine blk_alloc ?_ _));exact BK181.out) hb)
      have n4_:=Aside0.mk (below_step (by repeat (first|(with_reducible first|exact HB.out|apply zzD|apply zzE|apply zzF|refine below_set ?_ GE180.out|refine below_set ?_ GE181.out)|exact HB.out)) hb)
      clear HO187
      clear BK180
      clear BK181
      clear HB
      have HO187:=n0_
      have HO190:=n1_
      have BK180:=n2_
      have BK181:=n3_
      have HB:=n4_
      clear n0_ n1_ n2_ n3_ n4_
      clear hb ho11
      refine hK.out _ _ ⟨(blk_cell BK180.out 0).trans rfl,(blk_cell BK180.out 1).trans rfl⟩ (fun hHeld=>?_)
      clear hK K
      refine norm_ (a':=?_) ?_ ?_
      rotate_left
      ·show Act.put _ (some 7) _ = _
       simp only [Act.put,zzA,zzB,zzC,i64_w,i32_w]
       rfl
      exact norm_ (by simp only [putAll,Act.put,zzA,zzB,zzC]) (hCont (v183,v186,v189) _ ⟨hHeld,(by (with_reducible repeat (first|apply Kd.R_alloc|apply Kd.R_drewN|apply Kd.R_drew));exact HO187.out),(by (with_reducible repeat (first|apply Kd.R_alloc|apply Kd.R_drewN|apply Kd.R_drew));exact HO190.out),(by (with_reducible repeat (first|refine blk_drewN ?_ _|refine blk_drew ?_|refine blk_alloc ?_ _));exact BK180.out),(by (with_reducible repeat (first|refine blk_drewN ?_ _|refine blk_drew ?_|refine blk_alloc ?_ _));exact BK181.out),(by repeat (first|(with_reducible first|exact HB.out|apply zzD|apply zzE|apply zzF|refine below_set ?_ GE180.out|refine below_set ?_ GE181.out)|exact HB.out))⟩)
     ·skip
      refine Kd.R_lit_step k34 _ 34 ?hg (N:=7) ?hd (xs:=([] : List (S34))) (inner:=[]) (ok:=fun _=>True) (okp:=fun _=>True) ?hr ?hp (fun _ hk=>hk) trivial (Below.refl _ _) (Nat.le_refl _) (by simp) ?_;(case hd=>rfl);(case hg=>rfl);(case hr=>first|(go_simp;done)|(go_simp;rfl));(case hp=>exact (Reps.none _ _))
      intro v189 w9 ho10 hb hg_ hnew_
      clear hg_ hnew_
      (first|rw [← Ny188.out] at ho10|(simp only [Int.reduceToNat] at ho10;rw [← Ny188.out] at ho10))
      have n0_:=Aside0.mk (Kd.R_below (by (with_reducible repeat (first|apply Kd.R_alloc|apply Kd.R_drewN|apply Kd.R_drew));exact HO184.out) hb)
      have n1_:=Aside0.mk (Kd.R_lower ho10 (below_size (by repeat (first|(with_reducible first|exact HB.out|apply zzD|apply zzE|apply zzF|refine below_set ?_ GE180.out|refine below_set ?_ GE181.out)|exact HB.out))))
      have n2_:=Aside0.mk (blk_below (g:=gb180) (o:=.cells #[.slice A0_0 l0_0.length c0_0,.slice A0_1 l0_1.length c0_1] 30 (0,0)) (by (with_reducible repeat (first|refine blk_drewN ?_ _|refine blk_drew ?_|refine blk_alloc ?_ _));exact BK180.out) hb)
      have n3_:=Aside0.mk (blk_below (g:=gb181) (o:=.cells #[.slice none 0 0,.slice none 0 0] 30 (0,0)) (by (with_reducible repeat (first|refine blk_drewN ?_ _|refine blk_drew ?_|refine blk_alloc ?_ _));exact BK181.out) hb)
      have n4_:=Aside0.mk (below_step (by repeat (first|(with_reducible first|exact HB.out|apply zzD|apply zzE|apply zzF|refine below_set ?_ GE180.out|refine below_set ?_ GE181.out)|exact HB.out)) hb)
      clear HO184
      clear BK180
      clear BK181
      clear HB
      have HO184:=n0_
      have HO190:=n1_
      have BK180:=n2_
      have BK181:=n3_
      have HB:=n4_
      clear n0_ n1_ n2_ n3_ n4_
      clear hb ho10
      refine hK.out _ _ ⟨(blk_cell BK180.out 0).trans rfl,(blk_cell BK180.out 1).trans rfl⟩ (fun hHeld=>?_)
      clear hK K
      refine norm_ (a':=?_) ?_ ?_
      rotate_left
      ·show Act.put _ (some 7) _ = _
       simp only [Act.put,zzA,zzB,zzC,i64_w,i32_w]
       rfl
      refine one_ (i:=3) (N:=some 6) #[true,true,true,true,true,true,true,false,false,false] rfl rfl (one_of HT_.out (by kernel_rfl)) (by decide) (fun K hK=>?_)
      refine Kd.R_append_rows_step (Kd.int .i64) (w0:=w) w.heap.size (by rfl) (.tmp 3) (.tmp 5) 27 3 (.int .i64 0) 8 rfl Try.underlying27 info3 rfl (by decide) (by omega) v183 y182 l0_0 _ _ _ (fun _=>True) (fun _=>False) rfl rfl ?aO ?aR (fun _ _ h=>h) (fun _ h=>h.elim) ?aF ?aB ?aS ?aL ?_
      (case aR=>repeat (first|exact (Kd.C_below HR0_0.out HB.out)|(with_reducible refine Kd.C_alloc ?_ _)|(with_reducible refine Kd.C_drewN ?_ _)|(with_reducible refine Kd.C_drew ?_)))
      (case aB=>exact (by repeat (first|(with_reducible first|exact HB.out|apply zzD|apply zzE|apply zzF|refine below_set ?_ GE180.out|refine below_set ?_ GE181.out)|exact HB.out)))
      (case aF=>exact (fun _ _=>trivial))
      (case aO=>exact (by (with_reducible repeat (first|apply Kd.R_alloc|apply Kd.R_drewN|apply Kd.R_drew));exact HO184.out))
      (case aS=>exact (below_size (by repeat (first|(with_reducible first|exact HB.out|apply zzD|apply zzE|apply zzF|refine below_set ?_ GE180.out|refine below_set ?_ GE181.out)|exact HB.out))))
      (case aL=>have:=LMc2.out;omega)
      intro v186 w11 ho hb hg hat
      rw [← Ny185.out] at ho
      have n0_:=Aside0.mk (blk_grown (g:=gb180) (o:=.cells #[.slice A0_0 l0_0.length c0_0,.slice A0_1 l0_1.length c0_1] 30 (0,0)) (by (with_reducible repeat (first|refine blk_drewN ?_ _|refine blk_drew ?_|refine blk_alloc ?_ _));exact BK180.out) hg (Kd.R_ne HO184.out BK180.out (by decide)))
      have n1_:=Aside0.mk (blk_grown (g:=gb181) (o:=.cells #[.slice none 0 0,.slice none 0 0] 30 (0,0)) (by (with_reducible repeat (first|refine blk_drewN ?_ _|refine blk_drew ?_|refine blk_alloc ?_ _));exact BK181.out) hg (Kd.R_ne HO184.out BK181.out (by decide)))
      have n2_:=Aside0.mk (Kd.R_over' (by (with_reducible repeat (first|apply Kd.R_alloc|apply Kd.R_drewN|apply Kd.R_drew));exact HO190.out) (Kd.R_typed (by (with_reducible repeat (first|apply Kd.R_alloc|apply Kd.R_drewN|apply Kd.R_drew));exact HO184.out)) (by decide) hg)
      have n3_:=Aside0.mk (hb)
      have n4_:=Aside0.mk (ho)
      clear BK180
      clear BK181
      clear HO190
      clear HB
      clear HO184
      have BK180:=n0_
      have BK181:=n1_
      have HO190:=n2_
      have HB:=n3_
      have HO187:=n4_
      clear n0_ n1_ n2_ n3_ n4_
      clear ho hb hg hat
      refine hK.out _ _ ⟨(blk_cell BK180.out 0).trans rfl,(blk_cell BK180.out 1).trans rfl⟩ (fun hHeld=>?_)
      clear hK K
      refine norm_ (a':=?_) ?_ ?_
      rotate_left
      ·show Act.put _ (some 6) _ = _
       simp only [Act.put,zzA,zzB,zzC,i64_w,i32_w]
       rfl
      exact norm_ (by simp only [putAll,Act.put,zzA,zzB,zzC]) (hCont (v183,v186,v189) _ ⟨hHeld,(by (with_reducible repeat (first|apply Kd.R_alloc|apply Kd.R_drewN|apply Kd.R_drew));exact HO187.out),(by (with_reducible repeat (first|apply Kd.R_alloc|apply Kd.R_drewN|apply Kd.R_drew));exact HO190.out),(by (with_reducible repeat (first|refine blk_drewN ?_ _|refine blk_drew ?_|refine blk_alloc ?_ _));exact BK180.out),(by (with_reducible repeat (first|refine blk_drewN ?_ _|refine blk_drew ?_|refine blk_alloc ?_ _));exact BK181.out),(by repeat (first|(with_reducible first|exact HB.out|apply zzD|apply zzE|apply zzF|refine below_set ?_ GE180.out|refine below_set ?_ GE181.out)|exact HB.out))⟩)
    ·skip
     refine Kd.R_lit_step k34 _ 34 ?hg (N:=7) ?hd (xs:=([] : List (S34))) (inner:=[]) (ok:=fun _=>True) (okp:=fun _=>True) ?hr ?hp (fun _ hk=>hk) trivial (Below.refl _ _) (Nat.le_refl _) (by simp) ?_;(case hd=>rfl);(case hg=>rfl);(case hr=>first|(go_simp;done)|(go_simp;rfl));(case hp=>exact (Reps.none _ _))
     intro v189 w7 ho8 hb hg_ hnew_
     clear hg_ hnew_
     (first|rw [← Ny188.out] at ho8|(simp only [Int.reduceToNat] at ho8;rw [← Ny188.out] at ho8))
     have n0_:=Aside0.mk (Kd.R_lower ho8 (below_size (by repeat (first|(with_reducible first|exact HB.out|apply zzD|apply zzE|apply zzF|refine below_set ?_ GE180.out|refine below_set ?_ GE181.out)|exact HB.out))))
     have n1_:=Aside0.mk (blk_below (g:=gb180) (o:=.cells #[.slice A0_0 l0_0.length c0_0,.slice A0_1 l0_1.length c0_1] 30 (0,0)) (by (with_reducible repeat (first|refine blk_drewN ?_ _|refine blk_drew ?_|refine blk_alloc ?_ _));exact BK180.out) hb)
     have n2_:=Aside0.mk (blk_below (g:=gb181) (o:=.cells #[.slice none 0 0,.slice none 0 0] 30 (0,0)) (by (with_reducible repeat (first|refine blk_drewN ?_ _|refine blk_drew ?_|refine blk_alloc ?_ _));exact BK181.out) hb)
     have n3_:=Aside0.mk (below_step (by repeat (first|(with_reducible first|exact HB.out|apply zzD|apply zzE|apply zzF|refine below_set ?_ GE180.out|refine below_set ?_ GE181.out)|exact HB.out)) hb)
     clear BK180
     clear BK181
     clear HB
     have HO190:=n0_
     have BK180:=n1_
     have BK181:=n2_
     have HB:=n3_
     clear n0_ n1_ n2_ n3_
     clear hb ho8
     refine hK.out _ _ ⟨(blk_cell BK180.out 0).trans rfl,(blk_cell BK180.out 1).trans rfl⟩ (fun hHeld=>?_)
     clear hK K
     refine norm_ (a':=?_) ?_ ?_
     rotate_left
     ·show Act.put _ (some 7) _ = _
      simp only [Act.put,zzA,zzB,zzC,i64_w,i32_w]
      rfl
     refine one_ (i:=0) (N:=some 3) #[true,true,true,false,true,true,true,false,false,false] rfl rfl (one_of HT_.out (by kernel_rfl)) (by decide) (fun K hK=>?_)
     refine Kd.R_lit_step (Kd.int .i64) _ 3 ?hg (N:=3) ?hd (xs:=([] : List Int)) (inner:=[]) (ok:=fun _=>True) (okp:=fun _=>True) ?hr ?hp (fun _ hk=>hk) trivial (Below.refl _ _) (Nat.le_refl _) (by simp) ?_;(case hd=>rfl);(case hg=>rfl);(case hr=>first|(go_simp;done)|(go_simp;rfl));(case hp=>exact (Reps.none _ _))
     intro v183 w9 ho10 hb hg_ hnew_
     clear hg_ hnew_
     (first|rw [← Ny182.out] at ho10|(simp only [Int.reduceToNat] at ho10;rw [← Ny182.out] at ho10))
     have n0_:=Aside0.mk (Kd.R_below (by (with_reducible repeat (first|apply Kd.R_alloc|apply Kd.R_drewN|apply Kd.R_drew));exact HO190.out) hb)
     have n1_:=Aside0.mk (Kd.R_lower ho10 (below_size (by repeat (first|(with_reducible first|exact HB.out|apply zzD|apply zzE|apply zzF|refine below_set ?_ GE180.out|refine below_set ?_ GE181.out)|exact HB.out))))
     have n2_:=Aside0.mk (blk_below (g:=gb180) (o:=.cells #[.slice A0_0 l0_0.length c0_0,.slice A0_1 l0_1.length c0_1] 30 (0,0)) (by (with_reducible repeat (first|refine blk_drewN ?_ _|refine blk_drew ?_|refine blk_alloc ?_ _));exact BK180.out) hb)
     have n3_:=Aside0.mk (blk_below (g:=gb181) (o:=.cells #[.slice none 0 0,.slice none 0 0] 30 (0,0)) (by (with_reducible repeat (first|refine blk_drewN ?_ _|refine blk_drew ?_|refine blk_alloc ?_ _));exact BK181.out) hb)
     have n4_:=Aside0.mk (below_step (by repeat (first|(with_reducible first|exact HB.out|apply zzD|apply zzE|apply zzF|refine below_set ?_ GE180.out|refine below_set ?_ GE181.out)|exact HB.out)) hb)
     clear HO190
     clear BK180
     clear BK181
     clear HB
     have HO190:=n0_
     have HO184:=n1_
     have BK180:=n2_
     have BK181:=n3_
     have HB:=n4_
     clear n0_ n1_ n2_ n3_ n4_
     clear hb ho10
     refine hK.out _ _ ⟨(blk_cell BK180.out 0).trans rfl,(blk_cell BK180.out 1).trans rfl⟩ (fun hHeld=>?_)
     clear hK K
     refine norm_ (a':=?_) ?_ ?_
     rotate_left
     ·show Act.put _ (some 3) _ = _
      simp only [Act.put,zzA,zzB,zzC,i64_w,i32_w]
      rfl
     refine one_ (i:=3) (N:=some 6) #[true,true,true,true,true,true,true,false,false,false] rfl rfl (one_of HT_.out (by kernel_rfl)) (by decide) (fun K hK=>?_)
     refine Kd.R_append_rows_step (Kd.int .i64) (w0:=w) w.heap.size (by rfl) (.tmp 3) (.tmp 5) 27 3 (.int .i64 0) 8 rfl Try.underlying27 info3 rfl (by decide) (by omega) v183 y182 l0_0 _ _ _ (fun _=>True) (fun _=>False) rfl rfl ?aO ?aR (fun _ _ h=>h) (fun _ h=>h.elim) ?aF ?aB ?aS ?aL ?_
     (case aR=>repeat (first|exact (Kd.C_below HR0_0.out HB.out)|(with_reducible refine Kd.C_alloc ?_ _)|(with_reducible refine Kd.C_drewN ?_ _)|(with_reducible refine Kd.C_drew ?_)))
     (case aB=>exact (by repeat (first|(with_reducible first|exact HB.out|apply zzD|apply zzE|apply zzF|refine below_set ?_ GE180.out|refine below_set ?_ GE181.out)|exact HB.out)))
     (case aF=>exact (fun _ _=>trivial))
     (case aO=>exact (by (with_reducible repeat (first|apply Kd.R_alloc|apply Kd.R_drewN|apply Kd.R_drew));exact HO184.out))
     (case aS=>exact (below_size (by repeat (first|(with_reducible first|exact HB.out|apply zzD|apply zzE|apply zzF|refine below_set ?_ GE180.out|refine below_set ?_ GE181.out)|exact HB.out))))
     (case aL=>have:=LMc2.out;omega)
     intro v186 w11 ho hb hg hat
     rw [← Ny185.out] at ho
     have n0_:=Aside0.mk (blk_grown (g:=gb180) (o:=.cells #[.slice A0_0 l0_0.length c0_0,.slice A0_1 l0_1.length c0_1] 30 (0,0)) (by (with_reducible repeat (first|refine blk_drewN ?_ _|refine blk_drew ?_|refine blk_alloc ?_ _));exact BK180.out) hg (Kd.R_ne HO184.out BK180.out (by decide)))
     have n1_:=Aside0.mk (blk_grown (g:=gb181) (o:=.cells #[.slice none 0 0,.slice none 0 0] 30 (0,0)) (by (with_reducible repeat (first|refine blk_drewN ?_ _|refine blk_drew ?_|refine blk_alloc ?_ _));exact BK181.out) hg (Kd.R_ne HO184.out BK181.out (by decide)))
     have n2_:=Aside0.mk (Kd.R_over' (by (with_reducible repeat (first|apply Kd.R_alloc|apply Kd.R_drewN|apply Kd.R_drew));exact HO190.out) (Kd.R_typed (by (with_reducible repeat (first|apply Kd.R_alloc|apply Kd.R_drewN|apply Kd.R_drew));exact HO184.out)) (by decide) hg)
     have n3_:=Aside0.mk (hb)
     have n4_:=Aside0.mk (ho)
     clear BK180
     clear BK181
     clear HO190
     clear HB
     clear HO184
     have BK180:=n0_
     have BK181:=n1_
     have HO190:=n2_
     have HB:=n3_
     have HO187:=n4_
     clear n0_ n1_ n2_ n3_ n4_
     clear ho hb hg hat
     refine hK.out _ _ ⟨(blk_cell BK180.out 0).trans rfl,(blk_cell BK180.out 1).trans rfl⟩ (fun hHeld=>?_)
     clear hK K
     refine norm_ (a':=?_) ?_ ?_
     rotate_left
     ·show Act.put _ (some 6) _ = _
      simp only [Act.put,zzA,zzB,zzC,i64_w,i32_w]
      rfl
     exact norm_ (by simp only [putAll,Act.put,zzA,zzB,zzC]) (hCont (v183,v186,v189) _ ⟨hHeld,(by (with_reducible repeat (first|apply Kd.R_alloc|apply Kd.R_drewN|apply Kd.R_drew));exact HO187.out),(by (with_reducible repeat (first|apply Kd.R_alloc|apply Kd.R_drewN|apply Kd.R_drew));exact HO190.out),(by (with_reducible repeat (first|refine blk_drewN ?_ _|refine blk_drew ?_|refine blk_alloc ?_ _));exact BK180.out),(by (with_reducible repeat (first|refine blk_drewN ?_ _|refine blk_drew ?_|refine blk_alloc ?_ _));exact BK181.out),(by repeat (first|(with_reducible first|exact HB.out|apply zzD|apply zzE|apply zzF|refine below_set ?_ GE180.out|refine below_set ?_ GE181.out)|exact HB.out))⟩)
   rintro ⟨v183,v186,v189⟩ w12 ⟨hS_,h0_,h1_,h2_,h3_,h4_⟩
   have n0_ : Aside0 (Kd.R (Kd.int .i64) 3 w12 w.heap.size (fun _=>True) v186 y185):=⟨h0_⟩
   have n1_ : Aside0 (Kd.R k34 34 w12 w.heap.size (fun _=>True) v189 y188):=⟨h1_⟩
   have n2_ : Aside0 (w12.heap[gb180]? = some (.cells #[.slice A0_0 l0_0.length c0_0,.slice A0_1 l0_1.length c0_1] 30 (0,0))):=⟨h2_⟩
   have n3_ : Aside0 (w12.heap[gb181]? = some (.cells #[.slice none 0 0,.slice none 0 0] 30 (0,0))):=⟨h3_⟩
   have n4_ : Aside0 (Below w.heap.size w w12):=⟨h4_⟩
   clear BK180
   clear BK181
   clear HB
   clear h0_ h1_ h2_ h3_ h4_
   have HO187:=n0_
   have HO190:=n1_
   have BK180:=n2_
   have BK181:=n3_
   have HB:=n4_
   clear n0_ n1_ n2_ n3_ n4_
   have hHeld : w12.cell? ⟨gb180,0,none⟩ = some (.slice A0_0 l0_0.length c0_0) ∧ w12.cell? ⟨gb180,1,none⟩ = some (.slice A0_1 l0_1.length c0_1):=hS_
   refine norm_ (a':=?_) ?_ ?_
   rotate_left
   ·simp only [putAll,Act.put,zzA,zzB,zzC]
    rfl
   refine one_ (i:=7) (N:=some 10) #[true,true,true,true,true,true,true,true,false,false] rfl rfl (one_of HT_.out (by kernel_rfl)) (by decide) (fun K hK=>?_)
   refine Kd.R_append_rows_step k34 (w0:=w) w.heap.size (by rfl) (.tmp 7) (.tmp 9) 28 34 (.agg #[(.int .i64 0),(.int .i64 0),(.int .i64 0)]) 24 rfl Try.underlying28 info34 rfl (by decide) (by omega) v189 y188 l0_1 _ _ _ (fun _=>True) (fun _=>False) rfl rfl ?aO ?aR (fun _ _ h=>h) (fun _ h=>h.elim) ?aF ?aB ?aS ?aL ?_
   (case aR=>repeat (first|exact (Kd.C_below HR0_1.out HB.out)|(with_reducible refine Kd.C_alloc ?_ _)|(with_reducible refine Kd.C_drewN ?_ _)|(with_reducible refine Kd.C_drew ?_)))
   (case aB=>exact (by repeat (first|(with_reducible first|exact HB.out|apply zzD|apply zzE|apply zzF|refine below_set ?_ GE180.out|refine below_set ?_ GE181.out)|exact HB.out)))
   (case aF=>exact (fun _ _=>trivial))
   (case aO=>exact (by (with_reducible repeat (first|apply Kd.R_alloc|apply Kd.R_drewN|apply Kd.R_drew));exact HO190.out))
   (case aS=>exact (below_size (by repeat (first|(with_reducible first|exact HB.out|apply zzD|apply zzE|apply zzF|refine below_set ?_ GE180.out|refine below_set ?_ GE181.out)|exact HB.out))))
   (case aL=>have:=LMc3.out;omega)
   intro v192 w13 ho hb hg hat
   rw [← Ny191.out] at ho
   have n0_:=Aside0.mk (blk_grown (g:=gb180) (o:=.cells #[.slice A0_0 l0_0.length c0_0,.slice A0_1 l0_1.length c0_1] 30 (0,0)) (by (with_reducible repeat (first|refine blk_drewN ?_ _|refine blk_drew ?_|refine blk_alloc ?_ _));exact BK180.out) hg (Kd.R_ne HO190.out BK180.out (by decide)))
   have n1_:=Aside0.mk (blk_grown (g:=gb181) (o:=.cells #[.slice none 0 0,.slice none 0 0] 30 (0,0)) (by (with_reducible repeat (first|refine blk_drewN ?_ _|refine blk_drew ?_|refine blk_alloc ?_ _));exact BK181.out) hg (Kd.R_ne HO190.out BK181.out (by decide)))
   have n2_:=Aside0.mk (Kd.R_over' (by (with_reducible repeat (first|apply Kd.R_alloc|apply Kd.R_drewN|apply Kd.R_drew));exact HO187.out) (Kd.R_typed (by (with_reducible repeat (first|apply Kd.R_alloc|apply Kd.R_drewN|apply Kd.R_drew));exact HO190.out)) (by decide) hg)
   have n3_:=Aside0.mk (hb)
   have n4_:=Aside0.mk (ho)
   clear BK180
   clear BK181
   clear HO187
   clear HB
   clear HO190
   have BK180:=n0_
   have BK181:=n1_
   have HO187:=n2_
   have HB:=n3_
   have HO193:=n4_
   clear n0_ n1_ n2_ n3_ n4_
   clear ho hb hg hat
   obtain ⟨Ao14,co14,eo14⟩:=Kd.R_slice HO193.out
   (first|subst eo14|(injection eo14 with f1_ f2_ f3_;have f4_:=f1_.symm;have f5_:=f3_.symm;clear f1_ f2_ f3_;subst f4_;subst f5_))
   obtain ⟨Ao15,co15,eo15⟩:=Kd.R_slice HO187.out
   (first|subst eo15|(injection eo15 with f1_ f2_ f3_;have f4_:=f1_.symm;have f5_:=f3_.symm;clear f1_ f2_ f3_;subst f4_;subst f5_))
   refine hK.out _ _ ⟨(blk_cell BK180.out 0).trans rfl,(blk_cell BK180.out 1).trans rfl⟩ (fun hHeld=>?_)
   clear hK K
   refine norm_ (a':=?_) ?_ ?_
   rotate_left
   ·show Act.put _ (some 10) _ = _
    simp only [Act.put,zzA,zzB,zzC,i64_w,i32_w]
    rfl
   refine pure_ (i:=8) (N:=some 11) (v:=?_) (a':=?_) #[true,true,true,true,true,true,true,true,true,false] rfl rfl (any_of HT_.out (by kernel_rfl)) (fun _ _ _ h=>h) (Or.inl ⟨by rfl,?_⟩) ?_ ?_
   rotate_left
   ·intro w'
    go_simp
    with_reducible rfl
   rotate_left
   ·simp only [Act.put,zzA,zzB,zzC,i64_w,i32_w]
    rfl
   refine one_ (i:=9) (N:=none) #[true,true,true,true,true,true,true,true,true,true] rfl rfl (one_of HT_.out (by kernel_rfl)) (by decide) (fun K hK=>?_)
   have hs16 : w13.cell? ⟨gb181,0,none⟩ = some (.slice none 0 0):=(blk_cell BK181.out 0).trans rfl
   have hfs16:=blk_frozen BK181.out 0
   have hns16_0:=NB180_181.out
   have hms16_0:=NB181_180.out
   have hs17 : w13.cell? ⟨gb181,1,none⟩ = some (.slice none 0 0):=(blk_cell BK181.out 1).trans rfl
   have hfs17:=blk_frozen BK181.out 1
   have hns17_0:=NB180_181.out
   have hms17_0:=NB181_180.out
   refine skip_ (w1:=?_) (by rfl) rfl ?_ ?_
   rotate_left
   ·go_simp
    rfl
   refine hK.out _ _ ⟨((cell_far (p:=⟨gb181,_,none⟩) NB180_181.out _).trans (((cell_far (p:=⟨gb181,_,none⟩) NB180_181.out _).trans (hHeld.1)))),((cell_far (p:=⟨gb181,_,none⟩) NB180_181.out _).trans (((cell_far (p:=⟨gb181,_,none⟩) NB180_181.out _).trans (hHeld.2))))⟩ (fun hHeld=>?_)
   clear hK K
   refine done_ (done_of HT_.out (by kernel_rfl)) ?_
   try go_wp2
   refine bodyPost_ret (results_cell_row rfl _ _ gb181 30 #[.slice Ao15 y185.length co15,.slice Ao14 y191.length co14] (0,0) _ rfl (by (with_reducible repeat (first|refine blk_drewN ?_ _|refine blk_drew ?_|refine blk_alloc ?_ _));refine blk_put (cs:=#[.slice Ao15 y185.length co15,.slice none 0 0]) ?_ 1 _ rfl;(with_reducible repeat (first|refine blk_drewN ?_ _|refine blk_drew ?_|refine blk_alloc ?_ _));refine blk_put (cs:=#[.slice none 0 0,.slice none 0 0]) ?_ 0 _ rfl;(with_reducible repeat (first|refine blk_drewN ?_ _|refine blk_drew ?_|refine blk_alloc ?_ _));exact BK181.out) Try.underlying30 rfl (by kernel_rfl)) rfl ?_
   exact ⟨_,_,by first|rfl|(simp [errW_none,errW_some] <;> rfl)|(simp [*,errW_none,errW_some] <;> rfl),by (with_reducible repeat (first|apply Kd.R_alloc|apply Kd.R_drewN|apply Kd.R_drew));exact Kd.R_mono (Kd.R_far (p:=⟨gb181,1,none⟩) (Kd.R_far (p:=⟨gb181,0,none⟩) (Kd.R_types HO187.out BK181.out (by decide)) (fun _ hk=>hk.2) (.slice Ao15 y185.length co15)) (fun _ hk=>hk.2) (.slice Ao14 y191.length co14)) (fun _ hk=>trivial),by (with_reducible repeat (first|apply Kd.R_alloc|apply Kd.R_drewN|apply Kd.R_drew));exact Kd.R_mono (Kd.R_far (p:=⟨gb181,1,none⟩) (Kd.R_far (p:=⟨gb181,0,none⟩) (Kd.R_types HO193.out BK181.out (by decide)) (fun _ hk=>hk.2) (.slice Ao15 y185.length co15)) (fun _ hk=>hk.2) (.slice Ao14 y191.length co14)) (fun _ hk=>trivial),by repeat (first|(with_reducible first|exact HB.out|apply zzD|apply zzE|apply zzF|refine below_set ?_ GE180.out|refine below_set ?_ GE181.out)|exact HB.out)⟩
  ·rw [if_neg c3] at H
   exact absurd H (by simp)
 ·rw [if_neg c2] at H
  exact absurd H (by simp)
def scarfjointref05_Few.f (l0_0 : List Int) (l0_1 : List (S34)) : Option (Bool):=if (l0_0.length : Int) ≤ 45 then (some (decide ((l0_1.length : Int) ≤ 90))) else (some false)
set_option maxHeartbeats 8000000 in
set_option maxRecDepth 100000 in
theorem scarfjointref05_Few.calls (A0_0 : Option Addr) (c0_0 : Nat) (l0_0 : List Int) (A0_1 : Option Addr) (c0_1 : Nat) (l0_1 : List (S34)) (r : Bool) (w : World) (hr0_0 : Kd.C (Kd.int .i64) w A0_0 l0_0.length l0_0) (hc0_0 : l0_0.length ≤ c0_0) (hr0_1 : Kd.C k34 w A0_1 l0_1.length l0_1) (hc0_1 : l0_1.length ≤ c0_1) (h : scarfjointref05_Few.f l0_0 l0_1 = some r) :
  Calls Try.prog 51 #[.agg #[.slice A0_0 l0_0.length c0_0,.slice A0_1 l0_1.length c0_1]] w fun e w'=>e = .returned (.bool r) ∧ Below w.heap.size w w':=by
 have hu30:=Try.underlying30
 have HR0_0:=Aside0.mk hr0_0
 have HC0_0:=Aside0.mk hc0_0
 clear hr0_0 hc0_0
 have HR0_1:=Aside0.mk hr0_1
 have HC0_1:=Aside0.mk hc0_1
 clear hr0_1 hc0_1
 have HB:=Aside0.mk (Below.refl w.heap.size w)
 have H : (if (l0_0.length : Int) ≤ 45 then (some (decide ((l0_1.length : Int) ≤ 90))) else (some false)) = some r:=h
 clear h
 by_cases c2 : (l0_0.length : Int) ≤ 45
 ·rw [if_pos c2] at H
  have c2b0 : decide ((l0_0.length : Int) ≤ 45) = true:=decide_eq_true c2
  have c2b1 : decide (l0_0.length ≤ 45) = true:=decide_eq_true (by omega)
  clear c2
  obtain rfl:=Option.some.inj H
  go_enter Try.func51,Try.ntmps51
  go_wp2_with (first|((with_reducible refine gate_dst (N:=1) rfl ?_);(try (refine gate_guard (by rfl) ?_;dsimp only));refine box_event ?hg (N:=1) ?hd (cs:=#[.slice A0_0 l0_0.length c0_0,.slice A0_1 l0_1.length c0_1]) (t:=30) ?hr ?_;(case hd=>rfl);(case hg=>rfl);(case hr=>first|(go_simp;done)|(go_simp;rfl));intro gb194 hg w3 hbox hb;have n0_:=Aside0.mk (below_step (by repeat (first|(with_reducible first|exact HB.out|apply zzD|apply zzE|apply zzF)|exact HB.out)) hb);have n1_:=Aside0.mk (hbox);have n2_:=Aside0.mk ((by rw [hg];exact (below_size (by repeat (first|(with_reducible first|exact HB.out|apply zzD|apply zzE|apply zzF)|exact HB.out))) : w.heap.size ≤ gb194));have n3_:=Aside0.mk ((by rw [hg];exact (below_size (by repeat (first|(with_reducible first|exact HB.out|apply zzD|apply zzE|apply zzF)|exact HB.out))) : w.heap.size ≤ gb194));clear HB;have HB:=n0_;have BK194:=n1_;have GW194:=n2_;have GE194:=n3_;clear n0_ n1_ n2_ n3_;clear hb hbox hg;have hcz4_0 : w3.cell? ⟨gb194,0,none⟩ = some (.slice A0_0 l0_0.length c0_0):=(blk_cell BK194.out 0).trans rfl;have hcz4_1 : w3.cell? ⟨gb194,1,none⟩ = some (.slice A0_1 l0_1.length c0_1):=(blk_cell BK194.out 1).trans rfl;have hfz4_0:=blk_frozen BK194.out 0;have hfz4_1:=blk_frozen BK194.out 1))
  go_ret
  exact ⟨by first|rfl|(simp [errW_none,errW_some] <;> rfl)|(simp [*,errW_none,errW_some] <;> rfl),by repeat (first|(with_reducible first|exact HB.out|apply zzD|apply zzE|apply zzF|refine below_set ?_ GE194.out)|exact HB.out)⟩
 ·rw [if_neg c2] at H
  have c2b0 : decide ((l0_0.length : Int) ≤ 45) = false:=decide_eq_false c2
  have c2b1 : decide (l0_0.length ≤ 45) = false:=decide_eq_false (by omega)
  clear c2
  obtain rfl:=Option.some.inj H
  go_enter Try.func51,Try.ntmps51
  go_wp2_with (first|((with_reducible refine gate_dst (N:=1) rfl ?_);(try (refine gate_guard (by rfl) ?_;dsimp only));refine box_event ?hg (N:=1) ?hd (cs:=#[.slice A0_0 l0_0.length c0_0,.slice A0_1 l0_1.length c0_1]) (t:=30) ?hr ?_;(case hd=>rfl);(case hg=>rfl);(case hr=>first|(go_simp;done)|(go_simp;rfl));intro gb194 hg w5 hbox hb;have n0_:=Aside0.mk (below_step (by repeat (first|(with_reducible first|exact HB.out|apply zzD|apply zzE|apply zzF)|exact HB.out)) hb);have n1_:=Aside0.mk (hbox);have n2_:=Aside0.mk ((by rw [hg];exact (below_size (by repeat (first|(with_reducible first|exact HB.out|apply zzD|apply zzE|apply zzF)|exact HB.out))) : w.heap.size ≤ gb194));have n3_:=Aside0.mk ((by rw [hg];exact (below_size (by repeat (first|(with_reducible first|exact HB.out|apply zzD|apply zzE|apply zzF)|exact HB.out))) : w.heap.size ≤ gb194));clear HB;have HB:=n0_;have BK194:=n1_;have GW194:=n2_;have GE194:=n3_;clear n0_ n1_ n2_ n3_;clear hb hbox hg;have hcz6_0 : w5.cell? ⟨gb194,0,none⟩ = some (.slice A0_0 l0_0.length c0_0):=(blk_cell BK194.out 0).trans rfl;have hcz6_1 : w5.cell? ⟨gb194,1,none⟩ = some (.slice A0_1 l0_1.length c0_1):=(blk_cell BK194.out 1).trans rfl;have hfz6_0:=blk_frozen BK194.out 0;have hfz6_1:=blk_frozen BK194.out 1))
  go_ret
  exact ⟨by first|rfl|(simp [errW_none,errW_some] <;> rfl)|(simp [*,errW_none,errW_some] <;> rfl),by repeat (first|(with_reducible first|exact HB.out|apply zzD|apply zzE|apply zzF|refine below_set ?_ GE194.out)|exact HB.out)⟩
def scarfjointref05_kind.f (a0 : Int) : Option (Bool):=if a0 ≥ 0 then (some (decide (a0 ≤ 99))) else (some false)
set_option maxHeartbeats 8000000 in
set_option maxRecDepth 100000 in
theorem scarfjointref05_kind.calls (a0 : Int) (r : Bool) (w : World) (h : scarfjointref05_kind.f a0 = some r) :
  Calls Try.prog 74 #[.int .i64 a0] w fun e w'=>e = .returned (.bool r) ∧ Drawn0 w w':=by
 have H : (if a0 ≥ 0 then (some (decide (a0 ≤ 99))) else (some false)) = some r:=h
 clear h
 by_cases c2 : a0 ≥ 0
 ·rw [if_pos c2] at H
  have c2b0 : decide (0 ≤ a0) = true:=decide_eq_true c2
  clear c2
  obtain rfl:=Option.some.inj H
  go_enter Try.func74,Try.ntmps74
  go_wp2
  go_ret
  exact ⟨by first|rfl|(simp;done)|(simp [*];done),by repeat (first|exact Drawn0.refl _|apply Drawn0.step)⟩
 ·rw [if_neg c2] at H
  have c2b0 : decide (0 ≤ a0) = false:=decide_eq_false c2
  clear c2
  obtain rfl:=Option.some.inj H
  go_enter Try.func74,Try.ntmps74
  go_wp2
  go_ret
  exact ⟨by first|rfl|(simp;done)|(simp [*];done),by repeat (first|exact Drawn0.refl _|apply Drawn0.step)⟩
end Go.Proofs.Ytgmomcjnldahjaa.Pr
namespace Go.Proofs.Ytgmomcjnldahjaa.Pr
open Go.RowKit Go.Proofs.YtgmomcjnldahjaaW.PrintWords Go.Proofs.YtgmomcjnldahjaaW.PrintLast Go.Proofs.YtgmomcjnldahjaaW.PrintMore
attribute [local go_sem] max2_int min2_int max_two min_two max_three min_three max_four min_four
set_option linter.unusedVariables false
set_option linter.unusedSimpArgs false
def scarfjointref05_right.f (a0_0 : Int) (a0_1 : Int) (a0_2 : Int) (a1 : Int) : Option (Bool):=(scarfjointref05_kind.f a0_0).bind fun t196=>(if t196 = true then (if a0_1 ≥ 0 then (if a0_1 < a1 then (if a0_2 ≥ 0 then (some (decide (a0_2 < a1))) else (some false)) else (some false)) else (some false)) else (some false))
set_option maxHeartbeats 8000000 in
set_option maxRecDepth 100000 in
theorem scarfjointref05_right.calls (a0_0 : Int) (a0_1 : Int) (a0_2 : Int) (a1 : Int) (r : Bool) (w : World) (h : scarfjointref05_right.f a0_0 a0_1 a0_2 a1 = some r) :
  Calls Try.prog 75 #[.agg #[.int .i64 a0_0,.int .i64 a0_1,.int .i64 a0_2],.int .i64 a1] w fun e w'=>e = .returned (.bool r) ∧ Below w.heap.size w w':=by
 have hu34:=Try.underlying34
 have HB:=Aside0.mk (Below.refl w.heap.size w)
 have H : ((scarfjointref05_kind.f a0_0).bind fun t196=>(if t196 = true then (if a0_1 ≥ 0 then (if a0_1 < a1 then (if a0_2 ≥ 0 then (some (decide (a0_2 < a1))) else (some false)) else (some false)) else (some false)) else (some false))) = some r:=h
 clear h
 replace H:=Option.bind_eq_some_iff.mp H
 obtain ⟨t196,A30,H⟩:=H
 replace H : (if t196 = true then (if a0_1 ≥ 0 then (if a0_1 < a1 then (if a0_2 ≥ 0 then (some (decide (a0_2 < a1))) else (some false)) else (some false)) else (some false)) else (some false)) = some r:=H
 have A3:=Aside0.mk A30
 clear A30
 by_cases c4 : t196 = true
 ·subst c4
  have H1 : (if a0_1 ≥ 0 then (if a0_1 < a1 then (if a0_2 ≥ 0 then (some (decide (a0_2 < a1))) else (some false)) else (some false)) else (some false)) = some r:=by rw [if_pos rfl] at H;exact H
  clear H
  have H:=H1
  clear H1
  by_cases c5 : a0_1 ≥ 0
  ·rw [if_pos c5] at H
   have c5b0 : decide (0 ≤ a0_1) = true:=decide_eq_true c5
   clear c5
   by_cases c6 : a0_1 < a1
   ·rw [if_pos c6] at H
    have c6b0 : decide (a0_1 < a1) = true:=decide_eq_true c6
    clear c6
    by_cases c7 : a0_2 ≥ 0
    ·rw [if_pos c7] at H
     have c7b0 : decide (0 ≤ a0_2) = true:=decide_eq_true c7
     clear c7
     obtain rfl:=Option.some.inj H
     go_enter Try.func75,Try.ntmps75
     go_wp2_with (first|((with_reducible refine gate_dst (N:=2) rfl ?_);refine box_event ?hg (N:=2) ?hd (cs:=#[.int .i64 a0_0,.int .i64 a0_1,.int .i64 a0_2]) (t:=34) ?hr ?_;(case hd=>rfl);(case hg=>rfl);(case hr=>first|(go_simp;done)|(go_simp;rfl));intro gb195 hg w8 hbox hb;have n0_:=Aside0.mk (below_step (by repeat (first|(with_reducible first|exact HB.out|apply zzD|apply zzE|apply zzF)|exact HB.out)) hb);have n1_:=Aside0.mk (hbox);have n2_:=Aside0.mk ((by rw [hg];exact (below_size (by repeat (first|(with_reducible first|exact HB.out|apply zzD|apply zzE|apply zzF)|exact HB.out))) : w.heap.size ≤ gb195));have n3_:=Aside0.mk ((by rw [hg];exact (below_size (by repeat (first|(with_reducible first|exact HB.out|apply zzD|apply zzE|apply zzF)|exact HB.out))) : w.heap.size ≤ gb195));clear HB;have HB:=n0_;have BK195:=n1_;have GW195:=n2_;have GE195:=n3_;clear n0_ n1_ n2_ n3_;clear hb hbox hg;have hcz9_0 : w8.cell? ⟨gb195,0,none⟩ = some (.int .i64 a0_0):=(blk_cell BK195.out 0).trans rfl;have hcz9_1 : w8.cell? ⟨gb195,1,none⟩ = some (.int .i64 a0_1):=(blk_cell BK195.out 1).trans rfl;have hcz9_2 : w8.cell? ⟨gb195,2,none⟩ = some (.int .i64 a0_2):=(blk_cell BK195.out 2).trans rfl;have hfz9_0:=blk_frozen BK195.out 0;have hfz9_1:=blk_frozen BK195.out 1;have hfz9_2:=blk_frozen BK195.out 2)|((with_reducible refine gate_callee (f:=74) rfl ?_);refine goesL_ (some 7) rfl rfl Try.func74 (by kernel_rfl) rfl #[.int .i64 a0_0] rfl (by (try simp only [List.map_toArray,List.map_cons,List.map_nil]);first|done|rfl|(simp only [List.length_drop,List.length_take];rfl)) ?_;(with_reducible refine (scarfjointref05_kind.calls a0_0 true _ A3.out).mono ?_);rintro e w' ⟨rfl,⟨nd,rfl⟩⟩;refine ⟨_,rfl,?_⟩))
     go_ret
     exact ⟨by first|rfl|(simp [errW_none,errW_some] <;> rfl)|(simp [*,errW_none,errW_some] <;> rfl),by repeat (first|(with_reducible first|exact HB.out|apply zzD|apply zzE|apply zzF|refine below_set ?_ GE195.out)|exact HB.out)⟩
    ·rw [if_neg c7] at H
     have c7b0 : decide (0 ≤ a0_2) = false:=decide_eq_false c7
     clear c7
     obtain rfl:=Option.some.inj H
     go_enter Try.func75,Try.ntmps75
     go_wp2_with (first|((with_reducible refine gate_dst (N:=2) rfl ?_);refine box_event ?hg (N:=2) ?hd (cs:=#[.int .i64 a0_0,.int .i64 a0_1,.int .i64 a0_2]) (t:=34) ?hr ?_;(case hd=>rfl);(case hg=>rfl);(case hr=>first|(go_simp;done)|(go_simp;rfl));intro gb195 hg w10 hbox hb;have n0_:=Aside0.mk (below_step (by repeat (first|(with_reducible first|exact HB.out|apply zzD|apply zzE|apply zzF)|exact HB.out)) hb);have n1_:=Aside0.mk (hbox);have n2_:=Aside0.mk ((by rw [hg];exact (below_size (by repeat (first|(with_reducible first|exact HB.out|apply zzD|apply zzE|apply zzF)|exact HB.out))) : w.heap.size ≤ gb195));have n3_:=Aside0.mk ((by rw [hg];exact (below_size (by repeat (first|(with_reducible first|exact HB.out|apply zzD|apply zzE|apply zzF)|exact HB.out))) : w.heap.size ≤ gb195));clear HB;have HB:=n0_;have BK195:=n1_;have GW195:=n2_;have GE195:=n3_;clear n0_ n1_ n2_ n3_;clear hb hbox hg;have hcz11_0 : w10.cell? ⟨gb195,0,none⟩ = some (.int .i64 a0_0):=(blk_cell BK195.out 0).trans rfl;have hcz11_1 : w10.cell? ⟨gb195,1,none⟩ = some (.int .i64 a0_1):=(blk_cell BK195.out 1).trans rfl;have hcz11_2 : w10.cell? ⟨gb195,2,none⟩ = some (.int .i64 a0_2):=(blk_cell BK195.out 2).trans rfl;have hfz11_0:=blk_frozen BK195.out 0;have hfz11_1:=blk_frozen BK195.out 1;have hfz11_2:=blk_frozen BK195.out 2)|((with_reducible refine gate_callee (f:=74) rfl ?_);refine goesL_ (some 7) rfl rfl Try.func74 (by kernel_rfl) rfl #[.int .i64 a0_0] rfl (by (try simp only [List.map_toArray,List.map_cons,List.map_nil]);first|done|rfl|(simp only [List.length_drop,List.length_take];rfl)) ?_;(with_reducible refine (scarfjointref05_kind.calls a0_0 true _ A3.out).mono ?_);rintro e w' ⟨rfl,⟨nd,rfl⟩⟩;refine ⟨_,rfl,?_⟩))
     go_ret
     exact ⟨by first|rfl|(simp [errW_none,errW_some] <;> rfl)|(simp [*,errW_none,errW_some] <;> rfl),by repeat (first|(with_reducible first|exact HB.out|apply zzD|apply zzE|apply zzF|refine below_set ?_ GE195.out)|exact HB.out)⟩
   ·rw [if_neg c6] at H
    have c6b0 : decide (a0_1 < a1) = false:=decide_eq_false c6
    clear c6
    obtain rfl:=Option.some.inj H
    go_enter Try.func75,Try.ntmps75
    go_wp2_with (first|((with_reducible refine gate_dst (N:=2) rfl ?_);refine box_event ?hg (N:=2) ?hd (cs:=#[.int .i64 a0_0,.int .i64 a0_1,.int .i64 a0_2]) (t:=34) ?hr ?_;(case hd=>rfl);(case hg=>rfl);(case hr=>first|(go_simp;done)|(go_simp;rfl));intro gb195 hg w12 hbox hb;have n0_:=Aside0.mk (below_step (by repeat (first|(with_reducible first|exact HB.out|apply zzD|apply zzE|apply zzF)|exact HB.out)) hb);have n1_:=Aside0.mk (hbox);have n2_:=Aside0.mk ((by rw [hg];exact (below_size (by repeat (first|(with_reducible first|exact HB.out|apply zzD|apply zzE|apply zzF)|exact HB.out))) : w.heap.size ≤ gb195));have n3_:=Aside0.mk ((by rw [hg];exact (below_size (by repeat (first|(with_reducible first|exact HB.out|apply zzD|apply zzE|apply zzF)|exact HB.out))) : w.heap.size ≤ gb195));clear HB;have HB:=n0_;have BK195:=n1_;have GW195:=n2_;have GE195:=n3_;clear n0_ n1_ n2_ n3_;clear hb hbox hg;have hcz13_0 : w12.cell? ⟨gb195,0,none⟩ = some (.int .i64 a0_0):=(blk_cell BK195.out 0).trans rfl;have hcz13_1 : w12.cell? ⟨gb195,1,none⟩ = some (.int .i64 a0_1):=(blk_cell BK195.out 1).trans rfl;have hcz13_2 : w12.cell? ⟨gb195,2,none⟩ = some (.int .i64 a0_2):=(blk_cell BK195.out 2).trans rfl;have hfz13_0:=blk_frozen BK195.out 0;have hfz13_1:=blk_frozen BK195.out 1;have hfz13_2:=blk_frozen BK195.out 2)|((with_reducible refine gate_callee (f:=74) rfl ?_);refine goesL_ (some 7) rfl rfl Try.func74 (by kernel_rfl) rfl #[.int .i64 a0_0] rfl (by (try simp only [List.map_toArray,List.map_cons,List.map_nil]);first|done|rfl|(simp only [List.length_drop,List.length_take];rfl)) ?_;(with_reducible refine (scarfjointref05_kind.calls a0_0 true _ A3.out).mono ?_);rintro e w' ⟨rfl,⟨nd,rfl⟩⟩;refine ⟨_,rfl,?_⟩))
    go_ret
    exact ⟨by first|rfl|(simp [errW_none,errW_some] <;> rfl)|(simp [*,errW_none,errW_some] <;> rfl),by repeat (first|(with_reducible first|exact HB.out|apply zzD|apply zzE|apply zzF|refine below_set ?_ GE195.out)|exact HB.out)⟩
  ·rw [if_neg c5] at H
   have c5b0 : decide (0 ≤ a0_1) = false:=decide_eq_false c5
   clear c5
   obtain rfl:=Option.some.inj H
   go_enter Try.func75,Try.ntmps75
   go_wp2_with (first|((with_reducible refine gate_dst (N:=2) rfl ?_);refine box_event ?hg (N:=2) ?hd (cs:=#[.int .i64 a0_0,.int .i64 a0_1,.int .i64 a0_2]) (t:=34) ?hr ?_;(case hd=>rfl);(case hg=>rfl);(case hr=>first|(go_simp;done)|(go_simp;rfl));intro gb195 hg w14 hbox hb;have n0_:=Aside0.mk (below_step (by repeat (first|(with_reducible first|exact HB.out|apply zzD|apply zzE|apply zzF)|exact HB.out)) hb);have n1_:=Aside0.mk (hbox);have n2_:=Aside0.mk ((by rw [hg];exact (below_size (by repeat (first|(with_reducible first|exact HB.out|apply zzD|apply zzE|apply zzF)|exact HB.out))) : w.heap.size ≤ gb195));have n3_:=Aside0.mk ((by rw [hg];exact (below_size (by repeat (first|(with_reducible first|exact HB.out|apply zzD|apply zzE|apply zzF)|exact HB.out))) : w.heap.size ≤ gb195));clear HB;have HB:=n0_;have BK195:=n1_;have GW195:=n2_;have GE195:=n3_;clear n0_ n1_ n2_ n3_;clear hb hbox hg;have hcz15_0 : w14.cell? ⟨gb195,0,none⟩ = some (.int .i64 a0_0):=(blk_cell BK195.out 0).trans rfl;have hcz15_1 : w14.cell? ⟨gb195,1,none⟩ = some (.int .i64 a0_1):=(blk_cell BK195.out 1).trans rfl;have hcz15_2 : w14.cell? ⟨gb195,2,none⟩ = some (.int .i64 a0_2):=(blk_cell BK195.out 2).trans rfl;have hfz15_0:=blk_frozen BK195.out 0;have hfz15_1:=blk_frozen BK195.out 1;have hfz15_2:=blk_frozen BK195.out 2)|((with_reducible refine gate_callee (f:=74) rfl ?_);refine goesL_ (some 7) rfl rfl Try.func74 (by kernel_rfl) rfl #[.int .i64 a0_0] rfl (by (try simp only [List.map_toArray,List.map_cons,List.map_nil]);first|done|rfl|(simp only [List.length_drop,List.length_take];rfl)) ?_;(with_reducible refine (scarfjointref05_kind.calls a0_0 true _ A3.out).mono ?_);rintro e w' ⟨rfl,⟨nd,rfl⟩⟩;refine ⟨_,rfl,?_⟩))
   go_ret
   exact ⟨by first|rfl|(simp [errW_none,errW_some] <;> rfl)|(simp [*,errW_none,errW_some] <;> rfl),by repeat (first|(with_reducible first|exact HB.out|apply zzD|apply zzE|apply zzF|refine below_set ?_ GE195.out)|exact HB.out)⟩
 ·replace c4:=Bool.eq_false_iff.mpr c4
  subst c4
  have H1 : (some false) = some r:=by rw [if_neg (show ¬ (false = true) by decide)] at H;exact H
  clear H
  have H:=H1
  clear H1
  obtain rfl:=Option.some.inj H
  go_enter Try.func75,Try.ntmps75
  go_wp2_with (first|((with_reducible refine gate_dst (N:=2) rfl ?_);refine box_event ?hg (N:=2) ?hd (cs:=#[.int .i64 a0_0,.int .i64 a0_1,.int .i64 a0_2]) (t:=34) ?hr ?_;(case hd=>rfl);(case hg=>rfl);(case hr=>first|(go_simp;done)|(go_simp;rfl));intro gb195 hg w16 hbox hb;have n0_:=Aside0.mk (below_step (by repeat (first|(with_reducible first|exact HB.out|apply zzD|apply zzE|apply zzF)|exact HB.out)) hb);have n1_:=Aside0.mk (hbox);have n2_:=Aside0.mk ((by rw [hg];exact (below_size (by repeat (first|(with_reducible first|exact HB.out|apply zzD|apply zzE|apply zzF)|exact HB.out))) : w.heap.size ≤ gb195));have n3_:=Aside0.mk ((by rw [hg];exact (below_size (by repeat (first|(with_reducible first|exact HB.out|apply zzD|apply zzE|apply zzF)|exact HB.out))) : w.heap.size ≤ gb195));clear HB;have HB:=n0_;have BK195:=n1_;have GW195:=n2_;have GE195:=n3_;clear n0_ n1_ n2_ n3_;clear hb hbox hg;have hcz17_0 : w16.cell? ⟨gb195,0,none⟩ = some (.int .i64 a0_0):=(blk_cell BK195.out 0).trans rfl;have hcz17_1 : w16.cell? ⟨gb195,1,none⟩ = some (.int .i64 a0_1):=(blk_cell BK195.out 1).trans rfl;have hcz17_2 : w16.cell? ⟨gb195,2,none⟩ = some (.int .i64 a0_2):=(blk_cell BK195.out 2).trans rfl;have hfz17_0:=blk_frozen BK195.out 0;have hfz17_1:=blk_frozen BK195.out 1;have hfz17_2:=blk_frozen BK195.out 2)|((with_reducible refine gate_callee (f:=74) rfl ?_);refine goesL_ (some 7) rfl rfl Try.func74 (by kernel_rfl) rfl #[.int .i64 a0_0] rfl (by (try simp only [List.map_toArray,List.map_cons,List.map_nil]);first|done|rfl|(simp only [List.length_drop,List.length_take];rfl)) ?_;(with_reducible refine (scarfjointref05_kind.calls a0_0 false _ A3.out).mono ?_);rintro e w' ⟨rfl,⟨nd,rfl⟩⟩;refine ⟨_,rfl,?_⟩))
  go_ret
  exact ⟨by first|rfl|(simp [errW_none,errW_some] <;> rfl)|(simp [*,errW_none,errW_some] <;> rfl),by repeat (first|(with_reducible first|exact HB.out|apply zzD|apply zzE|apply zzF|refine below_set ?_ GE195.out)|exact HB.out)⟩
end Go.Proofs.Ytgmomcjnldahjaa.Pr
namespace Go.Proofs.Ytgmomcjnldahjaa.Pr
open Go.RowKit Go.Proofs.YtgmomcjnldahjaaW.PrintWords Go.Proofs.YtgmomcjnldahjaaW.PrintLast Go.Proofs.YtgmomcjnldahjaaW.PrintMore
attribute [local go_sem] max2_int min2_int max_two min_two max_three min_three max_four min_four
set_option linter.unusedVariables false
set_option linter.unusedSimpArgs false
mutual
def scarfjointref05_Valid.j0 : Nat → Bool → List Int → List (S34) → Option (Int)
 | 0,_,_,_ => none
 | k + 1,x14,x198000,x198001 => if x14 = true then (some 3) else (scarfjointref05_Valid.l0 k 0 x198000 x198001)
def scarfjointref05_Valid.l0 : Nat → Int → List Int → List (S34) → Option (Int)
 | 0,_,_,_ => none
 | k + 1,x3,x198000,x198001 => if x3 < (x198000.length : Int) then (if 0 ≤ x3 then ((scarfjointref05_kind.f (rd x198000 x3)).bind fun t199 => (if t199 = true then (scarfjointref05_Valid.l0 k (wrap64 (x3 + 1)) x198000 x198001) else (some 6))) else (none)) else (scarfjointref05_Valid.l1 k 0 x198000 x198001)
def scarfjointref05_Valid.l1 : Nat → Int → List Int → List (S34) → Option (Int)
 | 0,_,_,_ => none
 | k + 1,x4,x198000,x198001 => if x4 < (x198001.length : Int) then (if 0 ≤ x4 then ((scarfjointref05_right.f ((rd_T34 x198001 x4).f0) ((rd_T34 x198001 x4).f1) ((rd_T34 x198001 x4).f2) (x198000.length : Int)).bind fun t201 => (if t201 = true then (scarfjointref05_Valid.l1 k (wrap64 (x4 + 1)) x198000 x198001) else (some 6))) else (none)) else (some 0)
end
def scarfjointref05_Valid.f (k : Nat) (l0_0 : List Int) (l0_1 : List (S34)) : Option (Int):=if (l0_0.length : Int) > 40 then (scarfjointref05_Valid.j0 k true l0_0 l0_1) else (scarfjointref05_Valid.j0 k (decide ((l0_1.length : Int) > 80)) l0_0 l0_1)
def scarfjointref05_Valid.T11 : Bool × List (List Nat × List Nat):=(true,[([],[]),([0],[0]),([],[]),([1,2],[1,2]),([3],[3]),([],[]),([5],[5]),([6],[6]),([4,7],[4,7]),([8],[8])])
def scarfjointref05_Valid.B11 : List Nat:=[0,1,0,7,15,0,32,96,255,511]
theorem scarfjointref05_Valid.tab11 : rtab .any (opsOf Try.f58 11) = scarfjointref05_Valid.T11:=by kernel_rfl
theorem scarfjointref05_Valid.bits11 : waitsOk scarfjointref05_Valid.T11.2 scarfjointref05_Valid.B11 = true:=by kernel_rfl
set_option maxHeartbeats 8000000 in
set_option maxRecDepth 100000 in
theorem scarfjointref05_Valid.calls (k : Nat) (A0_0 : Option Addr) (c0_0 : Nat) (l0_0 : List Int) (A0_1 : Option Addr) (c0_1 : Nat) (l0_1 : List (S34)) (r : Int) (w : World) (hr0_0 : Kd.C (Kd.int .i64) w A0_0 l0_0.length l0_0) (hc0_0 : l0_0.length ≤ c0_0) (hr0_1 : Kd.C k34 w A0_1 l0_1.length l0_1) (hc0_1 : l0_1.length ≤ c0_1) (h : scarfjointref05_Valid.f k l0_0 l0_1 = some r) :
  Calls Try.prog 58 #[.agg #[.slice A0_0 l0_0.length c0_0,.slice A0_1 l0_1.length c0_1]] w fun e w'=>e = .returned (.int .i64 r) ∧ Below w.heap.size w w':=by
 have hu30:=Try.underlying30
 have hu34:=Try.underlying34
 have HR0_0:=Aside0.mk hr0_0
 have HC0_0:=Aside0.mk hc0_0
 clear hr0_0 hc0_0
 have HR0_1:=Aside0.mk hr0_1
 have HC0_1:=Aside0.mk hc0_1
 clear hr0_1 hc0_1
 have HB:=Aside0.mk (Below.refl w.heap.size w)
 have H : (if (l0_0.length : Int) > 40 then (scarfjointref05_Valid.j0 k true l0_0 l0_1) else (scarfjointref05_Valid.j0 k (decide ((l0_1.length : Int) > 80)) l0_0 l0_1)) = some r:=h
 clear h
 have HC2:=Aside0.mk H
 clear H
 go_enter Try.func58,Try.ntmps58
 go_upto_region 1 with (first|((with_reducible refine gate_dst (N:=1) rfl ?_);(try (refine gate_guard (by rfl) ?_;dsimp only));refine box_event ?hg (N:=1) ?hd (cs:=#[.slice A0_0 l0_0.length c0_0,.slice A0_1 l0_1.length c0_1]) (t:=30) ?hr ?_;(case hd=>rfl);(case hg=>rfl);(case hr=>first|(go_simp;done)|(go_simp;rfl));intro gb197 hg w3 hbox hb;have n0_:=Aside0.mk (below_step (by repeat (first|(with_reducible first|exact HB.out|apply zzD|apply zzE|apply zzF)|exact HB.out)) hb);have n1_:=Aside0.mk (hbox);have n2_:=Aside0.mk ((by rw [hg];exact (below_size (by repeat (first|(with_reducible first|exact HB.out|apply zzD|apply zzE|apply zzF)|exact HB.out))) : w.heap.size ≤ gb197));have n3_:=Aside0.mk ((by rw [hg];exact (below_size (by repeat (first|(with_reducible first|exact HB.out|apply zzD|apply zzE|apply zzF)|exact HB.out))) : w.heap.size ≤ gb197));clear HB;have HB:=n0_;have BK197:=n1_;have GW197:=n2_;have GE197:=n3_;clear n0_ n1_ n2_ n3_;clear hb hbox hg))
 (try simp only [Act.put,zzA,zzB,zzC])
 go_cut [14] (fun v14 wc=>∃ (kq : Nat) (x14_1 : Bool),v14 = .bool x14_1 ∧ Aside0 (scarfjointref05_Valid.j0 kq x14_1 l0_0 l0_1 = some r) ∧ Aside0 (kq ≤ k) ∧ Aside0 (wc.heap[gb197]? = some (.cells #[(.slice A0_0 l0_0.length c0_0),(.slice A0_1 l0_1.length c0_1)] 30 (0,0))) ∧ Aside0 (Below w.heap.size w wc))
 case first =>
  have H:=HC2.out
  clear HC2
  by_cases c4 : (l0_0.length : Int) > 40
  ·rw [if_pos c4] at H
   have c4b0 : decide (40 < (l0_0.length : Int)) = true:=decide_eq_true c4
   have c4b1 : decide (40 < l0_0.length) = true:=decide_eq_true (by omega)
   clear c4
   (first|rw [c4b0]|(simp only [i64_w,i32_w];rw [c4b0])|skip)
   have H':=Aside0.mk H
   clear H
   have hcz5_0 : w3.cell? ⟨gb197,0,none⟩ = some (.slice A0_0 l0_0.length c0_0):=(blk_cell BK197.out 0).trans rfl
   have hcz5_1 : w3.cell? ⟨gb197,1,none⟩ = some (.slice A0_1 l0_1.length c0_1):=(blk_cell BK197.out 1).trans rfl
   have hfz5_0:=blk_frozen BK197.out 0
   have hfz5_1:=blk_frozen BK197.out 1
   go_wp2
   go_meet
   case rel=>exact ⟨_,(true),(by first|rfl|(simp;done)|(simp [*];done)),H',⟨by first|omega|exact Nat.le_refl _⟩,⟨by (with_reducible repeat (first|refine blk_drewN ?_ _|refine blk_drew ?_|refine blk_alloc ?_ _));exact BK197.out⟩,⟨by repeat (first|(with_reducible first|exact HB.out|apply zzD|apply zzE|apply zzF|refine below_set ?_ GE197.out)|exact HB.out)⟩⟩
  ·rw [if_neg c4] at H
   have c4b0 : decide (40 < (l0_0.length : Int)) = false:=decide_eq_false c4
   have c4b1 : decide (40 < l0_0.length) = false:=decide_eq_false (by omega)
   clear c4
   (first|rw [c4b0]|(simp only [i64_w,i32_w];rw [c4b0])|skip)
   have H':=Aside0.mk H
   clear H
   have hcz6_0 : w3.cell? ⟨gb197,0,none⟩ = some (.slice A0_0 l0_0.length c0_0):=(blk_cell BK197.out 0).trans rfl
   have hcz6_1 : w3.cell? ⟨gb197,1,none⟩ = some (.slice A0_1 l0_1.length c0_1):=(blk_cell BK197.out 1).trans rfl
   have hfz6_0:=blk_frozen BK197.out 0
   have hfz6_1:=blk_frozen BK197.out 1
   go_wp2
   go_meet
   case rel=>exact ⟨_,(decide ((l0_1.length : Int) > 80)),(by first|rfl|(simp;done)|(simp [*];done)),H',⟨by first|omega|exact Nat.le_refl _⟩,⟨by (with_reducible repeat (first|refine blk_drewN ?_ _|refine blk_drew ?_|refine blk_alloc ?_ _));exact BK197.out⟩,⟨by repeat (first|(with_reducible first|exact HB.out|apply zzD|apply zzE|apply zzF|refine below_set ?_ GE197.out)|exact HB.out)⟩⟩
 case rest =>
  clear HC2
  try clear p2
  try clear c4
  try clear c4b0
  try clear c4b1
  try clear c5
  try clear hcz5_0
  try clear hcz5_1
  try clear hcz6_0
  try clear hcz6_1
  try clear hfz5_0
  try clear hfz5_1
  try clear hfz6_0
  try clear hfz6_1
  obtain ⟨kq,x14_1,rfl,HA,HJ1,BK197,HB⟩:=hcut
  cases kq with
  | zero => exact absurd HA.out (by simp [scarfjointref05_Valid.j0])
  | succ kj1 =>
   have H:=HA.out
   clear HA
   simp only [scarfjointref05_Valid.j0] at H
   by_cases c7 : x14_1 = true
   ·subst c7
    have H1 : (some 3) = some r:=by rw [if_pos rfl] at H;exact H
    clear H
    have H:=H1
    clear H1
    obtain rfl:=Option.some.inj H
    go_wp2
    go_ret
    exact ⟨by first|rfl|(simp [errW_none,errW_some] <;> rfl)|(simp [*,errW_none,errW_some] <;> rfl),by repeat (first|(with_reducible first|exact HB.out|apply zzD|apply zzE|apply zzF|refine below_set ?_ GE197.out)|exact HB.out)⟩
   ·replace c7:=Bool.eq_false_iff.mpr c7
    subst c7
    have H1 : (scarfjointref05_Valid.l0 kj1 0 l0_0 l0_1) = some r:=by rw [if_neg (show ¬ (false = true) by decide)] at H;exact H
    clear H
    have H:=H1
    clear H1
    have H':=Aside0.mk H
    clear H
    go_wp2
    go_loopg [3] kj1 (fun kq v3 w'=>∃ (x3_2 : Int),v3 = .int .i64 x3_2 ∧ Aside0 (scarfjointref05_Valid.l0 kq x3_2 l0_0 l0_1 = some r) ∧ Aside0 (kq ≤ kj1) ∧ Aside0 (w'.heap[gb197]? = some (.cells #[(.slice A0_0 l0_0.length c0_0),(.slice A0_1 l0_1.length c0_1)] 30 (0,0))) ∧ Aside0 (Below w.heap.size w w'))
    case atStart=>exact ⟨(0),(by first|rfl|(simp;done)|(simp [*];done)),H',⟨Nat.le_refl _⟩,⟨by (with_reducible repeat (first|refine blk_drewN ?_ _|refine blk_drew ?_|refine blk_alloc ?_ _));exact BK197.out⟩,⟨by repeat (first|(with_reducible first|exact HB.out|apply zzD|apply zzE|apply zzF|refine below_set ?_ GE197.out)|exact HB.out)⟩⟩
    case round =>
     clear H'
     try clear p2
     try clear c4
     try clear c4b0
     try clear c4b1
     try clear c5
     try clear c7
     try clear hcz5_0
     try clear hcz5_1
     try clear hcz6_0
     try clear hcz6_1
     try clear hfz5_0
     try clear hfz5_1
     try clear hfz6_0
     try clear hfz6_1
     try clear p2
     obtain ⟨x3_2,rfl,HA,HK2,BK197,HB⟩:=hrel
     cases gk with
     | zero => exact absurd HA.out (by simp [scarfjointref05_Valid.l0])
     | succ k2 =>
      have H:=HA.out
      clear HA
      simp only [scarfjointref05_Valid.l0] at H
      by_cases c8 : x3_2 < (l0_0.length : Int)
      ·rw [if_pos c8] at H
       have c8b0 : decide (x3_2 < (l0_0.length : Int)) = true:=decide_eq_true c8
       clear c8
       by_cases c9 : 0 ≤ x3_2
       ·rw [if_pos c9] at H
        have c9b0 : decide (0 ≤ x3_2) = true:=decide_eq_true c9
        clear c9
        replace H:=Option.bind_eq_some_iff.mp H
        obtain ⟨t199,A100,H⟩:=H
        replace H : (if t199 = true then (scarfjointref05_Valid.l0 k2 (wrap64 (x3_2 + 1)) l0_0 l0_1) else (some 6)) = some r:=H
        have A10:=Aside0.mk A100
        clear A100
        by_cases c11 : t199 = true
        ·subst c11
         have H1 : (scarfjointref05_Valid.l0 k2 (wrap64 (x3_2 + 1)) l0_0 l0_1) = some r:=by rw [if_pos rfl] at H;exact H
         clear H
         have H:=H1
         clear H1
         have H':=Aside0.mk H
         clear H
         have hcz12_0 : wr.cell? ⟨gb197,0,none⟩ = some (.slice A0_0 l0_0.length c0_0):=(blk_cell BK197.out 0).trans rfl
         have hcz12_1 : wr.cell? ⟨gb197,1,none⟩ = some (.slice A0_1 l0_1.length c0_1):=(blk_cell BK197.out 1).trans rfl
         have hfz12_0:=blk_frozen BK197.out 0
         have hfz12_1:=blk_frozen BK197.out 1
         have p198 : 0 ≤ (x3_2 : Int):=of_decide_eq_true (by first|(with_reducible assumption)|assumption)
         have q198 : x3_2 < (l0_0.length : Int):=of_decide_eq_true (by first|(with_reducible assumption)|assumption)
         obtain ⟨ad198,e198,hx198_0⟩:=Kd.at_int HR0_0.out x3_2 p198 q198
         cases e198
         replace hx198_0:=(HB.out.cell (World.block_lt_of_cell? w _ hx198_0)).trans hx198_0
         replace p198:=eq_true p198
         replace q198:=eq_true q198
         go_wp2_with (first|((with_reducible refine gate_callee (f:=74) rfl ?_);refine goesL_ (some 27) rfl rfl Try.func74 (by kernel_rfl) rfl #[.int .i64 (rd l0_0 x3_2)] rfl (by (try simp only [List.map_toArray,List.map_cons,List.map_nil]);first|done|rfl|(simp only [List.length_drop,List.length_take];rfl)) ?_;(with_reducible refine (scarfjointref05_kind.calls (rd l0_0 x3_2) true _ A10.out).mono ?_);rintro e w' ⟨rfl,⟨nd,rfl⟩⟩;refine ⟨_,rfl,?_⟩))
         go_roundg k2
         case measure=>have:=HJ1.out;have:=HK2.out;omega
         case rel=>exact ⟨(wrap64 (x3_2 + 1)),(by first|rfl|(simp;done)|(simp [*];done)),H',⟨by have:=HJ1.out;have:=HK2.out;omega⟩,⟨by (with_reducible repeat (first|refine blk_drewN ?_ _|refine blk_drew ?_|refine blk_alloc ?_ _));exact BK197.out⟩,⟨by repeat (first|(with_reducible first|exact HB.out|apply zzD|apply zzE|apply zzF|refine below_set ?_ GE197.out)|exact HB.out)⟩⟩
        ·replace c11:=Bool.eq_false_iff.mpr c11
         subst c11
         have H1 : (some 6) = some r:=by rw [if_neg (show ¬ (false = true) by decide)] at H;exact H
         clear H
         have H:=H1
         clear H1
         obtain rfl:=Option.some.inj H
         have hcz13_0 : wr.cell? ⟨gb197,0,none⟩ = some (.slice A0_0 l0_0.length c0_0):=(blk_cell BK197.out 0).trans rfl
         have hcz13_1 : wr.cell? ⟨gb197,1,none⟩ = some (.slice A0_1 l0_1.length c0_1):=(blk_cell BK197.out 1).trans rfl
         have hfz13_0:=blk_frozen BK197.out 0
         have hfz13_1:=blk_frozen BK197.out 1
         have p198 : 0 ≤ (x3_2 : Int):=of_decide_eq_true (by first|(with_reducible assumption)|assumption)
         have q198 : x3_2 < (l0_0.length : Int):=of_decide_eq_true (by first|(with_reducible assumption)|assumption)
         obtain ⟨ad198,e198,hx198_0⟩:=Kd.at_int HR0_0.out x3_2 p198 q198
         cases e198
         replace hx198_0:=(HB.out.cell (World.block_lt_of_cell? w _ hx198_0)).trans hx198_0
         replace p198:=eq_true p198
         replace q198:=eq_true q198
         go_wp2_with (first|((with_reducible refine gate_callee (f:=74) rfl ?_);refine goesL_ (some 27) rfl rfl Try.func74 (by kernel_rfl) rfl #[.int .i64 (rd l0_0 x3_2)] rfl (by (try simp only [List.map_toArray,List.map_cons,List.map_nil]);first|done|rfl|(simp only [List.length_drop,List.length_take];rfl)) ?_;(with_reducible refine (scarfjointref05_kind.calls (rd l0_0 x3_2) false _ A10.out).mono ?_);rintro e w' ⟨rfl,⟨nd,rfl⟩⟩;refine ⟨_,rfl,?_⟩))
         go_ret
         exact ⟨by first|rfl|(simp [errW_none,errW_some] <;> rfl)|(simp [*,errW_none,errW_some] <;> rfl),by repeat (first|(with_reducible first|exact HB.out|apply zzD|apply zzE|apply zzF|refine below_set ?_ GE197.out)|exact HB.out)⟩
       ·rw [if_neg c9] at H
        exact absurd H (by simp)
      ·rw [if_neg c8] at H
       have c8b0 : decide (x3_2 < (l0_0.length : Int)) = false:=decide_eq_false c8
       clear c8
       have H':=Aside0.mk H
       clear H
       have hcz14_0 : wr.cell? ⟨gb197,0,none⟩ = some (.slice A0_0 l0_0.length c0_0):=(blk_cell BK197.out 0).trans rfl
       have hcz14_1 : wr.cell? ⟨gb197,1,none⟩ = some (.slice A0_1 l0_1.length c0_1):=(blk_cell BK197.out 1).trans rfl
       have hfz14_0:=blk_frozen BK197.out 0
       have hfz14_1:=blk_frozen BK197.out 1
       go_wp2
       go_loopg [4] k2 (fun kq v4 w'=>∃ (x4_3 : Int),v4 = .int .i64 x4_3 ∧ Aside0 (scarfjointref05_Valid.l1 kq x4_3 l0_0 l0_1 = some r) ∧ Aside0 (kq ≤ k2) ∧ Aside0 (w'.heap[gb197]? = some (.cells #[(.slice A0_0 l0_0.length c0_0),(.slice A0_1 l0_1.length c0_1)] 30 (0,0))) ∧ Aside0 (Below w.heap.size w w'))
       case atStart=>exact ⟨(0),(by first|rfl|(simp;done)|(simp [*];done)),H',⟨Nat.le_refl _⟩,⟨by (with_reducible repeat (first|refine blk_drewN ?_ _|refine blk_drew ?_|refine blk_alloc ?_ _));exact BK197.out⟩,⟨by repeat (first|(with_reducible first|exact HB.out|apply zzD|apply zzE|apply zzF|refine below_set ?_ GE197.out)|exact HB.out)⟩⟩
       case round =>
        clear H'
        try clear c1
        try clear p1
        try clear q1
        try clear hx1
        try clear p2
        try clear c4
        try clear c4b0
        try clear c4b1
        try clear c5
        try clear p6
        try clear c7
        try clear c8
        try clear c8b0
        try clear c9
        try clear c9b0
        try clear c11
        try clear hcz12_0
        try clear hcz12_1
        try clear hcz13_0
        try clear hcz13_1
        try clear hcz14_0
        try clear hcz14_1
        try clear hcz5_0
        try clear hcz5_1
        try clear hcz6_0
        try clear hcz6_1
        try clear hfz12_0
        try clear hfz12_1
        try clear hfz13_0
        try clear hfz13_1
        try clear hfz14_0
        try clear hfz14_1
        try clear hfz5_0
        try clear hfz5_1
        try clear hfz6_0
        try clear hfz6_1
        try clear hx198_0
        try clear p198
        try clear p2
        try clear q198
        obtain ⟨x4_3,rfl,HA,HK3,BK197,HB⟩:=hrel
        cases gk with
        | zero => exact absurd HA.out (by simp [scarfjointref05_Valid.l1])
        | succ k3 =>
         have H:=HA.out
         clear HA
         simp only [scarfjointref05_Valid.l1] at H
         by_cases c15 : x4_3 < (l0_1.length : Int)
         ·rw [if_pos c15] at H
          have c15b0 : decide (x4_3 < (l0_1.length : Int)) = true:=decide_eq_true c15
          clear c15
          by_cases c16 : 0 ≤ x4_3
          ·rw [if_pos c16] at H
           have c16b0 : decide (0 ≤ x4_3) = true:=decide_eq_true c16
           clear c16
           replace H:=Option.bind_eq_some_iff.mp H
           obtain ⟨t201,A170,H⟩:=H
           replace H : (if t201 = true then (scarfjointref05_Valid.l1 k3 (wrap64 (x4_3 + 1)) l0_0 l0_1) else (some 6)) = some r:=H
           have A17:=Aside0.mk A170
           clear A170
           by_cases c18 : t201 = true
           ·subst c18
            have H1 : (scarfjointref05_Valid.l1 k3 (wrap64 (x4_3 + 1)) l0_0 l0_1) = some r:=by rw [if_pos rfl] at H;exact H
            clear H
            have H:=H1
            clear H1
            have H':=Aside0.mk H
            clear H
            have hcz19_0 : wr.cell? ⟨gb197,0,none⟩ = some (.slice A0_0 l0_0.length c0_0):=(blk_cell BK197.out 0).trans rfl
            have hcz19_1 : wr.cell? ⟨gb197,1,none⟩ = some (.slice A0_1 l0_1.length c0_1):=(blk_cell BK197.out 1).trans rfl
            have hfz19_0:=blk_frozen BK197.out 0
            have hfz19_1:=blk_frozen BK197.out 1
            try go_wp2
            have n0_:=Aside0.mk (blk_drew BK197.out)
            have n1_:=Aside0.mk (zzF HB.out)
            clear BK197
            clear HB
            have BK197:=n0_
            have HB:=n1_
            clear n0_ n1_
            have p200 : 0 ≤ (x4_3 : Int):=of_decide_eq_true (by first|(with_reducible assumption)|assumption)
            have q200 : x4_3 < (l0_1.length : Int):=of_decide_eq_true (by first|(with_reducible assumption)|assumption)
            obtain ⟨ad200,e200,hx200_0,hx200_1,hx200_2⟩:=at_T34 HR0_1.out x4_3 p200 q200
            have hw200_2:=hx200_2
            have hw200_1:=hx200_1
            have hw200_0:=hx200_0
            cases e200
            replace hx200_0:=(HB.out.cell (World.block_lt_of_cell? w _ hx200_0)).trans hx200_0
            replace hx200_1:=(HB.out.cell (World.block_lt_of_cell? w _ hx200_1)).trans hx200_1
            replace hx200_2:=(HB.out.cell (World.block_lt_of_cell? w _ hx200_2)).trans hx200_2
            replace p200:=eq_true p200
            replace q200:=eq_true q200
            refine start_ (n:=10) (S:=fun w'=>w'.cell? ⟨gb197,0,none⟩ = some (.slice A0_0 l0_0.length c0_0) ∧ w'.cell? ⟨gb197,1,none⟩ = some (.slice (some ad200) l0_1.length c0_1) ∧ w'.cell? (ad200.add ((x4_3).toNat * 3)) = some (.int .i64 ((rd_T34 l0_1 x4_3).f0)) ∧ w'.cell? ⟨(ad200.add ((x4_3).toNat * 3)).block,(ad200.add ((x4_3).toNat * 3)).off + 1,none⟩ = some (.int .i64 ((rd_T34 l0_1 x4_3).f1)) ∧ w'.cell? ⟨(ad200.add ((x4_3).toNat * 3)).block,(ad200.add ((x4_3).toNat * 3)).off + 2,none⟩ = some (.int .i64 ((rd_T34 l0_1 x4_3).f2))) (ds:=[]) #[false,false,false,false,false,false,false,false,false,false] (by kernel_rfl) rfl rfl ⟨(blk_cell BK197.out 0).trans rfl,(blk_cell BK197.out 1).trans rfl,((HB.out.cell (World.block_lt_of_cell? w _ hw200_0)).trans hw200_0),((HB.out.cell (World.block_lt_of_cell? w _ hw200_1)).trans hw200_1),((HB.out.cell (World.block_lt_of_cell? w _ hw200_2)).trans hw200_2)⟩ (fun hHeld=>?_);refine with_tabW scarfjointref05_Valid.tab11 scarfjointref05_Valid.bits11 (fun HT_ HW_=>?_)
            generalize wr.drew = w20 at BK197 HB hx200_0 hx200_1 hx200_2 hHeld ⊢
            refine pure_ (i:=0) (N:=some 36) (v:=?_) (a':=?_) #[true,false,false,false,false,false,false,false,false,false] rfl rfl (any_of HT_.out (by kernel_rfl)) (fun _ _ _ h=>h) (Or.inl ⟨by rfl,?_⟩) ?_ ?_
            rotate_left
            ·intro w'
             go_simp
             with_reducible rfl
            rotate_left
            ·simp only [Act.put,zzA,zzB,zzC,i64_w,i32_w]
             rfl
            refine pure_ (i:=2) (N:=some 38) (v:=?_) (a':=?_) #[true,false,true,false,false,false,false,false,false,false] rfl rfl (any_of HT_.out (by kernel_rfl)) (fun _ _ _ h=>h) (Or.inl ⟨by rfl,?_⟩) ?_ ?_
            rotate_left
            ·intro w'
             go_simp
             with_reducible rfl
            rotate_left
            ·simp only [Act.put,zzA,zzB,zzC,i64_w,i32_w]
             rfl
            refine pure_ (i:=5) (N:=some 41) (v:=?_) (a':=?_) #[true,false,true,false,false,true,false,false,false,false] rfl rfl (any_of HT_.out (by kernel_rfl)) (fun _ _ _ h=>h) (Or.inl ⟨by rfl,?_⟩) ?_ ?_
            rotate_left
            ·intro w'
             go_simp
             with_reducible rfl
            rotate_left
            ·simp only [Act.put,zzA,zzB,zzC,i64_w,i32_w]
             rfl
            refine take_ (i:=1) (N:=some 37) (v:=?_) (a':=?_) #[true,true,true,false,false,true,false,false,false,false] rfl rfl (take_ofW HT_.out HW_.out (by kernel_rfl)) (fun _ _ _ h=>h) (Or.inl ⟨by rfl,?_⟩) hHeld ?_ ?_
            rotate_left
            ·rintro w' ⟨s0,s1,s2,s3,s4⟩
             go_simp
             with_reducible rfl
            rotate_left
            ·simp only [Act.put,zzA,zzB,zzC,i64_w,i32_w]
             rfl
            refine pure_ (i:=3) (N:=some 39) (v:=?_) (a':=?_) #[true,true,true,true,false,true,false,false,false,false] rfl rfl (any_of HT_.out (by kernel_rfl)) (fun _ _ _ h=>h) (Or.inl ⟨by rfl,?_⟩) ?_ ?_
            rotate_left
            ·intro w'
             go_simp
             with_reducible rfl
            rotate_left
            ·simp only [Act.put,zzA,zzB,zzC,i64_w,i32_w]
             rfl
            refine take_ (i:=4) (N:=some 40) (v:=?_) (a':=?_) #[true,true,true,true,true,true,false,false,false,false] rfl rfl (take_ofW HT_.out HW_.out (by kernel_rfl)) (fun _ _ _ h=>h) (Or.inl ⟨by rfl,?_⟩) hHeld ?_ ?_
            rotate_left
            ·rintro w' ⟨s0,s1,s2,s3,s4⟩
             go_simp
             with_reducible rfl
            rotate_left
            ·simp only [Act.put,zzA,zzB,zzC,i64_w,i32_w]
             rfl
            refine take_ (i:=6) (N:=some 42) (v:=?_) (a':=?_) #[true,true,true,true,true,true,true,false,false,false] rfl rfl (take_ofW HT_.out HW_.out (by kernel_rfl)) (fun _ _ _ h=>h) (Or.inl ⟨by rfl,?_⟩) hHeld ?_ ?_
            rotate_left
            ·rintro w' ⟨s0,s1,s2,s3,s4⟩
             go_simp
             with_reducible rfl
            rotate_left
            ·simp only [Act.put,zzA,zzB,zzC,i64_w,i32_w]
             rfl
            refine pure_ (i:=7) (N:=some 43) (v:=?_) (a':=?_) #[true,true,true,true,true,true,true,true,false,false] rfl rfl (any_of HT_.out (by kernel_rfl)) (fun _ _ _ h=>h) (Or.inl ⟨by rfl,?_⟩) ?_ ?_
            rotate_left
            ·intro w'
             go_simp
             with_reducible rfl
            rotate_left
            ·simp only [Act.put,zzA,zzB,zzC,i64_w,i32_w]
             rfl
            refine one_ (i:=8) (N:=some 44) #[true,true,true,true,true,true,true,true,true,false] rfl rfl (one_of HT_.out (by kernel_rfl)) (by decide) (fun K hK=>?_)
            refine goes_ Try.func75 (by kernel_rfl) rfl #[.agg #[.int .i64 ((rd_T34 l0_1 x4_3).f0),.int .i64 ((rd_T34 l0_1 x4_3).f1),.int .i64 ((rd_T34 l0_1 x4_3).f2)],.int .i64 (l0_0.length : Int)] (by rfl) rfl rfl (by (try simp only [List.map_toArray,List.map_cons,List.map_nil]);first|done|rfl|(simp only [List.length_drop,List.length_take];rfl)) ?_
            with_reducible refine (scarfjointref05_right.calls ((rd_T34 l0_1 x4_3).f0) ((rd_T34 l0_1 x4_3).f1) ((rd_T34 l0_1 x4_3).f2) (l0_0.length : Int) true _ A17.out).mono ?_
            rintro e w21 ⟨rfl,hb⟩
            refine ⟨_,rfl,?_⟩
            have n0_:=Aside0.mk (blk_below (g:=gb197) (o:=.cells #[.slice A0_0 l0_0.length c0_0,.slice (some ad200) l0_1.length c0_1] 30 (0,0)) (by (with_reducible repeat (first|refine blk_drewN ?_ _|refine blk_drew ?_|refine blk_alloc ?_ _));exact BK197.out) hb)
            have n1_:=Aside0.mk (below_step (by repeat (first|(with_reducible first|exact HB.out|apply zzD|apply zzE|apply zzF|refine below_set ?_ GE197.out)|exact HB.out)) hb)
            clear BK197
            clear HB
            have BK197:=n0_
            have HB:=n1_
            clear n0_ n1_
            (try clear hb)
            (try clear hb2)
            (try clear hk)
            (try clear hi)
            refine hK.out _ _ ⟨(blk_cell BK197.out 0).trans rfl,(blk_cell BK197.out 1).trans rfl,((HB.out.cell (World.block_lt_of_cell? w _ hw200_0)).trans hw200_0),((HB.out.cell (World.block_lt_of_cell? w _ hw200_1)).trans hw200_1),((HB.out.cell (World.block_lt_of_cell? w _ hw200_2)).trans hw200_2)⟩ (fun hHeld=>?_)
            clear hK K
            refine norm_ (a':=?_) ?_ ?_
            rotate_left
            ·show Act.put _ (some 44) _ = _
             simp only [Act.put,zzA,zzB,zzC,i64_w,i32_w]
             rfl
            refine pure_ (i:=9) (N:=some 45) (v:=?_) (a':=?_) #[true,true,true,true,true,true,true,true,true,true] rfl rfl (any_of HT_.out (by kernel_rfl)) (fun _ _ _ h=>h) (Or.inl ⟨by rfl,?_⟩) ?_ ?_
            rotate_left
            ·intro w'
             go_simp
             with_reducible rfl
            rotate_left
            ·simp only [Act.put,zzA,zzB,zzC,i64_w,i32_w]
             rfl
            refine done_ (done_of HT_.out (by kernel_rfl)) ?_
            try go_wp2
            go_roundg k3
            case measure=>have:=HJ1.out;have:=HK2.out;have:=HK3.out;omega
            case rel=>exact ⟨(wrap64 (x4_3 + 1)),(by first|rfl|(simp;done)|(simp [*];done)),H',⟨by have:=HJ1.out;have:=HK2.out;have:=HK3.out;omega⟩,⟨by (with_reducible repeat (first|refine blk_drewN ?_ _|refine blk_drew ?_|refine blk_alloc ?_ _));exact BK197.out⟩,⟨by repeat (first|(with_reducible first|exact HB.out|apply zzD|apply zzE|apply zzF|refine below_set ?_ GE197.out)|exact HB.out)⟩⟩
           ·replace c18:=Bool.eq_false_iff.mpr c18
            subst c18
            have H1 : (some 6) = some r:=by rw [if_neg (show ¬ (false = true) by decide)] at H;exact H
            clear H
            have H:=H1
            clear H1
            obtain rfl:=Option.some.inj H
            have hcz22_0 : wr.cell? ⟨gb197,0,none⟩ = some (.slice A0_0 l0_0.length c0_0):=(blk_cell BK197.out 0).trans rfl
            have hcz22_1 : wr.cell? ⟨gb197,1,none⟩ = some (.slice A0_1 l0_1.length c0_1):=(blk_cell BK197.out 1).trans rfl
            have hfz22_0:=blk_frozen BK197.out 0
            have hfz22_1:=blk_frozen BK197.out 1
            try go_wp2
            have n0_:=Aside0.mk (blk_drew BK197.out)
            have n1_:=Aside0.mk (zzF HB.out)
            clear BK197
            clear HB
            have BK197:=n0_
            have HB:=n1_
            clear n0_ n1_
            have p200 : 0 ≤ (x4_3 : Int):=of_decide_eq_true (by first|(with_reducible assumption)|assumption)
            have q200 : x4_3 < (l0_1.length : Int):=of_decide_eq_true (by first|(with_reducible assumption)|assumption)
            obtain ⟨ad200,e200,hx200_0,hx200_1,hx200_2⟩:=at_T34 HR0_1.out x4_3 p200 q200
            have hw200_2:=hx200_2
            have hw200_1:=hx200_1
            have hw200_0:=hx200_0
            cases e200
            replace hx200_0:=(HB.out.cell (World.block_lt_of_cell? w _ hx200_0)).trans hx200_0
            replace hx200_1:=(HB.out.cell (World.block_lt_of_cell? w _ hx200_1)).trans hx200_1
            replace hx200_2:=(HB.out.cell (World.block_lt_of_cell? w _ hx200_2)).trans hx200_2
            replace p200:=eq_true p200
            replace q200:=eq_true q200
            refine start_ (n:=10) (S:=fun w'=>w'.cell? ⟨gb197,0,none⟩ = some (.slice A0_0 l0_0.length c0_0) ∧ w'.cell? ⟨gb197,1,none⟩ = some (.slice (some ad200) l0_1.length c0_1) ∧ w'.cell? (ad200.add ((x4_3).toNat * 3)) = some (.int .i64 ((rd_T34 l0_1 x4_3).f0)) ∧ w'.cell? ⟨(ad200.add ((x4_3).toNat * 3)).block,(ad200.add ((x4_3).toNat * 3)).off + 1,none⟩ = some (.int .i64 ((rd_T34 l0_1 x4_3).f1)) ∧ w'.cell? ⟨(ad200.add ((x4_3).toNat * 3)).block,(ad200.add ((x4_3).toNat * 3)).off + 2,none⟩ = some (.int .i64 ((rd_T34 l0_1 x4_3).f2))) (ds:=[]) #[false,false,false,false,false,false,false,false,false,false] (by kernel_rfl) rfl rfl ⟨(blk_cell BK197.out 0).trans rfl,(blk_cell BK197.out 1).trans rfl,((HB.out.cell (World.block_lt_of_cell? w _ hw200_0)).trans hw200_0),((HB.out.cell (World.block_lt_of_cell? w _ hw200_1)).trans hw200_1),((HB.out.cell (World.block_lt_of_cell? w _ hw200_2)).trans hw200_2)⟩ (fun hHeld=>?_);refine with_tabW scarfjointref05_Valid.tab11 scarfjointref05_Valid.bits11 (fun HT_ HW_=>?_)
            generalize wr.drew = w23 at BK197 HB hx200_0 hx200_1 hx200_2 hHeld ⊢
            refine pure_ (i:=0) (N:=some 36) (v:=?_) (a':=?_) #[true,false,false,false,false,false,false,false,false,false] rfl rfl (any_of HT_.out (by kernel_rfl)) (fun _ _ _ h=>h) (Or.inl ⟨by rfl,?_⟩) ?_ ?_
            rotate_left
            ·intro w'
             go_simp
             with_reducible rfl
            rotate_left
            ·simp only [Act.put,zzA,zzB,zzC,i64_w,i32_w]
             rfl
            refine pure_ (i:=2) (N:=some 38) (v:=?_) (a':=?_) #[true,false,true,false,false,false,false,false,false,false] rfl rfl (any_of HT_.out (by kernel_rfl)) (fun _ _ _ h=>h) (Or.inl ⟨by rfl,?_⟩) ?_ ?_
            rotate_left
            ·intro w'
             go_simp
             with_reducible rfl
            rotate_left
            ·simp only [Act.put,zzA,zzB,zzC,i64_w,i32_w]
             rfl
            refine pure_ (i:=5) (N:=some 41) (v:=?_) (a':=?_) #[true,false,true,false,false,true,false,false,false,false] rfl rfl (any_of HT_.out (by kernel_rfl)) (fun _ _ _ h=>h) (Or.inl ⟨by rfl,?_⟩) ?_ ?_
            rotate_left
            ·intro w'
             go_simp
             with_reducible rfl
            rotate_left
            ·simp only [Act.put,zzA,zzB,zzC,i64_w,i32_w]
             rfl
            refine take_ (i:=1) (N:=some 37) (v:=?_) (a':=?_) #[true,true,true,false,false,true,false,false,false,false] rfl rfl (take_ofW HT_.out HW_.out (by kernel_rfl)) (fun _ _ _ h=>h) (Or.inl ⟨by rfl,?_⟩) hHeld ?_ ?_
            rotate_left
            ·rintro w' ⟨s0,s1,s2,s3,s4⟩
             go_simp
             with_reducible rfl
            rotate_left
            ·simp only [Act.put,zzA,zzB,zzC,i64_w,i32_w]
             rfl
            refine pure_ (i:=3) (N:=some 39) (v:=?_) (a':=?_) #[true,true,true,true,false,true,false,false,false,false] rfl rfl (any_of HT_.out (by kernel_rfl)) (fun _ _ _ h=>h) (Or.inl ⟨by rfl,?_⟩) ?_ ?_
            rotate_left
            ·intro w'
             go_simp
             with_reducible rfl
            rotate_left
            ·simp only [Act.put,zzA,zzB,zzC,i64_w,i32_w]
             rfl
            refine take_ (i:=4) (N:=some 40) (v:=?_) (a':=?_) #[true,true,true,true,true,true,false,false,false,false] rfl rfl (take_ofW HT_.out HW_.out (by kernel_rfl)) (fun _ _ _ h=>h) (Or.inl ⟨by rfl,?_⟩) hHeld ?_ ?_
            rotate_left
            ·rintro w' ⟨s0,s1,s2,s3,s4⟩
             go_simp
             with_reducible rfl
            rotate_left
            ·simp only [Act.put,zzA,zzB,zzC,i64_w,i32_w]
             rfl
            refine take_ (i:=6) (N:=some 42) (v:=?_) (a':=?_) #[true,true,true,true,true,true,true,false,false,false] rfl rfl (take_ofW HT_.out HW_.out (by kernel_rfl)) (fun _ _ _ h=>h) (Or.inl ⟨by rfl,?_⟩) hHeld ?_ ?_
            rotate_left
            ·rintro w' ⟨s0,s1,s2,s3,s4⟩
             go_simp
             with_reducible rfl
            rotate_left
            ·simp only [Act.put,zzA,zzB,zzC,i64_w,i32_w]
             rfl
            refine pure_ (i:=7) (N:=some 43) (v:=?_) (a':=?_) #[true,true,true,true,true,true,true,true,false,false] rfl rfl (any_of HT_.out (by kernel_rfl)) (fun _ _ _ h=>h) (Or.inl ⟨by rfl,?_⟩) ?_ ?_
            rotate_left
            ·intro w'
             go_simp
             with_reducible rfl
            rotate_left
            ·simp only [Act.put,zzA,zzB,zzC,i64_w,i32_w]
             rfl
            refine one_ (i:=8) (N:=some 44) #[true,true,true,true,true,true,true,true,true,false] rfl rfl (one_of HT_.out (by kernel_rfl)) (by decide) (fun K hK=>?_)
            refine goes_ Try.func75 (by kernel_rfl) rfl #[.agg #[.int .i64 ((rd_T34 l0_1 x4_3).f0),.int .i64 ((rd_T34 l0_1 x4_3).f1),.int .i64 ((rd_T34 l0_1 x4_3).f2)],.int .i64 (l0_0.length : Int)] (by rfl) rfl rfl (by (try simp only [List.map_toArray,List.map_cons,List.map_nil]);first|done|rfl|(simp only [List.length_drop,List.length_take];rfl)) ?_
            with_reducible refine (scarfjointref05_right.calls ((rd_T34 l0_1 x4_3).f0) ((rd_T34 l0_1 x4_3).f1) ((rd_T34 l0_1 x4_3).f2) (l0_0.length : Int) false _ A17.out).mono ?_
            rintro e w24 ⟨rfl,hb⟩
            refine ⟨_,rfl,?_⟩
            have n0_:=Aside0.mk (blk_below (g:=gb197) (o:=.cells #[.slice A0_0 l0_0.length c0_0,.slice (some ad200) l0_1.length c0_1] 30 (0,0)) (by (with_reducible repeat (first|refine blk_drewN ?_ _|refine blk_drew ?_|refine blk_alloc ?_ _));exact BK197.out) hb)
            have n1_:=Aside0.mk (below_step (by repeat (first|(with_reducible first|exact HB.out|apply zzD|apply zzE|apply zzF|refine below_set ?_ GE197.out)|exact HB.out)) hb)
            clear BK197
            clear HB
            have BK197:=n0_
            have HB:=n1_
            clear n0_ n1_
            (try clear hb)
            (try clear hb2)
            (try clear hk)
            (try clear hi)
            refine hK.out _ _ ⟨(blk_cell BK197.out 0).trans rfl,(blk_cell BK197.out 1).trans rfl,((HB.out.cell (World.block_lt_of_cell? w _ hw200_0)).trans hw200_0),((HB.out.cell (World.block_lt_of_cell? w _ hw200_1)).trans hw200_1),((HB.out.cell (World.block_lt_of_cell? w _ hw200_2)).trans hw200_2)⟩ (fun hHeld=>?_)
            clear hK K
            refine norm_ (a':=?_) ?_ ?_
            rotate_left
            ·show Act.put _ (some 44) _ = _
             simp only [Act.put,zzA,zzB,zzC,i64_w,i32_w]
             rfl
            refine pure_ (i:=9) (N:=some 45) (v:=?_) (a':=?_) #[true,true,true,true,true,true,true,true,true,true] rfl rfl (any_of HT_.out (by kernel_rfl)) (fun _ _ _ h=>h) (Or.inl ⟨by rfl,?_⟩) ?_ ?_
            rotate_left
            ·intro w'
             go_simp
             with_reducible rfl
            rotate_left
            ·simp only [Act.put,zzA,zzB,zzC,i64_w,i32_w]
             rfl
            refine done_ (done_of HT_.out (by kernel_rfl)) ?_
            try go_wp2
            go_ret
            exact ⟨by first|rfl|(simp [errW_none,errW_some] <;> rfl)|(simp [*,errW_none,errW_some] <;> rfl),by repeat (first|(with_reducible first|exact HB.out|apply zzD|apply zzE|apply zzF|refine below_set ?_ GE197.out)|exact HB.out)⟩
          ·rw [if_neg c16] at H
           exact absurd H (by simp)
         ·rw [if_neg c15] at H
          have c15b0 : decide (x4_3 < (l0_1.length : Int)) = false:=decide_eq_false c15
          clear c15
          obtain rfl:=Option.some.inj H
          have hcz25_0 : wr.cell? ⟨gb197,0,none⟩ = some (.slice A0_0 l0_0.length c0_0):=(blk_cell BK197.out 0).trans rfl
          have hcz25_1 : wr.cell? ⟨gb197,1,none⟩ = some (.slice A0_1 l0_1.length c0_1):=(blk_cell BK197.out 1).trans rfl
          have hfz25_0:=blk_frozen BK197.out 0
          have hfz25_1:=blk_frozen BK197.out 1
          go_wp2
          go_ret
          exact ⟨by first|rfl|(simp [errW_none,errW_some] <;> rfl)|(simp [*,errW_none,errW_some] <;> rfl),by repeat (first|(with_reducible first|exact HB.out|apply zzD|apply zzE|apply zzF|refine below_set ?_ GE197.out)|exact HB.out)⟩
end Go.Proofs.Ytgmomcjnldahjaa.Pr
namespace Go.Proofs.Ytgmomcjnldahjaa.Pr
open Go.RowKit Go.Proofs.YtgmomcjnldahjaaW.PrintWords Go.Proofs.YtgmomcjnldahjaaW.PrintLast Go.Proofs.YtgmomcjnldahjaaW.PrintMore
attribute [local go_sem] max2_int min2_int max_two min_two max_three min_three max_four min_four
set_option linter.unusedVariables false
set_option linter.unusedSimpArgs false
def scarfjointref09_Valid.f (k : Nat) (l0_0 : List Int) (l0_1 : List (S34)) : Option (Int):=(scarfjointref05_Valid.f k l0_0 l0_1).bind fun t203=>(if t203 = 0 then (if (l0_0.length : Int) > 8 then (some 3) else (some 0)) else (some t203))
set_option maxHeartbeats 8000000 in
set_option maxRecDepth 100000 in
theorem scarfjointref09_Valid.calls (k : Nat) (A0_0 : Option Addr) (c0_0 : Nat) (l0_0 : List Int) (A0_1 : Option Addr) (c0_1 : Nat) (l0_1 : List (S34)) (r : Int) (w : World) (hr0_0 : Kd.C (Kd.int .i64) w A0_0 l0_0.length l0_0) (hc0_0 : l0_0.length ≤ c0_0) (hr0_1 : Kd.C k34 w A0_1 l0_1.length l0_1) (hc0_1 : l0_1.length ≤ c0_1) (h : scarfjointref09_Valid.f k l0_0 l0_1 = some r) :
  Calls Try.prog 52 #[.agg #[.slice A0_0 l0_0.length c0_0,.slice A0_1 l0_1.length c0_1]] w fun e w'=>e = .returned (.int .i64 r) ∧ Below w.heap.size w w':=by
 have hu30:=Try.underlying30
 have HR0_0:=Aside0.mk hr0_0
 have HC0_0:=Aside0.mk hc0_0
 clear hr0_0 hc0_0
 have HR0_1:=Aside0.mk hr0_1
 have HC0_1:=Aside0.mk hc0_1
 clear hr0_1 hc0_1
 have HB:=Aside0.mk (Below.refl w.heap.size w)
 have H : ((scarfjointref05_Valid.f k l0_0 l0_1).bind fun t203=>(if t203 = 0 then (if (l0_0.length : Int) > 8 then (some 3) else (some 0)) else (some t203))) = some r:=h
 clear h
 replace H:=Option.bind_eq_some_iff.mp H
 obtain ⟨t203,A20,H⟩:=H
 replace H : (if t203 = 0 then (if (l0_0.length : Int) > 8 then (some 3) else (some 0)) else (some t203)) = some r:=H
 have A2:=Aside0.mk A20
 clear A20
 by_cases c3 : t203 = 0
 ·rw [if_pos c3] at H
  have c3b0 : (t203 == 0) = true:=beq_iff_eq.mpr c3
  have c3b1 : (t203 != 0) = false:=bne_eq_false_iff_eq.mpr c3
  clear c3
  by_cases c4 : (l0_0.length : Int) > 8
  ·rw [if_pos c4] at H
   have c4b0 : decide (8 < (l0_0.length : Int)) = true:=decide_eq_true c4
   have c4b1 : decide (8 < l0_0.length) = true:=decide_eq_true (by omega)
   clear c4
   obtain rfl:=Option.some.inj H
   go_enter Try.func52,Try.ntmps52
   go_wp2_with (first|((with_reducible refine gate_dst (N:=1) rfl ?_);refine box_event ?hg (N:=1) ?hd (cs:=#[.slice A0_0 l0_0.length c0_0,.slice A0_1 l0_1.length c0_1]) (t:=30) ?hr ?_;(case hd=>rfl);(case hg=>rfl);(case hr=>first|(go_simp;done)|(go_simp;rfl));intro gb202 hg w5 hbox hb;have n0_:=Aside0.mk (below_step (by repeat (first|(with_reducible first|exact HB.out|apply zzD|apply zzE|apply zzF)|exact HB.out)) hb);have n1_:=Aside0.mk (hbox);have n2_:=Aside0.mk ((by rw [hg];exact (below_size (by repeat (first|(with_reducible first|exact HB.out|apply zzD|apply zzE|apply zzF)|exact HB.out))) : w.heap.size ≤ gb202));have n3_:=Aside0.mk ((by rw [hg];exact (below_size (by repeat (first|(with_reducible first|exact HB.out|apply zzD|apply zzE|apply zzF)|exact HB.out))) : w.heap.size ≤ gb202));clear HB;have HB:=n0_;have BK202:=n1_;have GW202:=n2_;have GE202:=n3_;clear n0_ n1_ n2_ n3_;clear hb hbox hg;have hcz6_0 : w5.cell? ⟨gb202,0,none⟩ = some (.slice A0_0 l0_0.length c0_0):=(blk_cell BK202.out 0).trans rfl;have hcz6_1 : w5.cell? ⟨gb202,1,none⟩ = some (.slice A0_1 l0_1.length c0_1):=(blk_cell BK202.out 1).trans rfl;have hfz6_0:=blk_frozen BK202.out 0;have hfz6_1:=blk_frozen BK202.out 1)|((with_reducible refine gate_callee (f:=58) rfl ?_);refine goesL_ (some 5) rfl rfl Try.func58 (by kernel_rfl) rfl #[.agg #[.slice A0_0 l0_0.length c0_0,.slice A0_1 l0_1.length c0_1]] rfl (by (try simp only [List.map_toArray,List.map_cons,List.map_nil]);first|done|rfl|(simp only [List.length_drop,List.length_take];rfl)) ?_;(with_reducible refine (scarfjointref05_Valid.calls k _ _ l0_0 _ _ l0_1 t203 _ ?side1 ?side2 ?side3 ?side4 A2.out).mono ?_);(case side1=>repeat (first|exact (Kd.C_below HR0_0.out HB.out)|(with_reducible refine Kd.C_alloc ?_ _)|(with_reducible refine Kd.C_drewN ?_ _)|(with_reducible refine Kd.C_drew ?_)));(case side2=>exact HC0_0.out);(case side3=>repeat (first|exact (Kd.C_below HR0_1.out HB.out)|(with_reducible refine Kd.C_alloc ?_ _)|(with_reducible refine Kd.C_drewN ?_ _)|(with_reducible refine Kd.C_drew ?_)));(case side4=>exact HC0_1.out);rintro e w7 ⟨rfl,hb⟩;refine ⟨_,rfl,?_⟩;have n0_:=Aside0.mk (blk_below (g:=gb202) (o:=.cells #[.slice A0_0 l0_0.length c0_0,.slice A0_1 l0_1.length c0_1] 30 (0,0)) (by (with_reducible repeat (first|refine blk_drewN ?_ _|refine blk_drew ?_|refine blk_alloc ?_ _));exact BK202.out) hb);have n1_:=Aside0.mk (below_step (by repeat (first|(with_reducible first|exact HB.out|apply zzD|apply zzE|apply zzF|refine below_set ?_ GE202.out)|exact HB.out)) hb);clear BK202;clear HB;have BK202:=n0_;have HB:=n1_;clear n0_ n1_;(try clear hb);(try clear hb2);(try clear hk);(try clear hi);have hcz8_0 : w7.cell? ⟨gb202,0,none⟩ = some (.slice A0_0 l0_0.length c0_0):=(blk_cell BK202.out 0).trans rfl;have hcz8_1 : w7.cell? ⟨gb202,1,none⟩ = some (.slice A0_1 l0_1.length c0_1):=(blk_cell BK202.out 1).trans rfl;have hfz8_0:=blk_frozen BK202.out 0;have hfz8_1:=blk_frozen BK202.out 1))
   go_ret
   exact ⟨by first|rfl|(simp [errW_none,errW_some] <;> rfl)|(simp [*,errW_none,errW_some] <;> rfl),by repeat (first|(with_reducible first|exact HB.out|apply zzD|apply zzE|apply zzF|refine below_set ?_ GE202.out)|exact HB.out)⟩
  ·rw [if_neg c4] at H
   have c4b0 : decide (8 < (l0_0.length : Int)) = false:=decide_eq_false c4
   have c4b1 : decide (8 < l0_0.length) = false:=decide_eq_false (by omega)
   clear c4
   obtain rfl:=Option.some.inj H
   go_enter Try.func52,Try.ntmps52
   go_wp2_with (first|((with_reducible refine gate_dst (N:=1) rfl ?_);refine box_event ?hg (N:=1) ?hd (cs:=#[.slice A0_0 l0_0.length c0_0,.slice A0_1 l0_1.length c0_1]) (t:=30) ?hr ?_;(case hd=>rfl);(case hg=>rfl);(case hr=>first|(go_simp;done)|(go_simp;rfl));intro gb202 hg w9 hbox hb;have n0_:=Aside0.mk (below_step (by repeat (first|(with_reducible first|exact HB.out|apply zzD|apply zzE|apply zzF)|exact HB.out)) hb);have n1_:=Aside0.mk (hbox);have n2_:=Aside0.mk ((by rw [hg];exact (below_size (by repeat (first|(with_reducible first|exact HB.out|apply zzD|apply zzE|apply zzF)|exact HB.out))) : w.heap.size ≤ gb202));have n3_:=Aside0.mk ((by rw [hg];exact (below_size (by repeat (first|(with_reducible first|exact HB.out|apply zzD|apply zzE|apply zzF)|exact HB.out))) : w.heap.size ≤ gb202));clear HB;have HB:=n0_;have BK202:=n1_;have GW202:=n2_;have GE202:=n3_;clear n0_ n1_ n2_ n3_;clear hb hbox hg;have hcz10_0 : w9.cell? ⟨gb202,0,none⟩ = some (.slice A0_0 l0_0.length c0_0):=(blk_cell BK202.out 0).trans rfl;have hcz10_1 : w9.cell? ⟨gb202,1,none⟩ = some (.slice A0_1 l0_1.length c0_1):=(blk_cell BK202.out 1).trans rfl;have hfz10_0:=blk_frozen BK202.out 0;have hfz10_1:=blk_frozen BK202.out 1)|((with_reducible refine gate_callee (f:=58) rfl ?_);refine goesL_ (some 5) rfl rfl Try.func58 (by kernel_rfl) rfl #[.agg #[.slice A0_0 l0_0.length c0_0,.slice A0_1 l0_1.length c0_1]] rfl (by (try simp only [List.map_toArray,List.map_cons,List.map_nil]);first|done|rfl|(simp only [List.length_drop,List.length_take];rfl)) ?_;(with_reducible refine (scarfjointref05_Valid.calls k _ _ l0_0 _ _ l0_1 t203 _ ?side1 ?side2 ?side3 ?side4 A2.out).mono ?_);(case side1=>repeat (first|exact (Kd.C_below HR0_0.out HB.out)|(with_reducible refine Kd.C_alloc ?_ _)|(with_reducible refine Kd.C_drewN ?_ _)|(with_reducible refine Kd.C_drew ?_)));(case side2=>exact HC0_0.out);(case side3=>repeat (first|exact (Kd.C_below HR0_1.out HB.out)|(with_reducible refine Kd.C_alloc ?_ _)|(with_reducible refine Kd.C_drewN ?_ _)|(with_reducible refine Kd.C_drew ?_)));(case side4=>exact HC0_1.out);rintro e w11 ⟨rfl,hb⟩;refine ⟨_,rfl,?_⟩;have n0_:=Aside0.mk (blk_below (g:=gb202) (o:=.cells #[.slice A0_0 l0_0.length c0_0,.slice A0_1 l0_1.length c0_1] 30 (0,0)) (by (with_reducible repeat (first|refine blk_drewN ?_ _|refine blk_drew ?_|refine blk_alloc ?_ _));exact BK202.out) hb);have n1_:=Aside0.mk (below_step (by repeat (first|(with_reducible first|exact HB.out|apply zzD|apply zzE|apply zzF|refine below_set ?_ GE202.out)|exact HB.out)) hb);clear BK202;clear HB;have BK202:=n0_;have HB:=n1_;clear n0_ n1_;(try clear hb);(try clear hb2);(try clear hk);(try clear hi);have hcz12_0 : w11.cell? ⟨gb202,0,none⟩ = some (.slice A0_0 l0_0.length c0_0):=(blk_cell BK202.out 0).trans rfl;have hcz12_1 : w11.cell? ⟨gb202,1,none⟩ = some (.slice A0_1 l0_1.length c0_1):=(blk_cell BK202.out 1).trans rfl;have hfz12_0:=blk_frozen BK202.out 0;have hfz12_1:=blk_frozen BK202.out 1))
   go_ret
   exact ⟨by first|rfl|(simp [errW_none,errW_some] <;> rfl)|(simp [*,errW_none,errW_some] <;> rfl),by repeat (first|(with_reducible first|exact HB.out|apply zzD|apply zzE|apply zzF|refine below_set ?_ GE202.out)|exact HB.out)⟩
 ·rw [if_neg c3] at H
  have c3b0 : (t203 == 0) = false:=beq_eq_false_iff_ne.mpr c3
  have c3b1 : (t203 != 0) = true:=bne_iff_ne.mpr c3
  obtain rfl:=Option.some.inj H
  go_enter Try.func52,Try.ntmps52
  go_wp2_with (first|((with_reducible refine gate_dst (N:=1) rfl ?_);refine box_event ?hg (N:=1) ?hd (cs:=#[.slice A0_0 l0_0.length c0_0,.slice A0_1 l0_1.length c0_1]) (t:=30) ?hr ?_;(case hd=>rfl);(case hg=>rfl);(case hr=>first|(go_simp;done)|(go_simp;rfl));intro gb202 hg w13 hbox hb;have n0_:=Aside0.mk (below_step (by repeat (first|(with_reducible first|exact HB.out|apply zzD|apply zzE|apply zzF)|exact HB.out)) hb);have n1_:=Aside0.mk (hbox);have n2_:=Aside0.mk ((by rw [hg];exact (below_size (by repeat (first|(with_reducible first|exact HB.out|apply zzD|apply zzE|apply zzF)|exact HB.out))) : w.heap.size ≤ gb202));have n3_:=Aside0.mk ((by rw [hg];exact (below_size (by repeat (first|(with_reducible first|exact HB.out|apply zzD|apply zzE|apply zzF)|exact HB.out))) : w.heap.size ≤ gb202));clear HB;have HB:=n0_;have BK202:=n1_;have GW202:=n2_;have GE202:=n3_;clear n0_ n1_ n2_ n3_;clear hb hbox hg;have hcz14_0 : w13.cell? ⟨gb202,0,none⟩ = some (.slice A0_0 l0_0.length c0_0):=(blk_cell BK202.out 0).trans rfl;have hcz14_1 : w13.cell? ⟨gb202,1,none⟩ = some (.slice A0_1 l0_1.length c0_1):=(blk_cell BK202.out 1).trans rfl;have hfz14_0:=blk_frozen BK202.out 0;have hfz14_1:=blk_frozen BK202.out 1)|((with_reducible refine gate_callee (f:=58) rfl ?_);refine goesL_ (some 5) rfl rfl Try.func58 (by kernel_rfl) rfl #[.agg #[.slice A0_0 l0_0.length c0_0,.slice A0_1 l0_1.length c0_1]] rfl (by (try simp only [List.map_toArray,List.map_cons,List.map_nil]);first|done|rfl|(simp only [List.length_drop,List.length_take];rfl)) ?_;(with_reducible refine (scarfjointref05_Valid.calls k _ _ l0_0 _ _ l0_1 t203 _ ?side1 ?side2 ?side3 ?side4 A2.out).mono ?_);(case side1=>repeat (first|exact (Kd.C_below HR0_0.out HB.out)|(with_reducible refine Kd.C_alloc ?_ _)|(with_reducible refine Kd.C_drewN ?_ _)|(with_reducible refine Kd.C_drew ?_)));(case side2=>exact HC0_0.out);(case side3=>repeat (first|exact (Kd.C_below HR0_1.out HB.out)|(with_reducible refine Kd.C_alloc ?_ _)|(with_reducible refine Kd.C_drewN ?_ _)|(with_reducible refine Kd.C_drew ?_)));(case side4=>exact HC0_1.out);rintro e w15 ⟨rfl,hb⟩;refine ⟨_,rfl,?_⟩;have n0_:=Aside0.mk (blk_below (g:=gb202) (o:=.cells #[.slice A0_0 l0_0.length c0_0,.slice A0_1 l0_1.length c0_1] 30 (0,0)) (by (with_reducible repeat (first|refine blk_drewN ?_ _|refine blk_drew ?_|refine blk_alloc ?_ _));exact BK202.out) hb);have n1_:=Aside0.mk (below_step (by repeat (first|(with_reducible first|exact HB.out|apply zzD|apply zzE|apply zzF|refine below_set ?_ GE202.out)|exact HB.out)) hb);clear BK202;clear HB;have BK202:=n0_;have HB:=n1_;clear n0_ n1_;(try clear hb);(try clear hb2);(try clear hk);(try clear hi)))
  go_ret
  exact ⟨by first|rfl|(simp [errW_none,errW_some] <;> rfl)|(simp [*,errW_none,errW_some] <;> rfl),by repeat (first|(with_reducible first|exact HB.out|apply zzD|apply zzE|apply zzF|refine below_set ?_ GE202.out)|exact HB.out)⟩
def scarfjointref09_Light.f (k : Nat) (l0_0 : List Int) (l0_1 : List (S34)) : Option (Bool):=(scarfjointref05_Few.f l0_0 l0_1).bind fun t205=>(if t205 = true then ((scarfjointref09_Valid.f k l0_0 l0_1).bind fun t206=>(if t206 = 0 then (if (l0_0.length : Int) ≤ 7 then (some (decide ((l0_1.length : Int) ≤ 12))) else (some false)) else (some true))) else (some false))
set_option maxHeartbeats 8000000 in
set_option maxRecDepth 100000 in
theorem scarfjointref09_Light.calls (k : Nat) (A0_0 : Option Addr) (c0_0 : Nat) (l0_0 : List Int) (A0_1 : Option Addr) (c0_1 : Nat) (l0_1 : List (S34)) (r : Bool) (w : World) (hr0_0 : Kd.C (Kd.int .i64) w A0_0 l0_0.length l0_0) (hc0_0 : l0_0.length ≤ c0_0) (hr0_1 : Kd.C k34 w A0_1 l0_1.length l0_1) (hc0_1 : l0_1.length ≤ c0_1) (h : scarfjointref09_Light.f k l0_0 l0_1 = some r) :
  Calls Try.prog 23 #[.agg #[.slice A0_0 l0_0.length c0_0,.slice A0_1 l0_1.length c0_1]] w fun e w'=>e = .returned (.bool r) ∧ Below w.heap.size w w':=by
 have hu30:=Try.underlying30
 have HR0_0:=Aside0.mk hr0_0
 have HC0_0:=Aside0.mk hc0_0
 clear hr0_0 hc0_0
 have HR0_1:=Aside0.mk hr0_1
 have HC0_1:=Aside0.mk hc0_1
 clear hr0_1 hc0_1
 have HB:=Aside0.mk (Below.refl w.heap.size w)
 have H : ((scarfjointref05_Few.f l0_0 l0_1).bind fun t205=>(if t205 = true then ((scarfjointref09_Valid.f k l0_0 l0_1).bind fun t206=>(if t206 = 0 then (if (l0_0.length : Int) ≤ 7 then (some (decide ((l0_1.length : Int) ≤ 12))) else (some false)) else (some true))) else (some false))) = some r:=h
 clear h
 replace H:=Option.bind_eq_some_iff.mp H
 obtain ⟨t205,A20,H⟩:=H
 replace H : (if t205 = true then ((scarfjointref09_Valid.f k l0_0 l0_1).bind fun t206=>(if t206 = 0 then (if (l0_0.length : Int) ≤ 7 then (some (decide ((l0_1.length : Int) ≤ 12))) else (some false)) else (some true))) else (some false)) = some r:=H
 have A2:=Aside0.mk A20
 clear A20
 by_cases c3 : t205 = true
 ·subst c3
  have H1 : ((scarfjointref09_Valid.f k l0_0 l0_1).bind fun t206=>(if t206 = 0 then (if (l0_0.length : Int) ≤ 7 then (some (decide ((l0_1.length : Int) ≤ 12))) else (some false)) else (some true))) = some r:=by rw [if_pos rfl] at H;exact H
  clear H
  have H:=H1
  clear H1
  replace H:=Option.bind_eq_some_iff.mp H
  obtain ⟨t206,A40,H⟩:=H
  replace H : (if t206 = 0 then (if (l0_0.length : Int) ≤ 7 then (some (decide ((l0_1.length : Int) ≤ 12))) else (some false)) else (some true)) = some r:=H
  have A4:=Aside0.mk A40
  clear A40
  by_cases c5 : t206 = 0
  ·rw [if_pos c5] at H
   have c5b0 : (t206 == 0) = true:=beq_iff_eq.mpr c5
   have c5b1 : (t206 != 0) = false:=bne_eq_false_iff_eq.mpr c5
   clear c5
   by_cases c6 : (l0_0.length : Int) ≤ 7
   ·rw [if_pos c6] at H
    have c6b0 : decide ((l0_0.length : Int) ≤ 7) = true:=decide_eq_true c6
    have c6b1 : decide (l0_0.length ≤ 7) = true:=decide_eq_true (by omega)
    clear c6
    obtain rfl:=Option.some.inj H
    go_enter Try.func23,Try.ntmps23
    go_wp2_with (first|((with_reducible refine gate_dst (N:=1) rfl ?_);(try (refine gate_guard (by rfl) ?_;dsimp only));refine box_event ?hg (N:=1) ?hd (cs:=#[.slice A0_0 l0_0.length c0_0,.slice A0_1 l0_1.length c0_1]) (t:=30) ?hr ?_;(case hd=>rfl);(case hg=>rfl);(case hr=>first|(go_simp;done)|(go_simp;rfl));intro gb204 hg w7 hbox hb;have n0_:=Aside0.mk (below_step (by repeat (first|(with_reducible first|exact HB.out|apply zzD|apply zzE|apply zzF)|exact HB.out)) hb);have n1_:=Aside0.mk (hbox);have n2_:=Aside0.mk ((by rw [hg];exact (below_size (by repeat (first|(with_reducible first|exact HB.out|apply zzD|apply zzE|apply zzF)|exact HB.out))) : w.heap.size ≤ gb204));have n3_:=Aside0.mk ((by rw [hg];exact (below_size (by repeat (first|(with_reducible first|exact HB.out|apply zzD|apply zzE|apply zzF)|exact HB.out))) : w.heap.size ≤ gb204));clear HB;have HB:=n0_;have BK204:=n1_;have GW204:=n2_;have GE204:=n3_;clear n0_ n1_ n2_ n3_;clear hb hbox hg;have hcz8_0 : w7.cell? ⟨gb204,0,none⟩ = some (.slice A0_0 l0_0.length c0_0):=(blk_cell BK204.out 0).trans rfl;have hcz8_1 : w7.cell? ⟨gb204,1,none⟩ = some (.slice A0_1 l0_1.length c0_1):=(blk_cell BK204.out 1).trans rfl;have hfz8_0:=blk_frozen BK204.out 0;have hfz8_1:=blk_frozen BK204.out 1)|((with_reducible refine gate_callee (f:=51) rfl ?_);refine goesL_ (some 4) rfl rfl Try.func51 (by kernel_rfl) rfl #[.agg #[.slice A0_0 l0_0.length c0_0,.slice A0_1 l0_1.length c0_1]] rfl (by (try simp only [List.map_toArray,List.map_cons,List.map_nil]);first|done|rfl|(simp only [List.length_drop,List.length_take];rfl)) ?_;(with_reducible refine (scarfjointref05_Few.calls _ _ l0_0 _ _ l0_1 true _ ?side1 ?side2 ?side3 ?side4 A2.out).mono ?_);(case side1=>repeat (first|exact (Kd.C_below HR0_0.out HB.out)|(with_reducible refine Kd.C_alloc ?_ _)|(with_reducible refine Kd.C_drewN ?_ _)|(with_reducible refine Kd.C_drew ?_)));(case side2=>exact HC0_0.out);(case side3=>repeat (first|exact (Kd.C_below HR0_1.out HB.out)|(with_reducible refine Kd.C_alloc ?_ _)|(with_reducible refine Kd.C_drewN ?_ _)|(with_reducible refine Kd.C_drew ?_)));(case side4=>exact HC0_1.out);rintro e w9 ⟨rfl,hb⟩;refine ⟨_,rfl,?_⟩;have n0_:=Aside0.mk (blk_below (g:=gb204) (o:=.cells #[.slice A0_0 l0_0.length c0_0,.slice A0_1 l0_1.length c0_1] 30 (0,0)) (by (with_reducible repeat (first|refine blk_drewN ?_ _|refine blk_drew ?_|refine blk_alloc ?_ _));exact BK204.out) hb);have n1_:=Aside0.mk (below_step (by repeat (first|(with_reducible first|exact HB.out|apply zzD|apply zzE|apply zzF|refine below_set ?_ GE204.out)|exact HB.out)) hb);clear BK204;clear HB;have BK204:=n0_;have HB:=n1_;clear n0_ n1_;(try clear hb);(try clear hb2);(try clear hk);(try clear hi);have hcz10_0 : w9.cell? ⟨gb204,0,none⟩ = some (.slice A0_0 l0_0.length c0_0):=(blk_cell BK204.out 0).trans rfl;have hcz10_1 : w9.cell? ⟨gb204,1,none⟩ = some (.slice A0_1 l0_1.length c0_1):=(blk_cell BK204.out 1).trans rfl;have hfz10_0:=blk_frozen BK204.out 0;have hfz10_1:=blk_frozen BK204.out 1)|(go_at_call 52;(with_reducible refine (scarfjointref09_Valid.calls k _ _ l0_0 _ _ l0_1 t206 _ ?side1 ?side2 ?side3 ?side4 A4.out).mono ?_);(case side1=>repeat (first|exact (Kd.C_below HR0_0.out HB.out)|(with_reducible refine Kd.C_alloc ?_ _)|(with_reducible refine Kd.C_drewN ?_ _)|(with_reducible refine Kd.C_drew ?_)));(case side2=>exact HC0_0.out);(case side3=>repeat (first|exact (Kd.C_below HR0_1.out HB.out)|(with_reducible refine Kd.C_alloc ?_ _)|(with_reducible refine Kd.C_drewN ?_ _)|(with_reducible refine Kd.C_drew ?_)));(case side4=>exact HC0_1.out);rintro e w11 ⟨rfl,hb⟩;have n0_:=Aside0.mk (blk_below (g:=gb204) (o:=.cells #[.slice A0_0 l0_0.length c0_0,.slice A0_1 l0_1.length c0_1] 30 (0,0)) (by (with_reducible repeat (first|refine blk_drewN ?_ _|refine blk_drew ?_|refine blk_alloc ?_ _));exact BK204.out) hb);have n1_:=Aside0.mk (below_step (by repeat (first|(with_reducible first|exact HB.out|apply zzD|apply zzE|apply zzF|refine below_set ?_ GE204.out)|exact HB.out)) hb);clear BK204;clear HB;have BK204:=n0_;have HB:=n1_;clear n0_ n1_;(try clear hb);(try clear hb2);(try clear hk);(try clear hi);have hcz12_0 : w11.cell? ⟨gb204,0,none⟩ = some (.slice A0_0 l0_0.length c0_0):=(blk_cell BK204.out 0).trans rfl;have hcz12_1 : w11.cell? ⟨gb204,1,none⟩ = some (.slice A0_1 l0_1.length c0_1):=(blk_cell BK204.out 1).trans rfl;have hfz12_0:=blk_frozen BK204.out 0;have hfz12_1:=blk_frozen BK204.out 1))
    go_ret
    exact ⟨by first|rfl|(simp [errW_none,errW_some] <;> rfl)|(simp [*,errW_none,errW_some] <;> rfl),by repeat (first|(with_reducible first|exact HB.out|apply zzD|apply zzE|apply zzF|refine below_set ?_ GE204.out)|exact HB.out)⟩
   ·rw [if_neg c6] at H
    have c6b0 : decide ((l0_0.length : Int) ≤ 7) = false:=decide_eq_false c6
    have c6b1 : decide (l0_0.length ≤ 7) = false:=decide_eq_false (by omega)
    clear c6
    obtain rfl:=Option.some.inj H
    go_enter Try.func23,Try.ntmps23
    go_wp2_with (first|((with_reducible refine gate_dst (N:=1) rfl ?_);(try (refine gate_guard (by rfl) ?_;dsimp only));refine box_event ?hg (N:=1) ?hd (cs:=#[.slice A0_0 l0_0.length c0_0,.slice A0_1 l0_1.length c0_1]) (t:=30) ?hr ?_;(case hd=>rfl);(case hg=>rfl);(case hr=>first|(go_simp;done)|(go_simp;rfl));intro gb204 hg w13 hbox hb;have n0_:=Aside0.mk (below_step (by repeat (first|(with_reducible first|exact HB.out|apply zzD|apply zzE|apply zzF)|exact HB.out)) hb);have n1_:=Aside0.mk (hbox);have n2_:=Aside0.mk ((by rw [hg];exact (below_size (by repeat (first|(with_reducible first|exact HB.out|apply zzD|apply zzE|apply zzF)|exact HB.out))) : w.heap.size ≤ gb204));have n3_:=Aside0.mk ((by rw [hg];exact (below_size (by repeat (first|(with_reducible first|exact HB.out|apply zzD|apply zzE|apply zzF)|exact HB.out))) : w.heap.size ≤ gb204));clear HB;have HB:=n0_;have BK204:=n1_;have GW204:=n2_;have GE204:=n3_;clear n0_ n1_ n2_ n3_;clear hb hbox hg;have hcz14_0 : w13.cell? ⟨gb204,0,none⟩ = some (.slice A0_0 l0_0.length c0_0):=(blk_cell BK204.out 0).trans rfl;have hcz14_1 : w13.cell? ⟨gb204,1,none⟩ = some (.slice A0_1 l0_1.length c0_1):=(blk_cell BK204.out 1).trans rfl;have hfz14_0:=blk_frozen BK204.out 0;have hfz14_1:=blk_frozen BK204.out 1)|((with_reducible refine gate_callee (f:=51) rfl ?_);refine goesL_ (some 4) rfl rfl Try.func51 (by kernel_rfl) rfl #[.agg #[.slice A0_0 l0_0.length c0_0,.slice A0_1 l0_1.length c0_1]] rfl (by (try simp only [List.map_toArray,List.map_cons,List.map_nil]);first|done|rfl|(simp only [List.length_drop,List.length_take];rfl)) ?_;(with_reducible refine (scarfjointref05_Few.calls _ _ l0_0 _ _ l0_1 true _ ?side1 ?side2 ?side3 ?side4 A2.out).mono ?_);(case side1=>repeat (first|exact (Kd.C_below HR0_0.out HB.out)|(with_reducible refine Kd.C_alloc ?_ _)|(with_reducible refine Kd.C_drewN ?_ _)|(with_reducible refine Kd.C_drew ?_)));(case side2=>exact HC0_0.out);(case side3=>repeat (first|exact (Kd.C_below HR0_1.out HB.out)|(with_reducible refine Kd.C_alloc ?_ _)|(with_reducible refine Kd.C_drewN ?_ _)|(with_reducible refine Kd.C_drew ?_)));(case side4=>exact HC0_1.out);rintro e w15 ⟨rfl,hb⟩;refine ⟨_,rfl,?_⟩;have n0_:=Aside0.mk (blk_below (g:=gb204) (o:=.cells #[.slice A0_0 l0_0.length c0_0,.slice A0_1 l0_1.length c0_1] 30 (0,0)) (by (with_reducible repeat (first|refine blk_drewN ?_ _|refine blk_drew ?_|refine blk_alloc ?_ _));exact BK204.out) hb);have n1_:=Aside0.mk (below_step (by repeat (first|(with_reducible first|exact HB.out|apply zzD|apply zzE|apply zzF|refine below_set ?_ GE204.out)|exact HB.out)) hb);clear BK204;clear HB;have BK204:=n0_;have HB:=n1_;clear n0_ n1_;(try clear hb);(try clear hb2);(try clear hk);(try clear hi);have hcz16_0 : w15.cell? ⟨gb204,0,none⟩ = some (.slice A0_0 l0_0.length c0_0):=(blk_cell BK204.out 0).trans rfl;have hcz16_1 : w15.cell? ⟨gb204,1,none⟩ = some (.slice A0_1 l0_1.length c0_1):=(blk_cell BK204.out 1).trans rfl;have hfz16_0:=blk_frozen BK204.out 0;have hfz16_1:=blk_frozen BK204.out 1)|(go_at_call 52;(with_reducible refine (scarfjointref09_Valid.calls k _ _ l0_0 _ _ l0_1 t206 _ ?side1 ?side2 ?side3 ?side4 A4.out).mono ?_);(case side1=>repeat (first|exact (Kd.C_below HR0_0.out HB.out)|(with_reducible refine Kd.C_alloc ?_ _)|(with_reducible refine Kd.C_drewN ?_ _)|(with_reducible refine Kd.C_drew ?_)));(case side2=>exact HC0_0.out);(case side3=>repeat (first|exact (Kd.C_below HR0_1.out HB.out)|(with_reducible refine Kd.C_alloc ?_ _)|(with_reducible refine Kd.C_drewN ?_ _)|(with_reducible refine Kd.C_drew ?_)));(case side4=>exact HC0_1.out);rintro e w17 ⟨rfl,hb⟩;have n0_:=Aside0.mk (blk_below (g:=gb204) (o:=.cells #[.slice A0_0 l0_0.length c0_0,.slice A0_1 l0_1.length c0_1] 30 (0,0)) (by (with_reducible repeat (first|refine blk_drewN ?_ _|refine blk_drew ?_|refine blk_alloc ?_ _));exact BK204.out) hb);have n1_:=Aside0.mk (below_step (by repeat (first|(with_reducible first|exact HB.out|apply zzD|apply zzE|apply zzF|refine below_set ?_ GE204.out)|exact HB.out)) hb);clear BK204;clear HB;have BK204:=n0_;have HB:=n1_;clear n0_ n1_;(try clear hb);(try clear hb2);(try clear hk);(try clear hi);have hcz18_0 : w17.cell? ⟨gb204,0,none⟩ = some (.slice A0_0 l0_0.length c0_0):=(blk_cell BK204.out 0).trans rfl;have hcz18_1 : w17.cell? ⟨gb204,1,none⟩ = some (.slice A0_1 l0_1.length c0_1):=(blk_cell BK204.out 1).trans rfl;have hfz18_0:=blk_frozen BK204.out 0;have hfz18_1:=blk_frozen BK204.out 1))
    go_ret
    exact ⟨by first|rfl|(simp [errW_none,errW_some] <;> rfl)|(simp [*,errW_none,errW_some] <;> rfl),by repeat (first|(with_reducible first|exact HB.out|apply zzD|apply zzE|apply zzF|refine below_set ?_ GE204.out)|exact HB.out)⟩
  ·rw [if_neg c5] at H
   have c5b0 : (t206 == 0) = false:=beq_eq_false_iff_ne.mpr c5
   have c5b1 : (t206 != 0) = true:=bne_iff_ne.mpr c5
   obtain rfl:=Option.some.inj H
   go_enter Try.func23,Try.ntmps23
   go_wp2_with (first|((with_reducible refine gate_dst (N:=1) rfl ?_);(try (refine gate_guard (by rfl) ?_;dsimp only));refine box_event ?hg (N:=1) ?hd (cs:=#[.slice A0_0 l0_0.length c0_0,.slice A0_1 l0_1.length c0_1]) (t:=30) ?hr ?_;(case hd=>rfl);(case hg=>rfl);(case hr=>first|(go_simp;done)|(go_simp;rfl));intro gb204 hg w19 hbox hb;have n0_:=Aside0.mk (below_step (by repeat (first|(with_reducible first|exact HB.out|apply zzD|apply zzE|apply zzF)|exact HB.out)) hb);have n1_:=Aside0.mk (hbox);have n2_:=Aside0.mk ((by rw [hg];exact (below_size (by repeat (first|(with_reducible first|exact HB.out|apply zzD|apply zzE|apply zzF)|exact HB.out))) : w.heap.size ≤ gb204));have n3_:=Aside0.mk ((by rw [hg];exact (below_size (by repeat (first|(with_reducible first|exact HB.out|apply zzD|apply zzE|apply zzF)|exact HB.out))) : w.heap.size ≤ gb204));clear HB;have HB:=n0_;have BK204:=n1_;have GW204:=n2_;have GE204:=n3_;clear n0_ n1_ n2_ n3_;clear hb hbox hg;have hcz20_0 : w19.cell? ⟨gb204,0,none⟩ = some (.slice A0_0 l0_0.length c0_0):=(blk_cell BK204.out 0).trans rfl;have hcz20_1 : w19.cell? ⟨gb204,1,none⟩ = some (.slice A0_1 l0_1.length c0_1):=(blk_cell BK204.out 1).trans rfl;have hfz20_0:=blk_frozen BK204.out 0;have hfz20_1:=blk_frozen BK204.out 1)|((with_reducible refine gate_callee (f:=51) rfl ?_);refine goesL_ (some 4) rfl rfl Try.func51 (by kernel_rfl) rfl #[.agg #[.slice A0_0 l0_0.length c0_0,.slice A0_1 l0_1.length c0_1]] rfl (by (try simp only [List.map_toArray,List.map_cons,List.map_nil]);first|done|rfl|(simp only [List.length_drop,List.length_take];rfl)) ?_;(with_reducible refine (scarfjointref05_Few.calls _ _ l0_0 _ _ l0_1 true _ ?side1 ?side2 ?side3 ?side4 A2.out).mono ?_);(case side1=>repeat (first|exact (Kd.C_below HR0_0.out HB.out)|(with_reducible refine Kd.C_alloc ?_ _)|(with_reducible refine Kd.C_drewN ?_ _)|(with_reducible refine Kd.C_drew ?_)));(case side2=>exact HC0_0.out);(case side3=>repeat (first|exact (Kd.C_below HR0_1.out HB.out)|(with_reducible refine Kd.C_alloc ?_ _)|(with_reducible refine Kd.C_drewN ?_ _)|(with_reducible refine Kd.C_drew ?_)));(case side4=>exact HC0_1.out);rintro e w21 ⟨rfl,hb⟩;refine ⟨_,rfl,?_⟩;have n0_:=Aside0.mk (blk_below (g:=gb204) (o:=.cells #[.slice A0_0 l0_0.length c0_0,.slice A0_1 l0_1.length c0_1] 30 (0,0)) (by (with_reducible repeat (first|refine blk_drewN ?_ _|refine blk_drew ?_|refine blk_alloc ?_ _));exact BK204.out) hb);have n1_:=Aside0.mk (below_step (by repeat (first|(with_reducible first|exact HB.out|apply zzD|apply zzE|apply zzF|refine below_set ?_ GE204.out)|exact HB.out)) hb);clear BK204;clear HB;have BK204:=n0_;have HB:=n1_;clear n0_ n1_;(try clear hb);(try clear hb2);(try clear hk);(try clear hi);have hcz22_0 : w21.cell? ⟨gb204,0,none⟩ = some (.slice A0_0 l0_0.length c0_0):=(blk_cell BK204.out 0).trans rfl;have hcz22_1 : w21.cell? ⟨gb204,1,none⟩ = some (.slice A0_1 l0_1.length c0_1):=(blk_cell BK204.out 1).trans rfl;have hfz22_0:=blk_frozen BK204.out 0;have hfz22_1:=blk_frozen BK204.out 1)|(go_at_call 52;(with_reducible refine (scarfjointref09_Valid.calls k _ _ l0_0 _ _ l0_1 t206 _ ?side1 ?side2 ?side3 ?side4 A4.out).mono ?_);(case side1=>repeat (first|exact (Kd.C_below HR0_0.out HB.out)|(with_reducible refine Kd.C_alloc ?_ _)|(with_reducible refine Kd.C_drewN ?_ _)|(with_reducible refine Kd.C_drew ?_)));(case side2=>exact HC0_0.out);(case side3=>repeat (first|exact (Kd.C_below HR0_1.out HB.out)|(with_reducible refine Kd.C_alloc ?_ _)|(with_reducible refine Kd.C_drewN ?_ _)|(with_reducible refine Kd.C_drew ?_)));(case side4=>exact HC0_1.out);rintro e w23 ⟨rfl,hb⟩;have n0_:=Aside0.mk (blk_below (g:=gb204) (o:=.cells #[.slice A0_0 l0_0.length c0_0,.slice A0_1 l0_1.length c0_1] 30 (0,0)) (by (with_reducible repeat (first|refine blk_drewN ?_ _|refine blk_drew ?_|refine blk_alloc ?_ _));exact BK204.out) hb);have n1_:=Aside0.mk (below_step (by repeat (first|(with_reducible first|exact HB.out|apply zzD|apply zzE|apply zzF|refine below_set ?_ GE204.out)|exact HB.out)) hb);clear BK204;clear HB;have BK204:=n0_;have HB:=n1_;clear n0_ n1_;(try clear hb);(try clear hb2);(try clear hk);(try clear hi)))
   go_ret
   exact ⟨by first|rfl|(simp [errW_none,errW_some] <;> rfl)|(simp [*,errW_none,errW_some] <;> rfl),by repeat (first|(with_reducible first|exact HB.out|apply zzD|apply zzE|apply zzF|refine below_set ?_ GE204.out)|exact HB.out)⟩
 ·replace c3:=Bool.eq_false_iff.mpr c3
  subst c3
  have H1 : (some false) = some r:=by rw [if_neg (show ¬ (false = true) by decide)] at H;exact H
  clear H
  have H:=H1
  clear H1
  obtain rfl:=Option.some.inj H
  go_enter Try.func23,Try.ntmps23
  go_wp2_with (first|((with_reducible refine gate_dst (N:=1) rfl ?_);(try (refine gate_guard (by rfl) ?_;dsimp only));refine box_event ?hg (N:=1) ?hd (cs:=#[.slice A0_0 l0_0.length c0_0,.slice A0_1 l0_1.length c0_1]) (t:=30) ?hr ?_;(case hd=>rfl);(case hg=>rfl);(case hr=>first|(go_simp;done)|(go_simp;rfl));intro gb204 hg w24 hbox hb;have n0_:=Aside0.mk (below_step (by repeat (first|(with_reducible first|exact HB.out|apply zzD|apply zzE|apply zzF)|exact HB.out)) hb);have n1_:=Aside0.mk (hbox);have n2_:=Aside0.mk ((by rw [hg];exact (below_size (by repeat (first|(with_reducible first|exact HB.out|apply zzD|apply zzE|apply zzF)|exact HB.out))) : w.heap.size ≤ gb204));have n3_:=Aside0.mk ((by rw [hg];exact (below_size (by repeat (first|(with_reducible first|exact HB.out|apply zzD|apply zzE|apply zzF)|exact HB.out))) : w.heap.size ≤ gb204));clear HB;have HB:=n0_;have BK204:=n1_;have GW204:=n2_;have GE204:=n3_;clear n0_ n1_ n2_ n3_;clear hb hbox hg;have hcz25_0 : w24.cell? ⟨gb204,0,none⟩ = some (.slice A0_0 l0_0.length c0_0):=(blk_cell BK204.out 0).trans rfl;have hcz25_1 : w24.cell? ⟨gb204,1,none⟩ = some (.slice A0_1 l0_1.length c0_1):=(blk_cell BK204.out 1).trans rfl;have hfz25_0:=blk_frozen BK204.out 0;have hfz25_1:=blk_frozen BK204.out 1)|((with_reducible refine gate_callee (f:=51) rfl ?_);refine goesL_ (some 4) rfl rfl Try.func51 (by kernel_rfl) rfl #[.agg #[.slice A0_0 l0_0.length c0_0,.slice A0_1 l0_1.length c0_1]] rfl (by (try simp only [List.map_toArray,List.map_cons,List.map_nil]);first|done|rfl|(simp only [List.length_drop,List.length_take];rfl)) ?_;(with_reducible refine (scarfjointref05_Few.calls _ _ l0_0 _ _ l0_1 false _ ?side1 ?side2 ?side3 ?side4 A2.out).mono ?_);(case side1=>repeat (first|exact (Kd.C_below HR0_0.out HB.out)|(with_reducible refine Kd.C_alloc ?_ _)|(with_reducible refine Kd.C_drewN ?_ _)|(with_reducible refine Kd.C_drew ?_)));(case side2=>exact HC0_0.out);(case side3=>repeat (first|exact (Kd.C_below HR0_1.out HB.out)|(with_reducible refine Kd.C_alloc ?_ _)|(with_reducible refine Kd.C_drewN ?_ _)|(with_reducible refine Kd.C_drew ?_)));(case side4=>exact HC0_1.out);rintro e w26 ⟨rfl,hb⟩;refine ⟨_,rfl,?_⟩;have n0_:=Aside0.mk (blk_below (g:=gb204) (o:=.cells #[.slice A0_0 l0_0.length c0_0,.slice A0_1 l0_1.length c0_1] 30 (0,0)) (by (with_reducible repeat (first|refine blk_drewN ?_ _|refine blk_drew ?_|refine blk_alloc ?_ _));exact BK204.out) hb);have n1_:=Aside0.mk (below_step (by repeat (first|(with_reducible first|exact HB.out|apply zzD|apply zzE|apply zzF|refine below_set ?_ GE204.out)|exact HB.out)) hb);clear BK204;clear HB;have BK204:=n0_;have HB:=n1_;clear n0_ n1_;(try clear hb);(try clear hb2);(try clear hk);(try clear hi)))
  go_ret
  exact ⟨by first|rfl|(simp [errW_none,errW_some] <;> rfl)|(simp [*,errW_none,errW_some] <;> rfl),by repeat (first|(with_reducible first|exact HB.out|apply zzD|apply zzE|apply zzF|refine below_set ?_ GE204.out)|exact HB.out)⟩
mutual
def scarfjointref09_CompareLists.l0 : Nat → List Int → List Int → Int → Option (Int)
 | 0,_,_,_ => none
 | k + 1,x0,x1,x5 => if x5 < (x0.length : Int) then (scarfjointref09_CompareLists.j1 k x0 x1 x5 (decide (x5 < (x1.length : Int)))) else (scarfjointref09_CompareLists.j1 k x0 x1 x5 false)
def scarfjointref09_CompareLists.j1 : Nat → List Int → List Int → Int → Bool → Option (Int)
 | 0,_,_,_,_ => none
 | k + 1,x0,x1,x5,x15 => if x15 = true then (if 0 ≤ x5 then (if x5 < (x0.length : Int) then (if x5 < (x1.length : Int) then (if (rd x0 x5) < (rd x1 x5) then (some (-1)) else (if (rd x0 x5) > (rd x1 x5) then (some 1) else (scarfjointref09_CompareLists.l0 k x0 x1 (wrap64 (x5 + 1))))) else (none)) else (none)) else (none)) else (if (x0.length : Int) < (x1.length : Int) then (some (-1)) else (if (x0.length : Int) > (x1.length : Int) then (some 1) else (some 0)))
end
def scarfjointref09_CompareLists.f (k : Nat) (l0 : List Int) (l1 : List Int) : Option (Int):=scarfjointref09_CompareLists.l0 k l0 l1 0
set_option maxHeartbeats 8000000 in
set_option maxRecDepth 100000 in
theorem scarfjointref09_CompareLists.calls (k : Nat) (A0 : Option Addr) (c0 : Nat) (l0 : List Int) (A1 : Option Addr) (c1 : Nat) (l1 : List Int) (r : Int) (w : World) (hr0 : Kd.C (Kd.int .i64) w A0 l0.length l0) (hc0 : l0.length ≤ c0) (hr1 : Kd.C (Kd.int .i64) w A1 l1.length l1) (hc1 : l1.length ≤ c1) (h : scarfjointref09_CompareLists.f k l0 l1 = some r) :
  Calls Try.prog 60 #[.slice A0 l0.length c0,.slice A1 l1.length c1] w fun e w'=>e = .returned (.int .i64 r) ∧ Drawn0 w w':=by
 have HR0:=Aside0.mk hr0
 have HC0:=Aside0.mk hc0
 clear hr0 hc0
 have HR1:=Aside0.mk hr1
 have HC1:=Aside0.mk hc1
 clear hr1 hc1
 have H : (scarfjointref09_CompareLists.l0 k l0 l1 0) = some r:=h
 clear h
 have H':=Aside0.mk H
 clear H
 go_enter Try.func60,Try.ntmps60
 go_wp2
 repeat (go_quiet (fail);try go_wp2)
 go_loopg [5] k (fun kq v5 w'=>∃ (x5_1 : Int),v5 = .int .i64 x5_1 ∧ Aside0 (scarfjointref09_CompareLists.l0 kq l0 l1 x5_1 = some r) ∧ Aside0 (kq ≤ k) ∧ Drawn0 w w')
 case atStart=>exact ⟨(0),(by first|rfl|(simp;done)|(simp [*];done)),H',⟨Nat.le_refl _⟩,by repeat (first|exact Drawn0.refl _|apply Drawn0.step)⟩
 case round =>
  clear H'
  try clear c1
  try clear p2
  obtain ⟨x5_1,rfl,HA,HK1,⟨m1,rfl⟩⟩:=hrel
  cases gk with
  | zero => exact absurd HA.out (by simp [scarfjointref09_CompareLists.l0])
  | succ k1 =>
   have H:=HA.out
   clear HA
   simp only [scarfjointref09_CompareLists.l0] at H
   have HC3:=Aside0.mk H
   clear H
   go_upto_region 2 with (fail)
   repeat (go_quiet (fail);go_upto_region 2 with (fail))
   go_cut [15] (fun v15 wc=>∃ (kq : Nat) (x15_2 : Bool),v15 = .bool x15_2 ∧ Aside0 (scarfjointref09_CompareLists.j1 kq l0 l1 x5_1 x15_2 = some r) ∧ Aside0 (kq ≤ k1) ∧ Drawn0 w wc)
   case first =>
    have H:=HC3.out
    clear HC3
    by_cases c4 : x5_1 < (l0.length : Int)
    ·rw [if_pos c4] at H
     have c4b0 : decide (x5_1 < (l0.length : Int)) = true:=decide_eq_true c4
     clear c4
     (first|rw [c4b0]|(simp only [i64_w,i32_w];rw [c4b0])|skip)
     have H':=Aside0.mk H
     clear H
     go_wp2
     repeat (go_quiet (fail);try go_wp2)
     go_meet
     case rel=>exact ⟨_,(decide (x5_1 < (l1.length : Int))),(by first|rfl|(simp;done)|(simp [*];done)),H',⟨by have:=HK1.out;first|omega|exact Nat.le_refl _⟩,by repeat (first|exact Drawn0.refl _|apply Drawn0.step)⟩
    ·rw [if_neg c4] at H
     have c4b0 : decide (x5_1 < (l0.length : Int)) = false:=decide_eq_false c4
     clear c4
     (first|rw [c4b0]|(simp only [i64_w,i32_w];rw [c4b0])|skip)
     have H':=Aside0.mk H
     clear H
     go_wp2
     repeat (go_quiet (fail);try go_wp2)
     go_meet
     case rel=>exact ⟨_,(false),(by first|rfl|(simp;done)|(simp [*];done)),H',⟨by have:=HK1.out;first|omega|exact Nat.le_refl _⟩,by repeat (first|exact Drawn0.refl _|apply Drawn0.step)⟩
   case rest =>
    clear HC3
    try clear c1
    try clear p2
    try clear c4
    try clear c4b0
    try clear p2
    obtain ⟨kq,x15_2,rfl,HA,HJ2,⟨mc2,rfl⟩⟩:=hcut
    cases kq with
    | zero => exact absurd HA.out (by simp [scarfjointref09_CompareLists.j1])
    | succ kj2 =>
     have H:=HA.out
     clear HA
     simp only [scarfjointref09_CompareLists.j1] at H
     by_cases c5 : x15_2 = true
     ·subst c5
      have H1 : (if 0 ≤ x5_1 then (if x5_1 < (l0.length : Int) then (if x5_1 < (l1.length : Int) then (if (rd l0 x5_1) < (rd l1 x5_1) then (some (-1)) else (if (rd l0 x5_1) > (rd l1 x5_1) then (some 1) else (scarfjointref09_CompareLists.l0 kj2 l0 l1 (wrap64 (x5_1 + 1))))) else (none)) else (none)) else (none)) = some r:=by rw [if_pos rfl] at H;exact H
      clear H
      have H:=H1
      clear H1
      by_cases c6 : 0 ≤ x5_1
      ·rw [if_pos c6] at H
       have c6b0 : decide (0 ≤ x5_1) = true:=decide_eq_true c6
       clear c6
       by_cases c7 : x5_1 < (l0.length : Int)
       ·rw [if_pos c7] at H
        have c7b0 : decide (x5_1 < (l0.length : Int)) = true:=decide_eq_true c7
        clear c7
        by_cases c8 : x5_1 < (l1.length : Int)
        ·rw [if_pos c8] at H
         have c8b0 : decide (x5_1 < (l1.length : Int)) = true:=decide_eq_true c8
         clear c8
         by_cases c9 : (rd l0 x5_1) < (rd l1 x5_1)
         ·rw [if_pos c9] at H
          have c9b0 : decide ((rd l0 x5_1) < (rd l1 x5_1)) = true:=decide_eq_true c9
          clear c9
          obtain rfl:=Option.some.inj H
          have p277 : 0 ≤ (x5_1 : Int):=of_decide_eq_true (by first|(with_reducible assumption)|assumption)
          have q277 : x5_1 < (l0.length : Int):=of_decide_eq_true (by first|(with_reducible assumption)|assumption)
          obtain ⟨ad277,e277,hx277_0⟩:=Kd.at_int HR0.out x5_1 p277 q277
          cases e277
          replace p277:=eq_true p277
          replace q277:=eq_true q277
          have p278 : 0 ≤ (x5_1 : Int):=of_decide_eq_true (by first|(with_reducible assumption)|assumption)
          have q278 : x5_1 < (l1.length : Int):=of_decide_eq_true (by first|(with_reducible assumption)|assumption)
          obtain ⟨ad278,e278,hx278_0⟩:=Kd.at_int HR1.out x5_1 p278 q278
          cases e278
          replace p278:=eq_true p278
          replace q278:=eq_true q278
          go_wp2
          repeat (go_quiet (fail);try go_wp2)
          go_ret
          exact ⟨by first|rfl|(simp;done)|(simp [*];done),by repeat (first|exact Drawn0.refl _|apply Drawn0.step)⟩
         ·rw [if_neg c9] at H
          have c9b0 : decide ((rd l0 x5_1) < (rd l1 x5_1)) = false:=decide_eq_false c9
          clear c9
          by_cases c10 : (rd l0 x5_1) > (rd l1 x5_1)
          ·rw [if_pos c10] at H
           have c10b0 : decide ((rd l1 x5_1) < (rd l0 x5_1)) = true:=decide_eq_true c10
           clear c10
           obtain rfl:=Option.some.inj H
           have p277 : 0 ≤ (x5_1 : Int):=of_decide_eq_true (by first|(with_reducible assumption)|assumption)
           have q277 : x5_1 < (l0.length : Int):=of_decide_eq_true (by first|(with_reducible assumption)|assumption)
           obtain ⟨ad277,e277,hx277_0⟩:=Kd.at_int HR0.out x5_1 p277 q277
           cases e277
           replace p277:=eq_true p277
           replace q277:=eq_true q277
           have p278 : 0 ≤ (x5_1 : Int):=of_decide_eq_true (by first|(with_reducible assumption)|assumption)
           have q278 : x5_1 < (l1.length : Int):=of_decide_eq_true (by first|(with_reducible assumption)|assumption)
           obtain ⟨ad278,e278,hx278_0⟩:=Kd.at_int HR1.out x5_1 p278 q278
           cases e278
           replace p278:=eq_true p278
           replace q278:=eq_true q278
           have p279 : 0 ≤ (x5_1 : Int):=of_decide_eq_true (by first|(with_reducible assumption)|assumption)
           have q279 : x5_1 < (l0.length : Int):=of_decide_eq_true (by first|(with_reducible assumption)|assumption)
           obtain ⟨ad279,e279,hx279_0⟩:=Kd.at_int HR0.out x5_1 p279 q279
           obtain rfl : ad277 = ad279:=(by injection e279)
           replace p279:=eq_true p279
           replace q279:=eq_true q279
           have p280 : 0 ≤ (x5_1 : Int):=of_decide_eq_true (by first|(with_reducible assumption)|assumption)
           have q280 : x5_1 < (l1.length : Int):=of_decide_eq_true (by first|(with_reducible assumption)|assumption)
           obtain ⟨ad280,e280,hx280_0⟩:=Kd.at_int HR1.out x5_1 p280 q280
           obtain rfl : ad278 = ad280:=(by injection e280)
           replace p280:=eq_true p280
           replace q280:=eq_true q280
           go_wp2
           repeat (go_quiet (fail);try go_wp2)
           go_ret
           exact ⟨by first|rfl|(simp;done)|(simp [*];done),by repeat (first|exact Drawn0.refl _|apply Drawn0.step)⟩
          ·rw [if_neg c10] at H
           have c10b0 : decide ((rd l1 x5_1) < (rd l0 x5_1)) = false:=decide_eq_false c10
           clear c10
           have H':=Aside0.mk H
           clear H
           have p277 : 0 ≤ (x5_1 : Int):=of_decide_eq_true (by first|(with_reducible assumption)|assumption)
           have q277 : x5_1 < (l0.length : Int):=of_decide_eq_true (by first|(with_reducible assumption)|assumption)
           obtain ⟨ad277,e277,hx277_0⟩:=Kd.at_int HR0.out x5_1 p277 q277
           cases e277
           replace p277:=eq_true p277
           replace q277:=eq_true q277
           have p278 : 0 ≤ (x5_1 : Int):=of_decide_eq_true (by first|(with_reducible assumption)|assumption)
           have q278 : x5_1 < (l1.length : Int):=of_decide_eq_true (by first|(with_reducible assumption)|assumption)
           obtain ⟨ad278,e278,hx278_0⟩:=Kd.at_int HR1.out x5_1 p278 q278
           cases e278
           replace p278:=eq_true p278
           replace q278:=eq_true q278
           have p279 : 0 ≤ (x5_1 : Int):=of_decide_eq_true (by first|(with_reducible assumption)|assumption)
           have q279 : x5_1 < (l0.length : Int):=of_decide_eq_true (by first|(with_reducible assumption)|assumption)
           obtain ⟨ad279,e279,hx279_0⟩:=Kd.at_int HR0.out x5_1 p279 q279
           obtain rfl : ad277 = ad279:=(by injection e279)
           replace p279:=eq_true p279
           replace q279:=eq_true q279
           have p280 : 0 ≤ (x5_1 : Int):=of_decide_eq_true (by first|(with_reducible assumption)|assumption)
           have q280 : x5_1 < (l1.length : Int):=of_decide_eq_true (by first|(with_reducible assumption)|assumption)
           obtain ⟨ad280,e280,hx280_0⟩:=Kd.at_int HR1.out x5_1 p280 q280
           obtain rfl : ad278 = ad280:=(by injection e280)
           replace p280:=eq_true p280
           replace q280:=eq_true q280
           go_wp2
           repeat (go_quiet (fail);try go_wp2)
           go_roundg kj2
           case measure=>have:=HK1.out;have:=HJ2.out;omega
           case rel=>exact ⟨(wrap64 (x5_1 + 1)),(by first|rfl|(simp;done)|(simp [*];done)),H',⟨by have:=HK1.out;have:=HJ2.out;omega⟩,by repeat (first|exact Drawn0.refl _|apply Drawn0.step)⟩
        ·rw [if_neg c8] at H
         exact absurd H (by simp)
       ·rw [if_neg c7] at H
        exact absurd H (by simp)
      ·rw [if_neg c6] at H
       exact absurd H (by simp)
     ·replace c5:=Bool.eq_false_iff.mpr c5
      subst c5
      have H1 : (if (l0.length : Int) < (l1.length : Int) then (some (-1)) else (if (l0.length : Int) > (l1.length : Int) then (some 1) else (some 0))) = some r:=by rw [if_neg (show ¬ (false = true) by decide)] at H;exact H
      clear H
      have H:=H1
      clear H1
      by_cases c11 : (l0.length : Int) < (l1.length : Int)
      ·rw [if_pos c11] at H
       have c11b0 : decide ((l0.length : Int) < (l1.length : Int)) = true:=decide_eq_true c11
       have c11b1 : decide (l0.length < l1.length) = true:=decide_eq_true (Int.ofNat_lt.mp c11)
       clear c11
       obtain rfl:=Option.some.inj H
       go_wp2
       repeat (go_quiet (fail);try go_wp2)
       go_ret
       exact ⟨by first|rfl|(simp;done)|(simp [*];done),by repeat (first|exact Drawn0.refl _|apply Drawn0.step)⟩
      ·rw [if_neg c11] at H
       have c11b0 : decide ((l0.length : Int) < (l1.length : Int)) = false:=decide_eq_false c11
       have c11b1 : decide (l0.length < l1.length) = false:=decide_eq_false (fun h=>c11 (Int.ofNat_lt.mpr h))
       clear c11
       by_cases c12 : (l0.length : Int) > (l1.length : Int)
       ·rw [if_pos c12] at H
        have c12b0 : decide ((l1.length : Int) < (l0.length : Int)) = true:=decide_eq_true c12
        have c12b1 : decide (l1.length < l0.length) = true:=decide_eq_true (Int.ofNat_lt.mp c12)
        clear c12
        obtain rfl:=Option.some.inj H
        go_wp2
        repeat (go_quiet (fail);try go_wp2)
        go_ret
        exact ⟨by first|rfl|(simp;done)|(simp [*];done),by repeat (first|exact Drawn0.refl _|apply Drawn0.step)⟩
       ·rw [if_neg c12] at H
        have c12b0 : decide ((l1.length : Int) < (l0.length : Int)) = false:=decide_eq_false c12
        have c12b1 : decide (l1.length < l0.length) = false:=decide_eq_false (fun h=>c12 (Int.ofNat_lt.mpr h))
        clear c12
        obtain rfl:=Option.some.inj H
        go_wp2
        repeat (go_quiet (fail);try go_wp2)
        go_ret
        exact ⟨by first|rfl|(simp;done)|(simp [*];done),by repeat (first|exact Drawn0.refl _|apply Drawn0.step)⟩
end Go.Proofs.Ytgmomcjnldahjaa.Pr
