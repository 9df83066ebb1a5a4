/- Part 2 of what the law CanonCompare rests on: this project's own texts (Q4, Re, Rf, Rg, Rh, Q5, Q6, Q7, Q9, Ri), merged and without what is not used. Conditions: each theorem has its own. -/
import Derived.Test.YtgmomcjnldahjaaKCanonCompare1
open List renaming setIfInBounds_toArray → zzA, set_cons_zero → zzB, set_cons_succ → zzC
open Go.Proofs.YtgmomcjnldahjaaW.PrintWords renaming below_alloc → zzD, pw_below_drewN → zzE, below_drew1 → zzF
namespace Go.Proofs.Ytgmomcjnldahjaa.Pr
open Go.RowKit Go.Proofs.YtgmomcjnldahjaaW.PrintWords Go.Proofs.YtgmomcjnldahjaaW.PrintLast Go.Proofs.YtgmomcjnldahjaaW.PrintMore
attribute [local go_sem] max2_int min2_int max_two min_two max_three min_three max_four min_four
set_option linter.unusedVariables false
set_option linter.unusedSimpArgs false
def Ent (q : FuncId) : Prop:=∃ fn,Try.prog.funcs[q]? = some fn ∧ (fn.name == "runtime.NumGoroutine") = false ∧ fn.body.isSome = true
theorem goesV {ops : Array Oper} {Q : Exit → Act → World → Prop} {rest : List Oper} {oi : Oper} {a : Act} {w : World} (N : Option Tmp) (hd : oi.dst = N) (hg : oi.guard = none) {q : FuncId} {caps : Array Value} {t : Operand} {xs : Array Operand} {ts : Array TypeId} (hq : Ent q) (args : Array Value)
  (hop : oi.op = .call { callee:=.value t,args:=xs,argTypes:=ts }) (hv : a.eval t = .func (.func q) #[] caps) (hargs : xs.map a.eval = args)
  (h : Calls Try.prog q (args ++ caps) w fun e w'=>∃ v,e = .returned v ∧ wpList Try.prog ops Q rest (a.put N v) w') : wpList Try.prog ops Q (oi :: rest) a w:=by
 obtain ⟨fn,hf,hname,hb⟩:=hq
 refine wpList_plain hg fun K hK=>?_
 have he:=enters_ hf hname hb (args ++ caps) w
 have hrun : (execOp a.eval oi).run Try.prog w = .ok (.enter q (args ++ caps)) w:=by
  unfold execOp
  simp [hop,resolve,Deferred.ofValue,invoke,hv,hargs,he]
 unfold Oper.wp
 rw [hrun,Oper.upon_enter]
 refine h.mono fun e w'' hh=>?_
 obtain ⟨v,rfl,hk⟩:=hh
 subst hd
 exact hK _ _ hk
def idxOf {α : Type} (p : α → Bool) : List α → Int → Int
 | [],_ => -1
 | x :: l,i => if p x then i else idxOf p l (i + 1)
theorem idx_any {α : Type} (p : α → Bool) : ∀ (l : List α) (i : Int),0 ≤ i → decide (idxOf p l i ≥ 0) = l.any p
 | [],i,h => by simp [idxOf]
 | x :: l,i,h => by
  unfold idxOf
  by_cases hp : p x = true
  ·rw [if_pos hp,List.any_cons,hp];simp;omega
  ·rw [if_neg hp,List.any_cons,idx_any p l (i + 1) (by omega)];simp [hp]
theorem drop_rd {l : List Int} {n : Nat} (h : n < l.length) : l.drop n = rd l (n : Int) :: l.drop (n + 1):=by
 rw [List.drop_eq_getElem_cons h]
 congr 1
 unfold rd
 simp [List.getD_eq_getElem?_getD,h]
theorem drop_rd34 {l : List S34} {n : Nat} (h : n < l.length) : l.drop n = rd_T34 l (n : Int) :: l.drop (n + 1):=by
 rw [List.drop_eq_getElem_cons h]
 congr 1
 unfold rd_T34
 simp [List.getD_eq_getElem?_getD,h]
set_option maxHeartbeats 8000000 in
set_option maxRecDepth 100000 in
theorem index_int (q : FuncId) (caps : Array Value) (hq : Ent q) (p : Int → Bool) (A0 : Option Addr) (c0 : Nat) (l0 : List Int) (w : World) (hr0 : Kd.C (Kd.int .i64) w A0 l0.length l0) (hc0 : l0.length ≤ c0) (hl : l0.length ≤ 1000000)
  (hf : ∀ (W : World) (x : Int),Below w.heap.size w W → x ∈ l0 → Calls Try.prog q (#[.int .i64 x] ++ caps) W fun e W'=>e = .returned (.bool (p x)) ∧ Below W.heap.size W W') :
  Calls Try.prog 67 #[.slice A0 l0.length c0,.func (.func q) #[] caps] w fun e w'=>e = .returned (.int .i64 (idxOf p l0 0)) ∧ Below w.heap.size w w':=by
 have HR0:=Aside0.mk hr0
 have HC0:=Aside0.mk hc0
 have HF:=Aside0.mk hf
 have HQ:=Aside0.mk hq
 clear hr0 hc0 hf hq
 have HB:=Aside0.mk (Below.refl w.heap.size w)
 go_enter Try.func67,Try.ntmps67
 go_wp2
 go_loopw [8] (fun v wr=>∃ n : Nat,n ≤ l0.length ∧ v = .int .i64 (n : Int) ∧ Aside0 (idxOf p l0 0 = idxOf p (l0.drop n) (n : Int)) ∧ Aside0 (Below w.heap.size w wr)) (fun v _=>l0.length - (intOf v).toNat)
 case atStart=>exact ⟨0,by omega,rfl,⟨rfl⟩,HB⟩
 case round =>
  clear HB
  obtain ⟨n,hn,rfl,HI,HB⟩:=hrel
  by_cases c3 : n < l0.length
  ·have c3b0 : decide ((n : Int) < (l0.length : Int)) = true:=decide_eq_true (by omega)
   have hx : rd l0 (n : Int) ∈ l0:=by
    have:=drop_rd c3
    exact List.mem_of_mem_drop (i:=n) (by rw [this];simp)
   have p126 : 0 ≤ (n : Int):=by omega
   have q126 : (n : Int) < (l0.length : Int):=by omega
   obtain ⟨ad126,e126,hx126_0⟩:=Kd.at_int (Kd.C_below HR0.out HB.out) (n : Int) p126 q126
   cases e126
   rw [Int.toNat_natCast] at hx126_0
   by_cases hp : p (rd l0 (n : Int)) = true
   ·go_wp2_with (first|((with_reducible refine gate_dst (N:=16) rfl ?_);refine goesV (some 16) rfl rfl HQ.out #[.int .i64 (rd l0 (n : Int))] rfl rfl (by (try simp only [List.map_toArray,List.map_cons,List.map_nil]);rfl) ?_;(refine (HF.out _ _ ?hb hx).mono ?_);(case hb=>repeat (first|(with_reducible first|exact HB.out|apply zzD|apply zzE|apply zzF)|exact HB.out));rintro e w6 ⟨rfl,hb⟩;refine ⟨_,rfl,?_⟩;(have n0_:=Aside0.mk (below_step (by repeat (first|(with_reducible first|exact HB.out|apply zzD|apply zzE|apply zzF)|exact HB.out)) hb));clear HB;have HB:=n0_;clear n0_ hb;(try simp only [hp])))
    go_ret
    refine ⟨?_,(by repeat (first|(with_reducible first|exact HB.out|apply zzD|apply zzE|apply zzF)|exact HB.out))⟩
    rw [HI.out,drop_rd c3,idxOf,if_pos hp]
    rfl
   ·replace hp:=Bool.eq_false_iff.mpr hp
    go_wp2_with (first|((with_reducible refine gate_dst (N:=16) rfl ?_);refine goesV (some 16) rfl rfl HQ.out #[.int .i64 (rd l0 (n : Int))] rfl rfl (by (try simp only [List.map_toArray,List.map_cons,List.map_nil]);rfl) ?_;(refine (HF.out _ _ ?hb hx).mono ?_);(case hb=>repeat (first|(with_reducible first|exact HB.out|apply zzD|apply zzE|apply zzF)|exact HB.out));rintro e w7 ⟨rfl,hb⟩;refine ⟨_,rfl,?_⟩;(have n0_:=Aside0.mk (below_step (by repeat (first|(with_reducible first|exact HB.out|apply zzD|apply zzE|apply zzF)|exact HB.out)) hb));clear HB;have HB:=n0_;clear n0_ hb;(try simp only [hp])))
    go_roundw
    case rel=>exact ⟨n + 1,by omega,by first|rfl|simp,⟨by rw [HI.out,drop_rd c3,idxOf,if_neg (by simp [hp])];rfl⟩,HB⟩
    case measure=>show l0.length - ((n : Int) + 1).toNat < l0.length - ((n : Nat) : Int).toNat;omega
  ·have c3b0 : decide ((n : Int) < (l0.length : Int)) = false:=decide_eq_false (by omega)
   obtain rfl : n = l0.length:=by omega
   go_wp2
   go_ret
   refine ⟨?_,HB.out⟩
   rw [HI.out,List.drop_of_length_le (by omega)]
   rfl
set_option maxHeartbeats 8000000 in
set_option maxRecDepth 100000 in
theorem contains_int (q : FuncId) (caps : Array Value) (hq : Ent q) (p : Int → Bool) (A0 : Option Addr) (c0 : Nat) (l0 : List Int) (w : World) (hr0 : Kd.C (Kd.int .i64) w A0 l0.length l0) (hc0 : l0.length ≤ c0) (hl : l0.length ≤ 1000000)
  (hf : ∀ (W : World) (x : Int),Below w.heap.size w W → x ∈ l0 → Calls Try.prog q (#[.int .i64 x] ++ caps) W fun e W'=>e = .returned (.bool (p x)) ∧ Below W.heap.size W W') :
  Calls Try.prog 47 #[.slice A0 l0.length c0,.func (.func q) #[] caps] w fun e w'=>e = .returned (.bool (l0.any p)) ∧ Below w.heap.size w w':=by
 have HI:=Aside0.mk (idx_any p l0 0 (Int.le_refl 0))
 have HX:=Aside0.mk (index_int q caps hq p A0 c0 l0 w hr0 hc0 hl hf)
 clear hr0 hc0 hf hq
 go_enter Try.func47,Try.ntmps47
 go_wp2_with (first|(go_at_call 67;refine HX.out.mono ?_;rintro e w6 ⟨rfl,hb⟩))
 go_ret
 exact ⟨by rw [← HI.out];rfl,hb⟩
set_option maxHeartbeats 8000000 in
set_option maxRecDepth 100000 in
theorem index_edge (q : FuncId) (caps : Array Value) (hq : Ent q) (p : S34 → Bool) (A0 : Option Addr) (c0 : Nat) (l0 : List S34) (w : World) (hr0 : Kd.C k34 w A0 l0.length l0) (hc0 : l0.length ≤ c0) (hl : l0.length ≤ 1000000)
  (hf : ∀ (W : World) (x : S34),Below w.heap.size w W → x ∈ l0 → Calls Try.prog q (#[.agg #[.int .i64 x.f0,.int .i64 x.f1,.int .i64 x.f2]] ++ caps) W fun e W'=>e = .returned (.bool (p x)) ∧ Below W.heap.size W W') :
  Calls Try.prog 87 #[.slice A0 l0.length c0,.func (.func q) #[] caps] w fun e w'=>e = .returned (.int .i64 (idxOf p l0 0)) ∧ Below w.heap.size w w':=by
 have HR0:=Aside0.mk hr0
 have HC0:=Aside0.mk hc0
 have HF:=Aside0.mk hf
 have HQ:=Aside0.mk hq
 clear hr0 hc0 hf hq
 have HB:=Aside0.mk (Below.refl w.heap.size w)
 go_enter Try.func87,Try.ntmps87
 go_wp2
 go_loopw [8] (fun v wr=>∃ n : Nat,n ≤ l0.length ∧ v = .int .i64 (n : Int) ∧ Aside0 (idxOf p l0 0 = idxOf p (l0.drop n) (n : Int)) ∧ Aside0 (Below w.heap.size w wr)) (fun v _=>l0.length - (intOf v).toNat)
 case atStart=>exact ⟨0,by omega,rfl,⟨rfl⟩,HB⟩
 case round =>
  clear HB
  obtain ⟨n,hn,rfl,HI,HB⟩:=hrel
  by_cases c3 : n < l0.length
  ·have c3b0 : decide ((n : Int) < (l0.length : Int)) = true:=decide_eq_true (by omega)
   have hx : rd_T34 l0 (n : Int) ∈ l0:=by
    have:=drop_rd34 c3
    exact List.mem_of_mem_drop (i:=n) (by rw [this];simp)
   have p126 : 0 ≤ (n : Int):=by omega
   have q126 : (n : Int) < (l0.length : Int):=by omega
   obtain ⟨ad126,e126,hx126_0,hx126_1,hx126_2⟩:=at_T34 (Kd.C_below HR0.out HB.out) (n : Int) p126 q126
   cases e126
   rw [Int.toNat_natCast] at hx126_0 hx126_1 hx126_2
   by_cases hp : p (rd_T34 l0 (n : Int)) = true
   ·go_wp2_with (first|((with_reducible refine gate_dst (N:=16) rfl ?_);refine goesV (some 16) rfl rfl HQ.out #[.agg #[.int .i64 (rd_T34 l0 (n : Int)).f0,.int .i64 (rd_T34 l0 (n : Int)).f1,.int .i64 (rd_T34 l0 (n : Int)).f2]] rfl rfl (by (try simp only [List.map_toArray,List.map_cons,List.map_nil]);rfl) ?_;(refine (HF.out _ _ ?hb hx).mono ?_);(case hb=>repeat (first|(with_reducible first|exact HB.out|apply zzD|apply zzE|apply zzF)|exact HB.out));rintro e w6 ⟨rfl,hb⟩;refine ⟨_,rfl,?_⟩;(have n0_:=Aside0.mk (below_step (by repeat (first|(with_reducible first|exact HB.out|apply zzD|apply zzE|apply zzF)|exact HB.out)) hb));clear HB;have HB:=n0_;clear n0_ hb;(try simp only [hp])))
    go_ret
    refine ⟨?_,(by repeat (first|(with_reducible first|exact HB.out|apply zzD|apply zzE|apply zzF)|exact HB.out))⟩
    rw [HI.out,drop_rd34 c3,idxOf,if_pos hp]
    rfl
   ·replace hp:=Bool.eq_false_iff.mpr hp
    go_wp2_with (first|((with_reducible refine gate_dst (N:=16) rfl ?_);refine goesV (some 16) rfl rfl HQ.out #[.agg #[.int .i64 (rd_T34 l0 (n : Int)).f0,.int .i64 (rd_T34 l0 (n : Int)).f1,.int .i64 (rd_T34 l0 (n : Int)).f2]] rfl rfl (by (try simp only [List.map_toArray,List.map_cons,List.map_nil]);rfl) ?_;(refine (HF.out _ _ ?hb hx).mono ?_);(case hb=>repeat (first|(with_reducible first|exact HB.out|apply zzD|apply zzE|apply zzF)|exact HB.out));rintro e w7 ⟨rfl,hb⟩;refine ⟨_,rfl,?_⟩;(have n0_:=Aside0.mk (below_step (by repeat (first|(with_reducible first|exact HB.out|apply zzD|apply zzE|apply zzF)|exact HB.out)) hb));clear HB;have HB:=n0_;clear n0_ hb;(try simp only [hp])))
    go_roundw
    case rel=>exact ⟨n + 1,by omega,by first|rfl|simp,⟨by rw [HI.out,drop_rd34 c3,idxOf,if_neg (by simp [hp])];rfl⟩,HB⟩
    case measure=>show l0.length - ((n : Int) + 1).toNat < l0.length - ((n : Nat) : Int).toNat;omega
  ·have c3b0 : decide ((n : Int) < (l0.length : Int)) = false:=decide_eq_false (by omega)
   obtain rfl : n = l0.length:=by omega
   go_wp2
   go_ret
   refine ⟨?_,HB.out⟩
   rw [HI.out,List.drop_of_length_le (by omega)]
   rfl
set_option maxHeartbeats 8000000 in
set_option maxRecDepth 100000 in
theorem contains_edge (q : FuncId) (caps : Array Value) (hq : Ent q) (p : S34 → Bool) (A0 : Option Addr) (c0 : Nat) (l0 : List S34) (w : World) (hr0 : Kd.C k34 w A0 l0.length l0) (hc0 : l0.length ≤ c0) (hl : l0.length ≤ 1000000)
  (hf : ∀ (W : World) (x : S34),Below w.heap.size w W → x ∈ l0 → Calls Try.prog q (#[.agg #[.int .i64 x.f0,.int .i64 x.f1,.int .i64 x.f2]] ++ caps) W fun e W'=>e = .returned (.bool (p x)) ∧ Below W.heap.size W W') :
  Calls Try.prog 78 #[.slice A0 l0.length c0,.func (.func q) #[] caps] w fun e w'=>e = .returned (.bool (l0.any p)) ∧ Below w.heap.size w w':=by
 have HI:=Aside0.mk (idx_any p l0 0 (Int.le_refl 0))
 have HX:=Aside0.mk (index_edge q caps hq p A0 c0 l0 w hr0 hc0 hl hf)
 clear hr0 hc0 hf hq
 go_enter Try.func78,Try.ntmps78
 go_wp2_with (first|(go_at_call 87;refine HX.out.mono ?_;rintro e w6 ⟨rfl,hb⟩))
 go_ret
 exact ⟨by rw [← HI.out];rfl,hb⟩
end Go.Proofs.Ytgmomcjnldahjaa.Pr
namespace Go.Proofs.Ytgmomcjnldahjaa.Pr
open Go.RowKit Go.Proofs.YtgmomcjnldahjaaW.PrintWords Go.Proofs.YtgmomcjnldahjaaW.PrintLast Go.Proofs.YtgmomcjnldahjaaW.PrintMore
attribute [local go_sem] max2_int min2_int max_two min_two max_three min_three max_four min_four
set_option linter.unusedVariables false
set_option linter.unusedSimpArgs false
def TwinC (W : World) (gw n : Nat) (B : Nat → Nat → Bool) : Prop:=∃ (ads : Nat → Addr) (cp : Nat → Nat),∀ u,u < n → W.cell? ⟨gw,u,none⟩ = some (.slice (some (ads u)) n (cp u)) ∧ ∀ v,v < n → W.cell? ((ads u).add v) = some (.bool (B u v))
theorem TwinC.below {W W' : World} {gw n : Nat} {B : Nat → Nat → Bool} (h : TwinC W gw n B) (hb : Below W.heap.size W W') : TwinC W' gw n B:=by
 obtain ⟨ads,cp,h⟩:=h
 exact ⟨ads,cp,fun u hu=>⟨pw_cell_below hb (h u hu).1,fun v hv=>pw_cell_below hb ((h u hu).2 v hv)⟩⟩
theorem ent83 : Ent 83:=⟨_,Try.func83,rfl,rfl⟩
set_option maxHeartbeats 8000000 in
set_option maxRecDepth 100000 in
theorem clo83_calls {w : World} {gsb gvb gs gw n : Nat} {B : Nat → Nat → Bool} (hT : TwinC w gw n B) (h1 : w.cell? ⟨gsb,0,none⟩ = some (.pointer (some ⟨gs,0,none⟩))) (h2 : w.cell? ⟨gs,1,none⟩ = some (.slice (some ⟨gw,0,none⟩) n n)) {v : Nat} (h3 : w.cell? ⟨gvb,0,none⟩ = some (.int .i64 (v : Int))) (hv : v < n) {u : Nat} (hu : u < n) :
  Calls Try.prog 83 #[.int .i64 (u : Int),.pointer (some ⟨gsb,0,none⟩),.pointer (some ⟨gvb,0,none⟩)] w fun e w'=>e = .returned (.bool (B u v)) ∧ Below w.heap.size w w':=by
 obtain ⟨ads,cp,h⟩:=hT
 obtain ⟨c1,c2⟩:=h u hu
 have c3:=c2 v hv
 clear h c2
 go_enter Try.func83,Try.ntmps83
 go_wp2
 repeat (go_quiet (fail);try go_wp2)
 go_ret
 exact ⟨rfl,by first|exact Below.refl _ _|exact zzF (Below.refl _ _)|exact zzE (Below.refl _ _) _⟩
end Go.Proofs.Ytgmomcjnldahjaa.Pr
namespace Go.Proofs.Ytgmomcjnldahjaa.Pr
open Go.RowKit Go.Proofs.YtgmomcjnldahjaaW.PrintWords Go.Proofs.YtgmomcjnldahjaaW.PrintLast Go.Proofs.YtgmomcjnldahjaaW.PrintMore
attribute [local go_sem] max2_int min2_int max_two min_two max_three min_three max_four min_four
set_option linter.unusedVariables false
set_option linter.unusedSimpArgs false
def srch (N : List Int) (L : List S34) (S : Nat → Nat → List Int) (B : Nat → Nat → Bool) : Nat → List Nat → List Int → Found → Found
 | 0,o,c,b => if worseS b c = true then b else (match b with
  | none => some (o,c)
  | some (p,x) => if cmpL c x < 0 then some (o,c) else some (p,x))
 | d + 1,o,c,b => if worseS b c = true then b else ((List.range N.length).foldl (fun (st : List Nat × Found) v => if v ∈ o ∨ st.1.any (fun u => B u v) = true then st else (st.1 ++ [v],srch N L S B d (o ++ [v]) (c ++ placeS N L S o v) st.2)) ([],b)).2
theorem srch_worse (N : List Int) (L : List S34) (S : Nat → Nat → List Int) (B : Nat → Nat → Bool) (d : Nat) (o : List Nat) (c : List Int) (b : Found) (h : worseS b c = true) : srch N L S B d o c b = b:=by
 cases d <;> unfold srch <;> rw [if_pos h]
theorem srch_none (N : List Int) (L : List S34) (S : Nat → Nat → List Int) (B : Nat → Nat → Bool) (o : List Nat) (c : List Int) : srch N L S B 0 o c none = some (o,c):=by
 unfold srch;rw [if_neg (by simp [worseS])]
theorem srch_some (N : List Int) (L : List S34) (S : Nat → Nat → List Int) (B : Nat → Nat → Bool) (o : List Nat) (c : List Int) (p : List Nat) (x : List Int) (h : worseS (some (p,x)) c = false) : srch N L S B 0 o c (some (p,x)) = if cmpL c x < 0 then some (o,c) else some (p,x):=by
 unfold srch;rw [if_neg (by rw [h];simp)]
def stepS (N : List Int) (L : List S34) (S : Nat → Nat → List Int) (B : Nat → Nat → Bool) (d : Nat) (o : List Nat) (c : List Int) (st : List Nat × Found) (v : Nat) : List Nat × Found :=
 if v ∈ o ∨ st.1.any (fun u=>B u v) = true then st else (st.1 ++ [v],srch N L S B d (o ++ [v]) (c ++ placeS N L S o v) st.2)
theorem srch_succ (N : List Int) (L : List S34) (S : Nat → Nat → List Int) (B : Nat → Nat → Bool) (d : Nat) (o : List Nat) (c : List Int) (b : Found) (h : worseS b c = false) : srch N L S B (d + 1) o c b = ((List.range N.length).foldl (stepS N L S B d o c) ([],b)).2:=by
 rw [srch,if_neg (by rw [h];simp)]
 rfl
theorem app_any {P : Program} {ops : Array Oper} {Q : Exit → Act → World → Prop} {Kc : Act → World → Prop} {o : Oper} {a : Act} {w0 W : World} (base : Nat) (hw : Region.wanted o (yielded ops a.tmps) = true) (s x : Operand) (t : TypeId)
  (ho : o.op = .call { callee:=.builtin .append,args:=#[s,x],argTypes:=#[t,t] }) (ht : P.underlying t = some (.slice 3)) (hinfo : (P.info? 3).map (fun i=>(i.zero,i.size,i.bytes)) = some (some (.int .i64 0),1,8))
  (v : Value) (xs ys : List Int) (A : Option Addr) (c : Nat) (hs : a.eval s = v) (hx : a.eval x = .slice A ys.length c) (HO : Kd.R (Kd.int .i64) 3 W base (fun _=>True) v xs) (HR : Kd.C (Kd.int .i64) W A ys.length ys) (HB : Below base w0 W) (hbase : base ≤ W.heap.size) (hl : (xs.length + ys.length) * 8 ≤ 140737488355328)
  (h : ∀ v1 w1,Kd.R (Kd.int .i64) 3 w1 base (fun _=>True) v1 (xs ++ ys) → Below base w0 w1 → W.grownBy w1 v.ownBlock → (v1.ownBlock = v.ownBlock ∨ ∃ b,v1.ownBlock = some b ∧ W.heap.size ≤ b) → Kc (a.put o.dst v1) w1) :
  if Region.wanted o (yielded ops a.tmps) = true then Oper.wp P o a W Kc Q else Kc (a.put o.dst undef) W :=
 Kd.R_append_rows_step (Kd.int .i64) (Rr:=(Kd.int .i64).K W) (w0:=w0) base hw s x t 3 (.int .i64 0) 8 ho ht hinfo rfl (by decide) (by omega) v xs ys A ys.length c (fun _=>True) (fun _=>False) hs hx HO HR (fun _ _ h=>h) (fun _ hk=>hk.elim) (fun _ _=>trivial) HB hbase hl h
theorem srch_put {W : World} {base gs gt : Nat} {tw vo vc : Value} (h : W.heap[gs]? = some (.cells #[.pointer (some ⟨gt,0,none⟩),tw,vo,vc] 96 (0,0))) {v4 v5 : Value} {o : List Nat} {code : List Int} {ok : Nat → Prop} (r4 : Kd.R (Kd.int .i64) 3 W base ok v4 (io o)) (r5 : Kd.R (Kd.int .i64) 3 W base ok v5 code) (hne : code ≠ []) (hl : code.length ≤ 1000000) :
  Srch ((W.setCell ⟨gs,2,none⟩ v4).setCell ⟨gs,3,none⟩ v5) base ok gs gt tw (some (o,code)):=by
 have ht : ∀ q,q ∈ 3 :: (Kd.int IntKind.i64).E → q ≠ 96:=by intro q hq;simp [Kd.int,Kd.scalar] at hq;omega
 have h2 : (W.setCell ⟨gs,2,none⟩ v4).heap[gs]? = some (.cells #[.pointer (some ⟨gt,0,none⟩),tw,v4,vc] 96 (0,0)):=blk_put h 2 _ rfl
 refine ⟨v4,v5,blk_put h2 3 _ rfl,hne,hl,?_,?_⟩
 ·exact Kd.R_set (Kd.R_set r4 h ht 2 v4) h2 ht 3 v5
 ·exact Kd.R_set (Kd.R_set r5 h ht 2 v4) h2 ht 3 v5
theorem box1_S {W : World} {g t : Nat} {a : Value} (h : W.heap[g]? = some (.cells #[a] t (0,0))) : W.cell? ⟨g,0,none⟩ = some a ∧ W.heap[g]? = some (.cells #[a] t (0,0)):=⟨(blk_cell h 0).trans rfl,h⟩
theorem Srch.after {W W' : World} {base gs gt : Nat} {ok : Nat → Prop} {tw : Value} {b : Found} {v v1 : Value} (h : Srch W base (fun k=>ok k ∧ some k ≠ v.ownBlock) gs gt tw b) (hg : W.grownBy W' v.ownBlock) (hat : v1.ownBlock = v.ownBlock ∨ ∃ b,v1.ownBlock = some b ∧ W.heap.size ≤ b) (hs : some gs ≠ v.ownBlock) :
  Srch W' base (fun k=>ok k ∧ some k ≠ v1.ownBlock) gs gt tw b:=by
 obtain ⟨ov,cv,h1,h2⟩:=h.ex
 refine ⟨ov,cv,blk_grown h1 hg hs,?_⟩
 cases b with
 | none => exact h2
 | some p => exact ⟨h2.1,h2.2.1,Kd.R_after h2.2.2.1 hg hat,Kd.R_after h2.2.2.2 hg hat⟩
theorem box_C {W : World} {g : Nat} {x : Int} (h : W.heap[g]? = some (.cells #[.int .i64 x] 3 (0,0))) : Kd.C (Kd.int .i64) W (some ⟨g,0,none⟩) [x].length [x]:=by
 refine ⟨rfl,by simp,fun _=>⟨_,rfl,fun j p hp=>?_⟩⟩
 rcases j with _|j
 ·obtain rfl:=Option.some.inj hp
  refine ⟨[.int .i64 x],rfl,rfl,fun a u hu=>?_⟩
  rcases a with _|a
  ·rw [← Option.some.inj hu,add_plain]
   exact (blk_cell h 0).trans rfl
  ·exact absurd hu (by simp)
 ·exact absurd hp (by simp)
def fr5.T5 : Bool × List (List Nat × List Nat):=(true,[([],[]),([],[]),([],[]),([2],[2]),([],[]),([4,3],[4]),([0,0,2,3,5],[0]),([6,0,2,3,5],[6]),([7,3,5,0,2,3,5],[3,7]),([1,0,1,2,3,4,5,6,7,8],[1]),([9,0,1,2,3,4,5,6,7,8],[9]),([10,5,8,0,1,2,3,4,5,6,7,8],[5,10])])
def fr5.B5 : List Nat:=[0,0,0,4,0,28,61,125,253,511,1023,2047]
theorem fr5.tab5 : rtab .any (opsOf Try.f64 5) = fr5.T5:=by kernel_rfl
theorem fr5.bits5 : waitsOk fr5.T5.2 fr5.B5 = true:=by kernel_rfl
def fr12.B12 : List Nat:=[0,1,0,4,15,31]
def fr13.T13 : Bool × List (List Nat × List Nat):=(true,[([],[]),([],[]),([],[]),([2],[2]),([],[]),([4],[4]),([5],[5]),([6],[6]),([],[]),([7,8,3],[7,8]),([3,9,9],[3,9]),([0,1,10,10],[0,1,10])])
def fr13.B13 : List Nat:=[0,0,0,4,0,16,48,112,0,508,1020,2047]
theorem fr13.tab13 : rtab .any (opsOf Try.f64 13) = fr13.T13:=by kernel_rfl
theorem fr13.bits13 : waitsOk fr13.T13.2 fr13.B13 = true:=by kernel_rfl
section
variable {Ws Wt : World} {gs gt gw gR : Nat} {A0 : Option Addr} {c0 : Nat} {N : List Int} {A1 : Option Addr} {c1 : Nat} {L : List S34} {S : Nat → Nat → List Int} {B : Nat → Nat → Bool}
set_option maxHeartbeats 8000000 in
set_option maxRecDepth 100000 in
theorem from_calls (hT : ∀ W',Kept Wt W' (fun k=>k = gs) → Tab W' gt A0 c0 N A1 c1 L gR S) (hTw : ∀ W',Kept Wt W' (fun k=>k = gs) → TwinC W' gw N.length B) (hgs : Ws.heap.size ≤ gs) (hn : N.length ≤ 9) :
  ∀ (d : Nat) (o : List Nat) (code : List Int) (b : Found) (W : World) (ov cv : Value) (ok : Nat → Prop),o.length + d = N.length → (∀ j ∈ o,j < N.length) → code ≠ [] → code.length ≤ 2000 * (o.length + 1) → Below Ws.heap.size Ws W → Kept Wt W (fun k=>k = gs) → Srch W Ws.heap.size ok gs gt (.slice (some ⟨gw,0,none⟩) N.length N.length) b →
   Kd.R (Kd.int .i64) 3 W Ws.heap.size (fun _=>True) ov (io o) → Kd.R (Kd.int .i64) 3 W Ws.heap.size (fun _=>True) cv code →
   Calls Try.prog 64 #[.pointer (some ⟨gs,0,none⟩),ov,cv] W fun e w'=>e = .returned (.tuple #[]) ∧ Srch w' Ws.heap.size (fun k=>ok k ∨ W.heap.size ≤ k) gs gt (.slice (some ⟨gw,0,none⟩) N.length N.length) (srch N L S B d o code b) ∧ Kept W w' (fun k=>k = gs) ∧ Below Ws.heap.size Ws w':=by
 have T:=Aside0.mk hT
 have TW:=Aside0.mk hTw
 have GS:=Aside0.mk hgs
 clear hT hTw hgs
 intro d
 induction d with
 | zero =>
  intro o code b W ov cv ok hod ho hc0 hcl hB hKS hS hro hrc
  have hlen : o.length = N.length:=by omega
  obtain ⟨Ao,co,rfl⟩:=Kd.R_slice hro
  obtain ⟨Ac,cc,rfl⟩:=Kd.R_slice hrc
  rw [io_len] at hro ⊢
  have HO:=Aside0.mk hro
  have HC:=Aside0.mk hrc
  have HS:=Aside0.mk hS
  have HB:=Aside0.mk hB
  have HN:=Aside0.mk ho
  have KS:=Aside0.mk hKS
  clear hKS
  have HCN:=Aside0.mk hc0
  have hcl2 : code.length ≤ 1000000:=by omega
  have GL:=Aside0.mk (show gs < W.heap.size from by obtain ⟨_,_,h,_⟩:=hS.ex;exact blk_lt h)
  have HW:=Aside0.mk (Below.refl W.heap.size W)
  have HBW:=Aside0.mk HB.out
  clear hro hrc hS hB ho hc0
  obtain ⟨wb,hwb⟩ : ∃ wb,worseS b code = wb:=⟨_,rfl⟩
  have HWB:=Aside0.mk hwb
  go_enter Try.func64,Try.ntmps64
  cases wb
  ·skip
   clear hwb
   go_upto_region 2 with (first|((with_reducible refine gate_dst (N:=3) rfl ?_);refine box_event ?hg (N:=3) ?hd (cs:=#[.pointer (some ⟨gs,0,none⟩)]) (t:=93) ?hr ?_;(case hd=>rfl);(case hg=>rfl);(case hr=>first|(go_simp;done)|(go_simp;rfl));intro gb hg w1 hbox hb;have HGB:=Aside0.mk hg;have BX:=Aside0.mk hbox;have HW1:=Aside0.mk hb;have S1:=Aside0.mk (HS.out.below hb);have O1:=Aside0.mk (Kd.R_below HO.out hb);have C1:=Aside0.mk (Kd.R_below HC.out hb);have HB1:=Aside0.mk (below_step HB.out hb);clear hg hbox hb;have hcb : w1.cell? ⟨gb,0,none⟩ = some (.pointer (some ⟨gs,0,none⟩)):=(blk_cell BX.out 0).trans rfl)|(go_at_call 82;with_reducible refine (worse_calls S1.out (Kd.R_reads' C1.out).2.2 (Kd.R_reads' C1.out).2.1 hcl2 HCN.out).mono ?_;rw [HWB.out];rintro e w2 ⟨rfl,hdr⟩;have HD2:=Aside0.mk hdr.below;clear hdr))
   have S2:=Aside0.mk (S1.out.below HD2.out)
   have O2:=Aside0.mk (Kd.R_below O1.out HD2.out)
   have C2:=Aside0.mk (Kd.R_below C1.out HD2.out)
   have HB2:=Aside0.mk (below_step HB1.out HD2.out)
   have HW2:=Aside0.mk (below_step HW1.out HD2.out)
   have BX2:=Aside0.mk (blk_below BX.out HD2.out)
   have T2:=Aside0.mk (T.out _ (Kept.below KS.out HW2.out))
   obtain ⟨vo,vc,hs1,hs2⟩:=S2.out.ex
   have G2:=Aside0.mk hs1
   have V2:=Aside0.mk hs2
   clear hs1 hs2
   have hcb2 : w2.cell? ⟨gb,0,none⟩ = some (.pointer (some ⟨gs,0,none⟩)):=(blk_cell BX2.out 0).trans rfl
   have hcs0 : w2.cell? ⟨gs,0,none⟩ = some (.pointer (some ⟨gt,0,none⟩)):=(blk_cell G2.out 0).trans rfl
   have hcs3 : w2.cell? ⟨gs,3,none⟩ = some vc:=(blk_cell G2.out 3).trans rfl
   have hct0 : w2.cell? ⟨gt,0,none⟩ = some (.slice A0 N.length c0):=(blk_cell T2.out.ht 0).trans rfl
   have hnil:=fun (W : World) (A : Option Addr) (n c : Nat)=>Lib.run_eql_slice_nil (P:=Try.prog) W 27 3 A n c 0 0 Try.underlying27
   have ke : ((o.length : Int) == (N.length : Int)) = true:=by rw [hlen];simp
   have ke' : (o.length == N.length) = true:=by rw [hlen];simp
   have HCL:=Aside0.mk (show o.length ≤ 9 from by omega)
   have HLN:=Aside0.mk hlen
   clear hlen hod
   go_upto_region 4 with (fail)
   cases b with
   | none =>
    obtain ⟨hv1,hv2⟩:=V2.out
    subst hv1
    subst hv2
    have hn1:=fun (W : World) (n c : Nat)=>hnil W none n c
    simp only [Option.isNone_none] at hn1
    clear hnil
    have hol : o.length ≤ 1000000:=by have:=HCL.out;omega
    have HR:=Aside0.mk (srch_none N L S B o code)
    go_upto_region 5 with (fail)
    have HBd:=Aside0.mk (zzF HB2.out)
    have HWd:=Aside0.mk (zzF HW2.out)
    have BXd:=Aside0.mk (blk_drew BX2.out)
    have Gd:=Aside0.mk (blk_drew G2.out)
    have Cd:=Aside0.mk (Kd.R_drew C2.out)
    have ko:=clone_c (Kd.R_reads' (Kd.R_drew O2.out)).2.2 (by rw [io_len];exact (Kd.R_reads' (Kd.R_drew O2.out)).2.1) (by rw [io_len];omega)
    rw [io_len,HLN.out] at ko
    have KO:=Aside0.mk ko
    clear ko
    refine start_ (n:=12) (S:=fun w'=>w'.cell? ⟨gb,0,none⟩ = some (.pointer (some ⟨gs,0,none⟩))) (ds:=[]) #[false,false,false,false,false,false,false,false,false,false,false,false] (by kernel_rfl) rfl rfl (hcb2) (fun hHeld=>?_)
    refine with_tabW fr5.tab5 fr5.bits5 (fun HT_ HW_=>?_)
    refine pure_ (i:=2) (N:=some 42) (v:=?_) (a':=?_) #[false,false,true,false,false,false,false,false,false,false,false,false] rfl rfl (any_of HT_.out (by kernel_rfl)) (fun _ _ _ h=>h) (Or.inl ⟨by rfl,?_⟩) ?_ ?_
    rotate_left
    ·intro w'
     go_simp
     with_reducible rfl
    rotate_left
    ·simp only [Act.put,zzA,zzB,zzC,i64_w,i32_w]
     rfl
    refine pure_ (i:=4) (N:=some 44) (v:=?_) (a':=?_) #[false,false,true,false,true,false,false,false,false,false,false,false] rfl rfl (any_of HT_.out (by kernel_rfl)) (fun _ _ _ h=>h) (Or.inl ⟨by rfl,?_⟩) ?_ ?_
    rotate_left
    ·intro w'
     go_simp
     with_reducible rfl
    rotate_left
    ·simp only [Act.put,zzA,zzB,zzC,i64_w,i32_w]
     rfl
    refine take_ (i:=0) (N:=some 40) (v:=?_) (a':=?_) #[true,false,true,false,true,false,false,false,false,false,false,false] rfl rfl (take_ofW HT_.out HW_.out (by kernel_rfl)) (fun _ _ _ h=>h) (Or.inl ⟨by rfl,?_⟩) hHeld ?_ ?_
    rotate_left
    ·intro w' s0
     go_simp
     with_reducible rfl
    rotate_left
    ·simp only [Act.put,zzA,zzB,zzC,i64_w,i32_w]
     rfl
    refine take_ (i:=1) (N:=some 41) (v:=?_) (a':=?_) #[true,true,true,false,true,false,false,false,false,false,false,false] rfl rfl (take_ofW HT_.out HW_.out (by kernel_rfl)) (fun _ _ _ h=>h) (Or.inl ⟨by rfl,?_⟩) hHeld ?_ ?_
    rotate_left
    ·intro w' s0
     go_simp
     with_reducible rfl
    rotate_left
    ·simp only [Act.put,zzA,zzB,zzC,i64_w,i32_w]
     rfl
    refine one_ (i:=3) (N:=some 43) #[true,true,true,true,true,false,false,false,false,false,false,false] rfl rfl (one_of HT_.out (by kernel_rfl)) (by decide) (fun K hK=>?_)
    refine goes_ Try.func18 (by kernel_rfl) rfl #[.slice Ao N.length co] (by rfl) rfl rfl (by simp only [List.map_toArray,List.map_cons,List.map_nil];rfl) ?_
    with_reducible refine KO.out.mono ?_
    rintro e w4 ⟨v4,rfl,o4,b4⟩
    refine ⟨_,rfl,?_⟩
    have R4:=Aside0.mk (Kd.R_mono (ok':=fun k=>ok k ∨ W.heap.size ≤ k) (Kd.R_lower (Kd.R_bound o4) HBd.out.size) (fun k hk=>.inr (Nat.le_trans HWd.out.size hk.2.1)))
    have HB4:=Aside0.mk (below_step HBd.out b4)
    have HW4:=Aside0.mk (below_step HWd.out b4)
    have BX4:=Aside0.mk (blk_below BXd.out b4)
    have G4:=Aside0.mk (blk_below Gd.out b4)
    have C4:=Aside0.mk (Kd.R_below Cd.out b4)
    have KC:=Aside0.mk (clone_c (Kd.R_reads' C4.out).2.2 (Kd.R_reads' C4.out).2.1 hcl2)
    clear o4 b4
    have hcb4 : w4.cell? ⟨gb,0,none⟩ = some (.pointer (some ⟨gs,0,none⟩)):=(blk_cell BX4.out 0).trans rfl
    refine hK.out _ _ (hcb4) (fun hHeld=>?_)
    clear hK K
    refine norm_ (a':=?_) ?_ ?_
    rotate_left
    ·show Act.put _ (some 43) _ = _
     simp only [Act.put,zzA,zzB,zzC,i64_w,i32_w]
     rfl
    refine one_ (i:=5) (N:=some 45) #[true,true,true,true,true,true,false,false,false,false,false,false] rfl rfl (one_of HT_.out (by kernel_rfl)) (by decide) (fun K hK=>?_)
    refine goes_ Try.func18 (by kernel_rfl) rfl #[.slice Ac code.length cc] (by rfl) rfl rfl (by simp only [List.map_toArray,List.map_cons,List.map_nil];rfl) ?_
    with_reducible refine KC.out.mono ?_
    rintro e w5 ⟨v5,rfl,o5,b5⟩
    refine ⟨_,rfl,?_⟩
    have R5:=Aside0.mk (Kd.R_mono (ok':=fun k=>ok k ∨ W.heap.size ≤ k) (Kd.R_lower (Kd.R_bound o5) HB4.out.size) (fun k hk=>.inr (Nat.le_trans HW4.out.size hk.2.1)))
    have R4':=Aside0.mk (Kd.R_below R4.out b5)
    have HB5:=Aside0.mk (below_step HB4.out b5)
    have HW5:=Aside0.mk (below_step HW4.out b5)
    have BX5:=Aside0.mk (blk_below BX4.out b5)
    have G5:=Aside0.mk (blk_below G4.out b5)
    clear o5 b5
    obtain ⟨A4_,c4_,e4_⟩:=Kd.R_slice R4'.out
    obtain ⟨A5_,c5_,e5_⟩:=Kd.R_slice R5.out
    subst e4_
    subst e5_
    have hcb5 : w5.cell? ⟨gb,0,none⟩ = some (.pointer (some ⟨gs,0,none⟩)):=(blk_cell BX5.out 0).trans rfl
    have hg2 : w5.cell? ⟨gs,2,none⟩ = some (.slice none 0 0):=(blk_cell G5.out 2).trans rfl
    have hg3 : w5.cell? ⟨gs,3,none⟩ = some (.slice none 0 0):=(blk_cell G5.out 3).trans rfl
    have hf2:=blk_frozen G5.out 2
    have hf3:=blk_frozen G5.out 3
    have NG:=Aside0.mk (ty_ne BX5.out G5.out (by decide))
    refine hK.out _ _ (hcb5) (fun hHeld=>?_)
    clear hK K
    refine norm_ (a':=?_) ?_ ?_
    rotate_left
    ·show Act.put _ (some 45) _ = _
     simp only [Act.put,zzA,zzB,zzC,i64_w,i32_w]
     rfl
    refine pure_ (i:=6) (N:=some 46) (v:=?_) (a':=?_) #[true,true,true,true,true,true,true,false,false,false,false,false] rfl rfl (any_of HT_.out (by kernel_rfl)) (fun _ _ _ h=>h) (Or.inl ⟨by rfl,?_⟩) ?_ ?_
    rotate_left
    ·intro w'
     go_simp
     with_reducible rfl
    rotate_left
    ·simp only [Act.put,zzA,zzB,zzC,i64_w,i32_w]
     rfl
    refine pure_ (i:=7) (N:=some 47) (v:=?_) (a':=?_) #[true,true,true,true,true,true,true,true,false,false,false,false] rfl rfl (any_of HT_.out (by kernel_rfl)) (fun _ _ _ h=>h) (Or.inl ⟨by rfl,?_⟩) ?_ ?_
    rotate_left
    ·intro w'
     go_simp
     with_reducible rfl
    rotate_left
    ·simp only [Act.put,zzA,zzB,zzC,i64_w,i32_w]
     rfl
    refine one_ (i:=8) (N:=none) #[true,true,true,true,true,true,true,true,true,false,false,false] rfl rfl (one_of HT_.out (by kernel_rfl)) (by decide) (fun K hK=>?_)
    refine skip_ (w1:=?_) (by rfl) rfl ?_ ?_
    rotate_left
    ·go_simp
     rfl
    refine hK.out _ _ (((blk_cell (blk_far BX5.out NG.out _) 0).trans rfl)) (fun hHeld=>?_)
    clear hK K
    refine pure_ (i:=9) (N:=some 48) (v:=?_) (a':=?_) #[true,true,true,true,true,true,true,true,true,true,false,false] rfl rfl (any_of HT_.out (by kernel_rfl)) (fun _ _ _ h=>h) (Or.inl ⟨by rfl,?_⟩) ?_ ?_
    rotate_left
    ·intro w'
     go_simp
     with_reducible rfl
    rotate_left
    ·simp only [Act.put,zzA,zzB,zzC,i64_w,i32_w]
     rfl
    refine pure_ (i:=10) (N:=some 49) (v:=?_) (a':=?_) #[true,true,true,true,true,true,true,true,true,true,true,false] rfl rfl (any_of HT_.out (by kernel_rfl)) (fun _ _ _ h=>h) (Or.inl ⟨by rfl,?_⟩) ?_ ?_
    rotate_left
    ·intro w'
     go_simp
     with_reducible rfl
    rotate_left
    ·simp only [Act.put,zzA,zzB,zzC,i64_w,i32_w]
     rfl
    refine one_ (i:=11) (N:=none) #[true,true,true,true,true,true,true,true,true,true,true,true] rfl rfl (one_of HT_.out (by kernel_rfl)) (by decide) (fun K hK=>?_)
    refine skip_ (w1:=?_) (by rfl) rfl ?_ ?_
    rotate_left
    ·go_simp
     rfl
    refine hK.out _ _ (((blk_cell (blk_far (blk_far BX5.out NG.out _) NG.out _) 0).trans rfl)) (fun hHeld=>?_)
    clear hK K
    refine done_ (done_of HT_.out (by kernel_rfl)) ?_
    go_wp2
    first|go_end0|((try simp only [Exit.inBlock,Exit.then]);refine bodyPost_ret (results_none rfl _ _ _) rfl ?_)
    refine ⟨rfl,?_,?_,?_⟩
    ·rw [HR.out];exact srch_put G5.out R4'.out R5.out HCN.out hcl2
    ·exact Kept.setCell (S:=fun k=>k = gs) (Kept.setCell (S:=fun k=>k = gs) (Kept.of_below HW5.out (fun k=>k = gs)) (.inl rfl) _) (.inl rfl) _
    ·exact below_set (below_set HB5.out GS.out) GS.out
   | some q =>
    obtain ⟨p,x⟩:=q
    obtain ⟨hx0,hxl,hrp,hrx⟩:=V2.out
    have hx1 : 0 < x.length:=List.length_pos_iff.2 hx0
    obtain ⟨g,cx,hvc,_,_,_⟩:=Kd.R_form hrx hx1
    obtain ⟨Av,cv',hvo⟩:=Kd.R_slice hrp
    subst hvc
    subst hvo
    have hn1:=fun (W : World) (A : Addr) (n c : Nat)=>hnil W (some A) n c
    simp only [Option.isNone_some] at hn1
    clear hnil
    have hol : o.length ≤ 1000000:=by have:=HCL.out;omega
    obtain ⟨z,hz⟩ : ∃ z,cmpL code x = z:=⟨_,rfl⟩
    have kx:=compare_c (Kd.R_reads' C2.out).2.2 (Kd.R_reads' C2.out).2.1 (Kd.R_reads' hrx).2.2 (Kd.R_reads' hrx).2.1 hcl2
    rw [hz] at kx
    have KX:=Aside0.mk kx
    have HZ:=Aside0.mk hz
    clear kx hz hrp hrx hx0 hxl
    by_cases h4 : z < 0
    ·have k4 : decide (z < 0) = true:=decide_eq_true h4
     have HR:=Aside0.mk (show srch N L S B 0 o code (some (p,x)) = some (o,code) from by rw [srch_some N L S B o code p x HWB.out,HZ.out,if_pos h4])
     go_upto_region 5 with (first|(go_at_call 26;with_reducible refine KX.out.mono ?_;rintro e w3 ⟨rfl,hdr⟩;have HD3:=Aside0.mk hdr.below;clear hdr))
     have O3:=Aside0.mk (Kd.R_below O2.out HD3.out)
     have C3:=Aside0.mk (Kd.R_below C2.out HD3.out)
     have HB3:=Aside0.mk (below_step HB2.out HD3.out)
     have HW3:=Aside0.mk (below_step HW2.out HD3.out)
     have BX3:=Aside0.mk (blk_below BX2.out HD3.out)
     have G3:=Aside0.mk (blk_below G2.out HD3.out)
     have hcb3 : w3.cell? ⟨gb,0,none⟩ = some (.pointer (some ⟨gs,0,none⟩)):=(blk_cell BX3.out 0).trans rfl
     have HBd:=Aside0.mk (zzF HB3.out)
     have HWd:=Aside0.mk (zzF HW3.out)
     have BXd:=Aside0.mk (blk_drew BX3.out)
     have Gd:=Aside0.mk (blk_drew G3.out)
     have Cd:=Aside0.mk (Kd.R_drew C3.out)
     have ko:=clone_c (Kd.R_reads' (Kd.R_drew O3.out)).2.2 (by rw [io_len];exact (Kd.R_reads' (Kd.R_drew O3.out)).2.1) (by rw [io_len];omega)
     rw [io_len,HLN.out] at ko
     have KO:=Aside0.mk ko
     clear ko
     refine start_ (n:=12) (S:=fun w'=>w'.cell? ⟨gb,0,none⟩ = some (.pointer (some ⟨gs,0,none⟩))) (ds:=[]) #[false,false,false,false,false,false,false,false,false,false,false,false] (by kernel_rfl) rfl rfl (hcb3) (fun hHeld=>?_)
     refine with_tabW fr5.tab5 fr5.bits5 (fun HT_ HW_=>?_)
     refine pure_ (i:=2) (N:=some 42) (v:=?_) (a':=?_) #[false,false,true,false,false,false,false,false,false,false,false,false] rfl rfl (any_of HT_.out (by kernel_rfl)) (fun _ _ _ h=>h) (Or.inl ⟨by rfl,?_⟩) ?_ ?_
     rotate_left
     ·intro w'
      go_simp
      with_reducible rfl
     rotate_left
     ·simp only [Act.put,zzA,zzB,zzC,i64_w,i32_w]
      rfl
     refine pure_ (i:=4) (N:=some 44) (v:=?_) (a':=?_) #[false,false,true,false,true,false,false,false,false,false,false,false] rfl rfl (any_of HT_.out (by kernel_rfl)) (fun _ _ _ h=>h) (Or.inl ⟨by rfl,?_⟩) ?_ ?_
     rotate_left
     ·intro w'
      go_simp
      with_reducible rfl
     rotate_left
     ·simp only [Act.put,zzA,zzB,zzC,i64_w,i32_w]
      rfl
     refine take_ (i:=0) (N:=some 40) (v:=?_) (a':=?_) #[true,false,true,false,true,false,false,false,false,false,false,false] rfl rfl (take_ofW HT_.out HW_.out (by kernel_rfl)) (fun _ _ _ h=>h) (Or.inl ⟨by rfl,?_⟩) hHeld ?_ ?_
     rotate_left
     ·intro w' s0
      go_simp
      with_reducible rfl
     rotate_left
     ·simp only [Act.put,zzA,zzB,zzC,i64_w,i32_w]
      rfl
     refine take_ (i:=1) (N:=some 41) (v:=?_) (a':=?_) #[true,true,true,false,true,false,false,false,false,false,false,false] rfl rfl (take_ofW HT_.out HW_.out (by kernel_rfl)) (fun _ _ _ h=>h) (Or.inl ⟨by rfl,?_⟩) hHeld ?_ ?_
     rotate_left
     ·intro w' s0
      go_simp
      with_reducible rfl
     rotate_left
     ·simp only [Act.put,zzA,zzB,zzC,i64_w,i32_w]
      rfl
     refine one_ (i:=3) (N:=some 43) #[true,true,true,true,true,false,false,false,false,false,false,false] rfl rfl (one_of HT_.out (by kernel_rfl)) (by decide) (fun K hK=>?_)
     refine goes_ Try.func18 (by kernel_rfl) rfl #[.slice Ao N.length co] (by rfl) rfl rfl (by simp only [List.map_toArray,List.map_cons,List.map_nil];rfl) ?_
     with_reducible refine KO.out.mono ?_
     rintro e w4 ⟨v4,rfl,o4,b4⟩
     refine ⟨_,rfl,?_⟩
     have R4:=Aside0.mk (Kd.R_mono (ok':=fun k=>ok k ∨ W.heap.size ≤ k) (Kd.R_lower (Kd.R_bound o4) HBd.out.size) (fun k hk=>.inr (Nat.le_trans HWd.out.size hk.2.1)))
     have HB4:=Aside0.mk (below_step HBd.out b4)
     have HW4:=Aside0.mk (below_step HWd.out b4)
     have BX4:=Aside0.mk (blk_below BXd.out b4)
     have G4:=Aside0.mk (blk_below Gd.out b4)
     have C4:=Aside0.mk (Kd.R_below Cd.out b4)
     have KC:=Aside0.mk (clone_c (Kd.R_reads' C4.out).2.2 (Kd.R_reads' C4.out).2.1 hcl2)
     clear o4 b4
     have hcb4 : w4.cell? ⟨gb,0,none⟩ = some (.pointer (some ⟨gs,0,none⟩)):=(blk_cell BX4.out 0).trans rfl
     refine hK.out _ _ (hcb4) (fun hHeld=>?_)
     clear hK K
     refine norm_ (a':=?_) ?_ ?_
     rotate_left
     ·show Act.put _ (some 43) _ = _
      simp only [Act.put,zzA,zzB,zzC,i64_w,i32_w]
      rfl
     refine one_ (i:=5) (N:=some 45) #[true,true,true,true,true,true,false,false,false,false,false,false] rfl rfl (one_of HT_.out (by kernel_rfl)) (by decide) (fun K hK=>?_)
     refine goes_ Try.func18 (by kernel_rfl) rfl #[.slice Ac code.length cc] (by rfl) rfl rfl (by simp only [List.map_toArray,List.map_cons,List.map_nil];rfl) ?_
     with_reducible refine KC.out.mono ?_
     rintro e w5 ⟨v5,rfl,o5,b5⟩
     refine ⟨_,rfl,?_⟩
     have R5:=Aside0.mk (Kd.R_mono (ok':=fun k=>ok k ∨ W.heap.size ≤ k) (Kd.R_lower (Kd.R_bound o5) HB4.out.size) (fun k hk=>.inr (Nat.le_trans HW4.out.size hk.2.1)))
     have R4':=Aside0.mk (Kd.R_below R4.out b5)
     have HB5:=Aside0.mk (below_step HB4.out b5)
     have HW5:=Aside0.mk (below_step HW4.out b5)
     have BX5:=Aside0.mk (blk_below BX4.out b5)
     have G5:=Aside0.mk (blk_below G4.out b5)
     clear o5 b5
     obtain ⟨A4_,c4_,e4_⟩:=Kd.R_slice R4'.out
     obtain ⟨A5_,c5_,e5_⟩:=Kd.R_slice R5.out
     subst e4_
     subst e5_
     have hcb5 : w5.cell? ⟨gb,0,none⟩ = some (.pointer (some ⟨gs,0,none⟩)):=(blk_cell BX5.out 0).trans rfl
     have hg2 : w5.cell? ⟨gs,2,none⟩ = some (.slice Av (io p).length cv'):=(blk_cell G5.out 2).trans rfl
     have hg3 : w5.cell? ⟨gs,3,none⟩ = some (.slice (some ⟨g,0,none⟩) x.length cx):=(blk_cell G5.out 3).trans rfl
     have hf2:=blk_frozen G5.out 2
     have hf3:=blk_frozen G5.out 3
     have NG:=Aside0.mk (ty_ne BX5.out G5.out (by decide))
     refine hK.out _ _ (hcb5) (fun hHeld=>?_)
     clear hK K
     refine norm_ (a':=?_) ?_ ?_
     rotate_left
     ·show Act.put _ (some 45) _ = _
      simp only [Act.put,zzA,zzB,zzC,i64_w,i32_w]
      rfl
     refine pure_ (i:=6) (N:=some 46) (v:=?_) (a':=?_) #[true,true,true,true,true,true,true,false,false,false,false,false] rfl rfl (any_of HT_.out (by kernel_rfl)) (fun _ _ _ h=>h) (Or.inl ⟨by rfl,?_⟩) ?_ ?_
     rotate_left
     ·intro w'
      go_simp
      with_reducible rfl
     rotate_left
     ·simp only [Act.put,zzA,zzB,zzC,i64_w,i32_w]
      rfl
     refine pure_ (i:=7) (N:=some 47) (v:=?_) (a':=?_) #[true,true,true,true,true,true,true,true,false,false,false,false] rfl rfl (any_of HT_.out (by kernel_rfl)) (fun _ _ _ h=>h) (Or.inl ⟨by rfl,?_⟩) ?_ ?_
     rotate_left
     ·intro w'
      go_simp
      with_reducible rfl
     rotate_left
     ·simp only [Act.put,zzA,zzB,zzC,i64_w,i32_w]
      rfl
     refine one_ (i:=8) (N:=none) #[true,true,true,true,true,true,true,true,true,false,false,false] rfl rfl (one_of HT_.out (by kernel_rfl)) (by decide) (fun K hK=>?_)
     refine skip_ (w1:=?_) (by rfl) rfl ?_ ?_
     rotate_left
     ·go_simp
      rfl
     refine hK.out _ _ (((blk_cell (blk_far BX5.out NG.out _) 0).trans rfl)) (fun hHeld=>?_)
     clear hK K
     refine pure_ (i:=9) (N:=some 48) (v:=?_) (a':=?_) #[true,true,true,true,true,true,true,true,true,true,false,false] rfl rfl (any_of HT_.out (by kernel_rfl)) (fun _ _ _ h=>h) (Or.inl ⟨by rfl,?_⟩) ?_ ?_
     rotate_left
     ·intro w'
      go_simp
      with_reducible rfl
     rotate_left
     ·simp only [Act.put,zzA,zzB,zzC,i64_w,i32_w]
      rfl
     refine pure_ (i:=10) (N:=some 49) (v:=?_) (a':=?_) #[true,true,true,true,true,true,true,true,true,true,true,false] rfl rfl (any_of HT_.out (by kernel_rfl)) (fun _ _ _ h=>h) (Or.inl ⟨by rfl,?_⟩) ?_ ?_
     rotate_left
     ·intro w'
      go_simp
      with_reducible rfl
     rotate_left
     ·simp only [Act.put,zzA,zzB,zzC,i64_w,i32_w]
      rfl
     refine one_ (i:=11) (N:=none) #[true,true,true,true,true,true,true,true,true,true,true,true] rfl rfl (one_of HT_.out (by kernel_rfl)) (by decide) (fun K hK=>?_)
     refine skip_ (w1:=?_) (by rfl) rfl ?_ ?_
     rotate_left
     ·go_simp
      rfl
     refine hK.out _ _ (((blk_cell (blk_far (blk_far BX5.out NG.out _) NG.out _) 0).trans rfl)) (fun hHeld=>?_)
     clear hK K
     refine done_ (done_of HT_.out (by kernel_rfl)) ?_
     go_wp2
     first|go_end0|((try simp only [Exit.inBlock,Exit.then]);refine bodyPost_ret (results_none rfl _ _ _) rfl ?_)
     refine ⟨rfl,?_,?_,?_⟩
     ·rw [HR.out];exact srch_put G5.out R4'.out R5.out HCN.out hcl2
     ·exact Kept.setCell (S:=fun k=>k = gs) (Kept.setCell (S:=fun k=>k = gs) (Kept.of_below HW5.out (fun k=>k = gs)) (.inl rfl) _) (.inl rfl) _
     ·exact below_set (below_set HB5.out GS.out) GS.out
    ·have k4 : decide (z < 0) = false:=decide_eq_false h4
     have HR:=Aside0.mk (show srch N L S B 0 o code (some (p,x)) = some (p,x) from by rw [srch_some N L S B o code p x HWB.out,HZ.out,if_neg h4])
     go_wp2_with (first|(go_at_call 26;with_reducible refine KX.out.mono ?_;rintro e w3 ⟨rfl,hdr⟩;have HD3:=Aside0.mk hdr.below;clear hdr))
     first|go_end0|((try simp only [Exit.inBlock,Exit.then]);refine bodyPost_ret (results_none rfl _ _ _) rfl ?_)
     exact ⟨rfl,by rw [HR.out];exact (S2.out.below HD3.out).mono (fun _ hk=>.inl hk),Kept.of_below (below_step HW2.out HD3.out) _,below_step HB2.out HD3.out⟩
  ·have HR:=Aside0.mk (show srch N L S B 0 o code b = b from srch_worse N L S B 0 o code b hwb)
   clear hwb
   go_wp2_with (first|((with_reducible refine gate_dst (N:=3) rfl ?_);refine box_event ?hg (N:=3) ?hd (cs:=#[.pointer (some ⟨gs,0,none⟩)]) (t:=93) ?hr ?_;(case hd=>rfl);(case hg=>rfl);(case hr=>first|(go_simp;done)|(go_simp;rfl));intro gb hg w1 hbox hb;have HGB:=Aside0.mk hg;have BX:=Aside0.mk hbox;have HW1:=Aside0.mk hb;have S1:=Aside0.mk (HS.out.below hb);have O1:=Aside0.mk (Kd.R_below HO.out hb);have C1:=Aside0.mk (Kd.R_below HC.out hb);have HB1:=Aside0.mk (below_step HB.out hb);clear hg hbox hb;have hcb : w1.cell? ⟨gb,0,none⟩ = some (.pointer (some ⟨gs,0,none⟩)):=(blk_cell BX.out 0).trans rfl)|(go_at_call 82;with_reducible refine (worse_calls S1.out (Kd.R_reads' C1.out).2.2 (Kd.R_reads' C1.out).2.1 hcl2 HCN.out).mono ?_;rw [HWB.out];rintro e w2 ⟨rfl,hdr⟩;have HD2:=Aside0.mk hdr.below;clear hdr))
   first|go_end0|((try simp only [Exit.inBlock,Exit.then]);refine bodyPost_ret (results_none rfl _ _ _) rfl ?_)
   exact ⟨rfl,by rw [HR.out];exact (S1.out.below HD2.out).mono (fun _ hk=>.inl hk),Kept.of_below (below_step HW1.out HD2.out) _,below_step HB1.out HD2.out⟩
 | succ d ih =>
  intro o code b W ov cv ok hod ho hc0 hcl hB hKS hS hro hrc
  obtain ⟨Ao,co,rfl⟩:=Kd.R_slice hro
  obtain ⟨Ac,cc,rfl⟩:=Kd.R_slice hrc
  rw [io_len] at hro ⊢
  have HO:=Aside0.mk hro
  have HC:=Aside0.mk hrc
  have HS:=Aside0.mk hS
  have HB:=Aside0.mk hB
  have HN:=Aside0.mk ho
  have KS:=Aside0.mk hKS
  clear hKS
  have HCN:=Aside0.mk hc0
  have hcl2 : code.length ≤ 1000000:=by omega
  have GL:=Aside0.mk (show gs < W.heap.size from by obtain ⟨_,_,h,_⟩:=hS.ex;exact blk_lt h)
  have HW:=Aside0.mk (Below.refl W.heap.size W)
  have HBW:=Aside0.mk HB.out
  clear hro hrc hS hB ho hc0
  obtain ⟨wb,hwb⟩ : ∃ wb,worseS b code = wb:=⟨_,rfl⟩
  have HWB:=Aside0.mk hwb
  go_enter Try.func64,Try.ntmps64
  cases wb
  ·skip
   clear hwb
   go_upto_region 2 with (first|((with_reducible refine gate_dst (N:=3) rfl ?_);refine box_event ?hg (N:=3) ?hd (cs:=#[.pointer (some ⟨gs,0,none⟩)]) (t:=93) ?hr ?_;(case hd=>rfl);(case hg=>rfl);(case hr=>first|(go_simp;done)|(go_simp;rfl));intro gb hg w1 hbox hb;have HGB:=Aside0.mk hg;have BX:=Aside0.mk hbox;have HW1:=Aside0.mk hb;have S1:=Aside0.mk (HS.out.below hb);have O1:=Aside0.mk (Kd.R_below HO.out hb);have C1:=Aside0.mk (Kd.R_below HC.out hb);have HB1:=Aside0.mk (below_step HB.out hb);clear hg hbox hb;have hcb : w1.cell? ⟨gb,0,none⟩ = some (.pointer (some ⟨gs,0,none⟩)):=(blk_cell BX.out 0).trans rfl)|(go_at_call 82;with_reducible refine (worse_calls S1.out (Kd.R_reads' C1.out).2.2 (Kd.R_reads' C1.out).2.1 hcl2 HCN.out).mono ?_;rw [HWB.out];rintro e w2 ⟨rfl,hdr⟩;have HD2:=Aside0.mk hdr.below;clear hdr))
   have S2:=Aside0.mk (S1.out.below HD2.out)
   have O2:=Aside0.mk (Kd.R_below O1.out HD2.out)
   have C2:=Aside0.mk (Kd.R_below C1.out HD2.out)
   have HB2:=Aside0.mk (below_step HB1.out HD2.out)
   have HW2:=Aside0.mk (below_step HW1.out HD2.out)
   have BX2:=Aside0.mk (blk_below BX.out HD2.out)
   have T2:=Aside0.mk (T.out _ (Kept.below KS.out HW2.out))
   obtain ⟨vo,vc,hs1,hs2⟩:=S2.out.ex
   have G2:=Aside0.mk hs1
   have V2:=Aside0.mk hs2
   clear hs1 hs2
   have hcb2 : w2.cell? ⟨gb,0,none⟩ = some (.pointer (some ⟨gs,0,none⟩)):=(blk_cell BX2.out 0).trans rfl
   have hcs0 : w2.cell? ⟨gs,0,none⟩ = some (.pointer (some ⟨gt,0,none⟩)):=(blk_cell G2.out 0).trans rfl
   have hcs3 : w2.cell? ⟨gs,3,none⟩ = some vc:=(blk_cell G2.out 3).trans rfl
   have hct0 : w2.cell? ⟨gt,0,none⟩ = some (.slice A0 N.length c0):=(blk_cell T2.out.ht 0).trans rfl
   have ke : ((o.length : Int) == (N.length : Int)) = false:=by simp;omega
   have ke' : (o.length == N.length) = false:=by simp;omega
   have HCL:=Aside0.mk (show o.length ≤ 8 from by omega)
   have HLN:=Aside0.mk hod
   have HLC:=Aside0.mk hcl
   clear hod hcl
   have HSU:=Aside0.mk (srch_succ N L S B d o code b HWB.out)
   have HGS:=Aside0.mk (show ∃ cs,W.heap[gs]? = some (.cells cs 96 (0,0)) from by obtain ⟨_,_,h,_⟩:=HS.out.ex;exact ⟨_,h⟩)
   have SR:=Aside0.mk (S2.out.mono (ok':=fun k=>(ok k ∨ W.heap.size ≤ k) ∧ some k ≠ (Value.slice none 0 0).ownBlock) (fun k hk=>⟨.inl hk,by simp [Value.ownBlock]⟩))
   have HKP:=Aside0.mk (Kept.of_below HW2.out (fun k=>k = gs))
   have hn99 : N.length ≤ 999:=by omega
   go_wp2
   go_loopw [7,51] (fun v7 v51 wr=>∃ (i : Nat) (tr : List Nat) (bb : Found),i ≤ N.length ∧ v51 = .int .i64 (i : Int) ∧ Aside0 ((List.range i).foldl (stepS N L S B d o code) ([],b) = (tr,bb)) ∧ Aside0 (tr.length ≤ i ∧ ∀ u ∈ tr,u < N.length) ∧ Aside0 (Kd.R (Kd.int .i64) 3 wr W.heap.size (fun _=>True) v7 (io tr)) ∧
    Aside0 (Srch wr Ws.heap.size (fun k=>(ok k ∨ W.heap.size ≤ k) ∧ some k ≠ v7.ownBlock) gs gt (.slice (some ⟨gw,0,none⟩) N.length N.length) bb) ∧ Aside0 (wr.heap[gb]? = some (.cells #[.pointer (some ⟨gs,0,none⟩)] 93 (0,0))) ∧ Aside0 (Kept W wr (fun k=>k = gs)) ∧ Aside0 (Below Ws.heap.size Ws wr)) (fun _ v51 _=>N.length - (intOf v51).toNat)
   case atStart=>exact ⟨0,[],b,by omega,rfl,⟨rfl⟩,⟨⟨by simp,by simp⟩⟩,⟨Kd.R_nil _ _ _ _ _⟩,SR,BX2,HKP,HB2⟩
   case round =>
    obtain ⟨i,tr,bb,hi,rfl,FS,HT,RT,SR',BXr,Kr,HBr⟩:=hrel
    clear SR HKP S1 S2 O1 O2 C1 C2 HB1 HB2 HW1 HW2 BX BX2 T2 G2 V2 HD2 HGB hcb2 hcs0 hcs3 hct0
    by_cases h1 : i < N.length
    ·have k1 : decide ((i : Int) < (N.length : Int)) = true:=decide_eq_true (by omega)
     have k1' : decide (i < N.length) = true:=decide_eq_true h1
     obtain ⟨At,ct,rfl⟩:=Kd.R_slice RT.out
     rw [io_len] at RT SR' ⊢
     go_upto_region 10 with (first|((with_reducible refine gate_dst (N:=8) rfl ?_);refine box_event ?hg (N:=8) ?hd (cs:=#[.int .i64 0]) (t:=3) ?hr ?_;(case hd=>rfl);(case hg=>rfl);(case hr=>first|(go_simp;done)|(go_simp;rfl));intro gv hg wA hbox hb;have hcA0 : wA.cell? ⟨gv,0,none⟩ = some (.int .i64 0):=(blk_cell hbox 0).trans rfl;have hfA0:=blk_frozen hbox 0;have HGV:=Aside0.mk hg;have HBX:=Aside0.mk hbox;have HBB:=Aside0.mk hb;clear hg hbox hb)|((with_reducible refine gate_store (t:=3) (p:=8) rfl ?_);refine store_event (t:=3) (p:=8) (v:=?vo_) (w1:=wA.setCell ⟨gv,0,none⟩ (.int .i64 (i : Int))) ?hg ?ho ?hn ?hr ?_;(case ho=>rfl);(case hg=>rfl);(case hn=>rfl);(case hr=>first|(go_simp;done)|(go_simp;rfl));intro w4 hw))
     have HX : Below wr.heap.size wr w4:=by
      rw [hw]
      exact below_set HBB.out (by rw [HGV.out];omega)
     have hv4 : w4.heap[gv]? = some (.cells #[.int .i64 (i : Int)] 3 (0,0)):=by
      rw [hw]
      exact blk_put HBX.out 0 _ rfl
     have HV4:=Aside0.mk hv4
     have R4:=Aside0.mk (Kd.R_below RT.out HX)
     have SR4:=Aside0.mk (SR'.out.below HX)
     have BX4:=Aside0.mk (blk_below BXr.out HX)
     have K4:=Aside0.mk (Kept.below Kr.out HX)
     have HB4:=Aside0.mk (below_step HBr.out HX)
     have O4:=Aside0.mk (show Kd.R (Kd.int .i64) 3 w4 Ws.heap.size (fun k=>True ∧ k ≠ gs) (.slice Ao o.length co) (io o) from by
      obtain ⟨cs,hcs⟩:=HGS.out
      exact Kd.R_kept (Kd.R_types HO.out hcs (by intro q hq;simp [Kd.int,Kd.scalar] at hq;omega)) K4.out (fun k hk=>hk.2))
     have C4:=Aside0.mk (show Kd.R (Kd.int .i64) 3 w4 Ws.heap.size (fun k=>True ∧ k ≠ gs) (.slice Ac code.length cc) code from by
      obtain ⟨cs,hcs⟩:=HGS.out
      exact Kd.R_kept (Kd.R_types HC.out hcs (by intro q hq;simp [Kd.int,Kd.scalar] at hq;omega)) K4.out (fun k hk=>hk.2))
     have NV:=Aside0.mk (show some gv ≠ (Value.slice At tr.length ct).ownBlock from fun he=>by have:=Kd.R_lt RT.out gv he.symm;rw [HGV.out] at this;omega)
     clear hw HX hv4 HBX HBB HGV hcA0 hfA0 RT SR' BXr Kr HBr
     have hcv : w4.cell? ⟨gv,0,none⟩ = some (.int .i64 (i : Int)):=(blk_cell HV4.out 0).trans rfl
     have hcb4 : w4.cell? ⟨gb,0,none⟩ = some (.pointer (some ⟨gs,0,none⟩)):=(blk_cell BX4.out 0).trans rfl
     have hmf : ∀ (fn : Fn) (first cap : Array Value) (w : World),(Instr.makeFunc fn first cap).run Try.prog w = .ok (.func fn first cap) w:=fun _ _ _ _=>rfl
     have ki:=contains_c (c:=co) (i : Int) (Kd.R_reads' O4.out).2.2 (by rw [io_len];exact (Kd.R_reads' O4.out).2.1) (by rw [io_len];have:=HCL.out;omega)
     rw [io_len] at ki
     have hmem : decide ((i : Int) ∈ io o) = decide (i ∈ o):=by
      have : ((i : Int) ∈ io o) ↔ i ∈ o:=by
       unfold io
       rw [List.mem_map]
       exact ⟨fun ⟨a,ha,he⟩=>by rw [← Int.ofNat.inj he];exact ha,fun h=>⟨i,h,rfl⟩⟩
      simp only [this]
     rw [hmem] at ki
     obtain ⟨q1,hq1⟩ : ∃ q1,decide (i ∈ o) = q1:=⟨_,rfl⟩
     rw [hq1] at ki
     have KI:=Aside0.mk ki
     clear ki hmem
     cases q1
     ·have hno : i ∉ o:=of_decide_eq_false hq1
      obtain ⟨q2,hq2⟩ : ∃ q2,tr.any (fun u=>B u i) = q2:=⟨_,rfl⟩
      have KA:=Aside0.mk (show ∀ W5,Below w4.heap.size w4 W5 → Calls Try.prog 47 #[.slice At tr.length ct,.func (.func 83) #[] #[.pointer (some ⟨gb,0,none⟩),.pointer (some ⟨gv,0,none⟩)]] W5 fun e w'=>e = .returned (.bool q2) ∧ Below W5.heap.size W5 w' from fun W5 h5=>by
       have hp : (io tr).any (fun u=>B u.toNat i) = q2:=by rw [← hq2];unfold io;rw [List.any_map];rfl
       have R5:=Kd.R_below R4.out h5
       have:=contains_int 83 #[.pointer (some ⟨gb,0,none⟩),.pointer (some ⟨gv,0,none⟩)] ent83 (fun u=>B u.toNat i) At ct (io tr) W5 (Kd.R_reads' R5).2.2 (by rw [io_len];exact (Kd.R_reads' R5).2.1) (by rw [io_len];have:=HT.out.1;omega) (fun W6 u h6 hu=>by
        obtain ⟨u',hu',rfl⟩:=List.mem_map.1 hu
        have S6:=(SR4.out.below h5).below h6
        obtain ⟨_,_,hs,_⟩:=S6.ex
        exact clo83_calls ((TW.out _ (Kept.then_ KS.out K4.out (fun k hk=>.inl hk))).below h5 |>.below h6) ((blk_cell (blk_below (blk_below BX4.out h5) h6) 0).trans rfl) ((blk_cell hs 1).trans rfl) ((blk_cell (blk_below (blk_below HV4.out h5) h6) 0).trans rfl) h1 (HT.out.2 u' hu'))
       rw [hp,io_len] at this
       exact this)
      have HQ2:=Aside0.mk hq2
      have HNO:=Aside0.mk hno
      clear hq1 hq2 hno
      cases q2
      ·have HST:=Aside0.mk (show [i].foldl (stepS N L S B d o code) (tr,bb) = (tr ++ [i],srch N L S B d (o ++ [i]) (code ++ placeS N L S o i) bb) from by
        show stepS N L S B d o code (tr,bb) i = _
        unfold stepS
        rw [if_neg (by rw [HQ2.out];simp;exact HNO.out)])
       have hlt2 : tr.length ≤ 100:=by have:=HT.out.1;omega
       go_upto_region 12 with (first|(go_at_call 49;with_reducible refine KI.out.mono ?_;rintro e w5 ⟨rfl,hdr⟩;have HD5:=Aside0.mk hdr.below;clear hdr)|(go_at_call 47;with_reducible refine (KA.out _ HD5.out).mono ?_;rintro e w6 ⟨rfl,hb6⟩;have HD6:=Aside0.mk (below_step HD5.out hb6);clear hb6;have hcv6:=pw_cell_below HD6.out hcv)|((with_reducible refine gate_builtin (b:=.append) (xs:=#[.tmp 62,.tmp 64]) rfl ?_);at_builtin;refine Kd.R_append (Kd.int .i64) (w0:=w6) (W:=w6) W.heap.size rfl (.tmp 62) (.tmp 64) 27 3 (.int .i64 0) 8 rfl Try.underlying27 info3 rfl (by decide) (by omega) (.slice At tr.length ct) (io tr) (i : Int) [.int .i64 (i : Int)] (fun _=>True) (fun _=>False) rfl rfl rfl (fun _ hk=>hk.elim) (fun _ _=>trivial) (Kd.R_below R4.out HD6.out) (Below.refl _ _) (Nat.le_trans K4.out.1 HD6.out.size) (by rw [io_len];have:=HT.out.1;omega) ?_;intro v7 w7 ho7 hb7 hg7 ha7;have R7:=Aside0.mk ho7;have HG7:=Aside0.mk hg7;have HA7:=Aside0.mk ha7;clear ho7 hb7 hg7 ha7))
       have R6:=Aside0.mk (Kd.R_below R4.out HD6.out)
       have BX6:=Aside0.mk (blk_below BX4.out HD6.out)
       have SR6:=Aside0.mk (SR4.out.below HD6.out)
       have HV7:=Aside0.mk (blk_grown (blk_below HV4.out HD6.out) HG7.out NV.out)
       have BX7:=Aside0.mk (blk_grown BX6.out HG7.out (Kd.R_ne R6.out BX6.out (by decide)))
       have SR7:=Aside0.mk (SR6.out.after HG7.out HA7.out (by obtain ⟨_,_,hs,_⟩:=SR6.out.ex;exact Kd.R_ne R6.out hs (by decide)))
       have K7:=Aside0.mk (Kept.of_grown HG7.out (Kept.below K4.out HD6.out) (fun k hk=>.inr (Kd.R_base R6.out k hk)))
       have GW:=Aside0.mk (show Ws.heap.size ≤ W.heap.size from HBW.out.size)
       have HB7:=Aside0.mk ((below_step HB4.out HD6.out).grown HG7.out (Nat.le_trans GW.out (Nat.le_trans K4.out.1 HD6.out.size)) (fun k hk=>Nat.le_trans GW.out (Kd.R_base R6.out k hk)))
       have O7:=Aside0.mk (show Kd.R (Kd.int .i64) 3 w7 Ws.heap.size (fun k=>True ∧ k ≠ gs) (.slice Ao o.length co) (io o) from by
        obtain ⟨cs,hcs⟩:=HGS.out
        exact Kd.R_kept (Kd.R_types HO.out hcs (by intro q hq;simp [Kd.int,Kd.scalar] at hq;omega)) K7.out (fun k hk=>hk.2))
       have C7:=Aside0.mk (show Kd.R (Kd.int .i64) 3 w7 Ws.heap.size (fun k=>True ∧ k ≠ gs) (.slice Ac code.length cc) code from by
        obtain ⟨cs,hcs⟩:=HGS.out
        exact Kd.R_kept (Kd.R_types HC.out hcs (by intro q hq;simp [Kd.int,Kd.scalar] at hq;omega)) K7.out (fun k hk=>hk.2))
       clear HV4 R4 SR4 BX4 K4 HB4 O4 C4 hcv hcb4 KI KA HD5 HD6 HG7 HA7 R6 BX6 SR6 NV
       have KOF:=Aside0.mk (show ∀ W',Below w7.heap.size w7 W' → Calls Try.prog 18 #[.slice Ao o.length co] W' fun e w'=>∃ v,e = .returned v ∧ Kd.R (Kd.int .i64) 3 w' W'.heap.size (fun _=>True) v (io o) ∧ Below W'.heap.size W' w' from fun W' h=>by
        have r:=Kd.R_below O7.out h
        have k:=clone_c (Kd.R_reads' r).2.2 (by rw [io_len];exact (Kd.R_reads' r).2.1) (by rw [io_len];have:=HCL.out;omega)
        rw [io_len] at k
        exact k)
       have KB1:=Aside0.mk (zzF (Below.refl w7.heap.size w7))
       have KB2:=Aside0.mk (show ∀ x : Obj,Below w7.heap.size w7 (w7.alloc x).drew from fun x=>zzF (zzD (Below.refl _ _) x))
       have hcv7 : w7.cell? ⟨gv,0,none⟩ = some (.int .i64 (i : Int)):=(blk_cell HV7.out 0).trans rfl
       go_region_held3 (fun W' : World=>W'.cell? ⟨gv,0,none⟩ = some (.int .i64 (i : Int)) ∧ W'.heap[gv]? = some (.cells #[.int .i64 (i : Int)] 3 (0,0)))
        (first|exact box1_S (blk_drew HV7.out)|exact box1_S (blk_drew (blk_alloc HV7.out _))|exact box1_S HV9.out|exact box1_S (blk_alloc HV8.out _)|exact box1_S HV8.out)
        (first
         | (go_at_call 18;with_reducible refine (KOF.out _ KB1.out).mono ?_;rintro e w8 ⟨v8,rfl,o8,b8⟩;have R8:=Aside0.mk (Kd.R_lower o8 KB1.out.size);have B8:=Aside0.mk (below_step KB1.out b8);have HV8:=Aside0.mk (blk_below HV7.out B8.out);clear o8 b8)
         | (go_at_call 18;with_reducible refine (KOF.out _ (KB2.out _)).mono ?_;rintro e w8 ⟨v8,rfl,o8,b8⟩;have R8:=Aside0.mk (Kd.R_lower o8 (KB2.out _).size);have B8:=Aside0.mk (below_step (KB2.out _) b8);have HV8:=Aside0.mk (blk_below HV7.out B8.out);have HX8:=Aside0.mk (blk_below (blk_drew (blk_new w7 _)) b8);clear o8 b8)
         | (refine app_any (w0:=w7) (W:=w8.alloc (.cells #[.int .i64 (i : Int)] 3)) w7.heap.size (by rfl) (.tmp 67) (.tmp 69) 27 rfl Try.underlying27 info3 v8 (io o) [(i : Int)] (some ⟨w8.heap.size,0,none⟩) 1 rfl rfl (Kd.R_alloc R8.out _) (box_C (blk_new _ _)) (zzD B8.out _) (zzD B8.out _).size (by rw [io_len];have:=HCL.out;simp;omega) ?_;intro v9 w9 ho9 hb9 hg9 ha9;have R9:=Aside0.mk ho9;have B9:=Aside0.mk hb9;have HV9:=Aside0.mk (blk_below HV7.out hb9);clear ho9 hb9 hg9 ha9)
         | (refine app_any (w0:=w7) (W:=w8) w7.heap.size (by rfl) (.tmp 67) (.tmp 69) 27 rfl Try.underlying27 info3 v8 (io o) [(i : Int)] (some ⟨w7.heap.size,0,none⟩) 1 rfl rfl R8.out (box_C HX8.out) B8.out B8.out.size (by rw [io_len];have:=HCL.out;simp;omega) ?_;intro v9 w9 ho9 hb9 hg9 ha9;have R9:=Aside0.mk ho9;have B9:=Aside0.mk hb9;have HV9:=Aside0.mk (blk_below HV7.out hb9);clear ho9 hb9 hg9 ha9))
       all_goals
        have hio : io o ++ [(i : Int)] = io (o ++ [i]):=by simp [io]
        rw [hio] at R9
        clear hio
        obtain ⟨A9,c9,e9⟩:=Kd.R_slice R9.out
        subst e9
        have BX9:=Aside0.mk (blk_below BX7.out B9.out)
        have SR9:=Aside0.mk (SR7.out.below B9.out)
        have K9:=Aside0.mk (Kept.below K7.out B9.out)
        have HB9:=Aside0.mk (below_step HB7.out B9.out)
        have C9:=Aside0.mk (Kd.R_below C7.out B9.out)
        have RT9:=Aside0.mk (Kd.R_below R7.out B9.out)
        have KB9:=Aside0.mk (zzF (Below.refl w9.heap.size w9))
        have KCd:=Aside0.mk (clone_c (Kd.R_reads' (Kd.R_drew C9.out)).2.2 (Kd.R_reads' (Kd.R_drew C9.out)).2.1 hcl2)
        have hpl:=place_len (T.out _ KS.out).fits h1 o HN.out
        have HPL:=Aside0.mk (show (code.length + (placeS N L S o i).length) * 8 ≤ 140737488355328 from by have:=HCL.out;omega)
        have HPL2:=Aside0.mk (show (placeS N L S o i).length ≤ 2000 from by have:=HCL.out;omega)
        clear hpl HV7 BX7 SR7 C7 O7 HV9 R8 B8 HV8 KOF KB1 KB2 hcv7
        have hcb9 : w9.cell? ⟨gb,0,none⟩ = some (.pointer (some ⟨gs,0,none⟩)):=(blk_cell BX9.out 0).trans rfl
        have hcs9 : w9.cell? ⟨gs,0,none⟩ = some (.pointer (some ⟨gt,0,none⟩)):=by obtain ⟨_,_,h,_⟩:=SR9.out.ex;exact (blk_cell h 0).trans rfl
        go_upto_region 13 with (fail)
        refine start_ (n:=12) (S:=fun w'=>w'.cell? ⟨gb,0,none⟩ = some (.pointer (some ⟨gs,0,none⟩)) ∧ w'.cell? ⟨gs,0,none⟩ = some (.pointer (some ⟨gt,0,none⟩))) (ds:=[]) #[false,false,false,false,false,false,false,false,false,false,false,false] (by kernel_rfl) rfl rfl ⟨hcb9,hcs9⟩ (fun hHeld=>?_)
        refine with_tabW fr13.tab13 fr13.bits13 (fun HT_ HW_=>?_)
        refine pure_ (i:=1) (N:=some 72) (v:=?_) (a':=?_) #[false,true,false,false,false,false,false,false,false,false,false,false] rfl rfl (any_of HT_.out (by kernel_rfl)) (fun _ _ _ h=>h) (Or.inl ⟨by rfl,?_⟩) ?_ ?_
        rotate_left
        ·intro w'
         go_simp
         with_reducible rfl
        rotate_left
        ·simp only [Act.put,zzA,zzB,zzC,i64_w,i32_w]
         rfl
        refine pure_ (i:=2) (N:=some 73) (v:=?_) (a':=?_) #[false,true,true,false,false,false,false,false,false,false,false,false] rfl rfl (any_of HT_.out (by kernel_rfl)) (fun _ _ _ h=>h) (Or.inl ⟨by rfl,?_⟩) ?_ ?_
        rotate_left
        ·intro w'
         go_simp
         with_reducible rfl
        rotate_left
        ·simp only [Act.put,zzA,zzB,zzC,i64_w,i32_w]
         rfl
        refine pure_ (i:=8) (N:=some 79) (v:=?_) (a':=?_) #[false,true,true,false,false,false,false,false,true,false,false,false] rfl rfl (any_of HT_.out (by kernel_rfl)) (fun _ _ _ h=>h) (Or.inl ⟨by rfl,?_⟩) ?_ ?_
        rotate_left
        ·intro w'
         go_simp
         with_reducible rfl
        rotate_left
        ·simp only [Act.put,zzA,zzB,zzC,i64_w,i32_w]
         rfl
        refine take_ (i:=0) (N:=some 71) (v:=?_) (a':=?_) #[true,true,true,false,false,false,false,false,true,false,false,false] rfl rfl (take_ofW HT_.out HW_.out (by kernel_rfl)) (fun _ _ _ h=>h) (Or.inl ⟨by rfl,?_⟩) hHeld ?_ ?_
        rotate_left
        ·rintro w' ⟨s0,s1⟩
         go_simp
         with_reducible rfl
        rotate_left
        ·simp only [Act.put,zzA,zzB,zzC,i64_w,i32_w]
         rfl
        refine take_ (i:=4) (N:=some 75) (v:=?_) (a':=?_) #[true,true,true,false,true,false,false,false,true,false,false,false] rfl rfl (take_ofW HT_.out HW_.out (by kernel_rfl)) (fun _ _ _ h=>h) (Or.inl ⟨by rfl,?_⟩) hHeld ?_ ?_
        rotate_left
        ·rintro w' ⟨s0,s1⟩
         go_simp
         with_reducible rfl
        rotate_left
        ·simp only [Act.put,zzA,zzB,zzC,i64_w,i32_w]
         rfl
        refine pure_ (i:=5) (N:=some 76) (v:=?_) (a':=?_) #[true,true,true,false,true,true,false,false,true,false,false,false] rfl rfl (any_of HT_.out (by kernel_rfl)) (fun _ _ _ h=>h) (Or.inl ⟨by rfl,?_⟩) ?_ ?_
        rotate_left
        ·intro w'
         go_simp
         with_reducible rfl
        rotate_left
        ·simp only [Act.put,zzA,zzB,zzC,i64_w,i32_w]
         rfl
        refine pure_ (i:=6) (N:=some 77) (v:=?_) (a':=?_) #[true,true,true,false,true,true,true,false,true,false,false,false] rfl rfl (any_of HT_.out (by kernel_rfl)) (fun _ _ _ h=>h) (Or.inl ⟨by rfl,?_⟩) ?_ ?_
        rotate_left
        ·intro w'
         go_simp
         with_reducible rfl
        rotate_left
        ·simp only [Act.put,zzA,zzB,zzC,i64_w,i32_w]
         rfl
        refine take_ (i:=7) (N:=some 78) (v:=?_) (a':=?_) #[true,true,true,false,true,true,true,true,true,false,false,false] rfl rfl (take_ofW HT_.out HW_.out (by kernel_rfl)) (fun _ _ _ h=>h) (Or.inl ⟨by rfl,?_⟩) hHeld ?_ ?_
        rotate_left
        ·rintro w' ⟨s0,s1⟩
         go_simp
         with_reducible rfl
        rotate_left
        ·simp only [Act.put,zzA,zzB,zzC,i64_w,i32_w]
         rfl
        refine one_ (i:=3) (N:=some 74) #[true,true,true,true,true,true,true,true,true,false,false,false] rfl rfl (one_of HT_.out (by kernel_rfl)) (by decide) (fun K hK=>?_)
        refine goes_ Try.func18 (by kernel_rfl) rfl #[.slice Ac code.length cc] (by rfl) rfl rfl (by simp only [List.map_toArray,List.map_cons,List.map_nil];rfl) ?_
        with_reducible refine KCd.out.mono ?_
        rintro e w10 ⟨v10,rfl,o10,b10⟩
        refine ⟨_,rfl,?_⟩
        have B10:=Aside0.mk (below_step KB9.out b10)
        have R10:=Aside0.mk (Kd.R_lower o10 KB9.out.size)
        have BX10:=Aside0.mk (blk_below BX9.out B10.out)
        have SR10:=Aside0.mk (SR9.out.below B10.out)
        have N10:=Aside0.mk (Kd.R_below R9.out B10.out)
        have T10:=Aside0.mk (T.out _ (Kept.then_ KS.out (Kept.below K9.out B10.out) (fun k hk=>.inl hk)))
        clear o10 b10
        have hcb10 : w10.cell? ⟨gb,0,none⟩ = some (.pointer (some ⟨gs,0,none⟩)):=(blk_cell BX10.out 0).trans rfl
        have hcs10 : w10.cell? ⟨gs,0,none⟩ = some (.pointer (some ⟨gt,0,none⟩)):=by obtain ⟨_,_,h,_⟩:=SR10.out.ex;exact (blk_cell h 0).trans rfl
        refine hK.out _ _ ⟨hcb10,hcs10⟩ (fun hHeld=>?_)
        clear hK K
        refine norm_ (a':=?_) ?_ ?_
        rotate_left
        ·show Act.put _ (some 74) _ = _
         simp only [Act.put,zzA,zzB,zzC,i64_w,i32_w]
         rfl
        refine one_ (i:=9) (N:=some 80) #[true,true,true,true,true,true,true,true,true,true,false,false] rfl rfl (one_of HT_.out (by kernel_rfl)) (by decide) (fun K hK=>?_)
        refine goes_ Try.func69 (by kernel_rfl) rfl #[.pointer (some ⟨gt,0,none⟩),.slice A9 (io (o ++ [i])).length c9] (by rfl) rfl rfl (by simp only [List.map_toArray,List.map_cons,List.map_nil];rfl) ?_
        with_reducible refine (T10.out.place h1 HN.out (by have:=HCL.out;omega) (Kd.R_reads' N10.out).2.2 (Kd.R_reads' N10.out).2.1).mono ?_
        rintro e w11 ⟨v11,rfl,o11,b11⟩
        refine ⟨_,rfl,?_⟩
        have B11:=Aside0.mk (below_step B10.out b11)
        have R11:=Aside0.mk o11
        have C11:=Aside0.mk (Kd.R_below R10.out b11)
        have BX11:=Aside0.mk (blk_below BX10.out b11)
        have SR11:=Aside0.mk (SR10.out.below b11)
        clear o11 b11
        obtain ⟨A11,c11,e11⟩:=Kd.R_slice R11.out
        subst e11
        have hcb11 : w11.cell? ⟨gb,0,none⟩ = some (.pointer (some ⟨gs,0,none⟩)):=(blk_cell BX11.out 0).trans rfl
        have hcs11 : w11.cell? ⟨gs,0,none⟩ = some (.pointer (some ⟨gt,0,none⟩)):=by obtain ⟨_,_,h,_⟩:=SR11.out.ex;exact (blk_cell h 0).trans rfl
        refine hK.out _ _ ⟨hcb11,hcs11⟩ (fun hHeld=>?_)
        clear hK K
        refine norm_ (a':=?_) ?_ ?_
        rotate_left
        ·show Act.put _ (some 80) _ = _
         simp only [Act.put,zzA,zzB,zzC,i64_w,i32_w]
         rfl
        refine one_ (i:=10) (N:=some 81) #[true,true,true,true,true,true,true,true,true,true,true,false] rfl rfl (one_of HT_.out (by kernel_rfl)) (by decide) (fun K hK=>?_)
        refine app_any (w0:=w9) (W:=w11) w9.heap.size (by rfl) (.tmp 74) (.tmp 80) 27 rfl Try.underlying27 info3 v10 code (placeS N L S o i) A11 c11 rfl rfl C11.out (Kd.R_reads' R11.out).2.2 B11.out B11.out.size (by have:=HPL.out;omega) ?_
        intro v12 w12 ho12 hb12 hg12 ha12
        have R12:=Aside0.mk ho12
        have B12:=Aside0.mk hb12
        clear ho12 hb12 hg12 ha12
        have BX12:=Aside0.mk (blk_below BX9.out B12.out)
        have SR12:=Aside0.mk (SR9.out.below B12.out)
        have N12:=Aside0.mk (Kd.R_lower (Kd.R_below R9.out B12.out) HB7.out.size)
        have C12:=Aside0.mk (Kd.R_lower R12.out HB9.out.size)
        have HB12:=Aside0.mk (below_step HB9.out B12.out)
        have IH:=Aside0.mk (ih (o ++ [i]) (code ++ placeS N L S o i) bb w12 (.slice A9 (io (o ++ [i])).length c9) v12 _ (by have:=HLN.out;simp;omega) (by intro j hj;rcases List.mem_append.1 hj with hj|hj;exact HN.out j hj;rw [List.mem_singleton.1 hj];exact h1) (by simp [HCN.out]) (by have:=HLC.out;have:=HPL2.out;simp only [List.length_append,List.length_cons,List.length_nil];omega) HB12.out (Kept.then_ KS.out (Kept.below K9.out B12.out) (fun k hk=>.inl hk)) SR12.out N12.out C12.out)
        have hcb12 : w12.cell? ⟨gb,0,none⟩ = some (.pointer (some ⟨gs,0,none⟩)):=(blk_cell BX12.out 0).trans rfl
        have hcs12 : w12.cell? ⟨gs,0,none⟩ = some (.pointer (some ⟨gt,0,none⟩)):=by obtain ⟨_,_,h,_⟩:=SR12.out.ex;exact (blk_cell h 0).trans rfl
        refine hK.out _ _ ⟨hcb12,hcs12⟩ (fun hHeld=>?_)
        clear hK K
        refine norm_ (a':=?_) ?_ ?_
        rotate_left
        ·show Act.put _ (some 81) _ = _
         simp only [Act.put,zzA,zzB,zzC,i64_w,i32_w]
         rfl
        refine one_ (i:=11) (N:=some 82) #[true,true,true,true,true,true,true,true,true,true,true,true] rfl rfl (one_of HT_.out (by kernel_rfl)) (by decide) (fun K hK=>?_)
        refine goes_ Try.func64 (by kernel_rfl) rfl #[.pointer (some ⟨gs,0,none⟩),.slice A9 (io (o ++ [i])).length c9,v12] (by rfl) rfl rfl (by simp only [List.map_toArray,List.map_cons,List.map_nil];rfl) ?_
        with_reducible refine IH.out.mono ?_
        rintro e w13 ⟨rfl,p1,p2,p3⟩
        refine ⟨_,rfl,?_⟩
        have P1:=Aside0.mk p1
        have P2:=Aside0.mk p2
        have P3:=Aside0.mk p3
        clear p1 p2 p3
        have NG:=Aside0.mk (show gb ≠ gs from by obtain ⟨_,_,h,_⟩:=SR12.out.ex;exact ty_ne BX12.out h (by decide))
        have BX13:=Aside0.mk (blk_kept BX12.out P2.out NG.out)
        have SR13:=Aside0.mk P1.out
        have hcb13 : w13.cell? ⟨gb,0,none⟩ = some (.pointer (some ⟨gs,0,none⟩)):=(blk_cell BX13.out 0).trans rfl
        have hcs13 : w13.cell? ⟨gs,0,none⟩ = some (.pointer (some ⟨gt,0,none⟩)):=by obtain ⟨_,_,h,_⟩:=SR13.out.ex;exact (blk_cell h 0).trans rfl
        refine hK.out _ _ ⟨hcb13,hcs13⟩ (fun hHeld=>?_)
        clear hK K
        refine norm_ (a':=?_) ?_ ?_
        rotate_left
        ·show Act.put _ (some 82) _ = _
         simp only [Act.put,zzA,zzB,zzC,i64_w,i32_w]
         rfl
        refine done_ (done_of HT_.out (by kernel_rfl)) ?_
        have RT12:=Aside0.mk (Kd.R_below RT9.out B12.out)
        have RT13:=Aside0.mk (show Kd.R (Kd.int .i64) 3 w13 W.heap.size (fun _=>True) v7 (io (tr ++ [i])) from by
         obtain ⟨_,_,h,_⟩:=SR12.out.ex
         have r:=Kd.R_mono (Kd.R_kept (Kd.R_types RT12.out h (by intro q hq;simp [Kd.int,Kd.scalar] at hq;omega)) P2.out (fun k hk=>hk.2)) (fun _ _=>trivial)
         have e : io (tr ++ [i]) = io tr ++ [(i : Int)]:=by simp [io]
         rw [e];exact r)
        have K12:=Aside0.mk (Kept.below K9.out B12.out)
        have SRx:=Aside0.mk (P1.out.mono (ok':=fun k=>(ok k ∨ W.heap.size ≤ k) ∧ some k ≠ v7.ownBlock) (fun k hk=>by
         rcases hk with hk|hk
         ·exact hk
         ·exact ⟨.inr (Nat.le_trans K12.out.1 hk),fun he=>by have:=Kd.R_lt RT12.out k he.symm;omega⟩))
        have K13:=Aside0.mk (Kept.then_ K12.out P2.out (fun k hk=>.inl hk))
        clear R9 BX9 SR9 K9 HB9 C9 RT9 KB9 KCd HPL HPL2 BX10 SR10 N10 T10 R10 B10 R11 C11 BX11 SR11 B11 BX12 SR12 N12 C12 HB12 IH NG SR13 RT12 K12 P1 P2 R12 B12
        go_wp2
        go_roundw
        case rel=>exact ⟨i + 1,tr ++ [i],_,by omega,by first|rfl|simp,⟨by rw [List.range_succ,List.foldl_append,FS.out];exact HST.out⟩,⟨⟨by have:=HT.out.1;simp;omega,by intro u hu;rcases List.mem_append.1 hu with hu|hu;exact HT.out.2 u hu;rw [List.mem_singleton.1 hu];exact h1⟩⟩,RT13,SRx,BX13,K13,P3⟩
        case measure=>show N.length - ((i : Int) + 1).toNat < N.length - ((i : Nat) : Int).toNat;omega
      ·have HST:=Aside0.mk (show [i].foldl (stepS N L S B d o code) (tr,bb) = (tr,bb) from by
        show stepS N L S B d o code (tr,bb) i = (tr,bb)
        unfold stepS
        rw [if_pos (.inr HQ2.out)])
       go_wp2_with (first|(go_at_call 49;with_reducible refine KI.out.mono ?_;rintro e w5 ⟨rfl,hdr⟩;have HD5:=Aside0.mk hdr.below;clear hdr)|(go_at_call 47;with_reducible refine (KA.out _ HD5.out).mono ?_;rintro e w6 ⟨rfl,hb6⟩;have HD6:=Aside0.mk (below_step HD5.out hb6);clear hb6;have hcv6:=pw_cell_below HD6.out hcv))
       go_roundw
       case rel=>exact ⟨i + 1,tr,bb,by omega,by first|rfl|simp,⟨by rw [List.range_succ,List.foldl_append,FS.out];exact HST.out⟩,⟨⟨by have:=HT.out.1;omega,HT.out.2⟩⟩,⟨Kd.R_below R4.out HD6.out⟩,⟨SR4.out.below HD6.out⟩,⟨blk_below BX4.out HD6.out⟩,⟨Kept.below K4.out HD6.out⟩,⟨below_step HB4.out HD6.out⟩⟩
       case measure=>show N.length - ((i : Int) + 1).toNat < N.length - ((i : Nat) : Int).toNat;omega
     ·have hyes : i ∈ o:=of_decide_eq_true hq1
      have HST:=Aside0.mk (show [i].foldl (stepS N L S B d o code) (tr,bb) = (tr,bb) from by
       show stepS N L S B d o code (tr,bb) i = (tr,bb)
       unfold stepS
       rw [if_pos (.inl hyes)])
      clear hq1 hyes
      go_wp2_with (first|(go_at_call 49;with_reducible refine KI.out.mono ?_;rintro e w5 ⟨rfl,hdr⟩;have HD5:=Aside0.mk hdr.below;clear hdr))
      go_roundw
      case rel=>exact ⟨i + 1,tr,bb,by omega,by first|rfl|simp,⟨by rw [List.range_succ,List.foldl_append,FS.out];exact HST.out⟩,⟨⟨by have:=HT.out.1;omega,HT.out.2⟩⟩,⟨Kd.R_below R4.out HD5.out⟩,⟨SR4.out.below HD5.out⟩,⟨blk_below BX4.out HD5.out⟩,⟨Kept.below K4.out HD5.out⟩,⟨below_step HB4.out HD5.out⟩⟩
      case measure=>show N.length - ((i : Int) + 1).toNat < N.length - ((i : Nat) : Int).toNat;omega
    ·have k1 : decide ((i : Int) < (N.length : Int)) = false:=decide_eq_false (by omega)
     have k1' : decide (i < N.length) = false:=decide_eq_false h1
     obtain rfl : i = N.length:=by omega
     go_wp2
     first|go_end0|((try simp only [Exit.inBlock,Exit.then]);refine bodyPost_ret (results_none rfl _ _ _) rfl ?_)
     exact ⟨rfl,by rw [HSU.out,FS.out];exact SR'.out.mono (fun _ hk=>hk.1),Kr.out,HBr.out⟩
  ·have HR:=Aside0.mk (show srch N L S B (d + 1) o code b = b from srch_worse N L S B (d + 1) o code b hwb)
   clear hwb
   go_wp2_with (first|((with_reducible refine gate_dst (N:=3) rfl ?_);refine box_event ?hg (N:=3) ?hd (cs:=#[.pointer (some ⟨gs,0,none⟩)]) (t:=93) ?hr ?_;(case hd=>rfl);(case hg=>rfl);(case hr=>first|(go_simp;done)|(go_simp;rfl));intro gb hg w1 hbox hb;have HGB:=Aside0.mk hg;have BX:=Aside0.mk hbox;have HW1:=Aside0.mk hb;have S1:=Aside0.mk (HS.out.below hb);have O1:=Aside0.mk (Kd.R_below HO.out hb);have C1:=Aside0.mk (Kd.R_below HC.out hb);have HB1:=Aside0.mk (below_step HB.out hb);clear hg hbox hb;have hcb : w1.cell? ⟨gb,0,none⟩ = some (.pointer (some ⟨gs,0,none⟩)):=(blk_cell BX.out 0).trans rfl)|(go_at_call 82;with_reducible refine (worse_calls S1.out (Kd.R_reads' C1.out).2.2 (Kd.R_reads' C1.out).2.1 hcl2 HCN.out).mono ?_;rw [HWB.out];rintro e w2 ⟨rfl,hdr⟩;have HD2:=Aside0.mk hdr.below;clear hdr))
   first|go_end0|((try simp only [Exit.inBlock,Exit.then]);refine bodyPost_ret (results_none rfl _ _ _) rfl ?_)
   exact ⟨rfl,by rw [HR.out];exact (S1.out.below HD2.out).mono (fun _ hk=>.inl hk),Kept.of_below (below_step HW1.out HD2.out) _,below_step HB1.out HD2.out⟩
end
end Go.Proofs.Ytgmomcjnldahjaa.Pr
namespace Go.Proofs.Ytgmomcjnldahjaa.Pr
open Go.RowKit Go.Proofs.YtgmomcjnldahjaaW.PrintWords Go.Proofs.YtgmomcjnldahjaaW.PrintLast Go.Proofs.YtgmomcjnldahjaaW.PrintMore
set_option linter.unusedVariables false
set_option linter.unusedSimpArgs false
structure TwI (w : World) (base gw n : Nat) (V : Nat → Value) (E : Nat → List Bool) : Prop where
 hw : w.heap[gw]? = some (.cells ((List.range n).map V).toArray 97 (0,0))
 bw : base ≤ gw
 ho : ∀ a,a < n → Kd.R Kd.bool 4 w base (fun _=>True) (V a) (E a)
 sep : ∀ a b,a < n → b < n → ∀ k,(V a).ownBlock = some k → (V b).ownBlock = some k → a = b
section
variable {w w1 : World} {base gw n : Nat} {V : Nat → Value} {E : Nat → List Bool}
theorem TwI.below (h : TwI w base gw n V E) (hb : Below w.heap.size w w1) : TwI w1 base gw n V E :=
 ⟨blk_below h.hw hb,h.bw,fun a ha=>Kd.R_below (h.ho a ha) hb,h.sep⟩
theorem TwI.cell (h : TwI w base gw n V E) {a : Nat} (ha : a < n) : w.cell? ⟨gw,a,none⟩ = some (V a):=by
 rw [blk_cell h.hw a];simp [ha]
theorem TwI.zero {w : World} {base gw n : Nat} (h : w.heap[gw]? = some (.cells ((List.range n).map fun _=>row0).toArray 97 (0,0))) (hb : base ≤ gw) : TwI w base gw n (fun _=>row0) (fun _=>[]) :=
 ⟨h,hb,fun a _=>Kd.R_nil _ _ _ _ _,fun a b _ _ k hk=>by simp [row0,Value.ownBlock] at hk⟩
theorem TwI.put (h : TwI w base gw n V E) {f : Nat} (hf : f < n) {v1 : Value} {xs : List Bool} (hv : Kd.R Kd.bool 4 w1 base (fun _=>True) v1 xs) (hg : w.grownBy w1 (V f).ownBlock) (hat : v1.ownBlock = (V f).ownBlock ∨ ∃ b,v1.ownBlock = some b ∧ w.heap.size ≤ b) :
  TwI (w1.setCell ⟨gw,f,none⟩ v1) base gw n (upd1 V f v1) (upd1 E f xs):=by
 have hw1 : w1.heap[gw]? = _:=blk_grown h.hw hg (Kd.R_ne (h.ho f hf) h.hw (by decide))
 have ht : ∀ q,q ∈ 4 :: Kd.bool.E → q ≠ 97:=by intro q hq;simp [Kd.bool,Kd.scalar] at hq;omega
 refine ⟨?_,h.bw,fun a ha=>?_,fun a b ha hb k hk hk'=>?_⟩
 ·refine blk_put hw1 f _ ?_
  rw [range_set]
 ·unfold upd1
  by_cases h1 : a = f
  ·rw [if_pos h1,if_pos h1]
   exact Kd.R_set hv hw1 ht f v1
  ·rw [if_neg h1,if_neg h1]
   have hR2 : Kd.R Kd.bool 4 w base (fun k=>some k = (V a).ownBlock) (V a) (E a):=⟨fun k hk=>hk.symm,(h.ho a ha).2.imp_ (fun _ _ hp=>hp)⟩
   have h3:=Kd.R_grown hR2 hg (fun k hk he=>h1 (h.sep a f ha hf k hk.symm he.symm))
   exact Kd.R_mono (Kd.R_set h3 hw1 ht f v1) (fun _ _=>trivial)
 ·unfold upd1 at hk hk'
  have key : ∀ a,a < n → a ≠ f → ∀ k,v1.ownBlock = some k → (V a).ownBlock = some k → False:=fun a ha hne k e1 e2=>by
   rcases hat with h1 | ⟨b,h1,h2⟩
   ·exact hne (h.sep a f ha hf k e2 (h1 ▸ e1))
   ·rw [h1] at e1
    have:=Kd.R_lt (h.ho a ha) k e2
    injection e1 with e1
    omega
  by_cases h1 : a = f
  ·by_cases h2 : b = f
   ·omega
   ·rw [if_pos h1] at hk;rw [if_neg h2] at hk'
    exact (key b hb h2 k hk hk').elim
  ·by_cases h2 : b = f
   ·rw [if_neg h1] at hk;rw [if_pos h2] at hk'
    exact (key a ha h1 k hk' hk).elim
   ·rw [if_neg h1] at hk;rw [if_neg h2] at hk'
    exact h.sep a b ha hb k hk hk'
theorem TwI.reads {B : Nat → Nat → Bool} (h : TwI w base gw n V (fun a=>(List.range n).map (B a))) : TwinC w gw n B:=by
 have key : ∀ a,∃ (ad : Addr) (c : Nat),a < n → w.cell? ⟨gw,a,none⟩ = some (.slice (some ad) n c) ∧ ∀ v,v < n → w.cell? (ad.add v) = some (.bool (B a v)):=fun a=>by
  by_cases ha : a < n
  ·obtain ⟨g,c,hv,_,_,_⟩:=Kd.R_form (h.ho a ha) (by simp;omega)
   have hl : ((List.range n).map (B a)).length = n:=by simp
   rw [hl] at hv
   obtain ⟨_,_,hr⟩:=Kd.R_reads' (hv ▸ h.ho a ha)
   rw [hl] at hr
   refine ⟨⟨g,0,none⟩,c,fun _=>⟨by rw [h.cell ha,hv],fun v hvn=>?_⟩⟩
   obtain ⟨ad,e,hc⟩:=Kd.at_bool hr (v : Int) (by omega) (by omega)
   cases e
   rw [Int.toNat_natCast] at hc
   rw [hc]
   simp [rdOf,hvn]
  ·exact ⟨⟨0,0,none⟩,0,fun h=>absurd h ha⟩
 exact ⟨fun a=>(key a).choose,fun a=>(key a).choose_spec.choose,fun a ha=>(key a).choose_spec.choose_spec ha⟩
end
end Go.Proofs.Ytgmomcjnldahjaa.Pr
namespace Go.Proofs.Ytgmomcjnldahjaa.Pr
open Go.RowKit Go.Proofs.YtgmomcjnldahjaaW.PrintWords Go.Proofs.YtgmomcjnldahjaaW.PrintLast Go.Proofs.YtgmomcjnldahjaaW.PrintMore
attribute [local go_sem] max2_int min2_int max_two min_two max_three min_three max_four min_four
set_option linter.unusedVariables false
set_option linter.unusedSimpArgs false
theorem info97 : (Try.prog.info? 97).map (fun i => (i.zero, i.size, i.bytes)) = some (some (.slice none 0 0), 1, 24) := by kernel_rfl
theorem info4 : (Try.prog.info? 4).map (fun i => (i.zero, i.size, i.bytes)) = some (some (.bool false), 1, 1) := by kernel_rfl
theorem made_rows97 (n : Nat) : madeCells #[Value.slice none 0 0] n = ((List.range n).map fun _ => row0).toArray := by
  apply Array.toList_inj.1
  apply List.ext_getElem
  · simp [madeCells]
  · intro i h1 h2
    simp [madeCells, row0, Nat.mod_one]
def twM (N : List Int) (L : List S34) (S : Nat → Nat → List Int) (a b : Nat) : Bool := decide (a ≠ b) && twinB N L S a b
def EA (n : Nat) (B : Nat → Nat → Bool) (a b : Nat) : Nat → List Bool := fun c => if c < a then (List.range n).map (B c) else if c = a then (List.range b).map (B a) else []
theorem EA_zero (n : Nat) (B : Nat → Nat → Bool) : (fun _ => []) = EA n B 0 0 := by
  funext c; unfold EA; rw [if_neg (by omega)]; split <;> rfl
theorem EA_row (n : Nat) (B : Nat → Nat → Bool) (a : Nat) : EA n B a n = EA n B (a + 1) 0 := by
  funext c; unfold EA
  by_cases h1 : c < a
  · rw [if_pos h1, if_pos (by omega)]
  · rw [if_neg h1]
    by_cases h2 : c = a
    · rw [if_pos h2, if_pos (by omega), h2]
    · rw [if_neg h2, if_neg (by omega)]; split <;> rfl
theorem EA_step (n : Nat) (B : Nat → Nat → Bool) (a b : Nat) : upd1 (EA n B a b) a (EA n B a b a ++ [B a b]) = EA n B a (b + 1) := by
  funext c; unfold upd1 EA
  by_cases h : c = a
  · rw [if_pos h, if_neg (by omega), if_pos rfl, if_neg (by omega), if_pos h, List.range_succ, List.map_append]; rfl
  · rw [if_neg h, if_neg h, if_neg h]
theorem EA_len (n : Nat) (B : Nat → Nat → Bool) (a b : Nat) : (EA n B a b a).length = b := by
  unfold EA; rw [if_neg (by omega), if_pos rfl]; simp
theorem EA_all (n : Nat) (B : Nat → Nat → Bool) {a : Nat} (ha : a < n) : EA n B n 0 a = (List.range n).map (B a) := by
  unfold EA; rw [if_pos ha]
theorem TwI.congr {w : World} {base gw n : Nat} {V : Nat → Value} {E E' : Nat → List Bool} (h : TwI w base gw n V E) (he : ∀ a, a < n → E a = E' a) : TwI w base gw n V E' :=
  ⟨h.hw, h.bw, fun a ha => he a ha ▸ h.ho a ha, h.sep⟩
theorem TwI.kept {w w1 : World} {base gw n gs : Nat} {V : Nat → Value} {E : Nat → List Bool} (h : TwI w base gw n V E) {cs : Array Value} (hg : w.heap[gs]? = some (.cells cs 96 (0, 0))) (hk : Kept w w1 (fun k => k = gs)) : TwI w1 base gw n V E := by
  have ht : ∀ q, q ∈ 4 :: Kd.bool.E → q ≠ 96 := by intro q hq; simp [Kd.bool, Kd.scalar] at hq; omega
  exact ⟨blk_kept h.hw hk (ty_ne h.hw hg (by decide)), h.bw, fun a ha => Kd.R_mono (Kd.R_kept (Kd.R_types (h.ho a ha) hg ht) hk (fun k hk => hk.2)) (fun _ _ => trivial), h.sep⟩
theorem heap34' : Kd.Heap k34 := Kd.heap_iso _ (Kd.heap_pair (Kd.heap_int _) (Kd.heap_pair (Kd.heap_int _) (Kd.heap_int _)))
theorem Tab.kept {W0 W W' : World} {gt : Nat} {A0 : Option Addr} {c0 : Nat} {N : List Int} {A1 : Option Addr} {c1 : Nat} {L : List S34} {gR : Nat} {S : Nat → Nat → List Int} (h : Tab W0 gt A0 c0 N A1 c1 L gR S) (hb : Below W0.heap.size W0 W) {P : Nat → Prop} (hS : ∀ k, P k → W0.heap.size ≤ k) (hk : Kept W W' P) : Tab W' gt A0 c0 N A1 c1 L gR S :=
  ⟨blk_kept (blk_below h.ht hb) hk (fun hp => by have := hS gt hp; have := blk_lt h.ht; omega), Kd.C_kept_came (Kd.heap_int _) h.hN hb hS W' hk, Kd.C_kept_came heap34' h.hL hb hS W' hk, Kd.C_kept_came (Kd.heap_slice _ (Kd.heap_slice _ (Kd.heap_int _))) h.hT hb hS W' hk, h.cN, h.cL, h.bN, h.bL, h.fits⟩
theorem app_bool {P : Program} {ops : Array Oper} {Q : Exit → Act → World → Prop} {Kc : Act → World → Prop} {o : Oper} {a : Act} {w0 W : World} (base : Nat) (hw : Region.wanted o (yielded ops a.tmps) = true) (s x : Operand) (t : TypeId)
    (ho : o.op = .call { callee := .builtin .append, args := #[s, x], argTypes := #[t, t] }) (ht : P.underlying t = some (.slice 4)) (hinfo : (P.info? 4).map (fun i => (i.zero, i.size, i.bytes)) = some (some (.bool false), 1, 1))
    (v : Value) (xs : List Bool) (p : Bool) (hs : a.eval s = v) (hx : a.eval x = .slice (some ⟨W.heap.size, 0, none⟩) 1 1) (HO : Kd.R Kd.bool 4 W base (fun _ => True) v xs) (HB : Below base w0 W) (hbase : base ≤ W.heap.size) (hl : (xs.length + 1) * 1 ≤ 140737488355328)
    (h : ∀ v1 w1, Kd.R Kd.bool 4 w1 base (fun _ => True) v1 (xs ++ [p]) → Below base w0 w1 → W.grownBy w1 v.ownBlock → (v1.ownBlock = v.ownBlock ∨ ∃ b, v1.ownBlock = some b ∧ W.heap.size ≤ b) → Kc (a.put o.dst v1) w1) :
    if Region.wanted o (yielded ops a.tmps) = true then Oper.wp P o a (W.alloc (.cells #[.bool p] 4 (0, 0))) Kc Q else Kc (a.put o.dst undef) (W.alloc (.cells #[.bool p] 4 (0, 0))) :=
  Kd.R_append_step Kd.bool (w0 := w0) (W := W) base hw s x t 4 (.bool false) 1 ho ht hinfo rfl (by decide) (by omega) v xs p [.bool p] (fun _ => True) (fun _ => False) hs hx rfl (fun _ hk => hk.elim) (fun _ _ => trivial) HO HB hbase hl h
theorem app_boolD {P : Program} {ops : Array Oper} {Q : Exit → Act → World → Prop} {Kc : Act → World → Prop} {o : Oper} {a : Act} {w0 W : World} (base : Nat) (hw : Region.wanted o (yielded ops a.tmps) = true) (s x : Operand) (t : TypeId)
    (ho : o.op = .call { callee := .builtin .append, args := #[s, x], argTypes := #[t, t] }) (ht : P.underlying t = some (.slice 4)) (hinfo : (P.info? 4).map (fun i => (i.zero, i.size, i.bytes)) = some (some (.bool false), 1, 1))
    (v : Value) (xs : List Bool) (p : Bool) (hs : a.eval s = v) (hx : a.eval x = .slice (some ⟨W.heap.size, 0, none⟩) 1 1) (HO : Kd.R Kd.bool 4 W base (fun _ => True) v xs) (HB : Below base w0 W) (hbase : base ≤ W.heap.size) (hl : (xs.length + 1) * 1 ≤ 140737488355328)
    (h : ∀ v1 w1, Kd.R Kd.bool 4 w1 base (fun _ => True) v1 (xs ++ [p]) → Below base w0 w1 → W.grownBy w1 v.ownBlock → (v1.ownBlock = v.ownBlock ∨ ∃ b, v1.ownBlock = some b ∧ W.heap.size ≤ b) → Kc (a.put o.dst v1) w1) :
    if Region.wanted o (yielded ops a.tmps) = true then Oper.wp P o a (W.alloc (.cells #[.bool p] 4 (0, 0))).drew Kc Q else Kc (a.put o.dst undef) (W.alloc (.cells #[.bool p] 4 (0, 0))).drew :=
  app_bool (w0 := w0) (W := W.drew) base hw s x t ho ht hinfo v xs p hs hx (Kd.R_drew HO) (zzF HB) hbase hl (fun v1 w1 a1 a2 a3 a4 => h v1 w1 a1 a2 ⟨a3.os, a3.tape, a3.output, a3.size, a3.block⟩ a4)
def bs.T9 : Bool × List (List Nat × List Nat) := (true, [([], []), ([0], [0]), ([1], [1]), ([2], [2]), ([], []), ([], []), ([5], [5]), ([6], [6]), ([7], [7]), ([], []), ([8, 9], [8, 9]), ([10], [10]), ([], []), ([], []), ([12, 13], [12, 13]), ([14], [14]), ([15], [15]), ([15], [15]), ([15], [15]), ([16, 17, 18, 15, 15], [15, 16, 17, 18]), ([15, 19], [15, 19]), ([20], [20]), ([11, 21, 19], [11, 21]), ([3, 4, 0, 1, 2, 3, 4, 5, 6, 7, 8, 9, 10, 11, 12, 13, 14, 15, 16, 17, 18, 19, 20, 21, 22], [3, 4]), ([23, 22, 22, 0, 1, 2, 3, 4, 5, 6, 7, 8, 9, 10, 11, 12, 13, 14, 15, 16, 17, 18, 19, 20, 21, 22], [22, 23])])
def bs.B9 : List Nat := [0, 1, 3, 7, 0, 0, 32, 96, 224, 0, 992, 2016, 0, 0, 12288, 28672, 61440, 61440, 61440, 520192, 1044480, 2093056, 4194272, 8388607, 16777215]
theorem bs.tab9 : rtab .any (opsOf Try.f38 9) = bs.T9 := by kernel_rfl
theorem bs.bits9 : waitsOk bs.T9.2 bs.B9 = true := by kernel_rfl
section
variable {gt gR : Nat} {A0 : Option Addr} {c0 : Nat} {N : List Int} {A1 : Option Addr} {c1 : Nat} {L : List S34} {S : Nat → Nat → List Int}
set_option maxHeartbeats 8000000 in
set_option maxRecDepth 100000 in
theorem best_calls {W : World} (hT : Tab W gt A0 c0 N A1 c1 L gR S) (hn : N.length ≤ 9) :
    Calls Try.prog 38 #[.pointer (some ⟨gt, 0, none⟩)] W fun e w' => ∃ ov cv, e = .returned (.tuple #[ov, cv]) ∧ BestV w' W.heap.size (fun _ => True) ov cv (srch N L S (twM N L S) N.length [] [(N.length : Int)] none) ∧ Below W.heap.size W w' := by
  have T := Aside0.mk hT
  have hct : W.cell? ⟨gt, 0, none⟩ = some (.slice A0 N.length c0) := (blk_cell hT.ht 0).trans rfl
  clear hT
  have hmk := print_make_of (P := Try.prog) 94 97 (.slice none 0 0) 24 Try.underlying94 info97 rfl (by omega) N.length (by omega)
  have hu96 := Try.underlying96
  have HB := Aside0.mk (Below.refl W.heap.size W)
  go_enter Try.func38, Try.ntmps38
  go_upto_region 3 with (fail)
  obtain ⟨w2, hw2⟩ : ∃ w2, w2 = ((W.alloc (.cells (madeCells #[Value.slice none 0 0] N.length) 97)).alloc (.cells #[.pointer (some ⟨gt, 0, none⟩), .slice (some ⟨W.heap.size, 0, none⟩) N.length N.length, .slice none 0 0, .slice none 0 0] 96)) := ⟨_, rfl⟩
  rw [← hw2]
  have F1 : TwI w2 W.heap.size W.heap.size N.length (fun _ => row0) (EA N.length (twM N L S) 0 0) := by
    rw [← EA_zero]
    refine TwI.zero ?_ (Nat.le_refl _)
    rw [hw2, ← made_rows97]
    exact blk_alloc (blk_new W _) _
  have F2 : w2.heap[W.heap.size + 1]? = some (.cells #[.pointer (some ⟨gt, 0, none⟩), .slice (some ⟨W.heap.size, 0, none⟩) N.length N.length, .slice none 0 0, .slice none 0 0] 96 (0, 0)) := by
    rw [hw2]
    have := blk_new (W.alloc (.cells (madeCells #[Value.slice none 0 0] N.length) 97)) (.cells #[.pointer (some ⟨gt, 0, none⟩), .slice (some ⟨W.heap.size, 0, none⟩) N.length N.length, .slice none 0 0, .slice none 0 0] 96 (0, 0))
    rw [show (W.alloc (.cells (madeCells #[Value.slice none 0 0] N.length) 97)).heap.size = W.heap.size + 1 from Array.size_push ..] at this
    exact this
  have F4 : Below W.heap.size W w2 := by rw [hw2]; exact zzD (zzD HB.out _) _
  clear hw2 HB hct
  obtain ⟨gw, hgw⟩ : ∃ g, g = W.heap.size := ⟨_, rfl⟩
  obtain ⟨gs, hgs⟩ : ∃ g, g = W.heap.size + 1 := ⟨_, rfl⟩
  have GW := Aside0.mk (show W.heap.size ≤ gw by omega)
  have GS := Aside0.mk (show W.heap.size ≤ gs by omega)
  rw [← hgs] at F2 ⊢
  have TB := Aside0.mk (show TwI w2 W.heap.size gw N.length (fun _ => row0) (EA N.length (twM N L S) 0 0) from by rw [hgw]; exact F1)
  have BS := Aside0.mk (show w2.heap[gs]? = some (.cells #[.pointer (some ⟨gt, 0, none⟩), .slice (some ⟨gw, 0, none⟩) N.length N.length, .slice none 0 0, .slice none 0 0] 96 (0, 0)) from by rw [hgw]; exact F2)
  have HB := Aside0.mk F4
  rw [← hgw]
  clear F1 F2 F4 hgw hgs
  go_wp2
  go_loopw [20] (fun v wr => ∃ (a : Nat) (V : Nat → Value), a ≤ N.length ∧ v = .int .i64 (a : Int) ∧ Aside0 (TwI wr W.heap.size gw N.length V (EA N.length (twM N L S) a 0)) ∧ Aside0 (wr.heap[gs]? = some (.cells #[.pointer (some ⟨gt, 0, none⟩), .slice (some ⟨gw, 0, none⟩) N.length N.length, .slice none 0 0, .slice none 0 0] 96 (0, 0))) ∧ Aside0 (Below W.heap.size W wr)) (fun v _ => N.length - (intOf v).toNat)
  case atStart => exact ⟨0, _, by omega, rfl, TB, BS, HB⟩
  case round =>
    clear TB BS HB
    obtain ⟨a, V, han, rfl, TB, BS, HB⟩ := hrel
    by_cases h1 : a < N.length
    · have k1 : decide ((a : Int) < (N.length : Int)) = true := decide_eq_true (by omega)
      have k1' : decide (a < N.length) = true := decide_eq_true h1
      go_wp2
      go_loopw [24] (fun v wr => ∃ (b : Nat) (V : Nat → Value), b ≤ N.length ∧ v = .int .i64 (b : Int) ∧ Aside0 (TwI wr W.heap.size gw N.length V (EA N.length (twM N L S) a b)) ∧ Aside0 (wr.heap[gs]? = some (.cells #[.pointer (some ⟨gt, 0, none⟩), .slice (some ⟨gw, 0, none⟩) N.length N.length, .slice none 0 0, .slice none 0 0] 96 (0, 0))) ∧ Aside0 (Below W.heap.size W wr)) (fun v _ => N.length - (intOf v).toNat)
      case atStart => exact ⟨0, V, by omega, rfl, TB, BS, HB⟩
      case round =>
        clear TB BS HB V
        obtain ⟨b, V, hbn, rfl, TB, BS, HB⟩ := hrel
        by_cases h2 : b < N.length
        · have k2 : decide ((b : Int) < (N.length : Int)) = true := decide_eq_true (by omega)
          have k2' : decide (b < N.length) = true := decide_eq_true h2
          have hs1 : wr.cell? ⟨gs, 1, none⟩ = some (.slice (some ⟨gw, 0, none⟩) N.length N.length) := (blk_cell BS.out 1).trans rfl
          have hva : wr.cell? ⟨gw, a, none⟩ = some (V a) := TB.out.cell h1
          by_cases hab : a = b
          · have e1 : ((a : Int) != (b : Int)) = false := by rw [hab]; simp
            have HTW := Aside0.mk (show twM N L S a b = false from by unfold twM; simp [hab])
            clear hab
            go_upto_region 9 with (fail)
            refine start_ (n := 25) (S := fun w' => w'.cell? ⟨gs, 1, none⟩ = some (.slice (some ⟨gw, 0, none⟩) N.length N.length) ∧ w'.cell? ⟨gw, a, none⟩ = some (V a)) (ds := [24]) #[false, false, false, false, false, false, false, false, false, false, false, false, false, false, false, false, false, false, false, false, false, false, false, false, false] (by kernel_rfl) rfl rfl ⟨hs1, hva⟩ (fun hHeld => ?_)
            refine with_tabW bs.tab9 bs.bits9 (fun HT_ HW_ => ?_)
            refine pure_ (i := 0) (N := some 27) (v := ?_) (a' := ?_) #[true, false, false, false, false, false, false, false, false, false, false, false, false, false, false, false, false, false, false, false, false, false, false, false, false] rfl rfl (any_of HT_.out (by kernel_rfl)) (fun _ _ _ h => h) (Or.inl ⟨by rfl, ?_⟩) ?_ ?_
            rotate_left
            · intro w'
              go_simp
              with_reducible rfl
            rotate_left
            · simp only [Act.put, zzA, zzB, zzC, i64_w, i32_w]
              rfl
            refine pure_ (i := 1) (N := some 28) (v := ?_) (a' := ?_) #[true, true, false, false, false, false, false, false, false, false, false, false, false, false, false, false, false, false, false, false, false, false, false, false, false] rfl rfl (any_of HT_.out (by kernel_rfl)) (fun _ _ _ h => h) (Or.inl ⟨by rfl, ?_⟩) ?_ ?_
            rotate_left
            · intro w'
              go_simp
              with_reducible rfl
            rotate_left
            · simp only [Act.put, zzA, zzB, zzC, i64_w, i32_w]
              rfl
            refine pure_ (i := 2) (N := some 29) (v := ?_) (a' := ?_) #[true, true, true, false, false, false, false, false, false, false, false, false, false, false, false, false, false, false, false, false, false, false, false, false, false] rfl rfl (any_of HT_.out (by kernel_rfl)) (fun _ _ _ h => h) (Or.inl ⟨by rfl, ?_⟩) ?_ ?_
            rotate_left
            · intro w'
              go_simp
              with_reducible rfl
            rotate_left
            · simp only [Act.put, zzA, zzB, zzC, i64_w, i32_w]
              rfl
            refine pure_ (i := 4) (N := some 31) (v := ?_) (a' := ?_) #[true, true, true, false, true, false, false, false, false, false, false, false, false, false, false, false, false, false, false, false, false, false, false, false, false] rfl rfl (any_of HT_.out (by kernel_rfl)) (fun _ _ _ h => h) (Or.inl ⟨by rfl, ?_⟩) ?_ ?_
            rotate_left
            · intro w'
              go_simp
              with_reducible rfl
            rotate_left
            · simp only [Act.put, zzA, zzB, zzC, i64_w, i32_w]
              rfl
            refine pure_ (i := 5) (N := some 32) (v := ?_) (a' := ?_) #[true, true, true, false, true, true, false, false, false, false, false, false, false, false, false, false, false, false, false, false, false, false, false, false, false] rfl rfl (any_of HT_.out (by kernel_rfl)) (fun _ _ _ h => h) (Or.inl ⟨by rfl, ?_⟩) ?_ ?_
            rotate_left
            · intro w'
              go_simp
              with_reducible rfl
            rotate_left
            · simp only [Act.put, zzA, zzB, zzC, i64_w, i32_w]
              rfl
            refine pure_ (i := 6) (N := some 33) (v := ?_) (a' := ?_) #[true, true, true, false, true, true, true, false, false, false, false, false, false, false, false, false, false, false, false, false, false, false, false, false, false] rfl rfl (any_of HT_.out (by kernel_rfl)) (fun _ _ _ h => h) (Or.inl ⟨by rfl, ?_⟩) ?_ ?_
            rotate_left
            · intro w'
              go_simp
              with_reducible rfl
            rotate_left
            · simp only [Act.put, zzA, zzB, zzC, i64_w, i32_w]
              rfl
            refine pure_ (i := 7) (N := some 34) (v := ?_) (a' := ?_) #[true, true, true, false, true, true, true, true, false, false, false, false, false, false, false, false, false, false, false, false, false, false, false, false, false] rfl rfl (any_of HT_.out (by kernel_rfl)) (fun _ _ _ h => h) (Or.inl ⟨by rfl, ?_⟩) ?_ ?_
            rotate_left
            · intro w'
              go_simp
              with_reducible rfl
            rotate_left
            · simp only [Act.put, zzA, zzB, zzC, i64_w, i32_w]
              rfl
            refine pure_ (i := 9) (N := some 36) (v := ?_) (a' := ?_) #[true, true, true, false, true, true, true, true, false, true, false, false, false, false, false, false, false, false, false, false, false, false, false, false, false] rfl rfl (any_of HT_.out (by kernel_rfl)) (fun _ _ _ h => h) (Or.inl ⟨by rfl, ?_⟩) ?_ ?_
            rotate_left
            · intro w'
              go_simp
              with_reducible rfl
            rotate_left
            · simp only [Act.put, zzA, zzB, zzC, i64_w, i32_w]
              rfl
            refine pure_ (i := 12) (N := some 39) (v := ?_) (a' := ?_) #[true, true, true, false, true, true, true, true, false, true, false, false, true, false, false, false, false, false, false, false, false, false, false, false, false] rfl rfl (any_of HT_.out (by kernel_rfl)) (fun _ _ _ h => h) (Or.inl ⟨by rfl, ?_⟩) ?_ ?_
            rotate_left
            · intro w'
              go_simp
              with_reducible rfl
            rotate_left
            · simp only [Act.put, zzA, zzB, zzC, i64_w, i32_w]
              rfl
            refine pure_ (i := 13) (N := some 40) (v := ?_) (a' := ?_) #[true, true, true, false, true, true, true, true, false, true, false, false, true, true, false, false, false, false, false, false, false, false, false, false, false] rfl rfl (any_of HT_.out (by kernel_rfl)) (fun _ _ _ h => h) (Or.inl ⟨by rfl, ?_⟩) ?_ ?_
            rotate_left
            · intro w'
              go_simp
              with_reducible rfl
            rotate_left
            · simp only [Act.put, zzA, zzB, zzC, i64_w, i32_w]
              rfl
            refine pure_ (i := 14) (N := some 41) (v := ?_) (a' := ?_) #[true, true, true, false, true, true, true, true, false, true, false, false, true, true, true, false, false, false, false, false, false, false, false, false, false] rfl rfl (any_of HT_.out (by kernel_rfl)) (fun _ _ _ h => h) (Or.inl ⟨by rfl, ?_⟩) ?_ ?_
            rotate_left
            · intro w'
              go_simp
              with_reducible rfl
            rotate_left
            · simp only [Act.put, zzA, zzB, zzC, i64_w, i32_w]
              rfl
            refine pure_ (i := 15) (N := some 42) (v := ?_) (a' := ?_) #[true, true, true, false, true, true, true, true, false, true, false, false, true, true, true, true, false, false, false, false, false, false, false, false, false] rfl rfl (any_of HT_.out (by kernel_rfl)) (fun _ _ _ h => h) (Or.inl ⟨by rfl, ?_⟩) ?_ ?_
            rotate_left
            · intro w'
              go_simp
              with_reducible rfl
            rotate_left
            · simp only [Act.put, zzA, zzB, zzC, i64_w, i32_w]
              rfl
            refine pure_ (i := 16) (N := some 43) (v := undef) (a' := ?_) #[true, true, true, false, true, true, true, true, false, true, false, false, true, true, true, true, true, false, false, false, false, false, false, false, false] rfl rfl (any_of HT_.out (by kernel_rfl)) (fun _ _ _ h => h) (Or.inr ⟨by rfl, rfl⟩) ?_ ?_
            rotate_left
            · simp only [Act.put, zzA, zzB, zzC, i64_w, i32_w]
              rfl
            refine pure_ (i := 17) (N := some 44) (v := undef) (a' := ?_) #[true, true, true, false, true, true, true, true, false, true, false, false, true, true, true, true, true, true, false, false, false, false, false, false, false] rfl rfl (any_of HT_.out (by kernel_rfl)) (fun _ _ _ h => h) (Or.inr ⟨by rfl, rfl⟩) ?_ ?_
            rotate_left
            · simp only [Act.put, zzA, zzB, zzC, i64_w, i32_w]
              rfl
            refine pure_ (i := 18) (N := some 45) (v := undef) (a' := ?_) #[true, true, true, false, true, true, true, true, false, true, false, false, true, true, true, true, true, true, true, false, false, false, false, false, false] rfl rfl (any_of HT_.out (by kernel_rfl)) (fun _ _ _ h => h) (Or.inr ⟨by rfl, rfl⟩) ?_ ?_
            rotate_left
            · simp only [Act.put, zzA, zzB, zzC, i64_w, i32_w]
              rfl
            refine pure_ (i := 19) (N := some 46) (v := undef) (a' := ?_) #[true, true, true, false, true, true, true, true, false, true, false, false, true, true, true, true, true, true, true, true, false, false, false, false, false] rfl rfl (any_of HT_.out (by kernel_rfl)) (fun _ _ _ h => h) (Or.inr ⟨by rfl, rfl⟩) ?_ ?_
            rotate_left
            · simp only [Act.put, zzA, zzB, zzC, i64_w, i32_w]
              rfl
            refine pure_ (i := 20) (N := some 47) (v := ?_) (a' := ?_) #[true, true, true, false, true, true, true, true, false, true, false, false, true, true, true, true, true, true, true, true, true, false, false, false, false] rfl rfl (any_of HT_.out (by kernel_rfl)) (fun _ _ _ h => h) (Or.inl ⟨by rfl, ?_⟩) ?_ ?_
            rotate_left
            · intro w'
              go_simp
              with_reducible rfl
            rotate_left
            · simp only [Act.put, zzA, zzB, zzC, i64_w, i32_w]
              rfl
            refine take_ (i := 3) (N := some 30) (v := ?_) (a' := ?_) #[true, true, true, true, true, true, true, true, false, true, false, false, true, true, true, true, true, true, true, true, true, false, false, false, false] rfl rfl (take_ofW HT_.out HW_.out (by kernel_rfl)) (fun _ _ _ h => h) (Or.inl ⟨by rfl, ?_⟩) hHeld ?_ ?_
            rotate_left
            · rintro w' ⟨s0, s1⟩
              go_simp
              with_reducible rfl
            rotate_left
            · simp only [Act.put, zzA, zzB, zzC, i64_w, i32_w]
              rfl
            refine take_ (i := 8) (N := some 35) (v := ?_) (a' := ?_) #[true, true, true, true, true, true, true, true, true, true, false, false, true, true, true, true, true, true, true, true, true, false, false, false, false] rfl rfl (take_ofW HT_.out HW_.out (by kernel_rfl)) (fun _ _ _ h => h) (Or.inl ⟨by rfl, ?_⟩) hHeld ?_ ?_
            rotate_left
            · rintro w' ⟨s0, s1⟩
              go_simp
              with_reducible rfl
            rotate_left
            · simp only [Act.put, zzA, zzB, zzC, i64_w, i32_w]
              rfl
            refine pure_ (i := 10) (N := some 37) (v := ?_) (a' := ?_) #[true, true, true, true, true, true, true, true, true, true, true, false, true, true, true, true, true, true, true, true, true, false, false, false, false] rfl rfl (any_of HT_.out (by kernel_rfl)) (fun _ _ _ h => h) (Or.inl ⟨by rfl, ?_⟩) ?_ ?_
            rotate_left
            · intro w'
              go_simp
              with_reducible rfl
            rotate_left
            · simp only [Act.put, zzA, zzB, zzC, i64_w, i32_w]
              rfl
            refine take_ (i := 11) (N := some 38) (v := ?_) (a' := ?_) #[true, true, true, true, true, true, true, true, true, true, true, true, true, true, true, true, true, true, true, true, true, false, false, false, false] rfl rfl (take_ofW HT_.out HW_.out (by kernel_rfl)) (fun _ _ _ h => h) (Or.inl ⟨by rfl, ?_⟩) hHeld ?_ ?_
            rotate_left
            · rintro w' ⟨s0, s1⟩
              go_simp
              with_reducible rfl
            rotate_left
            · simp only [Act.put, zzA, zzB, zzC, i64_w, i32_w]
              rfl
            refine one_ (i := 21) (N := some 48) #[true, true, true, true, true, true, true, true, true, true, true, true, true, true, true, true, true, true, true, true, true, true, false, false, false] rfl rfl (one_of HT_.out (by kernel_rfl)) (by decide) (fun K hK => ?_)
            refine value_ (w1 := ?_) (v := ?_) (by rfl) rfl ?_ ?_
            rotate_left 2
            · go_simp
              constructor
              · rfl
              · rfl
            refine hK.out _ _ ⟨(pw_cell_below (zzF (zzD (Below.refl wr.heap.size wr) _)) hs1), (pw_cell_below (zzF (zzD (Below.refl wr.heap.size wr) _)) hva)⟩ (fun hHeld => ?_)
            clear hK K
            refine norm_ (a' := ?_) ?_ ?_
            rotate_left
            · show Act.put _ (some 48) _ = _
              simp only [Act.put, zzA, zzB, zzC, i64_w, i32_w]
              rfl
            refine one_ (i := 22) (N := some 49) #[true, true, true, true, true, true, true, true, true, true, true, true, true, true, true, true, true, true, true, true, true, true, true, false, false] rfl rfl (one_of HT_.out (by kernel_rfl)) (by decide) (fun K hK => ?_)
            refine app_boolD (w0 := W) (W := wr) W.heap.size (by rfl) (.tmp 38) (.tmp 48) 97 rfl Try.underlying97 info4 (V a) (EA N.length (twM N L S) a b a) false rfl rfl (TB.out.ho a h1) HB.out HB.out.size (by rw [EA_len]; omega) ?_
            intro v1 w4 ho4 hb4 hg4 ha4
            obtain ⟨A4, c4, e4⟩ := Kd.R_slice ho4
            rw [List.length_append, EA_len] at e4
            subst e4
            have O4 := Aside0.mk ho4
            have HB4 := Aside0.mk hb4
            have HG4 := Aside0.mk hg4
            have HA4 := Aside0.mk ha4
            clear ho4 hb4 hg4 ha4
            have TW4 := Aside0.mk (blk_grown TB.out.hw HG4.out (Kd.R_ne (TB.out.ho a h1) TB.out.hw (by decide)))
            have BS4 := Aside0.mk (blk_grown BS.out HG4.out (Kd.R_ne (TB.out.ho a h1) BS.out (by decide)))
            have hc4 : w4.cell? ⟨gw, a, none⟩ = some (V a) := (blk_cell TW4.out a).trans (by simp [h1])
            have hf4 := blk_frozen TW4.out a
            have hs4 : w4.cell? ⟨gs, 1, none⟩ = some (.slice (some ⟨gw, 0, none⟩) N.length N.length) := (blk_cell BS4.out 1).trans rfl
            refine hK.out _ _ ⟨hs4, hc4⟩ (fun hHeld => ?_)
            clear hK K
            refine norm_ (a' := ?_) ?_ ?_
            rotate_left
            · show Act.put _ (some 49) _ = _
              simp only [Act.put, zzA, zzB, zzC, i64_w, i32_w]
              rfl
            refine pure_ (i := 23) (N := some 50) (v := ?_) (a' := ?_) #[true, true, true, true, true, true, true, true, true, true, true, true, true, true, true, true, true, true, true, true, true, true, true, true, false] rfl rfl (any_of HT_.out (by kernel_rfl)) (fun _ _ _ h => h) (Or.inl ⟨by rfl, ?_⟩) ?_ ?_
            rotate_left
            · intro w'
              go_simp
              with_reducible rfl
            rotate_left
            · simp only [Act.put, zzA, zzB, zzC, i64_w, i32_w]
              rfl
            refine last_ (i := 24) (N := none) #[true, true, true, true, true, true, true, true, true, true, true, true, true, true, true, true, true, true, true, true, true, true, true, true, true] rfl rfl (one_of HT_.out (by kernel_rfl)) (by decide) (fun K hK => ?_)
            refine skip_ (w1 := ?_) (by rfl) rfl ?_ ?_
            rotate_left
            · go_simp
              rfl
            refine hK.out _ _ ?_
            clear hK K
            refine done_ (done_of HT_.out (by kernel_rfl)) ?_
            have O4' := Aside0.mk (show Kd.R Kd.bool 4 w4 W.heap.size (fun _ => True) (.slice A4 (b + 1) c4) (EA N.length (twM N L S) a b a ++ [twM N L S a b]) from by rw [HTW.out]; exact O4.out)
            have F1 := Aside0.mk (EA_step N.length (twM N L S) a b ▸ TB.out.put h1 O4'.out HG4.out HA4.out)
            have F2 := Aside0.mk (blk_far BS4.out (p := ⟨gw, a, none⟩) (ty_ne BS4.out TW4.out (by decide)) (.slice A4 (b + 1) c4))
            have F3 := Aside0.mk (below_set (j := a) (v := .slice A4 (b + 1) c4) HB4.out GW.out)
            clear O4 O4' HG4 HA4 TW4 BS4 hc4 hf4 hs4 HTW TB BS HB HB4 hs1 hva
            go_wp2
            go_roundw
            case rel => exact ⟨b + 1, _, by omega, by first | rfl | simp, F1, F2, F3⟩
            case measure => show N.length - ((b : Int) + 1).toNat < N.length - ((b : Nat) : Int).toNat; omega
          · have e1 : ((a : Int) != (b : Int)) = true := by simp; omega
            obtain ⟨tb, htb⟩ : ∃ tb, twinB N L S a b = tb := ⟨_, rfl⟩
            have HTW := Aside0.mk (show twM N L S a b = tb from by unfold twM; rw [htb]; simp [hab])
            have htc := (T.out.below (below_step HB.out (zzF (Below.refl wr.heap.size wr)))).twins h1 h2 hab
            rw [htb] at htc
            have HTC := Aside0.mk htc
            clear htc htb hab
            go_upto_region 9 with (fail)
            refine start_ (n := 25) (S := fun w' => w'.cell? ⟨gs, 1, none⟩ = some (.slice (some ⟨gw, 0, none⟩) N.length N.length) ∧ w'.cell? ⟨gw, a, none⟩ = some (V a)) (ds := [24]) #[false, false, false, false, false, false, false, false, false, false, false, false, false, false, false, false, false, false, false, false, false, false, false, false, false] (by kernel_rfl) rfl rfl ⟨hs1, hva⟩ (fun hHeld => ?_)
            refine with_tabW bs.tab9 bs.bits9 (fun HT_ HW_ => ?_)
            refine pure_ (i := 0) (N := some 27) (v := ?_) (a' := ?_) #[true, false, false, false, false, false, false, false, false, false, false, false, false, false, false, false, false, false, false, false, false, false, false, false, false] rfl rfl (any_of HT_.out (by kernel_rfl)) (fun _ _ _ h => h) (Or.inl ⟨by rfl, ?_⟩) ?_ ?_
            rotate_left
            · intro w'
              go_simp
              with_reducible rfl
            rotate_left
            · simp only [Act.put, zzA, zzB, zzC, i64_w, i32_w]
              rfl
            refine pure_ (i := 1) (N := some 28) (v := ?_) (a' := ?_) #[true, true, false, false, false, false, false, false, false, false, false, false, false, false, false, false, false, false, false, false, false, false, false, false, false] rfl rfl (any_of HT_.out (by kernel_rfl)) (fun _ _ _ h => h) (Or.inl ⟨by rfl, ?_⟩) ?_ ?_
            rotate_left
            · intro w'
              go_simp
              with_reducible rfl
            rotate_left
            · simp only [Act.put, zzA, zzB, zzC, i64_w, i32_w]
              rfl
            refine pure_ (i := 2) (N := some 29) (v := ?_) (a' := ?_) #[true, true, true, false, false, false, false, false, false, false, false, false, false, false, false, false, false, false, false, false, false, false, false, false, false] rfl rfl (any_of HT_.out (by kernel_rfl)) (fun _ _ _ h => h) (Or.inl ⟨by rfl, ?_⟩) ?_ ?_
            rotate_left
            · intro w'
              go_simp
              with_reducible rfl
            rotate_left
            · simp only [Act.put, zzA, zzB, zzC, i64_w, i32_w]
              rfl
            refine pure_ (i := 4) (N := some 31) (v := ?_) (a' := ?_) #[true, true, true, false, true, false, false, false, false, false, false, false, false, false, false, false, false, false, false, false, false, false, false, false, false] rfl rfl (any_of HT_.out (by kernel_rfl)) (fun _ _ _ h => h) (Or.inl ⟨by rfl, ?_⟩) ?_ ?_
            rotate_left
            · intro w'
              go_simp
              with_reducible rfl
            rotate_left
            · simp only [Act.put, zzA, zzB, zzC, i64_w, i32_w]
              rfl
            refine pure_ (i := 5) (N := some 32) (v := ?_) (a' := ?_) #[true, true, true, false, true, true, false, false, false, false, false, false, false, false, false, false, false, false, false, false, false, false, false, false, false] rfl rfl (any_of HT_.out (by kernel_rfl)) (fun _ _ _ h => h) (Or.inl ⟨by rfl, ?_⟩) ?_ ?_
            rotate_left
            · intro w'
              go_simp
              with_reducible rfl
            rotate_left
            · simp only [Act.put, zzA, zzB, zzC, i64_w, i32_w]
              rfl
            refine pure_ (i := 6) (N := some 33) (v := ?_) (a' := ?_) #[true, true, true, false, true, true, true, false, false, false, false, false, false, false, false, false, false, false, false, false, false, false, false, false, false] rfl rfl (any_of HT_.out (by kernel_rfl)) (fun _ _ _ h => h) (Or.inl ⟨by rfl, ?_⟩) ?_ ?_
            rotate_left
            · intro w'
              go_simp
              with_reducible rfl
            rotate_left
            · simp only [Act.put, zzA, zzB, zzC, i64_w, i32_w]
              rfl
            refine pure_ (i := 7) (N := some 34) (v := ?_) (a' := ?_) #[true, true, true, false, true, true, true, true, false, false, false, false, false, false, false, false, false, false, false, false, false, false, false, false, false] rfl rfl (any_of HT_.out (by kernel_rfl)) (fun _ _ _ h => h) (Or.inl ⟨by rfl, ?_⟩) ?_ ?_
            rotate_left
            · intro w'
              go_simp
              with_reducible rfl
            rotate_left
            · simp only [Act.put, zzA, zzB, zzC, i64_w, i32_w]
              rfl
            refine pure_ (i := 9) (N := some 36) (v := ?_) (a' := ?_) #[true, true, true, false, true, true, true, true, false, true, false, false, false, false, false, false, false, false, false, false, false, false, false, false, false] rfl rfl (any_of HT_.out (by kernel_rfl)) (fun _ _ _ h => h) (Or.inl ⟨by rfl, ?_⟩) ?_ ?_
            rotate_left
            · intro w'
              go_simp
              with_reducible rfl
            rotate_left
            · simp only [Act.put, zzA, zzB, zzC, i64_w, i32_w]
              rfl
            refine pure_ (i := 12) (N := some 39) (v := ?_) (a' := ?_) #[true, true, true, false, true, true, true, true, false, true, false, false, true, false, false, false, false, false, false, false, false, false, false, false, false] rfl rfl (any_of HT_.out (by kernel_rfl)) (fun _ _ _ h => h) (Or.inl ⟨by rfl, ?_⟩) ?_ ?_
            rotate_left
            · intro w'
              go_simp
              with_reducible rfl
            rotate_left
            · simp only [Act.put, zzA, zzB, zzC, i64_w, i32_w]
              rfl
            refine pure_ (i := 13) (N := some 40) (v := ?_) (a' := ?_) #[true, true, true, false, true, true, true, true, false, true, false, false, true, true, false, false, false, false, false, false, false, false, false, false, false] rfl rfl (any_of HT_.out (by kernel_rfl)) (fun _ _ _ h => h) (Or.inl ⟨by rfl, ?_⟩) ?_ ?_
            rotate_left
            · intro w'
              go_simp
              with_reducible rfl
            rotate_left
            · simp only [Act.put, zzA, zzB, zzC, i64_w, i32_w]
              rfl
            refine pure_ (i := 14) (N := some 41) (v := ?_) (a' := ?_) #[true, true, true, false, true, true, true, true, false, true, false, false, true, true, true, false, false, false, false, false, false, false, false, false, false] rfl rfl (any_of HT_.out (by kernel_rfl)) (fun _ _ _ h => h) (Or.inl ⟨by rfl, ?_⟩) ?_ ?_
            rotate_left
            · intro w'
              go_simp
              with_reducible rfl
            rotate_left
            · simp only [Act.put, zzA, zzB, zzC, i64_w, i32_w]
              rfl
            refine pure_ (i := 15) (N := some 42) (v := ?_) (a' := ?_) #[true, true, true, false, true, true, true, true, false, true, false, false, true, true, true, true, false, false, false, false, false, false, false, false, false] rfl rfl (any_of HT_.out (by kernel_rfl)) (fun _ _ _ h => h) (Or.inl ⟨by rfl, ?_⟩) ?_ ?_
            rotate_left
            · intro w'
              go_simp
              with_reducible rfl
            rotate_left
            · simp only [Act.put, zzA, zzB, zzC, i64_w, i32_w]
              rfl
            refine pure_ (i := 16) (N := some 43) (v := ?_) (a' := ?_) #[true, true, true, false, true, true, true, true, false, true, false, false, true, true, true, true, true, false, false, false, false, false, false, false, false] rfl rfl (any_of HT_.out (by kernel_rfl)) (fun _ _ _ h => h) (Or.inl ⟨by rfl, ?_⟩) ?_ ?_
            rotate_left
            · intro w'
              go_simp
              with_reducible rfl
            rotate_left
            · simp only [Act.put, zzA, zzB, zzC, i64_w, i32_w]
              rfl
            refine pure_ (i := 17) (N := some 44) (v := ?_) (a' := ?_) #[true, true, true, false, true, true, true, true, false, true, false, false, true, true, true, true, true, true, false, false, false, false, false, false, false] rfl rfl (any_of HT_.out (by kernel_rfl)) (fun _ _ _ h => h) (Or.inl ⟨by rfl, ?_⟩) ?_ ?_
            rotate_left
            · intro w'
              go_simp
              with_reducible rfl
            rotate_left
            · simp only [Act.put, zzA, zzB, zzC, i64_w, i32_w]
              rfl
            refine pure_ (i := 18) (N := some 45) (v := ?_) (a' := ?_) #[true, true, true, false, true, true, true, true, false, true, false, false, true, true, true, true, true, true, true, false, false, false, false, false, false] rfl rfl (any_of HT_.out (by kernel_rfl)) (fun _ _ _ h => h) (Or.inl ⟨by rfl, ?_⟩) ?_ ?_
            rotate_left
            · intro w'
              go_simp
              with_reducible rfl
            rotate_left
            · simp only [Act.put, zzA, zzB, zzC, i64_w, i32_w]
              rfl
            refine take_ (i := 3) (N := some 30) (v := ?_) (a' := ?_) #[true, true, true, true, true, true, true, true, false, true, false, false, true, true, true, true, true, true, true, false, false, false, false, false, false] rfl rfl (take_ofW HT_.out HW_.out (by kernel_rfl)) (fun _ _ _ h => h) (Or.inl ⟨by rfl, ?_⟩) hHeld ?_ ?_
            rotate_left
            · rintro w' ⟨s0, s1⟩
              go_simp
              with_reducible rfl
            rotate_left
            · simp only [Act.put, zzA, zzB, zzC, i64_w, i32_w]
              rfl
            refine take_ (i := 8) (N := some 35) (v := ?_) (a' := ?_) #[true, true, true, true, true, true, true, true, true, true, false, false, true, true, true, true, true, true, true, false, false, false, false, false, false] rfl rfl (take_ofW HT_.out HW_.out (by kernel_rfl)) (fun _ _ _ h => h) (Or.inl ⟨by rfl, ?_⟩) hHeld ?_ ?_
            rotate_left
            · rintro w' ⟨s0, s1⟩
              go_simp
              with_reducible rfl
            rotate_left
            · simp only [Act.put, zzA, zzB, zzC, i64_w, i32_w]
              rfl
            refine pure_ (i := 10) (N := some 37) (v := ?_) (a' := ?_) #[true, true, true, true, true, true, true, true, true, true, true, false, true, true, true, true, true, true, true, false, false, false, false, false, false] rfl rfl (any_of HT_.out (by kernel_rfl)) (fun _ _ _ h => h) (Or.inl ⟨by rfl, ?_⟩) ?_ ?_
            rotate_left
            · intro w'
              go_simp
              with_reducible rfl
            rotate_left
            · simp only [Act.put, zzA, zzB, zzC, i64_w, i32_w]
              rfl
            refine take_ (i := 11) (N := some 38) (v := ?_) (a' := ?_) #[true, true, true, true, true, true, true, true, true, true, true, true, true, true, true, true, true, true, true, false, false, false, false, false, false] rfl rfl (take_ofW HT_.out HW_.out (by kernel_rfl)) (fun _ _ _ h => h) (Or.inl ⟨by rfl, ?_⟩) hHeld ?_ ?_
            rotate_left
            · rintro w' ⟨s0, s1⟩
              go_simp
              with_reducible rfl
            rotate_left
            · simp only [Act.put, zzA, zzB, zzC, i64_w, i32_w]
              rfl
            refine one_ (i := 19) (N := some 46) #[true, true, true, true, true, true, true, true, true, true, true, true, true, true, true, true, true, true, true, true, false, false, false, false, false] rfl rfl (one_of HT_.out (by kernel_rfl)) (by decide) (fun K hK => ?_)
            refine goes_ Try.func63 (by kernel_rfl) rfl #[.pointer (some ⟨gt, 0, none⟩), .int .i64 (a : Int), .int .i64 (b : Int)] (by rfl) rfl rfl (by simp only [List.map_toArray, List.map_cons, List.map_nil]; rfl) ?_
            with_reducible refine HTC.out.mono ?_
            rintro e w3 ⟨rfl, b3⟩
            refine ⟨_, rfl, ?_⟩
            have B3 := Aside0.mk (below_step (zzF (Below.refl wr.heap.size wr)) b3)
            clear b3
            have TB3 := Aside0.mk (TB.out.below B3.out)
            have BS3 := Aside0.mk (blk_below BS.out B3.out)
            have HB3 := Aside0.mk (below_step HB.out B3.out)
            have hs3 : w3.cell? ⟨gs, 1, none⟩ = some (.slice (some ⟨gw, 0, none⟩) N.length N.length) := (blk_cell BS3.out 1).trans rfl
            have hva3 : w3.cell? ⟨gw, a, none⟩ = some (V a) := TB3.out.cell h1
            refine hK.out _ _ ⟨hs3, hva3⟩ (fun hHeld => ?_)
            clear hK K
            refine norm_ (a' := ?_) ?_ ?_
            rotate_left
            · show Act.put _ (some 46) _ = _
              simp only [Act.put, zzA, zzB, zzC, i64_w, i32_w]
              rfl
            refine pure_ (i := 20) (N := some 47) (v := ?_) (a' := ?_) #[true, true, true, true, true, true, true, true, true, true, true, true, true, true, true, true, true, true, true, true, true, false, false, false, false] rfl rfl (any_of HT_.out (by kernel_rfl)) (fun _ _ _ h => h) (Or.inl ⟨by rfl, ?_⟩) ?_ ?_
            rotate_left
            · intro w'
              go_simp
              with_reducible rfl
            rotate_left
            · simp only [Act.put, zzA, zzB, zzC, i64_w, i32_w]
              rfl
            refine one_ (i := 21) (N := some 48) #[true, true, true, true, true, true, true, true, true, true, true, true, true, true, true, true, true, true, true, true, true, true, false, false, false] rfl rfl (one_of HT_.out (by kernel_rfl)) (by decide) (fun K hK => ?_)
            refine value_ (w1 := ?_) (v := ?_) (by rfl) rfl ?_ ?_
            rotate_left 2
            · go_simp
              constructor
              · rfl
              · rfl
            refine hK.out _ _ ⟨(pw_cell_below (zzD (Below.refl w3.heap.size w3) _) hs3), (pw_cell_below (zzD (Below.refl w3.heap.size w3) _) hva3)⟩ (fun hHeld => ?_)
            clear hK K
            refine norm_ (a' := ?_) ?_ ?_
            rotate_left
            · show Act.put _ (some 48) _ = _
              simp only [Act.put, zzA, zzB, zzC, i64_w, i32_w]
              rfl
            refine one_ (i := 22) (N := some 49) #[true, true, true, true, true, true, true, true, true, true, true, true, true, true, true, true, true, true, true, true, true, true, true, false, false] rfl rfl (one_of HT_.out (by kernel_rfl)) (by decide) (fun K hK => ?_)
            refine app_bool (w0 := W) (W := w3) W.heap.size (by rfl) (.tmp 38) (.tmp 48) 97 rfl Try.underlying97 info4 (V a) (EA N.length (twM N L S) a b a) tb rfl rfl (TB3.out.ho a h1) HB3.out HB3.out.size (by rw [EA_len]; omega) ?_
            intro v1 w4 ho4 hb4 hg4 ha4
            obtain ⟨A4, c4, e4⟩ := Kd.R_slice ho4
            rw [List.length_append, EA_len] at e4
            subst e4
            have O4 := Aside0.mk ho4
            have HB4 := Aside0.mk hb4
            have HG4 := Aside0.mk hg4
            have HA4 := Aside0.mk ha4
            clear ho4 hb4 hg4 ha4
            have TW4 := Aside0.mk (blk_grown TB3.out.hw HG4.out (Kd.R_ne (TB3.out.ho a h1) TB3.out.hw (by decide)))
            have BS4 := Aside0.mk (blk_grown BS3.out HG4.out (Kd.R_ne (TB3.out.ho a h1) BS3.out (by decide)))
            have hc4 : w4.cell? ⟨gw, a, none⟩ = some (V a) := (blk_cell TW4.out a).trans (by simp [h1])
            have hf4 := blk_frozen TW4.out a
            have hs4 : w4.cell? ⟨gs, 1, none⟩ = some (.slice (some ⟨gw, 0, none⟩) N.length N.length) := (blk_cell BS4.out 1).trans rfl
            refine hK.out _ _ ⟨hs4, hc4⟩ (fun hHeld => ?_)
            clear hK K
            refine norm_ (a' := ?_) ?_ ?_
            rotate_left
            · show Act.put _ (some 49) _ = _
              simp only [Act.put, zzA, zzB, zzC, i64_w, i32_w]
              rfl
            refine pure_ (i := 23) (N := some 50) (v := ?_) (a' := ?_) #[true, true, true, true, true, true, true, true, true, true, true, true, true, true, true, true, true, true, true, true, true, true, true, true, false] rfl rfl (any_of HT_.out (by kernel_rfl)) (fun _ _ _ h => h) (Or.inl ⟨by rfl, ?_⟩) ?_ ?_
            rotate_left
            · intro w'
              go_simp
              with_reducible rfl
            rotate_left
            · simp only [Act.put, zzA, zzB, zzC, i64_w, i32_w]
              rfl
            refine last_ (i := 24) (N := none) #[true, true, true, true, true, true, true, true, true, true, true, true, true, true, true, true, true, true, true, true, true, true, true, true, true] rfl rfl (one_of HT_.out (by kernel_rfl)) (by decide) (fun K hK => ?_)
            refine skip_ (w1 := ?_) (by rfl) rfl ?_ ?_
            rotate_left
            · go_simp
              rfl
            refine hK.out _ _ ?_
            clear hK K
            refine done_ (done_of HT_.out (by kernel_rfl)) ?_
            have O4' := Aside0.mk (show Kd.R Kd.bool 4 w4 W.heap.size (fun _ => True) (.slice A4 (b + 1) c4) (EA N.length (twM N L S) a b a ++ [twM N L S a b]) from by rw [HTW.out]; exact O4.out)
            have F1 := Aside0.mk (EA_step N.length (twM N L S) a b ▸ TB3.out.put h1 O4'.out HG4.out HA4.out)
            have F2 := Aside0.mk (blk_far BS4.out (p := ⟨gw, a, none⟩) (ty_ne BS4.out TW4.out (by decide)) (.slice A4 (b + 1) c4))
            have F3 := Aside0.mk (below_set (j := a) (v := .slice A4 (b + 1) c4) HB4.out GW.out)
            clear O4 O4' HG4 HA4 TW4 BS4 hc4 hf4 hs4 HTW TB BS HB HB4 hs1 hva
            go_wp2
            go_roundw
            case rel => exact ⟨b + 1, _, by omega, by first | rfl | simp, F1, F2, F3⟩
            case measure => show N.length - ((b : Int) + 1).toNat < N.length - ((b : Nat) : Int).toNat; omega
        · have k2 : decide ((b : Int) < (N.length : Int)) = false := decide_eq_false (by omega)
          have k2' : decide (b < N.length) = false := decide_eq_false h2
          obtain rfl : b = N.length := by omega
          have F1 := Aside0.mk (EA_row N.length (twM N L S) a ▸ TB.out)
          clear TB
          go_wp2
          go_roundw
          case rel => exact ⟨a + 1, V, by omega, by first | rfl | simp, F1, BS, HB⟩
          case measure => show N.length - ((a : Int) + 1).toNat < N.length - ((a : Nat) : Int).toNat; omega
    · have k1 : decide ((a : Int) < (N.length : Int)) = false := decide_eq_false (by omega)
      have k1' : decide (a < N.length) = false := decide_eq_false h1
      obtain rfl : a = N.length := by omega
      have TF := Aside0.mk (TB.out.congr (E' := fun a => (List.range N.length).map (twM N L S a)) (fun a ha => EA_all N.length _ ha))
      clear TB
      go_upto_region 13 with (first
        | ((with_reducible refine gate_dst (N := 55) rfl ?_); refine Kd.R_lit (Kd.int .i64) (w0 := W) W.heap.size 3 ?hg (N := 55) ?hd (xs := [(N.length : Int)]) (inner := [.int .i64 (N.length : Int)]) (ok := fun _ => True) (okp := fun _ => True) ?hr ?hp (fun _ hk => hk) trivial HB.out HB.out.size (by simp) ?_; (case hd => rfl); (case hg => rfl); (case hr => first | (go_simp; done) | (go_simp; rfl)); (case hp => exact (Reps.one (show Kd.M (Kd.int .i64) _ _ _ (N.length : Int) [.int .i64 (N.length : Int)] from rfl) (Reps.none _ _))); intro v5 w5 ho5 hb5 hg5 hn5; have RC := Aside0.mk ho5; have HB5 := Aside0.mk hb5; have hbl : Below wr.heap.size wr w5 := ⟨hg5.os, hg5.tape, hg5.output, hg5.size, fun k hk => hg5.block k hk (by simp)⟩; have BS5 := Aside0.mk (blk_below BS.out hbl); have TF5 := Aside0.mk (TF.out.below hbl); clear hg5 hn5 ho5 hb5 hbl;
            have FR := Aside0.mk (from_calls (Ws := W) (Wt := w5) (gs := gs) (gt := gt) (gw := gw) (B := twM N L S) (fun W' hk => T.out.kept HB5.out (fun k hk => by rw [hk]; exact GS.out) hk) (fun W' hk => (TF5.out.kept BS5.out hk).reads) GS.out hn N.length [] [(N.length : Int)] none w5 (.slice none 0 0) v5 (fun _ => True) (by simp) (by simp) (by simp) (by simp) HB5.out (Kept.refl _ _) ⟨_, _, BS5.out, rfl, rfl⟩ (Kd.R_nil _ _ _ _ _) RC.out))
        | (go_at_call 64; with_reducible refine FR.out.mono ?_; rintro e w6 ⟨rfl, p1, p2, p3⟩; have P1 := Aside0.mk p1; have P3 := Aside0.mk p3; clear p1 p2 p3))
      obtain ⟨ov, cv, g1, g2⟩ := P1.out.ex
      have G2 := Aside0.mk g2
      have hg2 : w6.cell? ⟨gs, 2, none⟩ = some ov := (blk_cell g1 2).trans rfl
      have hg3 : w6.cell? ⟨gs, 3, none⟩ = some cv := (blk_cell g1 3).trans rfl
      clear g1 g2
      try go_wp2
      repeat (go_quiet (fail); try go_wp2)
      go_ret2
      exact ⟨ov, cv, rfl, (G2.out.mono (fun _ _ => trivial)).below (by first | exact Below.refl _ _ | exact zzF (Below.refl _ _) | exact zzE (Below.refl _ _) _), by first | exact P3.out | exact zzF P3.out | exact zzE P3.out _⟩
end
end Go.Proofs.Ytgmomcjnldahjaa.Pr
namespace Go.Proofs.Ytgmomcjnldahjaa.Pr
open Go.RowKit Go.Proofs.YtgmomcjnldahjaaW.PrintWords Go.Proofs.YtgmomcjnldahjaaW.PrintLast Go.Proofs.YtgmomcjnldahjaaW.PrintMore
attribute [local go_sem] max2_int min2_int max_two min_two max_three min_three max_four min_four
set_option linter.unusedVariables false
set_option linter.unusedSimpArgs false
def withinB (a m : Int) : Bool:=decide (0 ≤ a) && decide (a ≤ m)
def fitsB (x : S34) (n : Int) : Bool:=withinB x.f0 99 && (withinB x.f1 (n - 1) && withinB x.f2 (n - 1))
def gvalidE (N : List Int) (L : List S34) : Int:=if 40 < N.length ∨ 80 < L.length then 3 else if N.any (fun t=>!withinB t 99) then 6 else if L.any (fun x=>!fitsB x N.length) then 6 else 0
def validE (N : List Int) (L : List S34) : Int:=if gvalidE N L ≠ 0 then gvalidE N L else if 8 < N.length then 3 else 0
set_option maxHeartbeats 8000000 in
set_option maxRecDepth 100000 in
theorem within_calls (a m : Int) (w : World) : Calls Try.prog 77 #[.int .i64 a,.int .i64 m] w fun e w'=>e = .returned (.bool (withinB a m)) ∧ Drawn0 w w':=by
 by_cases h1 : 0 ≤ a
 ·have k1 : decide (0 ≤ a) = true:=decide_eq_true h1
  by_cases h2 : a ≤ m
  ·have k2 : decide (a ≤ m) = true:=decide_eq_true h2
   go_enter Try.func77,Try.ntmps77
   go_wp2
   go_ret
   exact ⟨by simp [withinB,k1,k2],Drawn0.refl _⟩
  ·have k2 : decide (a ≤ m) = false:=decide_eq_false h2
   go_enter Try.func77,Try.ntmps77
   go_wp2
   go_ret
   exact ⟨by simp [withinB,k1,k2],Drawn0.refl _⟩
 ·have k1 : decide (0 ≤ a) = false:=decide_eq_false h1
  go_enter Try.func77,Try.ntmps77
  go_wp2
  go_ret
  exact ⟨by simp [withinB,k1],Drawn0.refl _⟩
set_option maxHeartbeats 8000000 in
set_option maxRecDepth 100000 in
theorem fits_calls (x : S34) (n : Int) (hn : 0 ≤ n ∧ n ≤ 1000000) (w : World) : Calls Try.prog 80 #[.agg #[.int .i64 x.f0,.int .i64 x.f1,.int .i64 x.f2],.int .i64 n] w fun e w'=>e = .returned (.bool (fitsB x n)) ∧ Below w.heap.size w w':=by
 obtain ⟨b1,h1⟩ : ∃ b,withinB x.f0 99 = b:=⟨_,rfl⟩
 obtain ⟨b2,h2⟩ : ∃ b,withinB x.f1 (n - 1) = b:=⟨_,rfl⟩
 obtain ⟨b3,h3⟩ : ∃ b,withinB x.f2 (n - 1) = b:=⟨_,rfl⟩
 have K1:=Aside0.mk (fun W=>h1 ▸ within_calls x.f0 99 W)
 have K2:=Aside0.mk (fun W=>h2 ▸ within_calls x.f1 (n - 1) W)
 have K3:=Aside0.mk (fun W=>h3 ▸ within_calls x.f2 (n - 1) W)
 have HE:=Aside0.mk (show fitsB x n = (b1 && (b2 && b3)) from by rw [fitsB,h1,h2,h3])
 clear h1 h2 h3
 obtain ⟨n1,n2⟩:=hn
 have HB:=Aside0.mk (Below.refl w.heap.size w)
 go_enter Try.func80,Try.ntmps80
 cases b1 <;> cases b2 <;> cases b3 <;>
 ·go_wp2_with (first|((with_reducible refine gate_dst (N:=2) rfl ?_);refine box_event ?hg (N:=2) ?hd (cs:=#[.int .i64 x.f0,.int .i64 x.f1,.int .i64 x.f2]) (t:=34) ?hr ?_;(case hd=>rfl);(case hg=>rfl);(case hr=>first|(go_simp;done)|(go_simp;rfl));intro gb hg w8 hbox hb;have n0_:=Aside0.mk (below_step HB.out hb);clear HB;have HB:=n0_;clear n0_ hb hg;have hc0 : w8.cell? ⟨gb,0,none⟩ = some (.int .i64 x.f0):=(blk_cell hbox 0).trans rfl;have hc1 : w8.cell? ⟨gb,1,none⟩ = some (.int .i64 x.f1):=(blk_cell hbox 1).trans rfl;have hc2 : w8.cell? ⟨gb,2,none⟩ = some (.int .i64 x.f2):=(blk_cell hbox 2).trans rfl;clear hbox)|(go_at_call 77;(first|(with_reducible refine (K1.out _).mono ?_)|(with_reducible refine (K2.out _).mono ?_)|(with_reducible refine (K3.out _).mono ?_));rintro e w' ⟨rfl,⟨nd,rfl⟩⟩))
  go_ret
  exact ⟨by rw [HE.out];rfl,(by repeat (first|(with_reducible first|exact HB.out|apply zzD|apply zzE|apply zzF)|exact HB.out))⟩
theorem ent76 : Ent 76:=⟨_,Try.func76,rfl,rfl⟩
theorem ent79 : Ent 79:=⟨_,Try.func79,rfl,rfl⟩
set_option maxHeartbeats 8000000 in
set_option maxRecDepth 100000 in
theorem clo76_calls (a : Int) (w : World) : Calls Try.prog 76 #[.int .i64 a] w fun e w'=>e = .returned (.bool (!withinB a 99)) ∧ Below w.heap.size w w':=by
 have HB:=Aside0.mk (Below.refl w.heap.size w)
 go_enter Try.func76,Try.ntmps76
 go_wp2_with (first|(go_at_call 77;(with_reducible refine (within_calls _ _ _).mono ?_);rintro e w' ⟨rfl,⟨nd,rfl⟩⟩))
 go_ret
 exact ⟨rfl,(by repeat (first|(with_reducible first|exact HB.out|apply zzD|apply zzE|apply zzF)|exact HB.out))⟩
set_option maxHeartbeats 8000000 in
set_option maxRecDepth 100000 in
theorem clo79_calls (x : S34) (n : Nat) (hn : n ≤ 1000000) (gb : Nat) (A : Option Addr) (c : Nat) (w : World) (hg : w.cell? ⟨gb,0,none⟩ = some (.slice A n c)) : Calls Try.prog 79 #[.agg #[.int .i64 x.f0,.int .i64 x.f1,.int .i64 x.f2],.pointer (some ⟨gb,0,none⟩)] w fun e w'=>e = .returned (.bool (!fitsB x n)) ∧ Below w.heap.size w w':=by
 have HB:=Aside0.mk (Below.refl w.heap.size w)
 have HG:=Aside0.mk hg
 clear hg
 go_enter Try.func79,Try.ntmps79
 go_wp2_with (first|((with_reducible refine gate_dst (N:=2) rfl ?_);refine box_event ?hg (N:=2) ?hd (cs:=#[.int .i64 x.f0,.int .i64 x.f1,.int .i64 x.f2]) (t:=34) ?hr ?_;(case hd=>rfl);(case hg=>rfl);(case hr=>first|(go_simp;done)|(go_simp;rfl));intro gb2 hg w8 hbox hb;have n0_:=Aside0.mk (below_step HB.out hb);clear HB;have HB:=n0_;clear n0_ hb hg;have hcz:=pw_cell_below HB.out HG.out;have hc0 : w8.cell? ⟨gb2,0,none⟩ = some (.int .i64 x.f0):=(blk_cell hbox 0).trans rfl;have hc1 : w8.cell? ⟨gb2,1,none⟩ = some (.int .i64 x.f1):=(blk_cell hbox 1).trans rfl;have hc2 : w8.cell? ⟨gb2,2,none⟩ = some (.int .i64 x.f2):=(blk_cell hbox 2).trans rfl;clear hbox)|(go_at_call 80;(with_reducible refine (fits_calls x (n : Int) ⟨by omega,by omega⟩ _).mono ?_);rintro e w9 ⟨rfl,hb⟩;have n0_:=Aside0.mk (below_step (by repeat (first|(with_reducible first|exact HB.out|apply zzD|apply zzE|apply zzF)|exact HB.out)) hb);clear HB;have HB:=n0_;clear n0_ hb))
 go_ret
 exact ⟨rfl,HB.out⟩
set_option maxHeartbeats 8000000 in
set_option maxRecDepth 100000 in
theorem gvalid_calls (A0 : Option Addr) (c0 : Nat) (N : List Int) (A1 : Option Addr) (c1 : Nat) (L : List S34) (w : World) (hr0 : Kd.C (Kd.int .i64) w A0 N.length N) (hc0 : N.length ≤ c0) (hr1 : Kd.C k34 w A1 L.length L) (hc1 : L.length ≤ c1) :
  Calls Try.prog 62 #[.agg #[.slice A0 N.length c0,.slice A1 L.length c1]] w fun e w'=>e = .returned (.int .i64 (gvalidE N L)) ∧ Below w.heap.size w w':=by
 have HR0:=Aside0.mk hr0
 have HR1:=Aside0.mk hr1
 have HC0:=Aside0.mk hc0
 have HC1:=Aside0.mk hc1
 clear hr0 hc0 hr1 hc1
 have HB:=Aside0.mk (Below.refl w.heap.size w)
 go_enter Try.func62,Try.ntmps62
 go_upto_region 1 with (first|((with_reducible refine gate_dst (N:=1) rfl ?_);refine box_event ?hg (N:=1) ?hd (cs:=#[.slice A0 N.length c0,.slice A1 L.length c1]) (t:=30) ?hr ?_;(case hd=>rfl);(case hg=>rfl);(case hr=>first|(go_simp;done)|(go_simp;rfl));intro gb hg w1 hbox hb;have n0_:=Aside0.mk (below_step HB.out hb);clear HB;have HB:=n0_;clear n0_ hb hg;have BK:=Aside0.mk hbox;have hc0 : w1.cell? ⟨gb,0,none⟩ = some (.slice A0 N.length c0):=(blk_cell hbox 0).trans rfl;have hc1 : w1.cell? ⟨gb,1,none⟩ = some (.slice A1 L.length c1):=(blk_cell hbox 1).trans rfl;clear hbox))
 have hmf : ∀ (fn : Fn) (first cap : Array Value) (w : World),(Instr.makeFunc fn first cap).run Try.prog w = .ok (.func fn first cap) w:=fun _ _ _ _=>rfl
 by_cases h1 : 40 < N.length
 ·have k1 : decide (40 < N.length) = true:=decide_eq_true h1
  have k1' : decide ((40 : Int) < (N.length : Int)) = true:=decide_eq_true (by omega)
  go_wp2
  go_ret
  exact ⟨by rw [gvalidE,if_pos (.inl h1)];rfl,(by repeat (first|(with_reducible first|exact HB.out|apply zzD|apply zzE|apply zzF)|exact HB.out))⟩
 ·have k1 : decide (40 < N.length) = false:=decide_eq_false h1
  have k1' : decide ((40 : Int) < (N.length : Int)) = false:=decide_eq_false (by omega)
  by_cases h2 : 80 < L.length
  ·have k2 : decide (80 < L.length) = true:=decide_eq_true h2
   have k2' : decide ((80 : Int) < (L.length : Int)) = true:=decide_eq_true (by omega)
   go_wp2
   go_ret
   exact ⟨by rw [gvalidE,if_pos (.inr h2)];rfl,(by repeat (first|(with_reducible first|exact HB.out|apply zzD|apply zzE|apply zzF)|exact HB.out))⟩
  ·have k2 : decide (80 < L.length) = false:=decide_eq_false h2
   have k2' : decide ((80 : Int) < (L.length : Int)) = false:=decide_eq_false (by omega)
   have HE : gvalidE N L = if N.any (fun t=>!withinB t 99) then 6 else if L.any (fun x=>!fitsB x N.length) then 6 else 0:=by rw [gvalidE,if_neg (by omega)]
   have K1:=Aside0.mk (fun W (hw : Below w.heap.size w W)=>contains_int 76 #[] ent76 (fun t=>!withinB t 99) A0 c0 N W (Kd.C_below HR0.out hw) HC0.out (by omega) (fun W' x _ _=>clo76_calls x W'))
   cases hb1 : N.any (fun t=>!withinB t 99)
   ·rw [hb1] at K1
    have K2:=Aside0.mk (fun W (hw : Below w.heap.size w W) (hg : W.cell? ⟨gb,0,none⟩ = some (.slice A0 N.length c0))=>contains_edge 79 #[.pointer (some ⟨gb,0,none⟩)] ent79 (fun x=>!fitsB x N.length) A1 c1 L W (Kd.C_below HR1.out hw) HC1.out (by omega) (fun W' x hw' _=>clo79_calls x N.length (by omega) gb A0 c0 W' (pw_cell_below hw' hg)))
    cases hb2 : L.any (fun x=>!fitsB x N.length)
    all_goals
     rw [hb2] at K2
     go_wp2_with (first|(go_at_call 47;(refine (K1.out _ (by repeat (first|(with_reducible first|exact HB.out|apply zzD|apply zzE|apply zzF)|exact HB.out))).mono ?_);rintro e w3 ⟨rfl,hb⟩;have m0_:=Aside0.mk (blk_below (g:=gb) (o:=.cells #[.slice A0 N.length c0,.slice A1 L.length c1] 30 (0,0)) (by (with_reducible repeat (first|refine blk_drewN ?_ _|refine blk_drew ?_|refine blk_alloc ?_ _));exact BK.out) hb);have n0_:=Aside0.mk (below_step (by repeat (first|(with_reducible first|exact HB.out|apply zzD|apply zzE|apply zzF)|exact HB.out)) hb);clear HB BK;have HB:=n0_;have BK:=m0_;clear n0_ m0_ hb;have hcw30 : w3.cell? ⟨gb,0,none⟩ = some (.slice A0 N.length c0):=(blk_cell BK.out 0).trans rfl;have hcw31 : w3.cell? ⟨gb,1,none⟩ = some (.slice A1 L.length c1):=(blk_cell BK.out 1).trans rfl)|(go_at_call 78;(refine (K2.out _ (by repeat (first|(with_reducible first|exact HB.out|apply zzD|apply zzE|apply zzF)|exact HB.out)) ((blk_cell (by (with_reducible repeat (first|refine blk_drewN ?_ _|refine blk_drew ?_|refine blk_alloc ?_ _));exact BK.out) 0).trans rfl)).mono ?_);rintro e w4 ⟨rfl,hb⟩;have m0_:=Aside0.mk (blk_below (g:=gb) (o:=.cells #[.slice A0 N.length c0,.slice A1 L.length c1] 30 (0,0)) (by (with_reducible repeat (first|refine blk_drewN ?_ _|refine blk_drew ?_|refine blk_alloc ?_ _));exact BK.out) hb);have n0_:=Aside0.mk (below_step (by repeat (first|(with_reducible first|exact HB.out|apply zzD|apply zzE|apply zzF)|exact HB.out)) hb);clear HB BK;have HB:=n0_;have BK:=m0_;clear n0_ m0_ hb;have hcw40 : w4.cell? ⟨gb,0,none⟩ = some (.slice A0 N.length c0):=(blk_cell BK.out 0).trans rfl;have hcw41 : w4.cell? ⟨gb,1,none⟩ = some (.slice A1 L.length c1):=(blk_cell BK.out 1).trans rfl))
     go_ret
     exact ⟨by rw [HE,hb1,hb2];rfl,(by repeat (first|(with_reducible first|exact HB.out|apply zzD|apply zzE|apply zzF)|exact HB.out))⟩
   ·rw [hb1] at K1
    go_wp2_with (first|(go_at_call 47;(refine (K1.out _ (by repeat (first|(with_reducible first|exact HB.out|apply zzD|apply zzE|apply zzF)|exact HB.out))).mono ?_);rintro e w3 ⟨rfl,hb⟩;have m0_:=Aside0.mk (blk_below (g:=gb) (o:=.cells #[.slice A0 N.length c0,.slice A1 L.length c1] 30 (0,0)) (by (with_reducible repeat (first|refine blk_drewN ?_ _|refine blk_drew ?_|refine blk_alloc ?_ _));exact BK.out) hb);have n0_:=Aside0.mk (below_step (by repeat (first|(with_reducible first|exact HB.out|apply zzD|apply zzE|apply zzF)|exact HB.out)) hb);clear HB BK;have HB:=n0_;have BK:=m0_;clear n0_ m0_ hb;have hcw30 : w3.cell? ⟨gb,0,none⟩ = some (.slice A0 N.length c0):=(blk_cell BK.out 0).trans rfl;have hcw31 : w3.cell? ⟨gb,1,none⟩ = some (.slice A1 L.length c1):=(blk_cell BK.out 1).trans rfl))
    go_ret
    exact ⟨by rw [HE,hb1];rfl,(by repeat (first|(with_reducible first|exact HB.out|apply zzD|apply zzE|apply zzF)|exact HB.out))⟩
set_option maxHeartbeats 8000000 in
set_option maxRecDepth 100000 in
theorem valid_calls (A0 : Option Addr) (c0 : Nat) (N : List Int) (A1 : Option Addr) (c1 : Nat) (L : List S34) (w : World) (hr0 : Kd.C (Kd.int .i64) w A0 N.length N) (hc0 : N.length ≤ c0) (hr1 : Kd.C k34 w A1 L.length L) (hc1 : L.length ≤ c1) :
  Calls Try.prog 37 #[.agg #[.slice A0 N.length c0,.slice A1 L.length c1]] w fun e w'=>e = .returned (.int .i64 (validE N L)) ∧ Below w.heap.size w w':=by
 have HV:=Aside0.mk (fun W (hw : Below w.heap.size w W)=>gvalid_calls A0 c0 N A1 c1 L W (Kd.C_below hr0 hw) hc0 (Kd.C_below hr1 hw) hc1)
 clear hr0 hr1
 have hu30:=Try.underlying30
 obtain ⟨E,hE⟩ : ∃ E,gvalidE N L = E:=⟨_,rfl⟩
 rw [hE] at HV
 have HB:=Aside0.mk (Below.refl w.heap.size w)
 go_enter Try.func37,Try.ntmps37
 by_cases h1 : E = 0
 ·subst h1
  by_cases h2 : 8 < N.length
  ·have k2 : decide (8 < N.length) = true:=decide_eq_true h2
   have k2' : decide ((8 : Int) < (N.length : Int)) = true:=decide_eq_true (by omega)
   go_wp2_with (first|((with_reducible refine gate_dst (N:=1) rfl ?_);refine box_event ?hg (N:=1) ?hd (cs:=#[.slice A0 N.length c0,.slice A1 L.length c1]) (t:=30) ?hr ?_;(case hd=>rfl);(case hg=>rfl);(case hr=>first|(go_simp;done)|(go_simp;rfl));intro gb hg w1 hbox hb;have n0_:=Aside0.mk (below_step HB.out hb);clear HB;have HB:=n0_;clear n0_ hb hg;have BK:=Aside0.mk hbox;have hc0 : w1.cell? ⟨gb,0,none⟩ = some (.slice A0 N.length c0):=(blk_cell hbox 0).trans rfl;have hc1 : w1.cell? ⟨gb,1,none⟩ = some (.slice A1 L.length c1):=(blk_cell hbox 1).trans rfl;clear hbox)|(go_at_call 62;(refine (HV.out _ (by repeat (first|(with_reducible first|exact HB.out|apply zzD|apply zzE|apply zzF)|exact HB.out))).mono ?_);rintro e w2 ⟨rfl,hb⟩;have m0_:=Aside0.mk (blk_below (g:=gb) (o:=.cells #[.slice A0 N.length c0,.slice A1 L.length c1] 30 (0,0)) (by (with_reducible repeat (first|refine blk_drewN ?_ _|refine blk_drew ?_|refine blk_alloc ?_ _));exact BK.out) hb);have n0_:=Aside0.mk (below_step (by repeat (first|(with_reducible first|exact HB.out|apply zzD|apply zzE|apply zzF)|exact HB.out)) hb);clear HB BK;have HB:=n0_;have BK:=m0_;clear n0_ m0_ hb;have hcw20 : w2.cell? ⟨gb,0,none⟩ = some (.slice A0 N.length c0):=(blk_cell BK.out 0).trans rfl;have hcw21 : w2.cell? ⟨gb,1,none⟩ = some (.slice A1 L.length c1):=(blk_cell BK.out 1).trans rfl))
   go_ret
   exact ⟨by rw [validE,if_neg (by simp [hE]),if_pos h2];rfl,(by repeat (first|(with_reducible first|exact HB.out|apply zzD|apply zzE|apply zzF)|exact HB.out))⟩
  ·have k2 : decide (8 < N.length) = false:=decide_eq_false h2
   have k2' : decide ((8 : Int) < (N.length : Int)) = false:=decide_eq_false (by omega)
   go_wp2_with (first|((with_reducible refine gate_dst (N:=1) rfl ?_);refine box_event ?hg (N:=1) ?hd (cs:=#[.slice A0 N.length c0,.slice A1 L.length c1]) (t:=30) ?hr ?_;(case hd=>rfl);(case hg=>rfl);(case hr=>first|(go_simp;done)|(go_simp;rfl));intro gb hg w1 hbox hb;have n0_:=Aside0.mk (below_step HB.out hb);clear HB;have HB:=n0_;clear n0_ hb hg;have BK:=Aside0.mk hbox;have hc0 : w1.cell? ⟨gb,0,none⟩ = some (.slice A0 N.length c0):=(blk_cell hbox 0).trans rfl;have hc1 : w1.cell? ⟨gb,1,none⟩ = some (.slice A1 L.length c1):=(blk_cell hbox 1).trans rfl;clear hbox)|(go_at_call 62;(refine (HV.out _ (by repeat (first|(with_reducible first|exact HB.out|apply zzD|apply zzE|apply zzF)|exact HB.out))).mono ?_);rintro e w2 ⟨rfl,hb⟩;have m0_:=Aside0.mk (blk_below (g:=gb) (o:=.cells #[.slice A0 N.length c0,.slice A1 L.length c1] 30 (0,0)) (by (with_reducible repeat (first|refine blk_drewN ?_ _|refine blk_drew ?_|refine blk_alloc ?_ _));exact BK.out) hb);have n0_:=Aside0.mk (below_step (by repeat (first|(with_reducible first|exact HB.out|apply zzD|apply zzE|apply zzF)|exact HB.out)) hb);clear HB BK;have HB:=n0_;have BK:=m0_;clear n0_ m0_ hb;have hcw20 : w2.cell? ⟨gb,0,none⟩ = some (.slice A0 N.length c0):=(blk_cell BK.out 0).trans rfl;have hcw21 : w2.cell? ⟨gb,1,none⟩ = some (.slice A1 L.length c1):=(blk_cell BK.out 1).trans rfl))
   go_ret
   exact ⟨by rw [validE,if_neg (by simp [hE]),if_neg h2];rfl,(by repeat (first|(with_reducible first|exact HB.out|apply zzD|apply zzE|apply zzF)|exact HB.out))⟩
 ·have k1 : (E != 0) = true:=bne_iff_ne.mpr h1
  have k1' : (E == 0) = false:=beq_eq_false_iff_ne.mpr h1
  go_wp2_with (first|((with_reducible refine gate_dst (N:=1) rfl ?_);refine box_event ?hg (N:=1) ?hd (cs:=#[.slice A0 N.length c0,.slice A1 L.length c1]) (t:=30) ?hr ?_;(case hd=>rfl);(case hg=>rfl);(case hr=>first|(go_simp;done)|(go_simp;rfl));intro gb hg w1 hbox hb;have n0_:=Aside0.mk (below_step HB.out hb);clear HB;have HB:=n0_;clear n0_ hb hg;have BK:=Aside0.mk hbox;have hc0 : w1.cell? ⟨gb,0,none⟩ = some (.slice A0 N.length c0):=(blk_cell hbox 0).trans rfl;have hc1 : w1.cell? ⟨gb,1,none⟩ = some (.slice A1 L.length c1):=(blk_cell hbox 1).trans rfl;clear hbox)|(go_at_call 62;(refine (HV.out _ (by repeat (first|(with_reducible first|exact HB.out|apply zzD|apply zzE|apply zzF)|exact HB.out))).mono ?_);rintro e w2 ⟨rfl,hb⟩;have m0_:=Aside0.mk (blk_below (g:=gb) (o:=.cells #[.slice A0 N.length c0,.slice A1 L.length c1] 30 (0,0)) (by (with_reducible repeat (first|refine blk_drewN ?_ _|refine blk_drew ?_|refine blk_alloc ?_ _));exact BK.out) hb);have n0_:=Aside0.mk (below_step (by repeat (first|(with_reducible first|exact HB.out|apply zzD|apply zzE|apply zzF)|exact HB.out)) hb);clear HB BK;have HB:=n0_;have BK:=m0_;clear n0_ m0_ hb;have hcw20 : w2.cell? ⟨gb,0,none⟩ = some (.slice A0 N.length c0):=(blk_cell BK.out 0).trans rfl;have hcw21 : w2.cell? ⟨gb,1,none⟩ = some (.slice A1 L.length c1):=(blk_cell BK.out 1).trans rfl))
  go_ret
  exact ⟨by rw [validE,if_pos (by rw [hE];exact h1),hE];rfl,(by repeat (first|(with_reducible first|exact HB.out|apply zzD|apply zzE|apply zzF)|exact HB.out))⟩
end Go.Proofs.Ytgmomcjnldahjaa.Pr
namespace Go.Proofs.Ytgmomcjnldahjaa.Pr
open Go.RowKit Go.Proofs.YtgmomcjnldahjaaW.PrintWords Go.Proofs.YtgmomcjnldahjaaW.PrintLast Go.Proofs.YtgmomcjnldahjaaW.PrintMore
attribute [local go_sem] max2_int min2_int max_two min_two max_three min_three max_four min_four
set_option linter.unusedVariables false
set_option linter.unusedSimpArgs false
def canon_tabled_1.f (a0 : Int) (a1 : Int) (l2 : List (S34)) : Option (Int):=if 0 ≤ a0 then (if a0 < (l2.length : Int) then (if 0 ≤ a1 then (if a1 < (l2.length : Int) then (some (wrap64 (((rd_T34 l2 a0).f0) - ((rd_T34 l2 a1).f0)))) else (none)) else (none)) else (none)) else (none)
set_option maxHeartbeats 8000000 in
set_option maxRecDepth 100000 in
theorem canon_tabled_1.calls (a0 : Int) (a1 : Int) (A2 : Option Addr) (c2 : Nat) (l2 : List (S34)) (r : Int) (w : World) (hr2 : Kd.C k34 w A2 l2.length l2) (hc2 : l2.length ≤ c2) (h : canon_tabled_1.f a0 a1 l2 = some r) {gb : Nat} (hg1 : w.cell? ⟨gb,1,none⟩ = some (.slice A2 l2.length c2)) :
  Calls Try.prog 66 #[.int .i64 a0,.int .i64 a1,.pointer (some ⟨gb,0,none⟩)] w fun e w'=>e = .returned (.int .i64 r) ∧ Drawn0 w w':=by
 have HR2:=Aside0.mk hr2
 have HC2:=Aside0.mk hc2
 clear hr2 hc2
 have H : (if 0 ≤ a0 then (if a0 < (l2.length : Int) then (if 0 ≤ a1 then (if a1 < (l2.length : Int) then (some (wrap64 (((rd_T34 l2 a0).f0) - ((rd_T34 l2 a1).f0)))) else (none)) else (none)) else (none)) else (none)) = some r:=h
 clear h
 by_cases c4 : 0 ≤ a0
 ·rw [if_pos c4] at H
  have c4b0 : decide (0 ≤ a0) = true:=decide_eq_true c4
  clear c4
  by_cases c5 : a0 < (l2.length : Int)
  ·rw [if_pos c5] at H
   have c5b0 : decide (a0 < (l2.length : Int)) = true:=decide_eq_true c5
   clear c5
   by_cases c6 : 0 ≤ a1
   ·rw [if_pos c6] at H
    have c6b0 : decide (0 ≤ a1) = true:=decide_eq_true c6
    clear c6
    by_cases c7 : a1 < (l2.length : Int)
    ·rw [if_pos c7] at H
     have c7b0 : decide (a1 < (l2.length : Int)) = true:=decide_eq_true c7
     clear c7
     obtain rfl:=Option.some.inj H
     have p112 : 0 ≤ (a0 : Int):=of_decide_eq_true (by first|(with_reducible assumption)|assumption)
     have q112 : a0 < (l2.length : Int):=of_decide_eq_true (by first|(with_reducible assumption)|assumption)
     obtain ⟨ad112,e112,hx112_0,hx112_1,hx112_2⟩:=at_T34 HR2.out a0 p112 q112
     cases e112
     replace p112:=eq_true p112
     replace q112:=eq_true q112
     have p113 : 0 ≤ (a1 : Int):=of_decide_eq_true (by first|(with_reducible assumption)|assumption)
     have q113 : a1 < (l2.length : Int):=of_decide_eq_true (by first|(with_reducible assumption)|assumption)
     obtain ⟨ad113,e113,hx113_0,hx113_1,hx113_2⟩:=at_T34 HR2.out a1 p113 q113
     obtain rfl : ad112 = ad113:=(by injection e113)
     replace p113:=eq_true p113
     replace q113:=eq_true q113
     go_enter Try.func66,Try.ntmps66
     go_wp2
     repeat (go_quiet (fail);try go_wp2)
     go_ret
     exact ⟨by first|rfl|(simp;done)|(simp [*];done),by repeat (first|exact Drawn0.refl _|apply Drawn0.step)⟩
    ·rw [if_neg c7] at H
     exact absurd H (by simp)
   ·rw [if_neg c6] at H
    exact absurd H (by simp)
  ·rw [if_neg c5] at H
   exact absurd H (by simp)
 ·rw [if_neg c4] at H
  exact absurd H (by simp)
theorem goesW {ops : Array Oper} {Q : Exit → Act → World → Prop} {oi : Oper} {N : Option Tmp} {a : Act} {w : World} {K : Act → World → Prop} {q : FuncId} {caps : Array Value} {t : Operand} {xs : Array Operand} {ts : Array TypeId} (hq : Ent q) (args all : Array Value) (hall : args ++ caps = all)
  (hw : Region.wanted oi (yielded ops a.tmps) = true) (hN : oi.dst = N) (hop : oi.op = .call { callee:=.value t,args:=xs,argTypes:=ts }) (hv : a.eval t = .func (.func q) #[] caps) (hargs : xs.map a.eval = args)
  (h : Calls Try.prog q all w fun e w'=>∃ v,e = .returned v ∧ K (a.put N v) w') : if Region.wanted oi (yielded ops a.tmps) = true then Oper.wp Try.prog oi a w K Q else K (a.put N undef) w:=by
 subst hall
 obtain ⟨fn,hf,hname,hb⟩:=hq
 refine call_ q (args ++ caps) hw hN ?_ h
 have he:=enters_ hf hname hb (args ++ caps) w
 unfold execOp
 simp [hop,resolve,Deferred.ofValue,invoke,hv,hargs,he]
theorem ent66 : Ent 66:=⟨_,Try.func66,rfl,rfl⟩
mutual
def slices_insertionSortCmpFunc_int.l0 : Nat → List Int → Int → Int → List (S34) → Int → Option (List Int)
 | 0,_,_,_,_,_ => none
 | k + 1,x0,x1,x2,x3,x8 => if x8 < x2 then (slices_insertionSortCmpFunc_int.l1 k x0 x1 x2 x3 x8 x8) else (some x0)
def slices_insertionSortCmpFunc_int.l1 : Nat → List Int → Int → Int → List (S34) → Int → Int → Option (List Int)
 | 0,_,_,_,_,_,_ => none
 | k + 1,x0,x1,x2,x3,x8,x9 => if x9 > x1 then (if 0 ≤ x9 then (if x9 < (x0.length : Int) then (if 0 ≤ (wrap64 (x9 - 1)) then (if (wrap64 (x9 - 1)) < (x0.length : Int) then ((canon_tabled_1.f (rd x0 x9) (rd x0 (wrap64 (x9 - 1))) x3).bind fun t116 => (if t116 < 0 then (slices_insertionSortCmpFunc_int.l1 k ((x0.set (x9 : Int).toNat (rd x0 (wrap64 (x9 - 1)))).set ((wrap64 (x9 - 1)) : Int).toNat (rd x0 x9)) x1 x2 x3 x8 (wrap64 (x9 - 1))) else (slices_insertionSortCmpFunc_int.l0 k x0 x1 x2 x3 (wrap64 (x8 + 1))))) else (none)) else (none)) else (none)) else (none)) else (slices_insertionSortCmpFunc_int.l0 k x0 x1 x2 x3 (wrap64 (x8 + 1)))
end
def slices_insertionSortCmpFunc_int.f (k : Nat) (l0 : List Int) (a1 : Int) (a2 : Int) (l3 : List (S34)) : Option (List Int):=slices_insertionSortCmpFunc_int.l0 k l0 a1 a2 l3 (wrap64 (a1 + 1))
def slices_insertionSortCmpFunc_int.T4 : Bool × List (List Nat × List Nat):=(true,[([],[]),([],[]),([0,1],[0,1]),([2],[2]),([3],[3]),([3],[3]),([3],[3]),([5,6,3],[3,5,6]),([7,3],[3,7]),([3],[3]),([3],[3]),([10,3],[3,10]),([9,11,3],[3,9,11]),([12,3],[3,12]),([4,8,13,3,3],[3,4,8,13]),([14,3],[3,14]),([3,15],[3,15])])
def slices_insertionSortCmpFunc_int.B4 : List Nat:=[0,0,3,7,15,15,15,111,239,15,15,1039,3599,7695,16383,32767,65535]
theorem slices_insertionSortCmpFunc_int.tab4 : rtab .any (opsOf Try.f88 4) = slices_insertionSortCmpFunc_int.T4:=by kernel_rfl
theorem slices_insertionSortCmpFunc_int.bits4 : waitsOk slices_insertionSortCmpFunc_int.T4.2 slices_insertionSortCmpFunc_int.B4 = true:=by kernel_rfl
def slices_insertionSortCmpFunc_int.T6 : Bool × List (List Nat × List Nat):=(true,[([],[]),([],[]),([],[]),([],[]),([3],[3]),([],[]),([],[]),([6],[6]),([5,7],[5,7]),([8],[8]),([],[]),([],[]),([10,11],[10,11]),([12],[12]),([0,1,0,1,5,6,7,8,9,13],[0,1]),([14,9,0,1,5,6,7,8,9,13],[9,14]),([2,4,0,1,2,3,4,5,6,7,8,9,10,11,12,13,14,15],[2,4]),([16,13,15,0,1,2,3,4,5,6,7,8,9,10,11,12,13,14,15],[13,16])])
def slices_insertionSortCmpFunc_int.B6 : List Nat:=[0,0,0,0,8,0,0,64,224,480,0,0,3072,7168,16355,32739,65535,131071]
theorem slices_insertionSortCmpFunc_int.tab6 : rtab .any (opsOf Try.f88 6) = slices_insertionSortCmpFunc_int.T6:=by kernel_rfl
theorem slices_insertionSortCmpFunc_int.bits6 : waitsOk slices_insertionSortCmpFunc_int.T6.2 slices_insertionSortCmpFunc_int.B6 = true:=by kernel_rfl
set_option maxHeartbeats 8000000 in
set_option maxRecDepth 100000 in
theorem slices_insertionSortCmpFunc_int.calls (k : Nat) (P0_ : Nat → Prop) (u9000_ : Value) (l0 : List Int) (a1 : Int) (a2 : Int) (A3 : Option Addr) (c3 : Nat) (l3 : List (S34)) (r : List Int) (w0 w : World) (hB : Below w0.heap.size w0 w) (ho0 : Kd.R (Kd.int .i64) 3 w w0.heap.size P0_ u9000_ l0) (hr3 : ∀ W_,Kept w W_ (fun k_=>P0_ k_) → Kd.C k34 W_ A3 l3.length l3) (hc3 : l3.length ≤ c3) (h : slices_insertionSortCmpFunc_int.f k l0 a1 a2 l3 = some r) {gb : Nat} (hg1 : ∀ W_,Kept w W_ (fun k_=>P0_ k_) → W_.cell? ⟨gb,1,none⟩ = some (.slice A3 l3.length c3)) :
  Calls Try.prog 88 #[u9000_,.int .i64 a1,.int .i64 a2,.func (.func 66) #[] #[.pointer (some ⟨gb,0,none⟩)]] w fun e w'=>e = .returned (.tuple #[]) ∧ Kd.R (Kd.int .i64) 3 w' w0.heap.size (fun k_=>(P0_ k_ ∨ w.heap.size ≤ k_)) u9000_ r ∧ Below w0.heap.size w0 w' ∧ Kept w w' (fun k_=>P0_ k_):=by
 have HO0:=Aside0.mk (show Kd.R (Kd.int .i64) 3 w w0.heap.size (fun k_=>(P0_ k_ ∨ w.heap.size ≤ k_)) u9000_ l0 from Kd.R_mono ho0 (fun k_ hk=>(.inl hk)))
 have HR3:=Aside0.mk hr3
 have HC3:=Aside0.mk hc3
 clear hr3 hc3
 have HG1:=Aside0.mk hg1
 clear hg1
 have HK:=Aside0.mk (Kept.refl w (fun k_=>P0_ k_))
 have HW0:=Aside0.mk hB.size
 have HB:=Aside0.mk hB
 clear hB
 have H : (slices_insertionSortCmpFunc_int.l0 k l0 a1 a2 l3 (wrap64 (a1 + 1))) = some r:=h
 clear h
 have H':=Aside0.mk H
 clear H
 go_enter Try.func88,Try.ntmps88
 go_wp2
 go_loopg [8] k (fun kq v8 w'=>∃ (x0_1 : List Int) (x8_1 : Int),v8 = .int .i64 x8_1 ∧ Aside0 (slices_insertionSortCmpFunc_int.l0 kq x0_1 a1 a2 l3 x8_1 = some r) ∧ Aside0 (kq ≤ k) ∧ Aside0 (Kd.R (Kd.int .i64) 3 w' w0.heap.size (fun k_=>(P0_ k_ ∨ w.heap.size ≤ k_)) u9000_ x0_1) ∧ Aside0 (Kept w w' (fun k_=>P0_ k_)) ∧ Aside0 (Below w0.heap.size w0 w'))
 case atStart=>exact ⟨(l0),(wrap64 (a1 + 1)),(by first|rfl|(simp;done)|(simp [*];done)),H',⟨Nat.le_refl _⟩,⟨by (with_reducible repeat (first|apply Kd.R_alloc|apply Kd.R_drewN|apply Kd.R_drew));exact HO0.out⟩,⟨by repeat (first|(with_reducible first|exact HK.out|apply Kept.alloc|apply Kept.drewN|apply Kept.drew)|exact HK.out)⟩,⟨by repeat (first|(with_reducible first|exact HB.out|apply zzD|apply zzE|apply zzF)|exact HB.out)⟩⟩
 case round =>
  clear H'
  try clear p2
  try clear c3
  obtain ⟨x0_1,x8_1,rfl,HA,HK1,HO_0,HK,HB⟩:=hrel
  cases gk with
  | zero => exact absurd HA.out (by simp [slices_insertionSortCmpFunc_int.l0])
  | succ k1 =>
   have H:=HA.out
   clear HA
   simp only [slices_insertionSortCmpFunc_int.l0] at H
   by_cases c5 : x8_1 < a2
   ·rw [if_pos c5] at H
    have c5b0 : decide (x8_1 < a2) = true:=decide_eq_true c5
    clear c5
    have H':=Aside0.mk H
    clear H
    go_wp2
    go_loopg [9] k1 (fun kq v9 w'=>∃ (x0_2 : List Int) (x9_2 : Int),v9 = .int .i64 x9_2 ∧ Aside0 (slices_insertionSortCmpFunc_int.l1 kq x0_2 a1 a2 l3 x8_1 x9_2 = some r) ∧ Aside0 (kq ≤ k1) ∧ Aside0 (Kd.R (Kd.int .i64) 3 w' w0.heap.size (fun k_=>(P0_ k_ ∨ w.heap.size ≤ k_)) u9000_ x0_2) ∧ Aside0 (Kept w w' (fun k_=>P0_ k_)) ∧ Aside0 (Below w0.heap.size w0 w'))
    case atStart=>exact ⟨(x0_1),(x8_1),(by first|rfl|(simp;done)|(simp [*];done)),H',⟨Nat.le_refl _⟩,⟨by (with_reducible repeat (first|apply Kd.R_alloc|apply Kd.R_drewN|apply Kd.R_drew));exact HO_0.out⟩,⟨by repeat (first|(with_reducible first|exact HK.out|apply Kept.alloc|apply Kept.drewN|apply Kept.drew)|exact HK.out)⟩,⟨by repeat (first|(with_reducible first|exact HB.out|apply zzD|apply zzE|apply zzF)|exact HB.out)⟩⟩
    case round =>
     clear H'
     try clear p2
     try clear c3
     try clear c5
     try clear c5b0
     try clear p2
     obtain ⟨x0_2,x9_2,rfl,HA,HK2,HO_0,HK,HB⟩:=hrel
     cases gk with
     | zero => exact absurd HA.out (by simp [slices_insertionSortCmpFunc_int.l1])
     | succ k2 =>
      have H:=HA.out
      clear HA
      simp only [slices_insertionSortCmpFunc_int.l1] at H
      by_cases c6 : x9_2 > a1
      ·rw [if_pos c6] at H
       have c6b0 : decide (a1 < x9_2) = true:=decide_eq_true c6
       clear c6
       by_cases c7 : 0 ≤ x9_2
       ·rw [if_pos c7] at H
        have c7b0 : decide (0 ≤ x9_2) = true:=decide_eq_true c7
        clear c7
        by_cases c8 : x9_2 < (x0_2.length : Int)
        ·rw [if_pos c8] at H
         have c8b0 : decide (x9_2 < (x0_2.length : Int)) = true:=decide_eq_true c8
         clear c8
         obtain ⟨ji9,hji9⟩ : ∃ j_ : Int,(wrap64 (x9_2 - 1)) = j_:=⟨_,rfl⟩
         replace H : (if 0 ≤ (ji9) then (if (ji9) < (x0_2.length : Int) then ((canon_tabled_1.f (rd x0_2 x9_2) (rd x0_2 (ji9)) l3).bind fun t116=>(if t116 < 0 then (slices_insertionSortCmpFunc_int.l1 k2 ((x0_2.set (x9_2 : Int).toNat (rd x0_2 (ji9))).set ((ji9) : Int).toNat (rd x0_2 x9_2)) a1 a2 l3 x8_1 ji9) else (slices_insertionSortCmpFunc_int.l0 k2 x0_2 a1 a2 l3 (wrap64 (x8_1 + 1))))) else (none)) else (none)) = some r:=by first|(rw [hji9] at H;exact H)|(simp only [hji9] at H ⊢;exact H)
         have hji9w : (IntKind.i64.wrap (x9_2 - 1)) = ji9:=(i64_w _).trans hji9
         by_cases c10 : 0 ≤ (ji9)
         ·rw [if_pos c10] at H
          have c10b0 : decide (0 ≤ (ji9)) = true:=decide_eq_true c10
          clear c10
          by_cases c11 : (ji9) < (x0_2.length : Int)
          ·rw [if_pos c11] at H
           have c11b0 : decide ((ji9) < (x0_2.length : Int)) = true:=decide_eq_true c11
           clear c11
           replace H:=Option.bind_eq_some_iff.mp H
           obtain ⟨t116,A120,H⟩:=H
           replace H : (if t116 < 0 then (slices_insertionSortCmpFunc_int.l1 k2 ((x0_2.set (x9_2 : Int).toNat (rd x0_2 (ji9))).set ((ji9) : Int).toNat (rd x0_2 x9_2)) a1 a2 l3 x8_1 ji9) else (slices_insertionSortCmpFunc_int.l0 k2 x0_2 a1 a2 l3 (wrap64 (x8_1 + 1)))) = some r:=H
           have A12:=Aside0.mk A120
           clear A120
           by_cases c13 : t116 < 0
           ·rw [if_pos c13] at H
            have c13b0 : decide (t116 < 0) = true:=decide_eq_true c13
            clear c13
            obtain ⟨y119,hy119⟩ : ∃ y_ : List Int,y_ = (x0_2.set (x9_2 : Int).toNat (rd x0_2 (ji9))):=⟨_,rfl⟩
            replace H : (slices_insertionSortCmpFunc_int.l1 k2 (y119.set ((ji9) : Int).toNat (rd x0_2 x9_2)) a1 a2 l3 x8_1 ji9) = some r:=by first|(rw [hy119];with_reducible exact H)|(have H2_:=(Option.bind_some _ _).symm.trans H;rw [hy119];with_reducible exact H2_)|(have H2_:=(Option.bind_some _ _).symm.trans H;with_reducible exact H2_)|with_reducible exact H|(rw [hy119];exact H)|exact H
            have Ny119:=Aside0.mk hy119
            clear hy119
            obtain ⟨y120,hy120⟩ : ∃ y_ : List Int,y_ = (y119.set ((ji9) : Int).toNat (rd x0_2 x9_2)):=⟨_,rfl⟩
            replace H : (slices_insertionSortCmpFunc_int.l1 k2 y120 a1 a2 l3 x8_1 ji9) = some r:=by first|(rw [hy120];with_reducible exact H)|(have H2_:=(Option.bind_some _ _).symm.trans H;rw [hy120];with_reducible exact H2_)|(have H2_:=(Option.bind_some _ _).symm.trans H;with_reducible exact H2_)|with_reducible exact H|(rw [hy120];exact H)|exact H
            have Ny120:=Aside0.mk hy120
            clear hy120
            have H':=Aside0.mk H
            clear H
            try go_wp2
            have n0_:=Aside0.mk (Kd.R_drew HO_0.out)
            have n1_:=Aside0.mk (Kept.drew HK.out)
            have n2_:=Aside0.mk (zzF HB.out)
            clear HO_0
            clear HK
            clear HB
            have HO_0:=n0_
            have HK:=n1_
            have HB:=n2_
            clear n0_ n1_ n2_
            obtain ⟨Ao17,co17,eo17⟩:=Kd.R_slice HO_0.out
            (first|subst eo17|(injection eo17 with f1_ f2_ f3_;have f4_:=f1_.symm;have f5_:=f3_.symm;clear f1_ f2_ f3_;subst f4_;subst f5_))
            have p114 : 0 ≤ (x9_2 : Int):=of_decide_eq_true (by first|(with_reducible assumption)|assumption)
            have q114 : x9_2 < (x0_2.length : Int):=of_decide_eq_true (by first|(with_reducible assumption)|assumption)
            obtain ⟨ad114,e114,hx114_0⟩:=Kd.at_int (Kd.R_reads' HO_0.out).2.2 x9_2 p114 q114
            cases e114
            replace p114:=eq_true p114
            replace q114:=eq_true q114
            have p115 : 0 ≤ ((ji9) : Int):=of_decide_eq_true (by first|(with_reducible assumption)|assumption)
            have q115 : (ji9) < (x0_2.length : Int):=of_decide_eq_true (by first|(with_reducible assumption)|assumption)
            obtain ⟨ad115,e115,hx115_0⟩:=Kd.at_int (Kd.R_reads' HO_0.out).2.2 (ji9) p115 q115
            obtain rfl : ad114 = ad115:=(by injection e115)
            replace p115:=eq_true p115
            replace q115:=eq_true q115
            refine start_ (n:=17) (S:=fun w'=>w'.cell? (ad114.add (x9_2).toNat) = some (.int .i64 (rd x0_2 x9_2)) ∧ w'.cell? (ad114.add ((ji9)).toNat) = some (.int .i64 (rd x0_2 (ji9)))) (ds:=[]) #[false,false,false,false,false,false,false,false,false,false,false,false,false,false,false,false,false] (by kernel_rfl) rfl rfl ⟨hx114_0,hx115_0⟩ (fun hHeld=>?_);refine with_tabW slices_insertionSortCmpFunc_int.tab4 slices_insertionSortCmpFunc_int.bits4 (fun HT_ HW_=>?_)
            generalize wr.drew = w16 at HO_0 HK HB hx114_0 hx115_0 hHeld ⊢
            refine pure_ (i:=0) (N:=some 18) (v:=?_) (a':=?_) #[true,false,false,false,false,false,false,false,false,false,false,false,false,false,false,false,false] rfl rfl (any_of HT_.out (by kernel_rfl)) (fun _ _ _ h=>h) (Or.inl ⟨by rfl,?_⟩) ?_ ?_
            rotate_left
            ·intro w'
             go_simp
             with_reducible rfl
            rotate_left
            ·simp only [Act.put,zzA,zzB,zzC,i64_w,i32_w]
             rfl
            refine pure_ (i:=1) (N:=some 19) (v:=?_) (a':=?_) #[true,true,false,false,false,false,false,false,false,false,false,false,false,false,false,false,false] rfl rfl (any_of HT_.out (by kernel_rfl)) (fun _ _ _ h=>h) (Or.inl ⟨by rfl,?_⟩) ?_ ?_
            rotate_left
            ·intro w'
             go_simp
             with_reducible rfl
            rotate_left
            ·simp only [Act.put,zzA,zzB,zzC,i64_w,i32_w]
             rfl
            refine pure_ (i:=2) (N:=some 20) (v:=?_) (a':=?_) #[true,true,true,false,false,false,false,false,false,false,false,false,false,false,false,false,false] rfl rfl (any_of HT_.out (by kernel_rfl)) (fun _ _ _ h=>h) (Or.inl ⟨by rfl,?_⟩) ?_ ?_
            rotate_left
            ·intro w'
             go_simp
             with_reducible rfl
            rotate_left
            ·simp only [Act.put,zzA,zzB,zzC,i64_w,i32_w]
             rfl
            refine pure_ (i:=3) (N:=some 21) (v:=?_) (a':=?_) #[true,true,true,true,false,false,false,false,false,false,false,false,false,false,false,false,false] rfl rfl (any_of HT_.out (by kernel_rfl)) (fun _ _ _ h=>h) (Or.inl ⟨by rfl,?_⟩) ?_ ?_
            rotate_left
            ·intro w'
             go_simp
             with_reducible rfl
            rotate_left
            ·simp only [Act.put,zzA,zzB,zzC,i64_w,i32_w]
             rfl
            refine pure_ (i:=4) (N:=some 22) (v:=?_) (a':=?_) #[true,true,true,true,true,false,false,false,false,false,false,false,false,false,false,false,false] rfl rfl (any_of HT_.out (by kernel_rfl)) (fun _ _ _ h=>h) (Or.inl ⟨by rfl,?_⟩) ?_ ?_
            rotate_left
            ·intro w'
             go_simp
             with_reducible rfl
            rotate_left
            ·simp only [Act.put,zzA,zzB,zzC,i64_w,i32_w]
             rfl
            refine pure_ (i:=5) (N:=some 23) (v:=?_) (a':=?_) #[true,true,true,true,true,true,false,false,false,false,false,false,false,false,false,false,false] rfl rfl (any_of HT_.out (by kernel_rfl)) (fun _ _ _ h=>h) (Or.inl ⟨by rfl,?_⟩) ?_ ?_
            rotate_left
            ·intro w'
             go_simp
             with_reducible rfl
            rotate_left
            ·simp only [Act.put,zzA,zzB,zzC,i64_w,i32_w]
             rfl
            refine pure_ (i:=6) (N:=some 24) (v:=?_) (a':=?_) #[true,true,true,true,true,true,true,false,false,false,false,false,false,false,false,false,false] rfl rfl (any_of HT_.out (by kernel_rfl)) (fun _ _ _ h=>h) (Or.inl ⟨by rfl,?_⟩) ?_ ?_
            rotate_left
            ·intro w'
             go_simp
             with_reducible rfl
            rotate_left
            ·simp only [Act.put,zzA,zzB,zzC,i64_w,i32_w]
             rfl
            refine pure_ (i:=7) (N:=some 25) (v:=?_) (a':=?_) #[true,true,true,true,true,true,true,true,false,false,false,false,false,false,false,false,false] rfl rfl (any_of HT_.out (by kernel_rfl)) (fun _ _ _ h=>h) (Or.inl ⟨by rfl,?_⟩) ?_ ?_
            rotate_left
            ·intro w'
             go_simp
             with_reducible rfl
            rotate_left
            ·simp only [Act.put,zzA,zzB,zzC,i64_w,i32_w]
             rfl
            refine pure_ (i:=9) (N:=some 27) (v:=?_) (a':=?_) #[true,true,true,true,true,true,true,true,false,true,false,false,false,false,false,false,false] rfl rfl (any_of HT_.out (by kernel_rfl)) (fun _ _ _ h=>h) (Or.inl ⟨by rfl,?_⟩) ?_ ?_
            rotate_left
            ·intro w'
             go_simp
             with_reducible rfl
            rotate_left
            ·simp only [Act.put,zzA,zzB,zzC,i64_w,i32_w]
             rfl
            refine pure_ (i:=10) (N:=some 28) (v:=?_) (a':=?_) #[true,true,true,true,true,true,true,true,false,true,true,false,false,false,false,false,false] rfl rfl (any_of HT_.out (by kernel_rfl)) (fun _ _ _ h=>h) (Or.inl ⟨by rfl,?_⟩) ?_ ?_
            rotate_left
            ·intro w'
             go_simp
             with_reducible rfl
            rotate_left
            ·simp only [Act.put,zzA,zzB,zzC,i64_w,i32_w]
             rfl
            refine pure_ (i:=11) (N:=some 29) (v:=?_) (a':=?_) #[true,true,true,true,true,true,true,true,false,true,true,true,false,false,false,false,false] rfl rfl (any_of HT_.out (by kernel_rfl)) (fun _ _ _ h=>h) (Or.inl ⟨by rfl,?_⟩) ?_ ?_
            rotate_left
            ·intro w'
             go_simp
             with_reducible rfl
            rotate_left
            ·simp only [Act.put,zzA,zzB,zzC,i64_w,i32_w]
             rfl
            refine pure_ (i:=12) (N:=some 30) (v:=?_) (a':=?_) #[true,true,true,true,true,true,true,true,false,true,true,true,true,false,false,false,false] rfl rfl (any_of HT_.out (by kernel_rfl)) (fun _ _ _ h=>h) (Or.inl ⟨by rfl,?_⟩) ?_ ?_
            rotate_left
            ·intro w'
             go_simp
             with_reducible rfl
            rotate_left
            ·simp only [Act.put,zzA,zzB,zzC,i64_w,i32_w]
             rfl
            refine take_ (i:=8) (N:=some 26) (v:=?_) (a':=?_) #[true,true,true,true,true,true,true,true,true,true,true,true,true,false,false,false,false] rfl rfl (take_ofW HT_.out HW_.out (by kernel_rfl)) (fun _ _ _ h=>h) (Or.inl ⟨by rfl,?_⟩) hHeld ?_ ?_
            rotate_left
            ·rintro w' ⟨s0,s1⟩
             go_simp
             with_reducible rfl
            rotate_left
            ·simp only [Act.put,zzA,zzB,zzC,i64_w,i32_w]
             rfl
            refine take_ (i:=13) (N:=some 31) (v:=?_) (a':=?_) #[true,true,true,true,true,true,true,true,true,true,true,true,true,true,false,false,false] rfl rfl (take_ofW HT_.out HW_.out (by kernel_rfl)) (fun _ _ _ h=>h) (Or.inl ⟨by rfl,?_⟩) hHeld ?_ ?_
            rotate_left
            ·rintro w' ⟨s0,s1⟩
             go_simp
             with_reducible rfl
            rotate_left
            ·simp only [Act.put,zzA,zzB,zzC,i64_w,i32_w]
             rfl
            refine one_ (i:=14) (N:=some 32) #[true,true,true,true,true,true,true,true,true,true,true,true,true,true,true,false,false] rfl rfl (one_of HT_.out (by kernel_rfl)) (by decide) (fun K hK=>?_)
            refine goesW ent66 #[.int .i64 (rd x0_2 x9_2),.int .i64 (rd x0_2 (ji9))] #[.int .i64 (rd x0_2 x9_2),.int .i64 (rd x0_2 (ji9)),.pointer (some ⟨gb,0,none⟩)] rfl (by rfl) rfl rfl (by rfl) (by (try simp only [List.map_toArray,List.map_cons,List.map_nil]);first|done|(simp only [hji9];rfl)|rfl|(simp only [List.length_drop,List.length_take];rfl)) ?_
            with_reducible refine (canon_tabled_1.calls (rd x0_2 x9_2) (rd x0_2 (ji9)) A3 c3 l3 t116 _ ?side1 ?side2 A12.out ?sg1).mono ?_
            (case side1=>exact Kd.C_kept_now HR3.out (by repeat (first|(with_reducible first|exact HK.out|apply Kept.alloc|apply Kept.drewN|apply Kept.drew)|exact HK.out)))
            (case sg1=>exact HG1.out _ (by repeat (first|(with_reducible first|exact HK.out|apply Kept.alloc|apply Kept.drewN|apply Kept.drew)|exact HK.out)))
            (case side2=>exact HC3.out)
            rintro e w' ⟨rfl,⟨nd,rfl⟩⟩
            refine ⟨_,rfl,?_⟩
            refine hK.out _ _ ⟨hHeld.1,hHeld.2⟩ (fun hHeld=>?_)
            clear hK K
            refine norm_ (a':=?_) ?_ ?_
            rotate_left
            ·show Act.put _ (some 32) _ = _
             simp only [Act.put,zzA,zzB,zzC,i64_w,i32_w]
             rfl
            refine pure_ (i:=15) (N:=some 33) (v:=?_) (a':=?_) #[true,true,true,true,true,true,true,true,true,true,true,true,true,true,true,true,false] rfl rfl (any_of HT_.out (by kernel_rfl)) (fun _ _ _ h=>h) (Or.inl ⟨by rfl,?_⟩) ?_ ?_
            rotate_left
            ·intro w'
             go_simp
             with_reducible rfl
            rotate_left
            ·simp only [Act.put,zzA,zzB,zzC,i64_w,i32_w]
             rfl
            refine pure_ (i:=16) (N:=some 34) (v:=?_) (a':=?_) #[true,true,true,true,true,true,true,true,true,true,true,true,true,true,true,true,true] rfl rfl (any_of HT_.out (by kernel_rfl)) (fun _ _ _ h=>h) (Or.inl ⟨by rfl,?_⟩) ?_ ?_
            rotate_left
            ·intro w'
             go_simp
             with_reducible rfl
            rotate_left
            ·simp only [Act.put,zzA,zzB,zzC,i64_w,i32_w]
             rfl
            refine done_ (done_of HT_.out (by kernel_rfl)) ?_
            try go_wp2
            (try (rw [drewN_self w16];generalize hq_ : World.drewN w16 _ = w16;have n0_ : Aside0 (Kd.R (Kd.int .i64) 3 w16 w0.heap.size (fun k_=>(P0_ k_ ∨ w.heap.size ≤ k_)) (.slice (some ad114) x0_2.length co17) x0_2):=⟨by rw [← hq_];exact (by (with_reducible repeat (first|apply Kd.R_alloc|apply Kd.R_drewN|apply Kd.R_drew));exact HO_0.out)⟩;have n1_ : Aside0 (Kept w w16 (fun k_=>P0_ k_)):=⟨by rw [← hq_];exact (by repeat (first|(with_reducible first|exact HK.out|apply Kept.alloc|apply Kept.drewN|apply Kept.drew)|exact HK.out))⟩;have n2_ : Aside0 (Below w0.heap.size w0 w16):=⟨by rw [← hq_];exact (by repeat (first|(with_reducible first|exact HB.out|apply zzD|apply zzE|apply zzF)|exact HB.out))⟩;clear HO_0 HK HB hq_;have HO_0:=n0_;have HK:=n1_;have HB:=n2_;clear n0_ n1_ n2_))
            have n0_:=Aside0.mk (Kd.R_drew HO_0.out)
            have n1_:=Aside0.mk (Kept.drew HK.out)
            have n2_:=Aside0.mk (zzF HB.out)
            clear HO_0
            clear HK
            clear HB
            have HO_0:=n0_
            have HK:=n1_
            have HB:=n2_
            clear n0_ n1_ n2_
            have p117 : 0 ≤ ((ji9) : Int):=of_decide_eq_true (by first|(with_reducible assumption)|assumption)
            have q117 : (ji9) < (x0_2.length : Int):=of_decide_eq_true (by first|(with_reducible assumption)|assumption)
            obtain ⟨ad117,e117,hx117_0⟩:=Kd.at_int (Kd.R_reads' HO_0.out).2.2 (ji9) p117 q117
            obtain rfl : ad114 = ad117:=(by injection e117)
            replace p117:=eq_true p117
            replace q117:=eq_true q117
            have p118 : 0 ≤ (x9_2 : Int):=of_decide_eq_true (by first|(with_reducible assumption)|assumption)
            have q118 : x9_2 < (x0_2.length : Int):=of_decide_eq_true (by first|(with_reducible assumption)|assumption)
            obtain ⟨ad118,e118,hx118_0⟩:=Kd.at_int (Kd.R_reads' HO_0.out).2.2 x9_2 p118 q118
            obtain rfl : ad114 = ad118:=(by injection e118)
            replace p118:=eq_true p118
            replace q118:=eq_true q118
            have p14 : 0 ≤ (x9_2 : Int):=of_decide_eq_true (by first|(with_reducible assumption)|assumption)
            have q14 : (x9_2 : Int) < ((x0_2.length : Int) : Int):=of_decide_eq_true (by first|(with_reducible assumption)|assumption)
            obtain ⟨go14,co14,eo14,gb14,gl14,cl14,HG14⟩:=Kd.R_form HO_0.out (by omega)
            (first|cases eo14|(injection eo14 with ea_ en_ ec_;(first|subst ea_|(injection ea_ with ea_;subst ea_));subst ec_;clear en_))
            have GB14:=Aside0.mk gb14
            have GG14:=Aside0.mk HG14
            clear gb14 gl14 HG14
            have HMgo14:=Aside0.mk (show (P0_ go14 ∨ w.heap.size ≤ go14) from (HO_0.out.1 _ rfl))
            (first|simp only [add_plain] at hx114_0|skip)
            (first|simp only [add_plain] at hx115_0|skip)
            (first|simp only [add_plain] at hx117_0|skip)
            (first|simp only [add_plain] at hx118_0|skip)
            obtain ⟨hx14_0,hf14_0⟩:=Kd.R_celln 0 HO_0.out (x9_2 : Int) p14 q14
            replace p14:=eq_true p14
            replace q14:=eq_true q14
            have HP19:=Kd.R_putn HO_0.out (x9_2 : Int) (rd x0_2 (ji9))
            rw [← Ny119.out] at HP19
            have HQ19:=Aside0.mk HP19
            clear HP19
            have p15 : 0 ≤ ((ji9) : Int):=of_decide_eq_true (by first|(with_reducible assumption)|assumption)
            have q15 : ((ji9) : Int) < ((x0_2.length : Int) : Int):=of_decide_eq_true (by first|(with_reducible assumption)|assumption)
            obtain ⟨hx15_0,hf15_0⟩:=Kd.R_celln 0 HQ19.out ((ji9) : Int) p15 q15
            replace p15:=eq_true p15
            replace q15:=eq_true q15
            have HP20:=Kd.R_putn HQ19.out ((ji9) : Int) (rd x0_2 x9_2)
            rw [← Ny120.out] at HP20
            have HQ20:=Aside0.mk HP20
            clear HP20
            refine start_ (n:=18) (S:=fun w'=>w'.cell? ⟨go14,((ji9)).toNat,none⟩ = some (.int .i64 (rd x0_2 (ji9))) ∧ w'.cell? ⟨go14,(x9_2).toNat,none⟩ = some (.int .i64 (rd x0_2 x9_2))) (ds:=[15,17]) #[false,false,false,false,false,false,false,false,false,false,false,false,false,false,false,false,false,false] (by kernel_rfl) rfl rfl ⟨hx117_0,hx118_0⟩ (fun hHeld=>?_);refine with_tabW slices_insertionSortCmpFunc_int.tab6 slices_insertionSortCmpFunc_int.bits6 (fun HT_ HW_=>?_)
            generalize w16.drew = w18 at HO_0 HK HB GG14 HQ19 HQ20 hf14_0 hf15_0 hx114_0 hx115_0 hx117_0 hx118_0 hx14_0 hx15_0 hHeld ⊢
            refine pure_ (i:=0) (N:=some 37) (v:=?_) (a':=?_) #[true,false,false,false,false,false,false,false,false,false,false,false,false,false,false,false,false,false] rfl rfl (any_of HT_.out (by kernel_rfl)) (fun _ _ _ h=>h) (Or.inl ⟨by rfl,?_⟩) ?_ ?_
            rotate_left
            ·intro w'
             go_simp
             with_reducible rfl
            rotate_left
            ·simp only [Act.put,zzA,zzB,zzC,i64_w,i32_w]
             rfl
            refine pure_ (i:=1) (N:=some 38) (v:=?_) (a':=?_) #[true,true,false,false,false,false,false,false,false,false,false,false,false,false,false,false,false,false] rfl rfl (any_of HT_.out (by kernel_rfl)) (fun _ _ _ h=>h) (Or.inl ⟨by rfl,?_⟩) ?_ ?_
            rotate_left
            ·intro w'
             go_simp
             with_reducible rfl
            rotate_left
            ·simp only [Act.put,zzA,zzB,zzC,i64_w,i32_w]
             rfl
            refine pure_ (i:=2) (N:=some 39) (v:=?_) (a':=?_) #[true,true,true,false,false,false,false,false,false,false,false,false,false,false,false,false,false,false] rfl rfl (any_of HT_.out (by kernel_rfl)) (fun _ _ _ h=>h) (Or.inl ⟨by rfl,?_⟩) ?_ ?_
            rotate_left
            ·intro w'
             go_simp
             with_reducible rfl
            rotate_left
            ·simp only [Act.put,zzA,zzB,zzC,i64_w,i32_w]
             rfl
            refine pure_ (i:=3) (N:=some 40) (v:=?_) (a':=?_) #[true,true,true,true,false,false,false,false,false,false,false,false,false,false,false,false,false,false] rfl rfl (any_of HT_.out (by kernel_rfl)) (fun _ _ _ h=>h) (Or.inl ⟨by rfl,?_⟩) ?_ ?_
            rotate_left
            ·intro w'
             go_simp
             with_reducible rfl
            rotate_left
            ·simp only [Act.put,zzA,zzB,zzC,i64_w,i32_w]
             rfl
            refine pure_ (i:=4) (N:=some 41) (v:=?_) (a':=?_) #[true,true,true,true,true,false,false,false,false,false,false,false,false,false,false,false,false,false] rfl rfl (any_of HT_.out (by kernel_rfl)) (fun _ _ _ h=>h) (Or.inl ⟨by rfl,?_⟩) ?_ ?_
            rotate_left
            ·intro w'
             go_simp
             with_reducible rfl
            rotate_left
            ·simp only [Act.put,zzA,zzB,zzC,i64_w,i32_w]
             rfl
            refine pure_ (i:=5) (N:=some 42) (v:=?_) (a':=?_) #[true,true,true,true,true,true,false,false,false,false,false,false,false,false,false,false,false,false] rfl rfl (any_of HT_.out (by kernel_rfl)) (fun _ _ _ h=>h) (Or.inl ⟨by rfl,?_⟩) ?_ ?_
            rotate_left
            ·intro w'
             go_simp
             with_reducible rfl
            rotate_left
            ·simp only [Act.put,zzA,zzB,zzC,i64_w,i32_w]
             rfl
            refine pure_ (i:=6) (N:=some 43) (v:=?_) (a':=?_) #[true,true,true,true,true,true,true,false,false,false,false,false,false,false,false,false,false,false] rfl rfl (any_of HT_.out (by kernel_rfl)) (fun _ _ _ h=>h) (Or.inl ⟨by rfl,?_⟩) ?_ ?_
            rotate_left
            ·intro w'
             go_simp
             with_reducible rfl
            rotate_left
            ·simp only [Act.put,zzA,zzB,zzC,i64_w,i32_w]
             rfl
            refine pure_ (i:=7) (N:=some 44) (v:=?_) (a':=?_) #[true,true,true,true,true,true,true,true,false,false,false,false,false,false,false,false,false,false] rfl rfl (any_of HT_.out (by kernel_rfl)) (fun _ _ _ h=>h) (Or.inl ⟨by rfl,?_⟩) ?_ ?_
            rotate_left
            ·intro w'
             go_simp
             with_reducible rfl
            rotate_left
            ·simp only [Act.put,zzA,zzB,zzC,i64_w,i32_w]
             rfl
            refine pure_ (i:=8) (N:=some 45) (v:=?_) (a':=?_) #[true,true,true,true,true,true,true,true,true,false,false,false,false,false,false,false,false,false] rfl rfl (any_of HT_.out (by kernel_rfl)) (fun _ _ _ h=>h) (Or.inl ⟨by rfl,?_⟩) ?_ ?_
            rotate_left
            ·intro w'
             go_simp
             with_reducible rfl
            rotate_left
            ·simp only [Act.put,zzA,zzB,zzC,i64_w,i32_w]
             rfl
            refine pure_ (i:=10) (N:=some 47) (v:=?_) (a':=?_) #[true,true,true,true,true,true,true,true,true,false,true,false,false,false,false,false,false,false] rfl rfl (any_of HT_.out (by kernel_rfl)) (fun _ _ _ h=>h) (Or.inl ⟨by rfl,?_⟩) ?_ ?_
            rotate_left
            ·intro w'
             go_simp
             with_reducible rfl
            rotate_left
            ·simp only [Act.put,zzA,zzB,zzC,i64_w,i32_w]
             rfl
            refine pure_ (i:=11) (N:=some 48) (v:=?_) (a':=?_) #[true,true,true,true,true,true,true,true,true,false,true,true,false,false,false,false,false,false] rfl rfl (any_of HT_.out (by kernel_rfl)) (fun _ _ _ h=>h) (Or.inl ⟨by rfl,?_⟩) ?_ ?_
            rotate_left
            ·intro w'
             go_simp
             with_reducible rfl
            rotate_left
            ·simp only [Act.put,zzA,zzB,zzC,i64_w,i32_w]
             rfl
            refine pure_ (i:=12) (N:=some 49) (v:=?_) (a':=?_) #[true,true,true,true,true,true,true,true,true,false,true,true,true,false,false,false,false,false] rfl rfl (any_of HT_.out (by kernel_rfl)) (fun _ _ _ h=>h) (Or.inl ⟨by rfl,?_⟩) ?_ ?_
            rotate_left
            ·intro w'
             go_simp
             with_reducible rfl
            rotate_left
            ·simp only [Act.put,zzA,zzB,zzC,i64_w,i32_w]
             rfl
            refine take_ (i:=9) (N:=some 46) (v:=?_) (a':=?_) #[true,true,true,true,true,true,true,true,true,true,true,true,true,false,false,false,false,false] rfl rfl (take_ofW HT_.out HW_.out (by kernel_rfl)) (fun _ _ _ h=>h) (Or.inl ⟨by rfl,?_⟩) hHeld ?_ ?_
            rotate_left
            ·rintro w' ⟨s0,s1⟩
             go_simp
             with_reducible rfl
            rotate_left
            ·simp only [Act.put,zzA,zzB,zzC,i64_w,i32_w]
             rfl
            refine take_ (i:=13) (N:=some 50) (v:=?_) (a':=?_) #[true,true,true,true,true,true,true,true,true,true,true,true,true,true,false,false,false,false] rfl rfl (take_ofW HT_.out HW_.out (by kernel_rfl)) (fun _ _ _ h=>h) (Or.inl ⟨by rfl,?_⟩) hHeld ?_ ?_
            rotate_left
            ·rintro w' ⟨s0,s1⟩
             go_simp
             with_reducible rfl
            rotate_left
            ·simp only [Act.put,zzA,zzB,zzC,i64_w,i32_w]
             rfl
            refine pure_ (i:=14) (N:=some 51) (v:=?_) (a':=?_) #[true,true,true,true,true,true,true,true,true,true,true,true,true,true,true,false,false,false] rfl rfl (any_of HT_.out (by kernel_rfl)) (fun _ _ _ h=>h) (Or.inl ⟨by rfl,?_⟩) ?_ ?_
            rotate_left
            ·intro w'
             go_simp
             with_reducible rfl
            rotate_left
            ·simp only [Act.put,zzA,zzB,zzC,i64_w,i32_w]
             rfl
            refine last_ (i:=15) (N:=none) #[true,true,true,true,true,true,true,true,true,true,true,true,true,true,true,true,false,false] rfl rfl (one_of HT_.out (by kernel_rfl)) (by decide) (fun K hK=>?_)
            refine skip_ (w1:=?_) (by rfl) rfl ?_ ?_
            rotate_left
            ·go_simp
             rfl
            refine hK.out _ _ ?_
            clear hK K
            refine pure_ (i:=16) (N:=some 52) (v:=?_) (a':=?_) #[true,true,true,true,true,true,true,true,true,true,true,true,true,true,true,true,true,false] rfl rfl (any_of HT_.out (by kernel_rfl)) (fun _ _ _ h=>h) (Or.inl ⟨by rfl,?_⟩) ?_ ?_
            rotate_left
            ·intro w'
             go_simp
             with_reducible rfl
            rotate_left
            ·simp only [Act.put,zzA,zzB,zzC,i64_w,i32_w]
             rfl
            refine last_ (i:=17) (N:=none) #[true,true,true,true,true,true,true,true,true,true,true,true,true,true,true,true,true,true] rfl rfl (one_of HT_.out (by kernel_rfl)) (by decide) (fun K hK=>?_)
            refine skip_ (w1:=?_) (by rfl) rfl ?_ ?_
            rotate_left
            ·go_simp
             rfl
            refine hK.out _ _ ?_
            clear hK K
            refine done_ (done_of HT_.out (by kernel_rfl)) ?_
            try go_wp2
            go_roundg k2
            case measure=>have:=HK1.out;have:=HK2.out;omega
            case rel=>exact ⟨(y120),(ji9),(by first|rfl|(simp;done)|(simp only [← hji9] <;> (first|rfl|simp))|(simp [*];done)),H',⟨by have:=HK1.out;have:=HK2.out;omega⟩,⟨by (with_reducible repeat (first|apply Kd.R_alloc|apply Kd.R_drewN|apply Kd.R_drew));exact HQ20.out⟩,⟨by repeat (first|(with_reducible first|exact HK.out|apply Kept.alloc|apply Kept.drewN|apply Kept.drew|refine Kept.setCell ?_ HMgo14.out _|refine Kept.setCell ?_ HMgo14.out _)|exact HK.out)⟩,⟨by repeat (first|(with_reducible first|exact HB.out|apply zzD|apply zzE|apply zzF|refine below_set ?_ GB14.out|refine below_set ?_ GB14.out)|exact HB.out)⟩⟩
           ·rw [if_neg c13] at H
            have c13b0 : decide (t116 < 0) = false:=decide_eq_false c13
            clear c13
            have H':=Aside0.mk H
            clear H
            try go_wp2
            have n0_:=Aside0.mk (Kd.R_drew HO_0.out)
            have n1_:=Aside0.mk (Kept.drew HK.out)
            have n2_:=Aside0.mk (zzF HB.out)
            clear HO_0
            clear HK
            clear HB
            have HO_0:=n0_
            have HK:=n1_
            have HB:=n2_
            clear n0_ n1_ n2_
            obtain ⟨Ao22,co22,eo22⟩:=Kd.R_slice HO_0.out
            (first|subst eo22|(injection eo22 with f1_ f2_ f3_;have f4_:=f1_.symm;have f5_:=f3_.symm;clear f1_ f2_ f3_;subst f4_;subst f5_))
            have p114 : 0 ≤ (x9_2 : Int):=of_decide_eq_true (by first|(with_reducible assumption)|assumption)
            have q114 : x9_2 < (x0_2.length : Int):=of_decide_eq_true (by first|(with_reducible assumption)|assumption)
            obtain ⟨ad114,e114,hx114_0⟩:=Kd.at_int (Kd.R_reads' HO_0.out).2.2 x9_2 p114 q114
            cases e114
            replace p114:=eq_true p114
            replace q114:=eq_true q114
            have p115 : 0 ≤ ((ji9) : Int):=of_decide_eq_true (by first|(with_reducible assumption)|assumption)
            have q115 : (ji9) < (x0_2.length : Int):=of_decide_eq_true (by first|(with_reducible assumption)|assumption)
            obtain ⟨ad115,e115,hx115_0⟩:=Kd.at_int (Kd.R_reads' HO_0.out).2.2 (ji9) p115 q115
            obtain rfl : ad114 = ad115:=(by injection e115)
            replace p115:=eq_true p115
            replace q115:=eq_true q115
            refine start_ (n:=17) (S:=fun w'=>w'.cell? (ad114.add (x9_2).toNat) = some (.int .i64 (rd x0_2 x9_2)) ∧ w'.cell? (ad114.add ((ji9)).toNat) = some (.int .i64 (rd x0_2 (ji9)))) (ds:=[]) #[false,false,false,false,false,false,false,false,false,false,false,false,false,false,false,false,false] (by kernel_rfl) rfl rfl ⟨hx114_0,hx115_0⟩ (fun hHeld=>?_);refine with_tabW slices_insertionSortCmpFunc_int.tab4 slices_insertionSortCmpFunc_int.bits4 (fun HT_ HW_=>?_)
            generalize wr.drew = w21 at HO_0 HK HB hx114_0 hx115_0 hHeld ⊢
            refine pure_ (i:=0) (N:=some 18) (v:=?_) (a':=?_) #[true,false,false,false,false,false,false,false,false,false,false,false,false,false,false,false,false] rfl rfl (any_of HT_.out (by kernel_rfl)) (fun _ _ _ h=>h) (Or.inl ⟨by rfl,?_⟩) ?_ ?_
            rotate_left
            ·intro w'
             go_simp
             with_reducible rfl
            rotate_left
            ·simp only [Act.put,zzA,zzB,zzC,i64_w,i32_w]
             rfl
            refine pure_ (i:=1) (N:=some 19) (v:=?_) (a':=?_) #[true,true,false,false,false,false,false,false,false,false,false,false,false,false,false,false,false] rfl rfl (any_of HT_.out (by kernel_rfl)) (fun _ _ _ h=>h) (Or.inl ⟨by rfl,?_⟩) ?_ ?_
            rotate_left
            ·intro w'
             go_simp
             with_reducible rfl
            rotate_left
            ·simp only [Act.put,zzA,zzB,zzC,i64_w,i32_w]
             rfl
            refine pure_ (i:=2) (N:=some 20) (v:=?_) (a':=?_) #[true,true,true,false,false,false,false,false,false,false,false,false,false,false,false,false,false] rfl rfl (any_of HT_.out (by kernel_rfl)) (fun _ _ _ h=>h) (Or.inl ⟨by rfl,?_⟩) ?_ ?_
            rotate_left
            ·intro w'
             go_simp
             with_reducible rfl
            rotate_left
            ·simp only [Act.put,zzA,zzB,zzC,i64_w,i32_w]
             rfl
            refine pure_ (i:=3) (N:=some 21) (v:=?_) (a':=?_) #[true,true,true,true,false,false,false,false,false,false,false,false,false,false,false,false,false] rfl rfl (any_of HT_.out (by kernel_rfl)) (fun _ _ _ h=>h) (Or.inl ⟨by rfl,?_⟩) ?_ ?_
            rotate_left
            ·intro w'
             go_simp
             with_reducible rfl
            rotate_left
            ·simp only [Act.put,zzA,zzB,zzC,i64_w,i32_w]
             rfl
            refine pure_ (i:=4) (N:=some 22) (v:=?_) (a':=?_) #[true,true,true,true,true,false,false,false,false,false,false,false,false,false,false,false,false] rfl rfl (any_of HT_.out (by kernel_rfl)) (fun _ _ _ h=>h) (Or.inl ⟨by rfl,?_⟩) ?_ ?_
            rotate_left
            ·intro w'
             go_simp
             with_reducible rfl
            rotate_left
            ·simp only [Act.put,zzA,zzB,zzC,i64_w,i32_w]
             rfl
            refine pure_ (i:=5) (N:=some 23) (v:=?_) (a':=?_) #[true,true,true,true,true,true,false,false,false,false,false,false,false,false,false,false,false] rfl rfl (any_of HT_.out (by kernel_rfl)) (fun _ _ _ h=>h) (Or.inl ⟨by rfl,?_⟩) ?_ ?_
            rotate_left
            ·intro w'
             go_simp
             with_reducible rfl
            rotate_left
            ·simp only [Act.put,zzA,zzB,zzC,i64_w,i32_w]
             rfl
            refine pure_ (i:=6) (N:=some 24) (v:=?_) (a':=?_) #[true,true,true,true,true,true,true,false,false,false,false,false,false,false,false,false,false] rfl rfl (any_of HT_.out (by kernel_rfl)) (fun _ _ _ h=>h) (Or.inl ⟨by rfl,?_⟩) ?_ ?_
            rotate_left
            ·intro w'
             go_simp
             with_reducible rfl
            rotate_left
            ·simp only [Act.put,zzA,zzB,zzC,i64_w,i32_w]
             rfl
            refine pure_ (i:=7) (N:=some 25) (v:=?_) (a':=?_) #[true,true,true,true,true,true,true,true,false,false,false,false,false,false,false,false,false] rfl rfl (any_of HT_.out (by kernel_rfl)) (fun _ _ _ h=>h) (Or.inl ⟨by rfl,?_⟩) ?_ ?_
            rotate_left
            ·intro w'
             go_simp
             with_reducible rfl
            rotate_left
            ·simp only [Act.put,zzA,zzB,zzC,i64_w,i32_w]
             rfl
            refine pure_ (i:=9) (N:=some 27) (v:=?_) (a':=?_) #[true,true,true,true,true,true,true,true,false,true,false,false,false,false,false,false,false] rfl rfl (any_of HT_.out (by kernel_rfl)) (fun _ _ _ h=>h) (Or.inl ⟨by rfl,?_⟩) ?_ ?_
            rotate_left
            ·intro w'
             go_simp
             with_reducible rfl
            rotate_left
            ·simp only [Act.put,zzA,zzB,zzC,i64_w,i32_w]
             rfl
            refine pure_ (i:=10) (N:=some 28) (v:=?_) (a':=?_) #[true,true,true,true,true,true,true,true,false,true,true,false,false,false,false,false,false] rfl rfl (any_of HT_.out (by kernel_rfl)) (fun _ _ _ h=>h) (Or.inl ⟨by rfl,?_⟩) ?_ ?_
            rotate_left
            ·intro w'
             go_simp
             with_reducible rfl
            rotate_left
            ·simp only [Act.put,zzA,zzB,zzC,i64_w,i32_w]
             rfl
            refine pure_ (i:=11) (N:=some 29) (v:=?_) (a':=?_) #[true,true,true,true,true,true,true,true,false,true,true,true,false,false,false,false,false] rfl rfl (any_of HT_.out (by kernel_rfl)) (fun _ _ _ h=>h) (Or.inl ⟨by rfl,?_⟩) ?_ ?_
            rotate_left
            ·intro w'
             go_simp
             with_reducible rfl
            rotate_left
            ·simp only [Act.put,zzA,zzB,zzC,i64_w,i32_w]
             rfl
            refine pure_ (i:=12) (N:=some 30) (v:=?_) (a':=?_) #[true,true,true,true,true,true,true,true,false,true,true,true,true,false,false,false,false] rfl rfl (any_of HT_.out (by kernel_rfl)) (fun _ _ _ h=>h) (Or.inl ⟨by rfl,?_⟩) ?_ ?_
            rotate_left
            ·intro w'
             go_simp
             with_reducible rfl
            rotate_left
            ·simp only [Act.put,zzA,zzB,zzC,i64_w,i32_w]
             rfl
            refine take_ (i:=8) (N:=some 26) (v:=?_) (a':=?_) #[true,true,true,true,true,true,true,true,true,true,true,true,true,false,false,false,false] rfl rfl (take_ofW HT_.out HW_.out (by kernel_rfl)) (fun _ _ _ h=>h) (Or.inl ⟨by rfl,?_⟩) hHeld ?_ ?_
            rotate_left
            ·rintro w' ⟨s0,s1⟩
             go_simp
             with_reducible rfl
            rotate_left
            ·simp only [Act.put,zzA,zzB,zzC,i64_w,i32_w]
             rfl
            refine take_ (i:=13) (N:=some 31) (v:=?_) (a':=?_) #[true,true,true,true,true,true,true,true,true,true,true,true,true,true,false,false,false] rfl rfl (take_ofW HT_.out HW_.out (by kernel_rfl)) (fun _ _ _ h=>h) (Or.inl ⟨by rfl,?_⟩) hHeld ?_ ?_
            rotate_left
            ·rintro w' ⟨s0,s1⟩
             go_simp
             with_reducible rfl
            rotate_left
            ·simp only [Act.put,zzA,zzB,zzC,i64_w,i32_w]
             rfl
            refine one_ (i:=14) (N:=some 32) #[true,true,true,true,true,true,true,true,true,true,true,true,true,true,true,false,false] rfl rfl (one_of HT_.out (by kernel_rfl)) (by decide) (fun K hK=>?_)
            refine goesW ent66 #[.int .i64 (rd x0_2 x9_2),.int .i64 (rd x0_2 (ji9))] #[.int .i64 (rd x0_2 x9_2),.int .i64 (rd x0_2 (ji9)),.pointer (some ⟨gb,0,none⟩)] rfl (by rfl) rfl rfl (by rfl) (by (try simp only [List.map_toArray,List.map_cons,List.map_nil]);first|done|(simp only [hji9];rfl)|rfl|(simp only [List.length_drop,List.length_take];rfl)) ?_
            with_reducible refine (canon_tabled_1.calls (rd x0_2 x9_2) (rd x0_2 (ji9)) A3 c3 l3 t116 _ ?side1 ?side2 A12.out ?sg1).mono ?_
            (case side1=>exact Kd.C_kept_now HR3.out (by repeat (first|(with_reducible first|exact HK.out|apply Kept.alloc|apply Kept.drewN|apply Kept.drew)|exact HK.out)))
            (case sg1=>exact HG1.out _ (by repeat (first|(with_reducible first|exact HK.out|apply Kept.alloc|apply Kept.drewN|apply Kept.drew)|exact HK.out)))
            (case side2=>exact HC3.out)
            rintro e w' ⟨rfl,⟨nd,rfl⟩⟩
            refine ⟨_,rfl,?_⟩
            refine hK.out _ _ ⟨hHeld.1,hHeld.2⟩ (fun hHeld=>?_)
            clear hK K
            refine norm_ (a':=?_) ?_ ?_
            rotate_left
            ·show Act.put _ (some 32) _ = _
             simp only [Act.put,zzA,zzB,zzC,i64_w,i32_w]
             rfl
            refine pure_ (i:=15) (N:=some 33) (v:=?_) (a':=?_) #[true,true,true,true,true,true,true,true,true,true,true,true,true,true,true,true,false] rfl rfl (any_of HT_.out (by kernel_rfl)) (fun _ _ _ h=>h) (Or.inl ⟨by rfl,?_⟩) ?_ ?_
            rotate_left
            ·intro w'
             go_simp
             with_reducible rfl
            rotate_left
            ·simp only [Act.put,zzA,zzB,zzC,i64_w,i32_w]
             rfl
            refine pure_ (i:=16) (N:=some 34) (v:=?_) (a':=?_) #[true,true,true,true,true,true,true,true,true,true,true,true,true,true,true,true,true] rfl rfl (any_of HT_.out (by kernel_rfl)) (fun _ _ _ h=>h) (Or.inl ⟨by rfl,?_⟩) ?_ ?_
            rotate_left
            ·intro w'
             go_simp
             with_reducible rfl
            rotate_left
            ·simp only [Act.put,zzA,zzB,zzC,i64_w,i32_w]
             rfl
            refine done_ (done_of HT_.out (by kernel_rfl)) ?_
            try go_wp2
            go_roundg k2
            case measure=>have:=HK1.out;have:=HK2.out;omega
            case rel=>exact ⟨(x0_2),(wrap64 (x8_1 + 1)),(by first|rfl|(simp;done)|(simp [*];done)),H',⟨by have:=HK1.out;have:=HK2.out;omega⟩,⟨by (with_reducible repeat (first|apply Kd.R_alloc|apply Kd.R_drewN|apply Kd.R_drew));exact HO_0.out⟩,⟨by repeat (first|(with_reducible first|exact HK.out|apply Kept.alloc|apply Kept.drewN|apply Kept.drew)|exact HK.out)⟩,⟨by repeat (first|(with_reducible first|exact HB.out|apply zzD|apply zzE|apply zzF)|exact HB.out)⟩⟩
          ·rw [if_neg c11] at H
           exact absurd H (by simp)
         ·rw [if_neg c10] at H
          exact absurd H (by simp)
        ·rw [if_neg c8] at H
         exact absurd H (by simp)
       ·rw [if_neg c7] at H
        exact absurd H (by simp)
      ·rw [if_neg c6] at H
       have c6b0 : decide (a1 < x9_2) = false:=decide_eq_false c6
       clear c6
       have H':=Aside0.mk H
       clear H
       try go_wp2
       have n0_:=Aside0.mk (Kd.R_drew HO_0.out)
       have n1_:=Aside0.mk (Kept.drew HK.out)
       have n2_:=Aside0.mk (zzF HB.out)
       clear HO_0
       clear HK
       clear HB
       have HO_0:=n0_
       have HK:=n1_
       have HB:=n2_
       clear n0_ n1_ n2_
       refine start_ (n:=17) (S:=fun w'=>True) (ds:=[]) #[false,false,false,false,false,false,false,false,false,false,false,false,false,false,false,false,false] (by kernel_rfl) rfl rfl trivial (fun hHeld=>?_);refine with_tabW slices_insertionSortCmpFunc_int.tab4 slices_insertionSortCmpFunc_int.bits4 (fun HT_ HW_=>?_)
       generalize wr.drew = w23 at HO_0 HK HB hHeld ⊢
       refine pure_ (i:=0) (N:=some 18) (v:=?_) (a':=?_) #[true,false,false,false,false,false,false,false,false,false,false,false,false,false,false,false,false] rfl rfl (any_of HT_.out (by kernel_rfl)) (fun _ _ _ h=>h) (Or.inl ⟨by rfl,?_⟩) ?_ ?_
       rotate_left
       ·intro w'
        go_simp
        with_reducible rfl
       rotate_left
       ·simp only [Act.put,zzA,zzB,zzC,i64_w,i32_w]
        rfl
       refine pure_ (i:=1) (N:=some 19) (v:=?_) (a':=?_) #[true,true,false,false,false,false,false,false,false,false,false,false,false,false,false,false,false] rfl rfl (any_of HT_.out (by kernel_rfl)) (fun _ _ _ h=>h) (Or.inl ⟨by rfl,?_⟩) ?_ ?_
       rotate_left
       ·intro w'
        go_simp
        with_reducible rfl
       rotate_left
       ·simp only [Act.put,zzA,zzB,zzC,i64_w,i32_w]
        rfl
       refine pure_ (i:=2) (N:=some 20) (v:=?_) (a':=?_) #[true,true,true,false,false,false,false,false,false,false,false,false,false,false,false,false,false] rfl rfl (any_of HT_.out (by kernel_rfl)) (fun _ _ _ h=>h) (Or.inl ⟨by rfl,?_⟩) ?_ ?_
       rotate_left
       ·intro w'
        go_simp
        with_reducible rfl
       rotate_left
       ·simp only [Act.put,zzA,zzB,zzC,i64_w,i32_w]
        rfl
       refine pure_ (i:=3) (N:=some 21) (v:=?_) (a':=?_) #[true,true,true,true,false,false,false,false,false,false,false,false,false,false,false,false,false] rfl rfl (any_of HT_.out (by kernel_rfl)) (fun _ _ _ h=>h) (Or.inl ⟨by rfl,?_⟩) ?_ ?_
       rotate_left
       ·intro w'
        go_simp
        with_reducible rfl
       rotate_left
       ·simp only [Act.put,zzA,zzB,zzC,i64_w,i32_w]
        rfl
       refine pure_ (i:=4) (N:=some 22) (v:=undef) (a':=?_) #[true,true,true,true,true,false,false,false,false,false,false,false,false,false,false,false,false] rfl rfl (any_of HT_.out (by kernel_rfl)) (fun _ _ _ h=>h) (Or.inr ⟨by rfl,rfl⟩) ?_ ?_
       rotate_left
       ·simp only [Act.put,zzA,zzB,zzC,i64_w,i32_w]
        rfl
       refine pure_ (i:=5) (N:=some 23) (v:=undef) (a':=?_) #[true,true,true,true,true,true,false,false,false,false,false,false,false,false,false,false,false] rfl rfl (any_of HT_.out (by kernel_rfl)) (fun _ _ _ h=>h) (Or.inr ⟨by rfl,rfl⟩) ?_ ?_
       rotate_left
       ·simp only [Act.put,zzA,zzB,zzC,i64_w,i32_w]
        rfl
       refine pure_ (i:=6) (N:=some 24) (v:=undef) (a':=?_) #[true,true,true,true,true,true,true,false,false,false,false,false,false,false,false,false,false] rfl rfl (any_of HT_.out (by kernel_rfl)) (fun _ _ _ h=>h) (Or.inr ⟨by rfl,rfl⟩) ?_ ?_
       rotate_left
       ·simp only [Act.put,zzA,zzB,zzC,i64_w,i32_w]
        rfl
       refine pure_ (i:=7) (N:=some 25) (v:=undef) (a':=?_) #[true,true,true,true,true,true,true,true,false,false,false,false,false,false,false,false,false] rfl rfl (any_of HT_.out (by kernel_rfl)) (fun _ _ _ h=>h) (Or.inr ⟨by rfl,rfl⟩) ?_ ?_
       rotate_left
       ·simp only [Act.put,zzA,zzB,zzC,i64_w,i32_w]
        rfl
       refine pure_ (i:=8) (N:=some 26) (v:=undef) (a':=?_) #[true,true,true,true,true,true,true,true,true,false,false,false,false,false,false,false,false] rfl rfl (any_of HT_.out (by kernel_rfl)) (fun _ _ _ h=>h) (Or.inr ⟨by rfl,rfl⟩) ?_ ?_
       rotate_left
       ·simp only [Act.put,zzA,zzB,zzC,i64_w,i32_w]
        rfl
       refine pure_ (i:=9) (N:=some 27) (v:=undef) (a':=?_) #[true,true,true,true,true,true,true,true,true,true,false,false,false,false,false,false,false] rfl rfl (any_of HT_.out (by kernel_rfl)) (fun _ _ _ h=>h) (Or.inr ⟨by rfl,rfl⟩) ?_ ?_
       rotate_left
       ·simp only [Act.put,zzA,zzB,zzC,i64_w,i32_w]
        rfl
       refine pure_ (i:=10) (N:=some 28) (v:=undef) (a':=?_) #[true,true,true,true,true,true,true,true,true,true,true,false,false,false,false,false,false] rfl rfl (any_of HT_.out (by kernel_rfl)) (fun _ _ _ h=>h) (Or.inr ⟨by rfl,rfl⟩) ?_ ?_
       rotate_left
       ·simp only [Act.put,zzA,zzB,zzC,i64_w,i32_w]
        rfl
       refine pure_ (i:=11) (N:=some 29) (v:=undef) (a':=?_) #[true,true,true,true,true,true,true,true,true,true,true,true,false,false,false,false,false] rfl rfl (any_of HT_.out (by kernel_rfl)) (fun _ _ _ h=>h) (Or.inr ⟨by rfl,rfl⟩) ?_ ?_
       rotate_left
       ·simp only [Act.put,zzA,zzB,zzC,i64_w,i32_w]
        rfl
       refine pure_ (i:=12) (N:=some 30) (v:=undef) (a':=?_) #[true,true,true,true,true,true,true,true,true,true,true,true,true,false,false,false,false] rfl rfl (any_of HT_.out (by kernel_rfl)) (fun _ _ _ h=>h) (Or.inr ⟨by rfl,rfl⟩) ?_ ?_
       rotate_left
       ·simp only [Act.put,zzA,zzB,zzC,i64_w,i32_w]
        rfl
       refine pure_ (i:=13) (N:=some 31) (v:=undef) (a':=?_) #[true,true,true,true,true,true,true,true,true,true,true,true,true,true,false,false,false] rfl rfl (any_of HT_.out (by kernel_rfl)) (fun _ _ _ h=>h) (Or.inr ⟨by rfl,rfl⟩) ?_ ?_
       rotate_left
       ·simp only [Act.put,zzA,zzB,zzC,i64_w,i32_w]
        rfl
       refine pure_ (i:=14) (N:=some 32) (v:=undef) (a':=?_) #[true,true,true,true,true,true,true,true,true,true,true,true,true,true,true,false,false] rfl rfl (any_of HT_.out (by kernel_rfl)) (fun _ _ _ h=>h) (Or.inr ⟨by rfl,rfl⟩) ?_ ?_
       rotate_left
       ·simp only [Act.put,zzA,zzB,zzC,i64_w,i32_w]
        rfl
       refine pure_ (i:=15) (N:=some 33) (v:=undef) (a':=?_) #[true,true,true,true,true,true,true,true,true,true,true,true,true,true,true,true,false] rfl rfl (any_of HT_.out (by kernel_rfl)) (fun _ _ _ h=>h) (Or.inr ⟨by rfl,rfl⟩) ?_ ?_
       rotate_left
       ·simp only [Act.put,zzA,zzB,zzC,i64_w,i32_w]
        rfl
       refine pure_ (i:=16) (N:=some 34) (v:=?_) (a':=?_) #[true,true,true,true,true,true,true,true,true,true,true,true,true,true,true,true,true] rfl rfl (any_of HT_.out (by kernel_rfl)) (fun _ _ _ h=>h) (Or.inl ⟨by rfl,?_⟩) ?_ ?_
       rotate_left
       ·intro w'
        go_simp
        with_reducible rfl
       rotate_left
       ·simp only [Act.put,zzA,zzB,zzC,i64_w,i32_w]
        rfl
       refine done_ (done_of HT_.out (by kernel_rfl)) ?_
       try go_wp2
       go_roundg k2
       case measure=>have:=HK1.out;have:=HK2.out;omega
       case rel=>exact ⟨(x0_2),(wrap64 (x8_1 + 1)),(by first|rfl|(simp;done)|(simp [*];done)),H',⟨by have:=HK1.out;have:=HK2.out;omega⟩,⟨by (with_reducible repeat (first|apply Kd.R_alloc|apply Kd.R_drewN|apply Kd.R_drew));exact HO_0.out⟩,⟨by repeat (first|(with_reducible first|exact HK.out|apply Kept.alloc|apply Kept.drewN|apply Kept.drew)|exact HK.out)⟩,⟨by repeat (first|(with_reducible first|exact HB.out|apply zzD|apply zzE|apply zzF)|exact HB.out)⟩⟩
   ·rw [if_neg c5] at H
    have c5b0 : decide (x8_1 < a2) = false:=decide_eq_false c5
    clear c5
    obtain rfl:=Option.some.inj H
    go_wp2
    first|go_end0|((try simp only [Exit.inBlock,Exit.then]);refine bodyPost_ret (results_none rfl _ _ _) rfl ?_)
    exact ⟨by first|rfl|(simp [errW_none,errW_some] <;> rfl)|(simp [*,errW_none,errW_some] <;> rfl),by (with_reducible repeat (first|apply Kd.R_alloc|apply Kd.R_drewN|apply Kd.R_drew));exact HO_0.out,by repeat (first|(with_reducible first|exact HB.out|apply zzD|apply zzE|apply zzF)|exact HB.out),by repeat (first|(with_reducible first|exact HK.out|apply Kept.alloc|apply Kept.drewN|apply Kept.drew)|exact HK.out)⟩
end Go.Proofs.Ytgmomcjnldahjaa.Pr
namespace Go.Proofs.Ytgmomcjnldahjaa.Pr
open Go.RowKit Go.Proofs.YtgmomcjnldahjaaW.PrintWords Go.Proofs.YtgmomcjnldahjaaW.PrintLast Go.Proofs.YtgmomcjnldahjaaW.PrintMore
attribute [local go_sem] max2_int min2_int max_two min_two max_three min_three max_four min_four
set_option linter.unusedVariables false
set_option linter.unusedSimpArgs false
set_option maxHeartbeats 8000000 in
set_option maxRecDepth 100000 in
theorem stable_calls (k : Nat) (P0_ : Nat → Prop) (u9000_ : Value) (l0 : List Int) (A3 : Option Addr) (c3 : Nat) (l3 : List (S34)) (r : List Int) (w0 w : World) (hB : Below w0.heap.size w0 w) (ho0 : Kd.R (Kd.int .i64) 3 w w0.heap.size P0_ u9000_ l0) (hr3 : ∀ W_,Kept w W_ (fun k_=>P0_ k_) → Kd.C k34 W_ A3 l3.length l3) (hc3 : l3.length ≤ c3) (h : slices_insertionSortCmpFunc_int.f k l0 0 (l0.length : Int) l3 = some r) (hl : l0.length < 20) {gb : Nat} (hg1 : ∀ W_,Kept w W_ (fun k_=>P0_ k_) → W_.cell? ⟨gb,1,none⟩ = some (.slice A3 l3.length c3)) :
  Calls Try.prog 84 #[u9000_,.int .i64 (l0.length : Int),.func (.func 66) #[] #[.pointer (some ⟨gb,0,none⟩)]] w fun e w'=>e = .returned (.tuple #[]) ∧ Kd.R (Kd.int .i64) 3 w' w0.heap.size (fun k_=>(P0_ k_ ∨ w.heap.size ≤ k_)) u9000_ r ∧ Below w0.heap.size w0 w' ∧ Kept w w' (fun k_=>P0_ k_):=by
 have HX:=Aside0.mk (slices_insertionSortCmpFunc_int.calls k P0_ u9000_ l0 0 (l0.length : Int) A3 c3 l3 r w0 w hB ho0 hr3 hc3 h hg1)
 clear hB ho0 hr3 hc3 h hg1
 have k1 : decide ((20 : Int) ≤ (l0.length : Int)) = false:=decide_eq_false (by omega)
 have k1' : decide (20 ≤ l0.length) = false:=decide_eq_false (by omega)
 have k2 : decide ((20 : Int) < (l0.length : Int)) = false:=decide_eq_false (by omega)
 have k2' : decide (20 < l0.length) = false:=decide_eq_false (by omega)
 go_enter Try.func84,Try.ntmps84
 go_wp2
 go_loopw [7,8] (fun v7 v8 wr=>v7 = .int .i64 0 ∧ v8 = .int .i64 20 ∧ wr = w) (fun _ _ _=>0)
 case atStart=>exact ⟨rfl,rfl,rfl⟩
 case round =>
  obtain ⟨rfl,rfl,rfl⟩:=hrel
  go_wp2_with (first|(go_at_call 88;(refine HX.out.mono ?_);rintro e w3 ⟨rfl,p1,p2,p3⟩))
  clear HX
  have P1:=Aside0.mk p1
  have P2:=Aside0.mk p2
  have P3:=Aside0.mk p3
  clear p1 p2 p3
  go_loopw [6] (fun v6 wr=>v6 = .int .i64 20 ∧ wr = w3) (fun _ _=>0)
  case atStart=>exact ⟨rfl,rfl⟩
  case round =>
   obtain ⟨rfl,rfl⟩:=hrel
   go_wp2
   first|go_end0|((try simp only [Exit.inBlock,Exit.then]);refine bodyPost_ret (results_none rfl _ _ _) rfl ?_)
   exact ⟨rfl,P1.out,P2.out,P3.out⟩
set_option maxHeartbeats 8000000 in
set_option maxRecDepth 100000 in
theorem sort_calls (k : Nat) (P0_ : Nat → Prop) (u9000_ : Value) (l0 : List Int) (A3 : Option Addr) (c3 : Nat) (l3 : List (S34)) (r : List Int) (w0 w : World) (hB : Below w0.heap.size w0 w) (ho0 : Kd.R (Kd.int .i64) 3 w w0.heap.size P0_ u9000_ l0) (hr3 : ∀ W_,Kept w W_ (fun k_=>P0_ k_) → Kd.C k34 W_ A3 l3.length l3) (hc3 : l3.length ≤ c3) (h : slices_insertionSortCmpFunc_int.f k l0 0 (l0.length : Int) l3 = some r) (hl : l0.length < 20) {gb : Nat} (hg1 : ∀ W_,Kept w W_ (fun k_=>P0_ k_) → W_.cell? ⟨gb,1,none⟩ = some (.slice A3 l3.length c3)) :
  Calls Try.prog 65 #[u9000_,.func (.func 66) #[] #[.pointer (some ⟨gb,0,none⟩)]] w fun e w'=>e = .returned (.tuple #[]) ∧ Kd.R (Kd.int .i64) 3 w' w0.heap.size (fun k_=>(P0_ k_ ∨ w.heap.size ≤ k_)) u9000_ r ∧ Below w0.heap.size w0 w' ∧ Kept w w' (fun k_=>P0_ k_):=by
 have HX:=Aside0.mk (stable_calls k P0_ u9000_ l0 A3 c3 l3 r w0 w hB ho0 hr3 hc3 h hl hg1)
 obtain ⟨Ao,co,rfl⟩:=Kd.R_slice ho0
 clear hB ho0 hr3 hc3 h hg1
 go_enter Try.func65,Try.ntmps65
 go_wp2_with (first|(go_at_call 84;(refine HX.out.mono ?_);rintro e w3 ⟨rfl,p1,p2,p3⟩))
 first|go_end0|((try simp only [Exit.inBlock,Exit.then]);refine bodyPost_ret (results_none rfl _ _ _) rfl ?_)
 exact ⟨rfl,p1,p2,p3⟩
end Go.Proofs.Ytgmomcjnldahjaa.Pr
namespace Go.Proofs.Ytgmomcjnldahjaa.Pr
open Go.RowKit Go.Proofs.YtgmomcjnldahjaaW.PrintWords Go.Proofs.YtgmomcjnldahjaaW.PrintLast Go.Proofs.YtgmomcjnldahjaaW.PrintMore
attribute [local go_sem] max2_int min2_int max_two min_two max_three min_three max_four min_four
set_option linter.unusedVariables false
set_option linter.unusedSimpArgs false
theorem info70 : (Try.prog.info? 70).map (fun i=>(i.zero,i.size,i.bytes)) = some (some (.slice none 0 0),1,24):=by kernel_rfl
theorem info27 : (Try.prog.info? 27).map (fun i=>(i.zero,i.size,i.bytes)) = some (some (.slice none 0 0),1,24):=by kernel_rfl
theorem box2_S {W : World} {g t : Nat} {a b : Value} (h : W.heap[g]? = some (.cells #[a,b] t (0,0))) : W.cell? ⟨g,0,none⟩ = some a ∧ W.cell? ⟨g,1,none⟩ = some b ∧ W.heap[g]? = some (.cells #[a,b] t (0,0)) :=
 ⟨(blk_cell h 0).trans rfl,(blk_cell h 1).trans rfl,h⟩
theorem box3_S {W : World} {g t : Nat} {a b c : Value} (h : W.heap[g]? = some (.cells #[a,b,c] t (0,0))) : W.cell? ⟨g,0,none⟩ = some a ∧ W.cell? ⟨g,1,none⟩ = some b ∧ W.cell? ⟨g,2,none⟩ = some c ∧ W.heap[g]? = some (.cells #[a,b,c] t (0,0)) :=
 ⟨(blk_cell h 0).trans rfl,(blk_cell h 1).trans rfl,(blk_cell h 2).trans rfl,h⟩
theorem made_rows (n e : Nat) : madeCells #[Value.slice none 0 0] n = ((List.range n).map fun _=>row0).toArray:=by
 apply Array.toList_inj.1
 apply List.ext_getElem
 ·simp [madeCells]
 ·intro i h1 h2
  simp [madeCells,row0,Nat.mod_one]
def rowE (L : List S34) (m i j : Nat) : List Int:=((List.range m).filter fun (a : Nat)=>decide ((rd_T34 L (a : Int)).f1 = (i : Int) ∧ (rd_T34 L (a : Int)).f2 = (j : Int))).map (fun (a : Nat)=>(a : Int))
def cellOr (W : World) (a : Addr) : Value:=(W.cell? a).getD undef
theorem cell_or {W : World} {a : Addr} {v : Value} (h : W.cell? a = some v) : W.cell? a = some (cellOr W a):=by unfold cellOr;rw [h];rfl
theorem S5 {W : World} {g0 gt gR i : Nat} {a b c : Value} (h : ∃ cs,i < cs.size ∧ W.heap[gR]? = some (.cells cs 70 (0,0))) (h0 : W.heap[g0]? = some (.cells #[a,b] 30 (0,0))) (ht : W.heap[gt]? = some (.cells #[a,b,c] 89 (0,0))) :
  W.cell? ⟨g0,0,none⟩ = some a ∧ W.cell? ⟨g0,1,none⟩ = some b ∧ W.cell? ⟨gt,2,none⟩ = some c ∧ W.cell? ⟨gR,i,none⟩ = some (cellOr W ⟨gR,i,none⟩) ∧ W.frozen? ⟨gR,i,none⟩ = false ∧ (∃ cs,i < cs.size ∧ W.heap[gR]? = some (.cells cs 70 (0,0))) ∧ W.heap[g0]? = some (.cells #[a,b] 30 (0,0)) ∧ W.heap[gt]? = some (.cells #[a,b,c] 89 (0,0)):=by
 obtain ⟨cs,hi,hc⟩:=h
 exact ⟨(blk_cell h0 0).trans rfl,(blk_cell h0 1).trans rfl,(blk_cell ht 2).trans rfl,cell_or ((blk_cell hc i).trans (Array.getElem?_eq_getElem hi)),blk_frozen hc i,⟨cs,hi,hc⟩,h0,ht⟩
theorem S5d {W : World} {g0 gt gR i : Nat} {a b c : Value} (h : ∃ cs,i < cs.size ∧ W.heap[gR]? = some (.cells cs 70 (0,0))) (h0 : W.heap[g0]? = some (.cells #[a,b] 30 (0,0))) (ht : W.heap[gt]? = some (.cells #[a,b,c] 89 (0,0))) :
  W.drew.cell? ⟨g0,0,none⟩ = some a ∧ W.drew.cell? ⟨g0,1,none⟩ = some b ∧ W.drew.cell? ⟨gt,2,none⟩ = some c ∧ W.drew.cell? ⟨gR,i,none⟩ = some (cellOr W.drew ⟨gR,i,none⟩) ∧ W.drew.frozen? ⟨gR,i,none⟩ = false ∧ (∃ cs,i < cs.size ∧ W.drew.heap[gR]? = some (.cells cs 70 (0,0))) ∧ W.drew.heap[g0]? = some (.cells #[a,b] 30 (0,0)) ∧ W.drew.heap[gt]? = some (.cells #[a,b,c] 89 (0,0)):=S5 (W:=W.drew) h h0 ht
theorem some_alloc {W : World} {g i t : Nat} (o : Obj) (h : ∃ cs,i < cs.size ∧ W.heap[g]? = some (.cells cs t (0,0))) : ∃ cs,i < cs.size ∧ (W.alloc o).heap[g]? = some (.cells cs t (0,0)):=by
 obtain ⟨cs,hi,hc⟩:=h;exact ⟨cs,hi,blk_alloc hc o⟩
theorem some_set {W : World} {g i t j : Nat} (v : Value) (h : ∃ cs,i < cs.size ∧ W.heap[g]? = some (.cells cs t (0,0))) : ∃ cs,i < cs.size ∧ (W.setCell ⟨g,j,none⟩ v).heap[g]? = some (.cells cs t (0,0)):=by
 obtain ⟨cs,hi,hc⟩:=h;exact ⟨cs.setIfInBounds j v,by simpa using hi,blk_set hc j v⟩
theorem some_ne {W : World} {g i t h u : Nat} {ds : Array Value} (h1 : ∃ cs,i < cs.size ∧ W.heap[g]? = some (.cells cs t (0,0))) (h2 : W.heap[h]? = some (.cells ds u (0,0))) (hn : u ≠ t) : h ≠ g:=by
 obtain ⟨cs,hi,hc⟩:=h1;exact ty_ne h2 hc hn
theorem rowE_len (L : List S34) (m i j : Nat) : (rowE L m i j).length ≤ m:=by
 unfold rowE
 rw [List.length_map]
 exact Nat.le_trans (List.length_filter_le _ _) (by simp)
theorem rowE_succ (L : List S34) (m : Nat) {f t : Nat} (hf : (rd_T34 L (m : Int)).f1 = (f : Int)) (ht : (rd_T34 L (m : Int)).f2 = (t : Int)) : rowE L (m + 1) = upd2 (rowE L m) f t (rowE L m f t ++ [(m : Int)]):=by
 funext i j
 have e : rowE L (m + 1) i j = rowE L m i j ++ (if i = f ∧ j = t then [(m : Int)] else []):=by
  unfold rowE
  rw [List.range_succ,List.filter_append,List.map_append]
  congr 1
  by_cases h : i = f ∧ j = t
  ·rw [if_pos h,List.filter_cons_of_pos (by rw [hf,ht,h.1,h.2];simp)];rfl
  ·rw [if_neg h,List.filter_cons_of_neg (by rw [hf,ht];simp;omega)];rfl
 rw [e]
 unfold upd2
 by_cases h : i = f ∧ j = t
 ·rw [if_pos h,if_pos h,h.1,h.2]
 ·rw [if_neg h,if_neg h,List.append_nil]
theorem heap34 : Kd.Heap k34:=Kd.heap_iso _ (Kd.heap_pair (Kd.heap_int _) (Kd.heap_pair (Kd.heap_int _) (Kd.heap_int _)))
def partS (S E : Nat → Nat → List Int) (i j : Nat) : Nat → Nat → List Int:=fun a b=>if a < i ∨ (a = i ∧ b < j) then S a b else E a b
theorem TabI.congr {w : World} {base gR n : Nat} {gr : Nat → Nat} {V : Nat → Nat → Value} {E E' : Nat → Nat → List Int} (h : TabI w base gR n gr V E) (he : ∀ i j,i < n → j < n → E i j = E' i j) : TabI w base gR n gr V E' :=
 ⟨h.hR,h.hr,h.bR,h.br,h.inj,fun i j hi hj=>he i j hi hj ▸ h.ho i j hi hj,h.sep⟩
theorem part_zero (S E : Nat → Nat → List Int) (n a b : Nat) : E a b = partS S E 0 0 a b:=by
 unfold partS;rw [if_neg (by omega)]
theorem part_row (S E : Nat → Nat → List Int) {n i a b : Nat} (hb : b < n) : partS S E i n a b = partS S E (i + 1) 0 a b:=by
 unfold partS
 by_cases h : a < i ∨ (a = i ∧ b < n)
 ·rw [if_pos h,if_pos (by omega)]
 ·rw [if_neg h,if_neg (by omega)]
theorem part_step (S E : Nat → Nat → List Int) (i j a b : Nat) : upd2 (partS S E i j) i j (S i j) a b = partS S E i (j + 1) a b:=by
 unfold upd2 partS
 by_cases h : a = i ∧ b = j
 ·rw [if_pos h,if_pos (by omega),h.1,h.2]
 ·rw [if_neg h]
  by_cases h2 : a < i ∨ (a = i ∧ b < j)
  ·rw [if_pos h2,if_pos (by omega)]
  ·rw [if_neg h2,if_neg (by omega)]
theorem part_at (S E : Nat → Nat → List Int) (i j : Nat) : partS S E i j i j = E i j:=by
 unfold partS;rw [if_neg (by omega)]
theorem part_all (S E : Nat → Nat → List Int) {n a b : Nat} (ha : a < n) : partS S E n 0 a b = S a b:=by
 unfold partS;rw [if_pos (by omega)]
theorem app_drew {P : Program} {ops : Array Oper} {Q : Exit → Act → World → Prop} {Kc : Act → World → Prop} {o : Oper} {a : Act} {w0 W : World} (base : Nat) (hw : Region.wanted o (yielded ops a.tmps) = true) (s x : Operand) (t : TypeId)
  (ho : o.op = .call { callee:=.builtin .append,args:=#[s,x],argTypes:=#[t,t] }) (ht : P.underlying t = some (.slice 3)) (hinfo : (P.info? 3).map (fun i=>(i.zero,i.size,i.bytes)) = some (some (.int .i64 0),1,8))
  (v : Value) (xs : List Int) (p : Int) (hs : a.eval s = v) (hx : a.eval x = .slice (some ⟨W.heap.size,0,none⟩) 1 1) (HO : Kd.R (Kd.int .i64) 3 W base (fun _=>True) v xs) (HB : Below base w0 W) (hbase : base ≤ W.heap.size) (hl : (xs.length + 1) * 8 ≤ 140737488355328)
  (h : ∀ v1 w1,Kd.R (Kd.int .i64) 3 w1 base (fun _=>True) v1 (xs ++ [p]) → Below base w0 w1 → W.grownBy w1 v.ownBlock → (v1.ownBlock = v.ownBlock ∨ ∃ b,v1.ownBlock = some b ∧ W.heap.size ≤ b) → Kc (a.put o.dst v1) w1) :
  if Region.wanted o (yielded ops a.tmps) = true then Oper.wp P o a (W.alloc (.cells #[.int .i64 p] 3 (0,0))).drew Kc Q else Kc (a.put o.dst undef) (W.alloc (.cells #[.int .i64 p] 3 (0,0))).drew :=
 Kd.R_append_step (Kd.int .i64) (w0:=w0) (W:=W.drew) base hw s x t 3 (.int .i64 0) 8 ho ht hinfo rfl (by decide) (by omega) v xs p [.int .i64 p] (fun _=>True) (fun _=>False) hs hx rfl (fun _ hk=>hk.elim) (fun _ _=>trivial) (Kd.R_drew HO) (zzF HB) hbase hl
  (fun v1 w1 a1 a2 a3 a4=>h v1 w1 a1 a2 ⟨a3.os,a3.tape,a3.output,a3.size,a3.block⟩ a4)
def td.T10 : Bool × List (List Nat × List Nat):=(true,[([],[]),([0],[0]),([1],[1]),([2],[2]),([],[]),([4],[4]),([3,5],[3,5]),([6],[6]),([],[]),([8],[8]),([],[]),([10],[10]),([11],[11]),([12],[12]),([],[]),([14],[14]),([13,15],[13,15]),([16],[16]),([],[]),([18],[18]),([17,19],[17,19]),([20],[20]),([],[]),([22],[22]),([21,23],[21,23]),([7,9,0,1,2,3,4,5,6,7,8,9,10,11,12,13,14,15,16,17,18,19,20,21,22,23,24],[7,9]),([25,24,24,0,1,2,3,4,5,6,7,8,9,10,11,12,13,14,15,16,17,18,19,20,21,22,23,24],[24,25])])
def td.B10 : List Nat:=[0,1,3,7,0,16,63,127,0,256,0,1024,3072,7168,0,16384,64512,130048,0,262144,1047552,2096128,0,4194304,16776192,33554431,67108863]
theorem td.tab10 : rtab .any (opsOf Try.f39 10) = td.T10:=by kernel_rfl
theorem td.bits10 : waitsOk td.T10.2 td.B10 = true:=by kernel_rfl
structure S10 (W : World) (gt gb gR rf t n : Nat) (f : Nat) (a b c e0 e1 e2 : Value) : Prop where
 ht : W.heap[gt]? = some (.cells #[a,b,c] 89 (0,0))
 hb : W.heap[gb]? = some (.cells #[e0,e1,e2] 34 (0,0))
 hR : ∃ cs : Array Value,cs[f]? = some (.slice (some ⟨rf,0,none⟩) n n) ∧ W.heap[gR]? = some (.cells cs 70 (0,0))
 hr : ∃ cs : Array Value,t < cs.size ∧ W.heap[rf]? = some (.cells cs 27 (0,0))
theorem S10.facts {W : World} {gt gb gR rf t n f : Nat} {a b c e0 e1 e2 : Value} (h : S10 W gt gb gR rf t n f a b c e0 e1 e2) :
  W.cell? ⟨gt,2,none⟩ = some c ∧ W.cell? ⟨gb,1,none⟩ = some e1 ∧ W.cell? ⟨gb,2,none⟩ = some e2 ∧ W.cell? ⟨gR,f,none⟩ = some (.slice (some ⟨rf,0,none⟩) n n) ∧ W.cell? ⟨rf,t,none⟩ = some (cellOr W ⟨rf,t,none⟩) ∧ W.frozen? ⟨rf,t,none⟩ = false ∧ S10 W gt gb gR rf t n f a b c e0 e1 e2:=by
 obtain ⟨cs,h1,h2⟩:=h.hR
 obtain ⟨ds,h3,h4⟩:=h.hr
 exact ⟨(blk_cell h.ht 2).trans rfl,(blk_cell h.hb 1).trans rfl,(blk_cell h.hb 2).trans rfl,(blk_cell h2 f).trans h1,cell_or ((blk_cell h4 t).trans (Array.getElem?_eq_getElem h3)),blk_frozen h4 t,h⟩
theorem S10.below {W W1 : World} {gt gb gR rf t n f : Nat} {a b c e0 e1 e2 : Value} (h : S10 W gt gb gR rf t n f a b c e0 e1 e2) (hk : Below W.heap.size W W1) : S10 W1 gt gb gR rf t n f a b c e0 e1 e2:=by
 obtain ⟨cs,h1,h2⟩:=h.hR
 obtain ⟨ds,h3,h4⟩:=h.hr
 exact ⟨blk_below h.ht hk,blk_below h.hb hk,⟨cs,h1,blk_below h2 hk⟩,⟨ds,h3,blk_below h4 hk⟩⟩
theorem S10.grown {W W1 : World} {gt gb gR rf t n f : Nat} {a b c e0 e1 e2 : Value} (h : S10 W gt gb gR rf t n f a b c e0 e1 e2) {row : Option Nat} (hg : W.grownBy W1 row) (hr : ∀ k,row = some k → ∃ cs,W.heap[k]? = some (.cells cs 3 (0,0))) : S10 W1 gt gb gR rf t n f a b c e0 e1 e2:=by
 obtain ⟨cs,h1,h2⟩:=h.hR
 obtain ⟨ds,h3,h4⟩:=h.hr
 have key : ∀ {g u : Nat} {cs : Array Value},W.heap[g]? = some (.cells cs u (0,0)) → u ≠ 3 → some g ≠ row:=fun hg hu he=>by
  obtain ⟨ds,hd⟩:=hr _ he.symm
  exact ty_ne hg hd hu rfl
 exact ⟨blk_grown h.ht hg (key h.ht (by decide)),blk_grown h.hb hg (key h.hb (by decide)),⟨cs,h1,blk_grown h2 hg (key h2 (by decide))⟩,⟨ds,h3,blk_grown h4 hg (key h4 (by decide))⟩⟩
theorem S10.set {W : World} {gt gb gR rf t n f : Nat} {a b c e0 e1 e2 : Value} (h : S10 W gt gb gR rf t n f a b c e0 e1 e2) (v : Value) : S10 (W.setCell ⟨rf,t,none⟩ v) gt gb gR rf t n f a b c e0 e1 e2:=by
 obtain ⟨cs,h1,h2⟩:=h.hR
 obtain ⟨ds,h3,h4⟩:=h.hr
 exact ⟨blk_far h.ht (ty_ne h.ht h4 (by decide)) _,blk_far h.hb (ty_ne h.hb h4 (by decide)) _,⟨cs,h1,blk_far h2 (ty_ne h2 h4 (by decide)) _⟩,⟨ds.setIfInBounds t v,by simpa using h3,blk_set h4 t v⟩⟩
theorem S10.drew {W : World} {gt gb gR rf t n f : Nat} {a b c e0 e1 e2 : Value} (h : S10 W gt gb gR rf t n f a b c e0 e1 e2) : S10 W.drew gt gb gR rf t n f a b c e0 e1 e2:=h.below (zzF (Below.refl _ _))
set_option maxHeartbeats 8000000 in
set_option maxRecDepth 100000 in
theorem tabled_calls (A0 : Option Addr) (c0 : Nat) (N : List Int) (A1 : Option Addr) (c1 : Nat) (L : List S34) (w : World) (hr0 : Kd.C (Kd.int .i64) w A0 N.length N) (hc0 : N.length ≤ c0) (hr1 : Kd.C k34 w A1 L.length L) (hc1 : L.length ≤ c1)
  (hn : N.length ≤ 1000) (hL : L.length < 20) (hfit : ∀ a,a < L.length → 0 ≤ (rd_T34 L (a : Int)).f1 ∧ (rd_T34 L (a : Int)).f1 < N.length ∧ 0 ≤ (rd_T34 L (a : Int)).f2 ∧ (rd_T34 L (a : Int)).f2 < N.length)
  (S : Nat → Nat → List Int) (hs : ∀ i j,i < N.length → j < N.length → ∃ k,slices_insertionSortCmpFunc_int.f k (rowE L L.length i j) 0 ((rowE L L.length i j).length : Int) L = some (S i j)) :
  Calls Try.prog 39 #[.agg #[.slice A0 N.length c0,.slice A1 L.length c1]] w fun e w'=>∃ gt gR,e = .returned (.pointer (some ⟨gt,0,none⟩)) ∧ w'.heap[gt]? = some (.cells #[.slice A0 N.length c0,.slice A1 L.length c1,rowV N.length gR] 89 (0,0)) ∧
   Kd.C (Kd.slice 27 (Kd.slice 3 (Kd.int .i64))) w' (some ⟨gR,0,none⟩) N.length (tabL N.length S) ∧ Below w.heap.size w w':=by
 have HR0:=Aside0.mk hr0
 have HR1:=Aside0.mk hr1
 have HC0:=Aside0.mk hc0
 have HC1:=Aside0.mk hc1
 have HS:=Aside0.mk hs
 have HF:=Aside0.mk hfit
 clear hr0 hc0 hr1 hc1 hs hfit
 have hmf : ∀ (fn : Fn) (first cap : Array Value) (w : World),(Instr.makeFunc fn first cap).run Try.prog w = .ok (.func fn first cap) w:=fun _ _ _ _=>rfl
 have hmk1:=print_make_of (P:=Try.prog) 87 70 (.slice none 0 0) 24 Try.underlying87 info70 rfl (by omega) N.length (by omega)
 have hmk2:=print_make_of (P:=Try.prog) 70 27 (.slice none 0 0) 24 Try.underlying70 info27 rfl (by omega) N.length (by omega)
 have hu30:=Try.underlying30
 have hu89:=Try.underlying89
 have hu34:=Try.underlying34
 have HB:=Aside0.mk (Below.refl w.heap.size w)
 go_enter Try.func39,Try.ntmps39
 go_upto_region 1 with (first|((with_reducible refine gate_dst (N:=1) rfl ?_);refine box_event ?hg (N:=1) ?hd (cs:=#[.slice A0 N.length c0,.slice A1 L.length c1]) (t:=30) ?hr ?_;(case hd=>rfl);(case hg=>rfl);(case hr=>first|(go_simp;done)|(go_simp;rfl));intro g0 hg w1 hbox hb;have n0_:=Aside0.mk (below_step HB.out hb);have G0:=Aside0.mk (show w.heap.size ≤ g0 from by rw [hg];exact Nat.le_refl _);clear HB;have HB:=n0_;clear n0_ hb hg;have BK:=Aside0.mk hbox;clear hbox))
 go_region_held3 (fun W : World=>W.cell? ⟨g0,0,none⟩ = some (.slice A0 N.length c0) ∧ W.cell? ⟨g0,1,none⟩ = some (.slice A1 L.length c1) ∧ W.heap[g0]? = some (.cells #[.slice A0 N.length c0,.slice A1 L.length c1] 30 (0,0))) (exact box2_S (by (with_reducible repeat (first|refine blk_drewN ?_ _|refine blk_drew ?_|refine blk_alloc ?_ _));first|exact BK.out|exact hHeld.2.2)) (fail)
 obtain ⟨w2,hw2⟩ : ∃ w2,w2 = ((w1.alloc (.cells (madeCells #[Value.slice none 0 0] N.length) 70)).alloc (.cells #[.slice A0 N.length c0,.slice A1 L.length c1,.slice (some ⟨w1.heap.size,0,none⟩) N.length N.length] 89)).drew:=⟨_,rfl⟩
 rw [← hw2]
 have F1 : RowsI w2 w.heap.size w1.heap.size N.length 0 (fun _=>0):=by
  refine ⟨?_,fun i hi=>by omega,HB.out.size,fun i hi=>by omega,fun i j hi=>by omega⟩
  rw [hw2]
  refine blk_alloc ?_ _
  rw [blk_new,made_rows _ 70]
  rfl
 have F2 : w2.heap[w1.heap.size + 1]? = some (.cells #[.slice A0 N.length c0,.slice A1 L.length c1,rowV N.length w1.heap.size] 89 (0,0)):=by
  rw [hw2]
  have:=blk_new (w1.alloc (.cells (madeCells #[Value.slice none 0 0] N.length) 70)) (.cells #[.slice A0 N.length c0,.slice A1 L.length c1,.slice (some ⟨w1.heap.size,0,none⟩) N.length N.length] 89 (0,0))
  rw [show (w1.alloc (.cells (madeCells #[Value.slice none 0 0] N.length) 70)).heap.size = w1.heap.size + 1 from Array.size_push ..] at this
  exact this
 have F3 : w2.heap[g0]? = some (.cells #[.slice A0 N.length c0,.slice A1 L.length c1] 30 (0,0)):=by rw [hw2];exact blk_alloc (blk_alloc BK.out _) _
 have F4 : Below w.heap.size w w2:=by rw [hw2];exact zzF (zzD (zzD HB.out _) _)
 have G1 : w.heap.size ≤ w1.heap.size:=HB.out.size
 clear hw2 BK HB
 generalize w1.heap.size = gR at F1 F2 G1 ⊢
 generalize gR + 1 = gt at F2 ⊢
 have RW:=Aside0.mk F1
 have BT:=Aside0.mk F2
 have BK:=Aside0.mk F3
 have HB:=Aside0.mk F4
 have GR:=Aside0.mk G1
 clear F1 F2 F3 F4 G1
 have hct : w2.cell? ⟨gt,2,none⟩ = some (.slice (some ⟨gR,0,none⟩) N.length N.length):=(box3_S BT.out).2.2.1
 go_wp2
 go_loopw [23] (fun v wr=>∃ (i : Nat) (gr : Nat → Nat),i ≤ N.length ∧ v = .int .i64 (i : Int) ∧ Aside0 (RowsI wr w.heap.size gR N.length i gr) ∧ Aside0 (wr.heap[gt]? = some (.cells #[.slice A0 N.length c0,.slice A1 L.length c1,rowV N.length gR] 89 (0,0))) ∧ Aside0 (wr.heap[g0]? = some (.cells #[.slice A0 N.length c0,.slice A1 L.length c1] 30 (0,0))) ∧ Aside0 (Below w.heap.size w wr)) (fun v _=>N.length - (intOf v).toNat)
 case atStart=>exact ⟨0,_,by omega,rfl,RW,BT,BK,HB⟩
 case round =>
  clear RW BT BK HB hct
  obtain ⟨i,gr,hi,rfl,RW,BT,BK,HB⟩:=hrel
  have hct : wr.cell? ⟨gt,2,none⟩ = some (.slice (some ⟨gR,0,none⟩) N.length N.length):=(box3_S BT.out).2.2.1
  by_cases h1 : i < N.length
  ·have k1 : decide ((i : Int) < (N.length : Int)) = true:=decide_eq_true (by omega)
   have k1' : decide (i < N.length) = true:=decide_eq_true (by omega)
   have q1 : ∃ cs,i < cs.size ∧ wr.heap[gR]? = some (.cells cs 70 (0,0)):=⟨_,by simp [h1],RW.out.hR⟩
   have q2 : wr.heap[g0]? = some (.cells #[.slice A0 N.length c0,.slice A1 L.length c1] 30 (0,0)):=BK.out
   have q3 : wr.heap[gt]? = some (.cells #[.slice A0 N.length c0,.slice A1 L.length c1,.slice (some ⟨gR,0,none⟩) N.length N.length] 89 (0,0)):=BT.out
   have n1 : g0 ≠ gR:=some_ne q1 q2 (by decide)
   have n2 : gt ≠ gR:=some_ne q1 q3 (by decide)
   go_upto_region 5 with (fail)
   go_region_held3 (fun W : World=>W.cell? ⟨g0,0,none⟩ = some (.slice A0 N.length c0) ∧ W.cell? ⟨g0,1,none⟩ = some (.slice A1 L.length c1) ∧ W.cell? ⟨gt,2,none⟩ = some (.slice (some ⟨gR,0,none⟩) N.length N.length) ∧ W.cell? ⟨gR,i,none⟩ = some (cellOr W ⟨gR,i,none⟩) ∧ W.frozen? ⟨gR,i,none⟩ = false ∧ (∃ cs,i < cs.size ∧ W.heap[gR]? = some (.cells cs 70 (0,0))) ∧ W.heap[g0]? = some (.cells #[.slice A0 N.length c0,.slice A1 L.length c1] 30 (0,0)) ∧ W.heap[gt]? = some (.cells #[.slice A0 N.length c0,.slice A1 L.length c1,.slice (some ⟨gR,0,none⟩) N.length N.length] 89 (0,0))) (first|exact S5d q1 q2 q3|exact S5d (some_alloc _ q1) (blk_alloc q2 _) (blk_alloc q3 _)|exact S5d (some_set _ (some_alloc _ q1)) (blk_far (blk_alloc q2 _) n1 _) (blk_far (blk_alloc q3 _) n2 _)|exact S5 (some_set _ (some_alloc _ q1)) (blk_far (blk_alloc q2 _) n1 _) (blk_far (blk_alloc q3 _) n2 _)) (fail)
   obtain ⟨w3,hw3⟩ : ∃ w3,w3 = ((wr.alloc (.cells (madeCells #[Value.slice none 0 0] N.length) 27)).setCell ⟨gR,i,none⟩ (.slice (some ⟨wr.heap.size,0,none⟩) N.length N.length)).drew:=⟨_,rfl⟩
   rw [← hw3]
   have F1 : RowsI w3 w.heap.size gR N.length (i + 1) (upd1 gr i wr.heap.size):=by
    have h:=RW.out.step h1 HB.out.size
    rw [← made_rows N.length 27] at h
    rw [hw3]
    exact h.below (zzF (Below.refl _ _))
   have F2 : w3.heap[gt]? = some (.cells #[.slice A0 N.length c0,.slice A1 L.length c1,rowV N.length gR] 89 (0,0)):=by
    rw [hw3]
    exact blk_far (blk_alloc BT.out _) n2 _
   have F3 : w3.heap[g0]? = some (.cells #[.slice A0 N.length c0,.slice A1 L.length c1] 30 (0,0)):=by
    rw [hw3]
    exact blk_far (blk_alloc BK.out _) n1 _
   have F4 : Below w.heap.size w w3:=by
    rw [hw3]
    exact zzF (below_set (zzD HB.out _) GR.out)
   clear hw3 q1 q2 q3 n1 n2 RW BT BK HB hct
   go_wp2
   go_roundw
   case rel=>exact ⟨i + 1,_,by omega,by first|rfl|simp,⟨F1⟩,⟨F2⟩,⟨F3⟩,⟨F4⟩⟩
   case measure=>show N.length - ((i : Int) + 1).toNat < N.length - ((i : Nat) : Int).toNat;omega
  ·have k1 : decide ((i : Int) < (N.length : Int)) = false:=decide_eq_false (by omega)
   have k1' : decide (i < N.length) = false:=decide_eq_false (by omega)
   obtain rfl : i = N.length:=by omega
   have TB:=Aside0.mk RW.out.all
   have KL:=Aside0.mk (show L.length < 20 from hL)
   have hc1 : wr.cell? ⟨g0,1,none⟩ = some (.slice A1 L.length c1):=(box2_S BK.out).2.1
   clear RW hct
   go_wp2
   go_loopw [40] (fun v wr=>∃ (m : Nat) (V : Nat → Nat → Value),m ≤ L.length ∧ v = .int .i64 (m : Int) ∧ Aside0 (TabI wr w.heap.size gR N.length gr V (rowE L m)) ∧ Aside0 (wr.heap[gt]? = some (.cells #[.slice A0 N.length c0,.slice A1 L.length c1,rowV N.length gR] 89 (0,0))) ∧ Aside0 (wr.heap[g0]? = some (.cells #[.slice A0 N.length c0,.slice A1 L.length c1] 30 (0,0))) ∧ Aside0 (Below w.heap.size w wr)) (fun v _=>L.length - (intOf v).toNat)
   case atStart=>exact ⟨0,_,by omega,rfl,TB,BT,BK,HB⟩
   case round =>
    clear TB BT BK HB hc1
    obtain ⟨m,V,hm,rfl,TB,BT,BK,HB⟩:=hrel
    by_cases h2 : m < L.length
    ·have k2 : decide ((m : Int) < (L.length : Int)) = true:=decide_eq_true (by omega)
     have k2' : decide (m < L.length) = true:=decide_eq_true (by omega)
     obtain ⟨f1,f2,f3,f4⟩:=HF.out m h2
     obtain ⟨x,hx⟩ : ∃ x,rd_T34 L (m : Int) = x:=⟨_,rfl⟩
     obtain ⟨ad,e1,hx0,hx1,hx2⟩:=at_T34 (Kd.C_below HR1.out HB.out) (m : Int) (by omega) (by omega)
     cases e1
     rw [Int.toNat_natCast,hx] at hx0 hx1 hx2
     rw [hx] at f1 f2 f3 f4
     obtain ⟨f,hf⟩:=Int.eq_ofNat_of_zero_le f1
     obtain ⟨t,ht⟩:=Int.eq_ofNat_of_zero_le f3
     rw [hf] at f2 hx1
     rw [ht] at f4 hx2
     have hfn : f < N.length:=by omega
     have htn : t < N.length:=by omega
     go_upto_region 10 with (first|((with_reducible refine gate_dst (N:=6) rfl ?_);refine box_event ?hg (N:=6) ?hd (cs:=#[.int .i64 0,.int .i64 0,.int .i64 0]) (t:=34) ?hr ?_;(case hd=>rfl);(case hg=>rfl);(case hr=>first|(go_simp;done)|(go_simp;rfl));intro gb hg wA hbox hb;have hcA0 : wA.cell? ⟨gb,0,none⟩ = some (.int .i64 0):=(blk_cell hbox 0).trans rfl;have hcA1 : wA.cell? ⟨gb,1,none⟩ = some (.int .i64 0):=(blk_cell hbox 1).trans rfl;have hcA2 : wA.cell? ⟨gb,2,none⟩ = some (.int .i64 0):=(blk_cell hbox 2).trans rfl;have hfA0:=blk_frozen hbox 0;have hfA1:=blk_frozen hbox 1;have hfA2:=blk_frozen hbox 2;have HGB:=Aside0.mk hg;have HBX:=Aside0.mk hbox;have HBB:=Aside0.mk hb;clear hg hbox hb)|((with_reducible refine gate_store (t:=34) (p:=6) rfl ?_);refine store_event (t:=34) (p:=6) (v:=?vo_) (w1:=((wA.setCell ⟨gb,0,none⟩ (.int .i64 x.f0)).setCell ⟨gb,1,none⟩ (.int .i64 (f : Int))).setCell ⟨gb,2,none⟩ (.int .i64 (t : Int))) ?hg ?ho ?hn ?hr ?_;(case ho=>rfl);(case hg=>rfl);(case hn=>rfl);(case hr=>first|(go_simp;done)|(go_simp;rfl));intro wS hw))
     have HX : Below wr.heap.size wr wS:=by
      rw [hw]
      exact below_set (below_set (below_set HBB.out (by rw [HGB.out];omega)) (by rw [HGB.out];omega)) (by rw [HGB.out];omega)
     have Hb : wS.heap[gb]? = some (.cells #[.int .i64 x.f0,.int .i64 (f : Int),.int .i64 (t : Int)] 34 (0,0)):=by
      rw [hw]
      exact blk_put (blk_put (blk_put HBX.out 0 _ rfl) 1 _ rfl) 2 _ rfl
     clear hw hcA0 hcA1 hcA2 hfA0 hfA1 hfA2 HBX HBB HGB
     have TS:=TB.out.below HX
     have BS:=blk_below BT.out HX
     have KS:=blk_below BK.out HX
     have HS0 : Below w.heap.size w wS:=below_step HB.out HX
     clear HX TB BT BK HB
     have q0 : S10 wS gt gb gR (gr f) t N.length f (.slice A0 N.length c0) (.slice (some ad) L.length c1) (.slice (some ⟨gR,0,none⟩) N.length N.length) (.int .i64 x.f0) (.int .i64 (f : Int)) (.int .i64 (t : Int)) :=
      ⟨BS,Hb,⟨_,by simp [hfn,rowV],TS.hR⟩,⟨_,by simp [htn],TS.hr f hfn⟩⟩
     have hlen:=rowE_len L m f t
     have hRt : ∀ k,(V f t).ownBlock = some k → ∃ cs,wS.heap[k]? = some (.cells cs 3 (0,0)):=fun k hk=>by
      obtain ⟨inner,ho⟩:=Kd.R_own (TS.ho f t hfn htn)
      exact own_typed ho k hk
     have hdw : (wS.alloc (.cells #[.int .i64 (m : Int)] 3)).drew = wS.drew.alloc (.cells ([Value.int .i64 (m : Int)] : List Value).toArray 3):=rfl
     have HDW:=Aside0.mk hdw
     have HRT:=Aside0.mk hRt
     have Q0:=Aside0.mk q0
     have HT:=Aside0.mk TS
     have HS1:=Aside0.mk HS0
     have BT:=Aside0.mk BS
     have BK:=Aside0.mk KS
     clear hdw hRt q0 TS HS0 BS KS
     have hs1 : wS.cell? ⟨gt,2,none⟩ = some (.slice (some ⟨gR,0,none⟩) N.length N.length):=Q0.out.facts.1
     have hs2 : wS.cell? ⟨gb,1,none⟩ = some (.int .i64 (f : Int)):=Q0.out.facts.2.1
     have hs3 : wS.cell? ⟨gb,2,none⟩ = some (.int .i64 (t : Int)):=Q0.out.facts.2.2.1
     have hs4 : wS.cell? ⟨gR,f,none⟩ = some (.slice (some ⟨gr f,0,none⟩) N.length N.length):=Q0.out.facts.2.2.2.1
     have hs5 : wS.cell? ⟨gr f,t,none⟩ = some (V f t):=HT.out.cell hfn htn
     have BX:=Aside0.mk (Below.refl wS.heap.size wS)
     refine start_ (n:=27) (S:=fun w'=>w'.cell? ⟨gt,2,none⟩ = some (.slice (some ⟨gR,0,none⟩) N.length N.length) ∧ w'.cell? ⟨gb,1,none⟩ = some (.int .i64 (f : Int)) ∧ w'.cell? ⟨gb,2,none⟩ = some (.int .i64 (t : Int)) ∧ w'.cell? ⟨gR,f,none⟩ = some (.slice (some ⟨gr f,0,none⟩) N.length N.length) ∧ w'.cell? ⟨gr f,t,none⟩ = some (V f t)) (ds:=[26]) #[false,false,false,false,false,false,false,false,false,false,false,false,false,false,false,false,false,false,false,false,false,false,false,false,false,false,false] (by kernel_rfl) rfl rfl ⟨hs1,hs2,hs3,hs4,hs5⟩ (fun hHeld=>?_)
     refine with_tabW td.tab10 td.bits10 (fun HT_ HW_=>?_)
     refine pure_ (i:=0) (N:=some 45) (v:=?_) (a':=?_) #[true,false,false,false,false,false,false,false,false,false,false,false,false,false,false,false,false,false,false,false,false,false,false,false,false,false,false] rfl rfl (any_of HT_.out (by kernel_rfl)) (fun _ _ _ h=>h) (Or.inl ⟨by rfl,?_⟩) ?_ ?_
     rotate_left
     ·intro w'
      go_simp
      with_reducible rfl
     rotate_left
     ·simp only [Act.put,zzA,zzB,zzC,i64_w,i32_w]
      rfl
     refine pure_ (i:=1) (N:=some 46) (v:=?_) (a':=?_) #[true,true,false,false,false,false,false,false,false,false,false,false,false,false,false,false,false,false,false,false,false,false,false,false,false,false,false] rfl rfl (any_of HT_.out (by kernel_rfl)) (fun _ _ _ h=>h) (Or.inl ⟨by rfl,?_⟩) ?_ ?_
     rotate_left
     ·intro w'
      go_simp
      with_reducible rfl
     rotate_left
     ·simp only [Act.put,zzA,zzB,zzC,i64_w,i32_w]
      rfl
     refine pure_ (i:=2) (N:=some 47) (v:=?_) (a':=?_) #[true,true,true,false,false,false,false,false,false,false,false,false,false,false,false,false,false,false,false,false,false,false,false,false,false,false,false] rfl rfl (any_of HT_.out (by kernel_rfl)) (fun _ _ _ h=>h) (Or.inl ⟨by rfl,?_⟩) ?_ ?_
     rotate_left
     ·intro w'
      go_simp
      with_reducible rfl
     rotate_left
     ·simp only [Act.put,zzA,zzB,zzC,i64_w,i32_w]
      rfl
     refine pure_ (i:=4) (N:=some 49) (v:=?_) (a':=?_) #[true,true,true,false,true,false,false,false,false,false,false,false,false,false,false,false,false,false,false,false,false,false,false,false,false,false,false] rfl rfl (any_of HT_.out (by kernel_rfl)) (fun _ _ _ h=>h) (Or.inl ⟨by rfl,?_⟩) ?_ ?_
     rotate_left
     ·intro w'
      go_simp
      with_reducible rfl
     rotate_left
     ·simp only [Act.put,zzA,zzB,zzC,i64_w,i32_w]
      rfl
     refine pure_ (i:=8) (N:=some 53) (v:=?_) (a':=?_) #[true,true,true,false,true,false,false,false,true,false,false,false,false,false,false,false,false,false,false,false,false,false,false,false,false,false,false] rfl rfl (any_of HT_.out (by kernel_rfl)) (fun _ _ _ h=>h) (Or.inl ⟨by rfl,?_⟩) ?_ ?_
     rotate_left
     ·intro w'
      go_simp
      with_reducible rfl
     rotate_left
     ·simp only [Act.put,zzA,zzB,zzC,i64_w,i32_w]
      rfl
     refine pure_ (i:=10) (N:=some 55) (v:=?_) (a':=?_) #[true,true,true,false,true,false,false,false,true,false,true,false,false,false,false,false,false,false,false,false,false,false,false,false,false,false,false] rfl rfl (any_of HT_.out (by kernel_rfl)) (fun _ _ _ h=>h) (Or.inl ⟨by rfl,?_⟩) ?_ ?_
     rotate_left
     ·intro w'
      go_simp
      with_reducible rfl
     rotate_left
     ·simp only [Act.put,zzA,zzB,zzC,i64_w,i32_w]
      rfl
     refine pure_ (i:=11) (N:=some 56) (v:=?_) (a':=?_) #[true,true,true,false,true,false,false,false,true,false,true,true,false,false,false,false,false,false,false,false,false,false,false,false,false,false,false] rfl rfl (any_of HT_.out (by kernel_rfl)) (fun _ _ _ h=>h) (Or.inl ⟨by rfl,?_⟩) ?_ ?_
     rotate_left
     ·intro w'
      go_simp
      with_reducible rfl
     rotate_left
     ·simp only [Act.put,zzA,zzB,zzC,i64_w,i32_w]
      rfl
     refine pure_ (i:=12) (N:=some 57) (v:=?_) (a':=?_) #[true,true,true,false,true,false,false,false,true,false,true,true,true,false,false,false,false,false,false,false,false,false,false,false,false,false,false] rfl rfl (any_of HT_.out (by kernel_rfl)) (fun _ _ _ h=>h) (Or.inl ⟨by rfl,?_⟩) ?_ ?_
     rotate_left
     ·intro w'
      go_simp
      with_reducible rfl
     rotate_left
     ·simp only [Act.put,zzA,zzB,zzC,i64_w,i32_w]
      rfl
     refine pure_ (i:=14) (N:=some 59) (v:=?_) (a':=?_) #[true,true,true,false,true,false,false,false,true,false,true,true,true,false,true,false,false,false,false,false,false,false,false,false,false,false,false] rfl rfl (any_of HT_.out (by kernel_rfl)) (fun _ _ _ h=>h) (Or.inl ⟨by rfl,?_⟩) ?_ ?_
     rotate_left
     ·intro w'
      go_simp
      with_reducible rfl
     rotate_left
     ·simp only [Act.put,zzA,zzB,zzC,i64_w,i32_w]
      rfl
     refine pure_ (i:=18) (N:=some 63) (v:=?_) (a':=?_) #[true,true,true,false,true,false,false,false,true,false,true,true,true,false,true,false,false,false,true,false,false,false,false,false,false,false,false] rfl rfl (any_of HT_.out (by kernel_rfl)) (fun _ _ _ h=>h) (Or.inl ⟨by rfl,?_⟩) ?_ ?_
     rotate_left
     ·intro w'
      go_simp
      with_reducible rfl
     rotate_left
     ·simp only [Act.put,zzA,zzB,zzC,i64_w,i32_w]
      rfl
     refine pure_ (i:=22) (N:=some 67) (v:=?_) (a':=?_) #[true,true,true,false,true,false,false,false,true,false,true,true,true,false,true,false,false,false,true,false,false,false,true,false,false,false,false] rfl rfl (any_of HT_.out (by kernel_rfl)) (fun _ _ _ h=>h) (Or.inl ⟨by rfl,?_⟩) ?_ ?_
     rotate_left
     ·intro w'
      go_simp
      with_reducible rfl
     rotate_left
     ·simp only [Act.put,zzA,zzB,zzC,i64_w,i32_w]
      rfl
     refine take_ (i:=3) (N:=some 48) (v:=?_) (a':=?_) #[true,true,true,true,true,false,false,false,true,false,true,true,true,false,true,false,false,false,true,false,false,false,true,false,false,false,false] rfl rfl (take_ofW HT_.out HW_.out (by kernel_rfl)) (fun _ _ _ h=>h) (Or.inl ⟨by rfl,?_⟩) hHeld ?_ ?_
     rotate_left
     ·rintro w' ⟨s0,s1,s2,s3,s4⟩
      go_simp
      with_reducible rfl
     rotate_left
     ·simp only [Act.put,zzA,zzB,zzC,i64_w,i32_w]
      rfl
     refine take_ (i:=5) (N:=some 50) (v:=?_) (a':=?_) #[true,true,true,true,true,true,false,false,true,false,true,true,true,false,true,false,false,false,true,false,false,false,true,false,false,false,false] rfl rfl (take_ofW HT_.out HW_.out (by kernel_rfl)) (fun _ _ _ h=>h) (Or.inl ⟨by rfl,?_⟩) hHeld ?_ ?_
     rotate_left
     ·rintro w' ⟨s0,s1,s2,s3,s4⟩
      go_simp
      with_reducible rfl
     rotate_left
     ·simp only [Act.put,zzA,zzB,zzC,i64_w,i32_w]
      rfl
     refine pure_ (i:=6) (N:=some 51) (v:=?_) (a':=?_) #[true,true,true,true,true,true,true,false,true,false,true,true,true,false,true,false,false,false,true,false,false,false,true,false,false,false,false] rfl rfl (any_of HT_.out (by kernel_rfl)) (fun _ _ _ h=>h) (Or.inl ⟨by rfl,?_⟩) ?_ ?_
     rotate_left
     ·intro w'
      go_simp
      with_reducible rfl
     rotate_left
     ·simp only [Act.put,zzA,zzB,zzC,i64_w,i32_w]
      rfl
     refine take_ (i:=7) (N:=some 52) (v:=?_) (a':=?_) #[true,true,true,true,true,true,true,true,true,false,true,true,true,false,true,false,false,false,true,false,false,false,true,false,false,false,false] rfl rfl (take_ofW HT_.out HW_.out (by kernel_rfl)) (fun _ _ _ h=>h) (Or.inl ⟨by rfl,?_⟩) hHeld ?_ ?_
     rotate_left
     ·rintro w' ⟨s0,s1,s2,s3,s4⟩
      go_simp
      with_reducible rfl
     rotate_left
     ·simp only [Act.put,zzA,zzB,zzC,i64_w,i32_w]
      rfl
     refine take_ (i:=9) (N:=some 54) (v:=?_) (a':=?_) #[true,true,true,true,true,true,true,true,true,true,true,true,true,false,true,false,false,false,true,false,false,false,true,false,false,false,false] rfl rfl (take_ofW HT_.out HW_.out (by kernel_rfl)) (fun _ _ _ h=>h) (Or.inl ⟨by rfl,?_⟩) hHeld ?_ ?_
     rotate_left
     ·rintro w' ⟨s0,s1,s2,s3,s4⟩
      go_simp
      with_reducible rfl
     rotate_left
     ·simp only [Act.put,zzA,zzB,zzC,i64_w,i32_w]
      rfl
     refine take_ (i:=13) (N:=some 58) (v:=?_) (a':=?_) #[true,true,true,true,true,true,true,true,true,true,true,true,true,true,true,false,false,false,true,false,false,false,true,false,false,false,false] rfl rfl (take_ofW HT_.out HW_.out (by kernel_rfl)) (fun _ _ _ h=>h) (Or.inl ⟨by rfl,?_⟩) hHeld ?_ ?_
     rotate_left
     ·rintro w' ⟨s0,s1,s2,s3,s4⟩
      go_simp
      with_reducible rfl
     rotate_left
     ·simp only [Act.put,zzA,zzB,zzC,i64_w,i32_w]
      rfl
     refine take_ (i:=15) (N:=some 60) (v:=?_) (a':=?_) #[true,true,true,true,true,true,true,true,true,true,true,true,true,true,true,true,false,false,true,false,false,false,true,false,false,false,false] rfl rfl (take_ofW HT_.out HW_.out (by kernel_rfl)) (fun _ _ _ h=>h) (Or.inl ⟨by rfl,?_⟩) hHeld ?_ ?_
     rotate_left
     ·rintro w' ⟨s0,s1,s2,s3,s4⟩
      go_simp
      with_reducible rfl
     rotate_left
     ·simp only [Act.put,zzA,zzB,zzC,i64_w,i32_w]
      rfl
     refine pure_ (i:=16) (N:=some 61) (v:=?_) (a':=?_) #[true,true,true,true,true,true,true,true,true,true,true,true,true,true,true,true,true,false,true,false,false,false,true,false,false,false,false] rfl rfl (any_of HT_.out (by kernel_rfl)) (fun _ _ _ h=>h) (Or.inl ⟨by rfl,?_⟩) ?_ ?_
     rotate_left
     ·intro w'
      go_simp
      with_reducible rfl
     rotate_left
     ·simp only [Act.put,zzA,zzB,zzC,i64_w,i32_w]
      rfl
     refine take_ (i:=17) (N:=some 62) (v:=?_) (a':=?_) #[true,true,true,true,true,true,true,true,true,true,true,true,true,true,true,true,true,true,true,false,false,false,true,false,false,false,false] rfl rfl (take_ofW HT_.out HW_.out (by kernel_rfl)) (fun _ _ _ h=>h) (Or.inl ⟨by rfl,?_⟩) hHeld ?_ ?_
     rotate_left
     ·rintro w' ⟨s0,s1,s2,s3,s4⟩
      go_simp
      with_reducible rfl
     rotate_left
     ·simp only [Act.put,zzA,zzB,zzC,i64_w,i32_w]
      rfl
     refine take_ (i:=19) (N:=some 64) (v:=?_) (a':=?_) #[true,true,true,true,true,true,true,true,true,true,true,true,true,true,true,true,true,true,true,true,false,false,true,false,false,false,false] rfl rfl (take_ofW HT_.out HW_.out (by kernel_rfl)) (fun _ _ _ h=>h) (Or.inl ⟨by rfl,?_⟩) hHeld ?_ ?_
     rotate_left
     ·rintro w' ⟨s0,s1,s2,s3,s4⟩
      go_simp
      with_reducible rfl
     rotate_left
     ·simp only [Act.put,zzA,zzB,zzC,i64_w,i32_w]
      rfl
     refine pure_ (i:=20) (N:=some 65) (v:=?_) (a':=?_) #[true,true,true,true,true,true,true,true,true,true,true,true,true,true,true,true,true,true,true,true,true,false,true,false,false,false,false] rfl rfl (any_of HT_.out (by kernel_rfl)) (fun _ _ _ h=>h) (Or.inl ⟨by rfl,?_⟩) ?_ ?_
     rotate_left
     ·intro w'
      go_simp
      with_reducible rfl
     rotate_left
     ·simp only [Act.put,zzA,zzB,zzC,i64_w,i32_w]
      rfl
     refine take_ (i:=21) (N:=some 66) (v:=?_) (a':=?_) #[true,true,true,true,true,true,true,true,true,true,true,true,true,true,true,true,true,true,true,true,true,true,true,false,false,false,false] rfl rfl (take_ofW HT_.out HW_.out (by kernel_rfl)) (fun _ _ _ h=>h) (Or.inl ⟨by rfl,?_⟩) hHeld ?_ ?_
     rotate_left
     ·rintro w' ⟨s0,s1,s2,s3,s4⟩
      go_simp
      with_reducible rfl
     rotate_left
     ·simp only [Act.put,zzA,zzB,zzC,i64_w,i32_w]
      rfl
     refine one_ (i:=23) (N:=some 68) #[true,true,true,true,true,true,true,true,true,true,true,true,true,true,true,true,true,true,true,true,true,true,true,true,false,false,false] rfl rfl (one_of HT_.out (by kernel_rfl)) (by decide) (fun K hK=>?_)
     refine value_ (w1:=?_) (v:=?_) (by rfl) rfl ?_ ?_
     rotate_left 2
     ·go_simp
      constructor
      ·rfl
      ·rfl
     refine hK.out _ _ ⟨(pw_cell_below (w:=wS) (by repeat (first|(with_reducible first|exact BX.out|apply zzD|apply zzE|apply zzF)|exact BX.out)) hs1),(pw_cell_below (w:=wS) (by repeat (first|(with_reducible first|exact BX.out|apply zzD|apply zzE|apply zzF)|exact BX.out)) hs2),(pw_cell_below (w:=wS) (by repeat (first|(with_reducible first|exact BX.out|apply zzD|apply zzE|apply zzF)|exact BX.out)) hs3),(pw_cell_below (w:=wS) (by repeat (first|(with_reducible first|exact BX.out|apply zzD|apply zzE|apply zzF)|exact BX.out)) hs4),(pw_cell_below (w:=wS) (by repeat (first|(with_reducible first|exact BX.out|apply zzD|apply zzE|apply zzF)|exact BX.out)) hs5)⟩ (fun hHeld=>?_)
     clear hK K
     refine norm_ (a':=?_) ?_ ?_
     rotate_left
     ·show Act.put _ (some 68) _ = _
      simp only [Act.put,zzA,zzB,zzC,i64_w,i32_w]
      rfl
     refine one_ (i:=24) (N:=some 69) #[true,true,true,true,true,true,true,true,true,true,true,true,true,true,true,true,true,true,true,true,true,true,true,true,true,false,false] rfl rfl (one_of HT_.out (by kernel_rfl)) (by decide) (fun K hK=>?_)
     refine app_drew (w0:=w) (W:=wS) w.heap.size (by rfl) (.tmp 66) (.tmp 68) 27 rfl Try.underlying27 info3 (V f t) (rowE L m f t) (m : Int) rfl rfl (HT.out.ho f t hfn htn) HS1.out HS1.out.size (by omega) ?_
     intro v1 w4 ho hb hg hat
     obtain ⟨Av,cv,ev⟩:=Kd.R_slice ho
     subst ev
     have QG:=Aside0.mk (Q0.out.grown hg HRT.out)
     have OW:=Aside0.mk ho
     have HB4:=Aside0.mk hb
     have HG4:=Aside0.mk hg
     have HA4:=Aside0.mk hat
     clear ho hb hg hat
     have hrg:=blk_grown (HT.out.hr f hfn) HG4.out (fun he=>by obtain ⟨cs,hcs⟩:=HRT.out _ he.symm;exact ty_ne (HT.out.hr f hfn) hcs (by decide) rfl)
     have hq5 : w4.cell? ⟨gr f,t,none⟩ = some (V f t):=by rw [blk_cell hrg t];simp [htn]
     have hfq:=blk_frozen hrg t
     clear hrg
     refine hK.out _ _ ⟨QG.out.facts.1,QG.out.facts.2.1,QG.out.facts.2.2.1,QG.out.facts.2.2.2.1,hq5⟩ (fun hHeld=>?_)
     clear hK K
     refine norm_ (a':=?_) ?_ ?_
     rotate_left
     ·show Act.put _ (some 69) _ = _
      simp only [Act.put,zzA,zzB,zzC,i64_w,i32_w]
      rfl
     refine pure_ (i:=25) (N:=some 70) (v:=?_) (a':=?_) #[true,true,true,true,true,true,true,true,true,true,true,true,true,true,true,true,true,true,true,true,true,true,true,true,true,true,false] rfl rfl (any_of HT_.out (by kernel_rfl)) (fun _ _ _ h=>h) (Or.inl ⟨by rfl,?_⟩) ?_ ?_
     rotate_left
     ·intro w'
      go_simp
      with_reducible rfl
     rotate_left
     ·simp only [Act.put,zzA,zzB,zzC,i64_w,i32_w]
      rfl
     refine last_ (i:=26) (N:=none) #[true,true,true,true,true,true,true,true,true,true,true,true,true,true,true,true,true,true,true,true,true,true,true,true,true,true,true] rfl rfl (one_of HT_.out (by kernel_rfl)) (by decide) (fun K hK=>?_)
     refine skip_ (w1:=?_) (by rfl) rfl ?_ ?_
     rotate_left
     ·go_simp
      rfl
     refine hK.out _ _ ?_
     clear hK K
     refine done_ (done_of HT_.out (by kernel_rfl)) ?_
     simp only [List.length_append,List.length_cons,List.length_nil,Nat.zero_add]
     have hln : (rowE L m f t ++ [(m : Int)]).length = (rowE L m f t).length + 1:=by simp
     rw [hln] at OW HA4
     have F1:=HT.out.put hfn htn OW.out HG4.out HA4.out
     rw [← rowE_succ L m (by rw [hx];exact hf) (by rw [hx];exact ht)] at F1
     have hrf:=HT.out.hr f hfn
     have F2 : (w4.setCell ⟨gr f,t,none⟩ (.slice Av ((rowE L m f t).length + 1) cv)).heap[gt]? = some (.cells #[.slice A0 N.length c0,.slice (some ad) L.length c1,rowV N.length gR] 89 (0,0)):=(QG.out.set _).ht
     have F3 : (w4.setCell ⟨gr f,t,none⟩ (.slice Av ((rowE L m f t).length + 1) cv)).heap[g0]? = some (.cells #[.slice A0 N.length c0,.slice (some ad) L.length c1] 30 (0,0)):=by
      refine blk_far (blk_grown BK.out HG4.out (fun he=>?_)) (by show g0 ≠ gr f;exact ty_ne BK.out hrf (by decide)) _
      obtain ⟨cs,hcs⟩:=HRT.out g0 he.symm
      exact ty_ne BK.out hcs (by decide) rfl
     have F4 : Below w.heap.size w (w4.setCell ⟨gr f,t,none⟩ (.slice Av ((rowE L m f t).length + 1) cv)):=below_set HB4.out (HT.out.br f hfn)
     generalize w4.setCell ⟨gr f,t,none⟩ (.slice Av ((rowE L m f t).length + 1) cv) = w5 at F1 F2 F3 F4 ⊢
     have R1:=Aside0.mk F1
     have R2:=Aside0.mk F2
     have R3:=Aside0.mk F3
     have R4:=Aside0.mk F4
     clear F1 F2 F3 F4 OW HA4 HG4 HB4 QG HT BT BK HRT Q0 HS1 HDW hln hrf hlen hs1 hs2 hs3 hs4 hs5 hq5 hfq BX
     go_wp2
     go_roundw
     case rel=>exact ⟨m + 1,_,by omega,by first|rfl|simp,R1,R2,R3,R4⟩
     case measure=>show L.length - ((m : Int) + 1).toNat < L.length - ((m : Nat) : Int).toNat;omega
    ·have k2 : decide ((m : Int) < (L.length : Int)) = false:=decide_eq_false (by omega)
     have k2' : decide (m < L.length) = false:=decide_eq_false (by omega)
     obtain rfl : m = L.length:=by omega
     have TP:=Aside0.mk (TB.out.congr (E':=partS S (rowE L L.length) 0 0) (fun i j _ _=>part_zero S _ N.length i j))
     clear TB
     have hct : wr.cell? ⟨gt,2,none⟩ = some (.slice (some ⟨gR,0,none⟩) N.length N.length):=(box3_S BT.out).2.2.1
     go_wp2
     go_loopw [77] (fun v wr=>∃ (i : Nat),i ≤ N.length ∧ v = .int .i64 (i : Int) ∧ Aside0 (TabI wr w.heap.size gR N.length gr V (partS S (rowE L L.length) i 0)) ∧ Aside0 (wr.heap[gt]? = some (.cells #[.slice A0 N.length c0,.slice A1 L.length c1,rowV N.length gR] 89 (0,0))) ∧ Aside0 (wr.heap[g0]? = some (.cells #[.slice A0 N.length c0,.slice A1 L.length c1] 30 (0,0))) ∧ Aside0 (Below w.heap.size w wr)) (fun v _=>N.length - (intOf v).toNat)
     case atStart=>exact ⟨0,by omega,rfl,TP,BT,BK,HB⟩
     case round =>
      clear TP BT BK HB hct
      obtain ⟨i,hi,rfl,TP,BT,BK,HB⟩:=hrel
      by_cases h3 : i < N.length
      ·have k3 : decide ((i : Int) < (N.length : Int)) = true:=decide_eq_true (by omega)
       have k3' : decide (i < N.length) = true:=decide_eq_true (by omega)
       have hcr : wr.cell? ⟨gR,i,none⟩ = some (.slice (some ⟨gr i,0,none⟩) N.length N.length):=TP.out.rowCell h3
       go_wp2
       go_loopw [83] (fun v wr=>∃ (j : Nat),j ≤ N.length ∧ v = .int .i64 (j : Int) ∧ Aside0 (TabI wr w.heap.size gR N.length gr V (partS S (rowE L L.length) i j)) ∧ Aside0 (wr.heap[gt]? = some (.cells #[.slice A0 N.length c0,.slice A1 L.length c1,rowV N.length gR] 89 (0,0))) ∧ Aside0 (wr.heap[g0]? = some (.cells #[.slice A0 N.length c0,.slice A1 L.length c1] 30 (0,0))) ∧ Aside0 (Below w.heap.size w wr)) (fun v _=>N.length - (intOf v).toNat)
       case atStart=>exact ⟨0,by omega,rfl,TP,BT,BK,HB⟩
       case round =>
        clear TP BT BK HB hcr
        obtain ⟨j,hj,rfl,TP,BT,BK,HB⟩:=hrel
        by_cases h4 : j < N.length
        ·have k4 : decide ((j : Int) < (N.length : Int)) = true:=decide_eq_true (by omega)
         have k4' : decide (j < N.length) = true:=decide_eq_true (by omega)
         have hcv : wr.cell? ⟨gr i,j,none⟩ = some (V i j):=TP.out.cell h3 h4
         have HP:=Aside0.mk (show ∀ k,(V i j).ownBlock = some k → w.heap.size ≤ k ∧ ∃ cs,wr.heap[k]? = some (.cells cs 3 (0,0)) from fun k hk=>by
          obtain ⟨inner,ho⟩:=Kd.R_own (TP.out.ho i j h3 h4)
          exact ⟨Kd.R_base (TP.out.ho i j h3 h4) k hk,own_typed ho k hk⟩)
         have HRV:=Aside0.mk (show Kd.R (Kd.int .i64) 3 wr w.heap.size (fun k=>(V i j).ownBlock = some k) (V i j) (rowE L L.length i j) from by
          have h0:=TP.out.ho i j h3 h4
          rw [part_at] at h0
          exact ⟨fun k hk=>hk,h0.2.imp_ (fun _ _ hp=>hp)⟩)
         obtain ⟨k,hk⟩:=HS.out i j h3 h4
         have HCC:=Aside0.mk (sort_calls k (fun k=>(V i j).ownBlock = some k) (V i j) (rowE L L.length i j) A1 c1 L (S i j) w wr HB.out HRV.out
          (Kd.C_kept_came heap34 HR1.out HB.out (fun k hk=>(HP.out k hk).1)) HC1.out hk (Nat.lt_of_le_of_lt (rowE_len L L.length i j) hL) (gb:=g0)
          (fun W_ hK=>((blk_cell ((hK.2 g0 (blk_lt BK.out) (fun he=>by obtain ⟨cs,hcs⟩:=(HP.out g0 he).2;exact ty_ne BK.out hcs (by decide) rfl)).trans BK.out) 1).trans rfl)))
         go_wp2_with (first|(go_at_call 65;(refine HCC.out.mono ?_);rintro e w6 ⟨rfl,p1,p2,p3⟩;have P1:=Aside0.mk p1;have P2:=Aside0.mk p2;have P3:=Aside0.mk p3;clear p1 p2 p3))
         have F1:=TP.out.turn h3 h4 (Kd.R_mono P1.out (fun _ _=>trivial)) P3.out
         have F1':=Aside0.mk (F1.congr (E':=partS S (rowE L L.length) i (j + 1)) (fun a b _ _=>part_step S _ i j a b))
         have F2:=Aside0.mk (blk_kept BT.out P3.out (fun he=>by obtain ⟨cs,hcs⟩:=(HP.out gt he).2;exact ty_ne BT.out hcs (by decide) rfl))
         have F3:=Aside0.mk (blk_kept BK.out P3.out (fun he=>by obtain ⟨cs,hcs⟩:=(HP.out g0 he).2;exact ty_ne BK.out hcs (by decide) rfl))
         clear F1 TP BT BK HP HRV HCC HB P1 P3 hcv
         go_wp2
         go_roundw
         case rel=>exact ⟨j + 1,by omega,by first|rfl|simp,F1',F2,F3,P2⟩
         case measure=>show N.length - ((j : Int) + 1).toNat < N.length - ((j : Nat) : Int).toNat;omega
        ·have k4 : decide ((j : Int) < (N.length : Int)) = false:=decide_eq_false (by omega)
         have k4' : decide (j < N.length) = false:=decide_eq_false (by omega)
         obtain rfl : j = N.length:=by omega
         have F1':=Aside0.mk (TP.out.congr (E':=partS S (rowE L L.length) (i + 1) 0) (fun a b _ hb=>part_row S _ hb))
         clear TP
         go_wp2
         go_roundw
         case rel=>exact ⟨i + 1,by omega,by first|rfl|simp,F1',BT,BK,HB⟩
         case measure=>show N.length - ((i : Int) + 1).toNat < N.length - ((i : Nat) : Int).toNat;omega
      ·have k3 : decide ((i : Int) < (N.length : Int)) = false:=decide_eq_false (by omega)
       have k3' : decide (i < N.length) = false:=decide_eq_false (by omega)
       obtain rfl : i = N.length:=by omega
       have F1':=Aside0.mk (TP.out.congr (E':=S) (fun a b ha _=>part_all S _ ha))
       clear TP
       go_wp2
       go_ret
       exact ⟨gt,gR,rfl,BT.out,F1'.out.reads hn,HB.out⟩
end Go.Proofs.Ytgmomcjnldahjaa.Pr
namespace Go.Proofs.Ytgmomcjnldahjaa.Pr
open Go.RowKit Go.Proofs.YtgmomcjnldahjaaW.PrintWords Go.Proofs.YtgmomcjnldahjaaW.PrintLast Go.Proofs.YtgmomcjnldahjaaW.PrintMore
attribute [local go_sem] max2_int min2_int max_two min_two max_three min_three max_four min_four
set_option linter.unusedVariables false
set_option linter.unusedSimpArgs false
theorem row_eq (n g : Nat) : rowV n g = .slice (some ⟨g,0,none⟩) n n:=rfl
theorem BestV.lower {W : World} {base base' : Nat} {ok : Nat → Prop} {ov cv : Value} {b : Found} (h : BestV W base ok ov cv b) (hb : base' ≤ base) : BestV W base' ok ov cv b:=by
 cases b with
 | none => exact h
 | some p => exact ⟨h.1,h.2.1,Kd.R_lower h.2.2.1 hb,Kd.R_lower h.2.2.2 hb⟩
theorem validE_zero {N : List Int} {L : List S34} (h : validE N L = 0) : N.length ≤ 8 ∧ ∀ x ∈ L,0 ≤ x.f1 ∧ x.f1 < N.length ∧ 0 ≤ x.f2 ∧ x.f2 < N.length:=by
 unfold validE at h
 split at h
 ·rename_i h1;exact absurd h h1
 ·rename_i h1
  split at h
  ·exact absurd h (by decide)
  ·refine ⟨by omega,fun x hx=>?_⟩
   have h2 : gvalidE N L = 0:=Classical.byContradiction h1
   unfold gvalidE at h2
   split at h2
   ·exact absurd h2 (by decide)
   ·split at h2
    ·exact absurd h2 (by decide)
    ·split at h2
     ·exact absurd h2 (by decide)
     ·rename_i h3
      have h4 : fitsB x N.length = true:=by
       apply Classical.byContradiction
       intro h5
       exact h3 (List.any_eq_true.mpr ⟨x,hx,by simpa using h5⟩)
      simp only [fitsB,withinB,Bool.and_eq_true,decide_eq_true_eq] at h4
      omega
theorem rd_mem34 {L : List S34} {a : Nat} (h : a < L.length) : rd_T34 L (a : Int) ∈ L:=by
 unfold rd_T34
 rw [Int.toNat_natCast,List.getD_eq_getElem?_getD,List.getElem?_eq_getElem h]
 exact List.getElem_mem h
set_option maxHeartbeats 8000000 in
set_option maxRecDepth 100000 in
theorem code25_calls {w : World} {A0 : Option Addr} {c0 : Nat} {N : List Int} {A1 : Option Addr} {c1 : Nat} {L : List S34} (S : Nat → Nat → List Int) (hr0 : Kd.C (Kd.int .i64) w A0 N.length N) (hc0 : N.length ≤ c0) (hr1 : Kd.C k34 w A1 L.length L) (hc1 : L.length ≤ c1)
  (hok : validE N L = 0 → L.length < 20 ∧ Fits N.length L S ∧ ∀ i j,i < N.length → j < N.length → ∃ k,slices_insertionSortCmpFunc_int.f k (rowE L L.length i j) 0 ((rowE L L.length i j).length : Int) L = some (S i j)) :
  Calls Try.prog 25 #[.agg #[.slice A0 N.length c0,.slice A1 L.length c1]] w fun e w'=>Below w.heap.size w w' ∧ ((validE N L ≠ 0 ∧ e = .returned (.tuple #[.slice none 0 0,.int .i64 (validE N L)])) ∨
   (validE N L = 0 ∧ ∃ ov cv,e = .returned (.tuple #[cv,.int .i64 0]) ∧ BestV w' w.heap.size (fun _=>True) ov cv (srch N L S (twM N L S) N.length [] [(N.length : Int)] none))):=by
 have HV:=Aside0.mk (fun W (hw : Below w.heap.size w W)=>valid_calls A0 c0 N A1 c1 L W (Kd.C_below hr0 hw) hc0 (Kd.C_below hr1 hw) hc1)
 have HR0:=Aside0.mk hr0
 have HR1:=Aside0.mk hr1
 have HC0:=Aside0.mk hc0
 have HC1:=Aside0.mk hc1
 have hu30:=Try.underlying30
 have HB:=Aside0.mk (Below.refl w.heap.size w)
 by_cases h1 : validE N L = 0
 ·have HE:=Aside0.mk h1
  obtain ⟨hl20,hft,hsort⟩:=hok h1
  obtain ⟨hn8,hx⟩:=validE_zero h1
  have HL20:=Aside0.mk hl20
  have HFT:=Aside0.mk hft
  have HN8:=Aside0.mk hn8
  have HTB:=Aside0.mk (fun W (hw : Below w.heap.size w W)=>tabled_calls A0 c0 N A1 c1 L W (Kd.C_below hr0 hw) hc0 (Kd.C_below hr1 hw) hc1 (by omega) hl20 (fun a ha=>hx _ (rd_mem34 ha)) S hsort)
  clear hr0 hr1 hc0 hc1 hok h1 hl20 hft hsort hn8 hx
  go_enter Try.func25,Try.ntmps25
  go_wp2_with (first|((with_reducible refine gate_dst (N:=1) rfl ?_);refine box_event ?hg (N:=1) ?hd (cs:=#[.slice A0 N.length c0,.slice A1 L.length c1]) (t:=30) ?hr ?_;(case hd=>rfl);(case hg=>rfl);(case hr=>first|(go_simp;done)|(go_simp;rfl));intro gb hg w1 hbox hb;have n0_:=Aside0.mk (below_step HB.out hb);clear HB;have HB:=n0_;clear n0_ hb hg;have BK:=Aside0.mk hbox;have hc0 : w1.cell? ⟨gb,0,none⟩ = some (.slice A0 N.length c0):=(blk_cell hbox 0).trans rfl;have hc1 : w1.cell? ⟨gb,1,none⟩ = some (.slice A1 L.length c1):=(blk_cell hbox 1).trans rfl;clear hbox)|(go_at_call 37;with_reducible refine (HV.out _ (by repeat (first|(with_reducible first|exact HB.out|apply zzD|apply zzE|apply zzF)|exact HB.out))).mono ?_;rw [HE.out];rintro e w2 ⟨rfl,hb⟩;have m0_:=Aside0.mk (blk_below (g:=gb) (o:=.cells #[.slice A0 N.length c0,.slice A1 L.length c1] 30 (0,0)) (by (with_reducible repeat (first|refine blk_drewN ?_ _|refine blk_drew ?_|refine blk_alloc ?_ _));exact BK.out) hb);have n0_:=Aside0.mk (below_step (by repeat (first|(with_reducible first|exact HB.out|apply zzD|apply zzE|apply zzF)|exact HB.out)) hb);clear HB BK;have HB:=n0_;have BK:=m0_;clear n0_ m0_ hb;have hcw20 : w2.cell? ⟨gb,0,none⟩ = some (.slice A0 N.length c0):=(blk_cell BK.out 0).trans rfl;have hcw21 : w2.cell? ⟨gb,1,none⟩ = some (.slice A1 L.length c1):=(blk_cell BK.out 1).trans rfl)|(go_at_call 39;with_reducible refine (HTB.out _ (by repeat (first|(with_reducible first|exact HB.out|apply zzD|apply zzE|apply zzF)|exact HB.out))).mono ?_;rintro e w3 ⟨gt,gR,rfl,q1,q2,hb⟩;rw [row_eq] at q1;have Q1:=Aside0.mk q1;have Q2:=Aside0.mk q2;clear q1 q2;have m0_:=Aside0.mk (blk_below (g:=gb) (o:=.cells #[.slice A0 N.length c0,.slice A1 L.length c1] 30 (0,0)) (by (with_reducible repeat (first|refine blk_drewN ?_ _|refine blk_drew ?_|refine blk_alloc ?_ _));exact BK.out) hb);have n0_:=Aside0.mk (below_step (by repeat (first|(with_reducible first|exact HB.out|apply zzD|apply zzE|apply zzF)|exact HB.out)) hb);clear HB BK;have HB:=n0_;have BK:=m0_;clear n0_ m0_ hb;have hcw30 : w3.cell? ⟨gb,0,none⟩ = some (.slice A0 N.length c0):=(blk_cell BK.out 0).trans rfl;have hcw31 : w3.cell? ⟨gb,1,none⟩ = some (.slice A1 L.length c1):=(blk_cell BK.out 1).trans rfl;have TT:=Aside0.mk (show Tab w3 gt A0 c0 N A1 c1 L gR S from ⟨Q1.out,Kd.C_below HR0.out HB.out,Kd.C_below HR1.out HB.out,Q2.out,HC0.out,HC1.out,by have:=HN8.out;omega,by have:=HL20.out;omega,HFT.out⟩);have HL3:=Aside0.mk HB.out.size;have HBS:=Aside0.mk (best_calls TT.out (by have:=HN8.out;omega)))|(go_at_call 38;with_reducible refine HBS.out.mono ?_;rintro e w4 ⟨ov,cv,rfl,p1,hb⟩;have P1:=Aside0.mk p1;clear p1;have m0_:=Aside0.mk (blk_below (g:=gb) (o:=.cells #[.slice A0 N.length c0,.slice A1 L.length c1] 30 (0,0)) (by (with_reducible repeat (first|refine blk_drewN ?_ _|refine blk_drew ?_|refine blk_alloc ?_ _));exact BK.out) hb);have n0_:=Aside0.mk (below_step (by repeat (first|(with_reducible first|exact HB.out|apply zzD|apply zzE|apply zzF)|exact HB.out)) hb);clear HB BK;have HB:=n0_;have BK:=m0_;clear n0_ m0_ hb;have hcw40 : w4.cell? ⟨gb,0,none⟩ = some (.slice A0 N.length c0):=(blk_cell BK.out 0).trans rfl;have hcw41 : w4.cell? ⟨gb,1,none⟩ = some (.slice A1 L.length c1):=(blk_cell BK.out 1).trans rfl))
  go_ret2
  exact ⟨(by repeat (first|(with_reducible first|exact HB.out|apply zzD|apply zzE|apply zzF)|exact HB.out)),.inr ⟨HE.out,ov,cv,rfl,P1.out.lower HL3.out⟩⟩
 ·obtain ⟨E,hE⟩ : ∃ E,validE N L = E:=⟨_,rfl⟩
  have HE:=Aside0.mk hE
  have k1 : (E != 0) = true:=bne_iff_ne.mpr (by rw [← hE];exact h1)
  have k1' : (E == 0) = false:=beq_eq_false_iff_ne.mpr (by rw [← hE];exact h1)
  have H1:=Aside0.mk h1
  clear hr0 hr1 hc0 hc1 hok hE h1
  go_enter Try.func25,Try.ntmps25
  go_wp2_with (first|((with_reducible refine gate_dst (N:=1) rfl ?_);refine box_event ?hg (N:=1) ?hd (cs:=#[.slice A0 N.length c0,.slice A1 L.length c1]) (t:=30) ?hr ?_;(case hd=>rfl);(case hg=>rfl);(case hr=>first|(go_simp;done)|(go_simp;rfl));intro gb hg w1 hbox hb;have n0_:=Aside0.mk (below_step HB.out hb);clear HB;have HB:=n0_;clear n0_ hb hg;have BK:=Aside0.mk hbox;have hc0 : w1.cell? ⟨gb,0,none⟩ = some (.slice A0 N.length c0):=(blk_cell hbox 0).trans rfl;have hc1 : w1.cell? ⟨gb,1,none⟩ = some (.slice A1 L.length c1):=(blk_cell hbox 1).trans rfl;clear hbox)|(go_at_call 37;with_reducible refine (HV.out _ (by repeat (first|(with_reducible first|exact HB.out|apply zzD|apply zzE|apply zzF)|exact HB.out))).mono ?_;rw [HE.out];rintro e w2 ⟨rfl,hb⟩;have m0_:=Aside0.mk (blk_below (g:=gb) (o:=.cells #[.slice A0 N.length c0,.slice A1 L.length c1] 30 (0,0)) (by (with_reducible repeat (first|refine blk_drewN ?_ _|refine blk_drew ?_|refine blk_alloc ?_ _));exact BK.out) hb);have n0_:=Aside0.mk (below_step (by repeat (first|(with_reducible first|exact HB.out|apply zzD|apply zzE|apply zzF)|exact HB.out)) hb);clear HB BK;have HB:=n0_;have BK:=m0_;clear n0_ m0_ hb;have hcw20 : w2.cell? ⟨gb,0,none⟩ = some (.slice A0 N.length c0):=(blk_cell BK.out 0).trans rfl;have hcw21 : w2.cell? ⟨gb,1,none⟩ = some (.slice A1 L.length c1):=(blk_cell BK.out 1).trans rfl))
  go_ret2
  exact ⟨(by repeat (first|(with_reducible first|exact HB.out|apply zzD|apply zzE|apply zzF)|exact HB.out)),.inl ⟨H1.out,by rw [HE.out];rfl⟩⟩
end Go.Proofs.Ytgmomcjnldahjaa.Pr
