/- Part 7 of what the law CanonCompare rests on: this project's own texts (Read), merged and without what is not used. Conditions: each theorem has its own. -/
import Derived.Deep.Slices
import Derived.ChangeSame
import Derived.Deep.Strs
import Derived.OpenShut
import Derived.Test.YtgmomcjnldahjaaKCanonCompare0
namespace Go.Proofs.Ytgmomcjnldahjaa.Read
open Go.RowKit Go.Proofs.YtgmomcjnldahjaaW.PrintWords
open Go.ChangeShapes Go.WideShapes Go.Deep
set_option linter.unusedVariables false
def Reads {α : Type} (H : Type) (enc : TypeId × Value → H) (P : Program) (w : World) (t : TypeId) (d : Kd α) (Ok : α → Prop) : Prop :=
 ∀ (base : Nat) (spare : Nat → Bool) (held : Bool) (fuel : Nat) (cs : List Value) (x : DataW H × List MemPlace),DataW.trod enc P w base spare held fuel t cs = some x → ∃ v,d.K w v cs ∧ Ok v
section
variable {H : Type} {enc : TypeId × Value → H} {P : Program} {w : World}
theorem reads_int {t : TypeId} {k : IntKind} (ht : P.underlying t = some (.int k)) : Reads H enc P w t (Kd.int k) (fun n=>(Lit.int k n).wf = true):=by
 intro base spare held fuel cs x h
 obtain ⟨n,rfl,_,hw⟩:=DataW.trod_int ht h
 exact ⟨n,rfl,hw⟩
theorem pick {α : Type} {Q : Nat → α → Prop} : ∀ n,(∀ i,i < n → ∃ v,Q i v) → ∃ xs : List α,xs.length = n ∧ ∀ j p,xs[j]? = some p → Q j p
 | 0,_ => ⟨[],rfl,fun j p h => by simp at h⟩
 | n + 1,h => by
  obtain ⟨xs,hl,hq⟩:=pick n (fun i hi=>h i (by omega))
  obtain ⟨v,hv⟩:=h n (by omega)
  refine ⟨xs ++ [v],by simp [hl],fun j p hj=>?_⟩
  rw [List.getElem?_append] at hj
  split at hj
  ·exact hq j p hj
  ·rename_i hge
   have : j - xs.length = 0:=by
    have:=(List.getElem?_eq_some_iff.1 hj).1
    simp at this
    omega
   rw [this] at hj
   have hjn : j = n:=by omega
   subst hjn
   exact Option.some.inj hj ▸ hv
theorem reads_slice {α : Type} {t e : TypeId} {d : Kd α} {Ok : α → Prop} (ht : P.underlying t = some (.slice e)) (hsz : P.cellsOf e = d.sz) (he : Reads H enc P w e d Ok) :
  Reads H enc P w t (Kd.slice e d) (fun xs=>∀ y ∈ xs,Ok y):=by
 intro base spare held fuel cs x h
 rcases open_slice ht h with ⟨rfl,_⟩ | ⟨a,len,cap,m,n,D,Pl,rfl,hb,hl,hm,hmm,hx,hi⟩
 ·exact ⟨[],⟨none,0,rfl,Nat.le_refl _,Kd.C_nil d w⟩,fun y hy=>by cases hy⟩
 ·have hlm : len ≤ m:=by rw [hmm];split <;> omega
  obtain ⟨xs,hxl,hxs⟩:=pick (Q:=fun i v=>Ok v ∧ ∃ cs',cs'.length = d.sz ∧ d.K w v cs' ∧ ∀ j u,cs'[j]? = some u → w.cell? (a.add (i * d.sz + j)) = some u) len (fun i hlt=>by
   obtain ⟨cs',hc,ht'⟩:=hi i (by omega)
   obtain ⟨v,hK,hO⟩:=he _ _ _ _ _ _ ht'
   obtain ⟨_,hcl,hat⟩:=World.cells?_some hc
   refine ⟨v,hO,cs',by rw [hcl,hsz],hK,fun j u hu=>?_⟩
   have hj : j < cs'.length:=(List.getElem?_eq_some_iff.1 hu).1
   have:=hat j (by omega)
   rw [← Go.Deep.add_add,← hsz,this,hu])
  refine ⟨xs,⟨some a,cap,by rw [hxl],by omega,rfl,by unfold maxLen at hm;omega,fun _=>⟨a,rfl,fun j p hj=>?_⟩⟩,fun y hy=>?_⟩
  ·obtain ⟨_,cs',h1,h2,h3⟩:=hxs j p hj
   exact ⟨cs',h1,h2,h3⟩
  ·obtain ⟨j,hj⟩:=List.mem_iff_getElem?.1 hy
   exact (hxs j y hj).1
theorem cut2 {cs : List Value} {a b : Nat} (h : cs.length = a + b) : cs = (cs.drop 0).take a ++ (cs.drop a).take b:=by
 rw [List.drop_zero,List.take_of_length_le (l:=cs.drop a) (by rw [List.length_drop];omega),List.take_append_drop]
theorem cut3 {cs : List Value} {a b c : Nat} (h : cs.length = a + b + c) : cs = (cs.drop 0).take a ++ ((cs.drop a).take b ++ (cs.drop (a + b)).take c):=by
 rw [List.take_of_length_le (l:=cs.drop (a + b)) (by rw [List.length_drop];omega),← List.drop_drop,List.take_append_drop,List.drop_zero,List.take_append_drop]
theorem reads_struct2 {α β γ : Type} {t : TypeId} {f0 f1 : Field} {a : Kd α} {b : Kd β} {Oa : α → Prop} {Ob : β → Prop} {g : γ → α × β} (mk : α → β → γ) (hg : ∀ x y,g (mk x y) = (x,y)) (ht : P.underlying t = some (.struct #[f0,f1]))
  (o0 : f0.offset = 0) (o1 : f1.offset = a.sz) (c0 : P.cellsOf f0.type = a.sz) (c1 : P.cellsOf f1.type = b.sz) (ct : P.cellsOf t = a.sz + b.sz)
  (ha : Reads H enc P w f0.type a Oa) (hb : Reads H enc P w f1.type b Ob) : Reads H enc P w t (Kd.iso (Kd.pair a b) g) (fun z=>Oa (g z).1 ∧ Ob (g z).2):=by
 intro base spare held fuel cs x h
 obtain ⟨y0,y1,n,_,hl,h0,h1⟩:=trod_struct2 ht h
 rw [o0,c0] at h0
 rw [o1,c1] at h1
 obtain ⟨x,hx,hOx⟩:=ha _ _ _ _ _ _ h0
 obtain ⟨y,hy,hOy⟩:=hb _ _ _ _ _ _ h1
 refine ⟨mk x y,?_,by simp only [hg];exact ⟨hOx,hOy⟩⟩
 show (Kd.pair a b).K w (g (mk x y)) cs
 rw [hg]
 exact ⟨_,_,cut2 (hl.trans ct),hx,hy⟩
theorem reads_struct3 {α β δ γ : Type} {t : TypeId} {f0 f1 f2 : Field} {a : Kd α} {b : Kd β} {c : Kd δ} {Oa : α → Prop} {Ob : β → Prop} {Oc : δ → Prop} {g : γ → α × β × δ} (mk : α → β → δ → γ) (hg : ∀ x y z,g (mk x y z) = (x,y,z)) (ht : P.underlying t = some (.struct #[f0,f1,f2]))
  (o0 : f0.offset = 0) (o1 : f1.offset = a.sz) (o2 : f2.offset = a.sz + b.sz) (c0 : P.cellsOf f0.type = a.sz) (c1 : P.cellsOf f1.type = b.sz) (c2 : P.cellsOf f2.type = c.sz) (ct : P.cellsOf t = a.sz + b.sz + c.sz)
  (ha : Reads H enc P w f0.type a Oa) (hb : Reads H enc P w f1.type b Ob) (hc : Reads H enc P w f2.type c Oc) : Reads H enc P w t (Kd.iso (Kd.pair a (Kd.pair b c)) g) (fun z=>Oa (g z).1 ∧ Ob (g z).2.1 ∧ Oc (g z).2.2):=by
 intro base spare held fuel cs x h
 obtain ⟨y0,y1,y2,n,_,hl,h0,h1,h2⟩:=trod_struct3 ht h
 rw [o0,c0] at h0
 rw [o1,c1] at h1
 rw [o2,c2] at h2
 obtain ⟨x,hx,hOx⟩:=ha _ _ _ _ _ _ h0
 obtain ⟨y,hy,hOy⟩:=hb _ _ _ _ _ _ h1
 obtain ⟨z,hz,hOz⟩:=hc _ _ _ _ _ _ h2
 refine ⟨mk x y z,?_,by simp only [hg];exact ⟨hOx,hOy,hOz⟩⟩
 show (Kd.pair a (Kd.pair b c)).K w (g (mk x y z)) cs
 rw [hg]
 exact ⟨_,_,cut3 (hl.trans ct),hx,_,_,rfl,hy,hz⟩
end
end Go.Proofs.Ytgmomcjnldahjaa.Read
