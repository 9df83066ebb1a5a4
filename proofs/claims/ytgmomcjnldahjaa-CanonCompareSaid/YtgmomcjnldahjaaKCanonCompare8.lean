/- Part 8 of what the law CanonCompare rests on: this project's own texts (Arg), merged and without what is not used. Conditions: each theorem has its own. -/
import Derived.KernelRfl
import Derived.Test.YtgmomcjnldahjaaKCanonCompare1
import Derived.Test.YtgmomcjnldahjaaKCanonCompare7
namespace Go.Proofs.Ytgmomcjnldahjaa.Read
open Go.RowKit Go.Proofs.YtgmomcjnldahjaaW.PrintWords Go.Proofs.Ytgmomcjnldahjaa.Pr
open Go.ChangeShapes Go.WideShapes Go.Deep
set_option linter.unusedVariables false
variable {H : Type} {enc : TypeId × Value → H} {w : World}
def wfI (n : Int) : Prop:=(Lit.int .i64 n).wf = true
def wf34 (x : S34) : Prop:=wfI x.f0 ∧ wfI x.f1 ∧ wfI x.f2
def wf30 (x : S30) : Prop:=(∀ y ∈ x.f0,wfI y) ∧ (∀ y ∈ x.f1,wf34 y)
theorem rd3 : Reads H enc Try.prog w 3 (Kd.int .i64) wfI:=reads_int Try.underlying3
theorem rd34 : Reads H enc Try.prog w 34 k34 wf34:=reads_struct3 S34.mk (fun _ _ _=>rfl) Try.underlying34 rfl rfl rfl (by kernel_rfl) (by kernel_rfl) (by kernel_rfl) (by kernel_rfl) rd3 rd3 rd3
theorem rd27 : Reads H enc Try.prog w 27 (Kd.slice 3 (Kd.int .i64)) (fun xs=>∀ x ∈ xs,wfI x):=reads_slice Try.underlying27 (by kernel_rfl) rd3
theorem rd28 : Reads H enc Try.prog w 28 (Kd.slice 34 k34) (fun xs=>∀ x ∈ xs,wf34 x):=reads_slice Try.underlying28 (by kernel_rfl) rd34
theorem rd30 : Reads H enc Try.prog w 30 k30 wf30:=reads_struct2 S30.mk (fun _ _=>rfl) Try.underlying30 rfl rfl (by kernel_rfl) (by kernel_rfl) (by kernel_rfl) rd27 rd28
set_option maxRecDepth 100000 in
theorem arg30 {base : Nat} {spare : Nat → Bool} {held : Bool} {v : Value} {D : DataW H} {ps : List MemPlace} {r : Reach} {b : Nat} (hv : Value.okWide Try.prog w r b 30 v) (h : DataW.Trod enc Try.prog w base spare held 30 v D ps) :
  ∃ A0 c0 N A1 c1 L,v = .agg #[.slice A0 (List.length N) c0,.slice A1 (List.length L) c1] ∧ N.length ≤ c0 ∧ Kd.C (Kd.int .i64) w A0 N.length N ∧ L.length ≤ c1 ∧ Kd.C k34 w A1 L.length L ∧ wf30 ⟨N,L⟩:=by
 obtain ⟨cs,rfl,_⟩:=okWide_struct Try.underlying30 hv
 obtain ⟨fuel,hf⟩:=h
 obtain ⟨x,hK,hO⟩:=rd30 _ _ _ _ _ _ hf
 obtain ⟨A0,c0,A1,c1,e,h1,h2,h3,h4⟩:=k30_open hK
 refine ⟨A0,c0,x.f0,A1,c1,x.f1,?_,h1,h2,h3,h4,hO⟩
 congr 1
 exact Array.toList_inj.1 e
end Go.Proofs.Ytgmomcjnldahjaa.Read
