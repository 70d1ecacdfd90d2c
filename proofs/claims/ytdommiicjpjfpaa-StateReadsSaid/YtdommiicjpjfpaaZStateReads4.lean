import Derived.Test.YtdommiicjpjfpaaZStateReads3
import Derived.Test.YtdommiicjpjfpaaZStateReads2
set_option linter.unusedVariables false
set_option linter.unusedSimpArgs false
namespace Go.Proofs.Ytdommiicjpjfpaa.X
open Go.RowKit Go.Proofs.YtdommiicjpjfpaaW.PrintWords Go.Proofs.YtdommiicjpjfpaaW.PrintLast Go.Proofs.YtdommiicjpjfpaaW.PrintMore Go.Proofs.YtdommiicjpjfpaaW
section
variable {P:Program} {md:Region.Mode} {ops:Array Oper} {Q:Exit→Act→World→Prop} {S:World→Prop} {ds:List Nat}
theorem pU (i n:Nat) {oi:Oper} {v:Value} {fuel:Nat} {l l':Array Bool} {a:Act} {w:World} {a':Act} (h:qAv P md ops Q S ds fuel l' a' w)
  (hi:ops[i]?=some oi:=by exact rfl) (hN:oi.dst=some n:=by exact rfl) (hl:l.setIfInBounds i true=l':=by (simp only [qs1,qs2,qs3];rfl)) (hc:anyB md ops l l' i=true:=by kernel_rfl) (hQ:∀ c a w,Q (.panic c) (a.put oi.dst v) w→Q (.panic c) a w:=by exact fun _ _ _ h=>h)
  (hy:Yields P ops oi v a:=by (refine Or.inl ⟨by rfl, ?_⟩;intro w';go_simp;with_reducible rfl)) (ha:a.put (some n) v=a':=by (simp only [Act.put,qs1,qs2,qs3,qAZ,qAb];rfl)):qAv P md ops Q S ds (fuel+1) l a w :=
 qAx _ hi hN hc hQ hy ha h
theorem pN (i n:Nat) {oi:Oper} {fuel:Nat} {l l':Array Bool} {a:Act} {w:World} {a':Act} (h:qAv P md ops Q S ds fuel l' a' w)
  (hi:ops[i]?=some oi:=by exact rfl) (hN:oi.dst=some n:=by exact rfl) (hl:l.setIfInBounds i true=l':=by (simp only [qs1,qs2,qs3];rfl)) (hc:anyB md ops l l' i=true:=by kernel_rfl) (hQ:∀ c a w,Q (.panic c) (a.put oi.dst undef) w→Q (.panic c) a w:=by exact fun _ _ _ h=>h)
  (hy:Yields P ops oi undef a:=by exact Or.inr ⟨by rfl,rfl⟩) (ha:a.put (some n) undef=a':=by (simp only [Act.put,qs1,qs2,qs3,qAZ,qAb];rfl)):qAv P md ops Q S ds (fuel+1) l a w :=
 qAx _ hi hN hc hQ hy ha h
theorem tK (i n:Nat) {oi:Oper} {v:Value} {fuel:Nat} {l l':Array Bool} {a:Act} {w:World} {a':Act} (hS:S w) (h:qAv P md ops Q S ds fuel l' a' w)
  (hi:ops[i]?=some oi:=by exact rfl) (hN:oi.dst=some n:=by exact rfl) (hl:l.setIfInBounds i true=l':=by (simp only [qs1,qs2,qs3];rfl)) (hc:takeB md ops ds l l' i=true:=by kernel_rfl) (hQ:∀ c a w,Q (.panic c) (a.put oi.dst v) w→Q (.panic c) a w:=by exact fun _ _ _ h=>h)
  (hy:YieldsIf P ops S oi v a:=by (refine Or.inl ⟨by rfl, ?_⟩;intro w' hS;(repeat (refine And.elim (fun _ hS => ?_) hS));go_simp;with_reducible rfl)) (ha:a.put (some n) v=a':=by (simp only [Act.put,qs1,qs2,qs3,qAZ,qAb];rfl)):qAv P md ops Q S ds (fuel+1) l a w :=
 qBv _ hi hN hc hQ hy hS ha h
end
end Go.Proofs.Ytdommiicjpjfpaa.X
