import Derived.Test.YtdommiicjpjfpaaZStateApart24
import Derived.Test.YtdommiicjpjfpaaZStateApart2
import Derived.Lib.SmallJoins
set_option linter.unusedVariables false
set_option linter.unusedSimpArgs false
namespace Go.Proofs.Ytdommiicjpjfpaa.XRow
open Go.ChangeShapes Go.WideShapes Go.ChangeAt Go.RowKit Go.Proofs.YtdommiicjpjfpaaW.PrintWords Go.Proofs.YtdommiicjpjfpaaW
theorem mapM_at {α β:Type} {f:α→Option β}:∀ {l:List α} {r:List β},l.mapM f=some r→r.length=l.length∧∀ (i:Nat) (x:α),l[i]?=some x→f x=r[i]?
 | [],r,h=>by
  simp at h;subst h;exact ⟨rfl,fun i x hx=>by simp at hx⟩
 | a :: l,r,h=>by
  simp only [List.mapM_cons,Option.bind_eq_bind,Option.pure_def,Option.bind_eq_some_iff] at h
  obtain ⟨y,hy,ys,hys,h⟩:=h
  obtain rfl:=Option.some.inj h
  obtain ⟨h1,h2⟩:=mapM_at hys
  refine ⟨by simp [h1],fun i x hx => ?_⟩
  cases i with
  | zero=>simp at hx;subst hx;simpa using hy
  | succ i=>simp at hx;simpa using h2 i x hx
theorem wf_i64 {n:Int} (h:(Lit.int .i64 n).wf=true) : -9223372036854775808≤n∧n≤9223372036854775807:=by
 have h1:(decide (IntKind.i64.min≤n) && decide (n≤IntKind.i64.max))=true:=h
 have e0:IntKind.i64.min = -9223372036854775808:=by decide
 have e1:IntKind.i64.max=9223372036854775807:=by decide
 rw [e0,e1] at h1
 simpa using h1
theorem cells_at {w:World} {a:Addr} {n:Nat} {cs:List Value} (h:w.cells? 0 a n=some cs):cs.length=n∧∀ (i:Nat) (u:Value),cs[i]?=some u→w.cell? (a.add i)=some u:=by
 unfold World.cells? at h
 rw [if_pos (Nat.zero_le _)] at h
 obtain ⟨h1,h2⟩:=mapM_at h
 rw [List.length_range] at h1
 refine ⟨h1,fun i u hu => ?_⟩
 have hi:i < n:=by have:=(List.getElem?_eq_some_iff.1 hu).1;omega
 rw [h2 i i (by simp [hi]),hu]
theorem qCM {α:Type} (p:Nat→α→Prop):∀ (n:Nat),(∀ i,i < n→∃ x,p i x)→∃ xs:List α,xs.length=n∧∀ (i:Nat) (x:α),xs[i]?=some x→p i x
 | 0,_=>⟨[],rfl,fun i x h=>by simp at h⟩
 | n+1,h=>by
  obtain ⟨xs,hl,hx⟩:=qCM p n (fun i hi=>h i (by omega))
  obtain ⟨y,hy⟩:=h n (by omega)
  refine ⟨xs ++ [y],by simp [hl],fun i x hq => ?_⟩
  by_cases hi:i < n
  ·rw [List.getElem?_append_left (by omega)] at hq
   exact hx i x hq
  ·rw [List.getElem?_append_right (by omega)] at hq
   have:i - xs.length=0:=by
    have:=(List.getElem?_eq_some_iff.1 hq).1
    simp at this;omega
   rw [this] at hq
   simp at hq
   subst hq
   obtain rfl:i=n:=by omega
   exact hy
section
variable {H:Type} {enc:TypeId × Value→H} {P:Program} {w:World} {held:Bool} {spare:Nat→Bool}
end
end Go.Proofs.Ytdommiicjpjfpaa.XRow
