import Derived.Test.YtdommiicjpjfpaaZStateReads28
import Derived.Test.YtdommiicjpjfpaaZStateReads2
import Derived.Lib.SmallJoins
set_option linter.unusedVariables false
set_option linter.unusedSimpArgs false
namespace Go.Proofs.Ytdommiicjpjfpaa.XRow
open Go.ChangeShapes Go.WideShapes Go.ChangeAt Go.RowKit Go.Proofs.YtdommiicjpjfpaaW.PrintWords Go.Proofs.YtdommiicjpjfpaaW
theorem mapM_at {α β:Type} {f:α→Option β}:∀ {l:List α} {r:List β},l.mapM f=some r→r.length=l.length∧∀ (i:Nat) (x:α),l[i]?=some x→f x=r[i]?
 | [],r,h=>by
  simp at h;subst h;exact ⟨rfl,fun i x hx=>by simp at hx⟩
 | a :: l,r,h=>by
  simp only [List.mapM_cons,Option.bind_eq_bind,Option.pure_def,Option.bind_eq_some_iff] at h
  obtain ⟨y,hy,ys,hys,h⟩:=h
  obtain rfl:=Option.some.inj h
  obtain ⟨h1,h2⟩:=mapM_at hys
  refine ⟨by simp [h1],fun i x hx => ?_⟩
  cases i with
  | zero=>simp at hx;subst hx;simpa using hy
  | succ i=>simp at hx;simpa using h2 i x hx
theorem cells_at {w:World} {a:Addr} {n:Nat} {cs:List Value} (h:w.cells? 0 a n=some cs):cs.length=n∧∀ (i:Nat) (u:Value),cs[i]?=some u→w.cell? (a.add i)=some u:=by
 unfold World.cells? at h
 rw [if_pos (Nat.zero_le _)] at h
 obtain ⟨h1,h2⟩:=mapM_at h
 rw [List.length_range] at h1
 refine ⟨h1,fun i u hu => ?_⟩
 have hi:i < n:=by have:=(List.getElem?_eq_some_iff.1 hu).1;omega
 rw [h2 i i (by simp [hi]),hu]
theorem qCG {α:Type} (p:Nat→α→Prop):∀ (n:Nat),(∀ i,i < n→∃ x,p i x)→∃ xs:List α,xs.length=n∧∀ (i:Nat) (x:α),xs[i]?=some x→p i x
 | 0,_=>⟨[],rfl,fun i x h=>by simp at h⟩
 | n+1,h=>by
  obtain ⟨xs,hl,hx⟩:=qCG p n (fun i hi=>h i (by omega))
  obtain ⟨y,hy⟩:=h n (by omega)
  refine ⟨xs ++ [y],by simp [hl],fun i x hq => ?_⟩
  by_cases hi:i < n
  ·rw [List.getElem?_append_left (by omega)] at hq
   exact hx i x hq
  ·rw [List.getElem?_append_right (by omega)] at hq
   have:i - xs.length=0:=by
    have:=(List.getElem?_eq_some_iff.1 hq).1
    simp at this;omega
   rw [this] at hq
   simp at hq
   subst hq
   obtain rfl:i=n:=by omega
   exact hy
section
variable {H:Type} {enc:TypeId × Value→H} {P:Program} {w:World} {held:Bool} {spare:Nat→Bool}
theorem row_open {α:Type} (d:Kd α) (good:α→Prop) {t e:TypeId} (ht:P.underlying t=some (.slice e)) (hsz:P.cellsOf e=d.sz)
  (hel:∀ n cs y,DataW.trod enc P w 0 spare held n e cs=some y→∃ x,d.K w x cs∧good x) {A:Option Addr} {len c:Nat} {y:DataW H} {ps:List MemPlace} (h0:DataW.Trod enc P w 0 spare held t (.slice A len c) y ps) :
  ∃ xs:List α,xs.length=len∧len≤c∧len≤9223372036854775807∧d.C w A xs.length xs∧(∀ x ∈ xs,good x)∧len≤Rows.uptoBulk y:=by
 obtain ⟨fuel,h⟩:=h0
 have hM:maxLen=9223372036854775807:=by decide
 rcases DataW.trod_slice ht h with ⟨h1,_⟩ | ⟨a,len,cap,elems,rest,n,_,hcs,hy,_,hlc,hcm,hlen,hel0,_,_⟩
 ·simp [Value.cells] at h1
  obtain ⟨rfl,rfl,rfl⟩:=h1
  exact ⟨[],rfl,Nat.le_refl _,by omega,⟨rfl,by simp,fun h=>absurd h (by simp)⟩,fun x hx=>by simp at hx,Nat.zero_le _⟩
 ·simp [Value.cells] at hcs
  obtain ⟨rfl,rfl,rfl⟩:=hcs
  obtain ⟨rfl,_⟩:=Prod.mk.inj hy
  have hbulk:=XUp.slice_le (elems.map (·.1)) (rest.map (·.1))
  rw [List.length_map] at hbulk
  obtain ⟨xs,hxl,hx⟩:=qCG (fun i (x:α)=>good x∧∃ c,c.length=d.sz∧d.K w x c∧∀ (j:Nat) (u:Value),c[j]?=some u→w.cell? (a.add (i * d.sz+j))=some u) len (fun i hi=>by
   have h1:=hel0 i hi
   have hi2:i < elems.length:=by omega
   rw [List.getElem?_eq_getElem hi2] at h1
   obtain ⟨c,hc,hy⟩:=Option.bind_eq_some_iff.mp h1
   obtain ⟨x,hK,hg⟩:=hel n c _ hy
   obtain ⟨c1,c2⟩:=cells_at hc
   refine ⟨x,hg,c,by omega,hK,fun j u hu => ?_⟩
   have:=c2 j u hu
   rw [hsz] at this
   rwa [Addr.add_add] at this)
  refine ⟨xs,hxl,hlc,by omega,⟨rfl,by omega,fun _=>⟨a,rfl,fun j p hp => ?_⟩⟩,fun x hq => ?_,by omega⟩
  ·obtain ⟨_,c,h1,h2,h3⟩:=hx j p hp
   exact ⟨c,h1,h2,h3⟩
  ·obtain ⟨j,hj,rfl⟩:=List.getElem_of_mem hq
   exact (hx j _ (List.getElem?_eq_getElem hj)).1
theorem row_sized {t e:TypeId} {ts:List TypeId} {ds:List (DataW H)} {j:Nat} (hsz:(DataW.weightsEach P ts ds).all (·≤reachBytes)=true) {y:DataW H} (ht:ts[j]?=some t) (hd:ds[j]?=some y) (hu:P.underlying t=some (.slice e)) {B:Nat} (hB:P.bytesOf e=B)
  {A:Option Addr} {len c:Nat} {ps:List MemPlace} (h0:DataW.Trod enc P w 0 spare held t (.slice A len c) y ps):len * B≤140737488351232:=by
 obtain ⟨fuel,h⟩:=h0
 rcases DataW.trod_slice hu h with ⟨h1,_⟩ | ⟨a,len',cap,elems,rest,n,_,hcs,hy,_,hlc,hcm,hlen,hel0,_,_⟩
 ·simp [Value.cells] at h1
  obtain ⟨rfl,rfl,rfl⟩:=h1
  simp
 ·simp [Value.cells] at hcs
  obtain ⟨rfl,rfl,rfl⟩:=hcs
  obtain ⟨rfl,_⟩:=Prod.mk.inj hy
  have z:=sized_slice hsz ht hd hu
  rw [hB,List.length_map,List.length_map] at z
  have e:reachBytes=140737488351232:=by decide
  rw [e] at z
  refine Nat.le_trans (Nat.mul_le_mul_right _ ?_) z
  omega
end
end Go.Proofs.Ytdommiicjpjfpaa.XRow
