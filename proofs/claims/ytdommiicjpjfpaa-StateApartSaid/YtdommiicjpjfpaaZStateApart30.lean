import Derived.Test.YtdommiicjpjfpaaZStateApart3
import Derived.Test.YtdommiicjpjfpaaZStateApart2
import Derived.WalkLawsBesides
import Derived.Laws.Pointers
import Derived.Shelf.Abstract
import Derived.Deep.DeepMust
import Derived.Deep.QuietTactic
import Derived.BigQuiet
import Derived.ChangeArms
import Derived.Test.YtdommiicjpjfpaaZStateApart29
import Derived.Test.YtdommiicjpjfpaaZStateApart27
import Derived.Laws.Rows
import Derived.Test.YtdommiicjpjfpaaZStateApart24
set_option linter.unusedVariables false
set_option linter.unusedSimpArgs false
namespace Go.Proofs.Ytdommiicjpjfpaa.X
open Go.RowKit Go.Proofs.YtdommiicjpjfpaaW.PrintWords Go.Proofs.YtdommiicjpjfpaaW.PrintLast Go.Proofs.YtdommiicjpjfpaaW.PrintMore Go.Proofs.YtdommiicjpjfpaaW
section
set_option maxHeartbeats 400000
set_option maxRecDepth 100000
open Go.Proofs.Ytdommiicjpjfpaa Go.Proofs.Ytdommiicjpjfpaa.Pl
def sa.x0:S51:=⟨⟨#[98]⟩,⟨1,1,⟨#[]⟩,[],[]⟩⟩
theorem sa.x0_val:Val sa.x0.f1:=Val.mk _ (by decide) (by decide) (by decide) (by decide) (by decide) (by decide) (by decide) (fun s hs=>by cases hs) (fun y hy=>by cases hy)
theorem sa.x0_rt:sa.Rt sa.x0.f1:=by
 refine ⟨sa.okV.mk (d:=7) (by unfold qAg.b;simp [wrap64]) (fun h=>absurd h (by decide)) (fun y hy=>by cases hy), ?_⟩
 rw [show wt sa.x0.f1=1+(⟨#[]⟩:ByteArray).size from sa.qCA 1 1 ⟨#[]⟩]
 decide
theorem sa.x0_rs:sa.RS [sa.x0]:=by
 have hs:(sa.x0.f0.size:Int)=1:=rfl
 have hl:sa.x0.f0.toList=[98]:=by show (⟨#[98]⟩:ByteArray).toList=[98];rw [ByteArray.toList_eq]
 refine ⟨fun x hx => ?_,fun i hi=>by simp at hi, ?_,by simp⟩
 ·rw [show x=sa.x0 by simpa using hx]
  exact ⟨sa.x0_rt,by rw [hl];simp,by omega⟩
 ·have:=sa.x0_rt.2
  show sa.hv sa.x0+0≤32768
  unfold sa.hv
  omega
theorem sa.x0_en:sa.enS [sa.x0]=[83,83,84,49,1,1,98,2]:=by
 unfold sa.enS X.lst sa.e51 X.str
 simp only [List.map_cons,List.map_nil,List.flatten_cons,List.flatten_nil,List.append_nil]
 rw [en1 (x:=sa.x0.f1) rfl]
 rfl
theorem sa.x0_row (w:World):k51.C (w.alloc (.cells #[.string ⟨#[98]⟩,.int .i64 1,.int .i64 1,.string ⟨#[]⟩,.slice none 0 0,.slice none 0 0] 51)) (some ⟨w.heap.size,0,none⟩) 1 [sa.x0]:=by
 refine ⟨rfl,by simp,fun _=>⟨_,rfl,fun j p hj => ?_⟩⟩
 obtain ⟨hj0,hp⟩:=List.getElem?_eq_some_iff.1 hj
 have hj0:j < 1:=hj0
 obtain rfl:j=0:=by omega
 obtain rfl:sa.x0=p:=hp
 refine ⟨[.string ⟨#[98]⟩,.int .i64 1,.int .i64 1,.string ⟨#[]⟩,.slice none 0 0,.slice none 0 0],rfl,k51_mk _ sa.x0 (A4:=none) (c4:=0) (Nat.le_refl _) (Kd.C_nil k34 _) (A5:=none) (c5:=0) (Nat.le_refl _) (Kd.C_nil Kd.string _),fun i u hu => ?_⟩
 rw [add_plain,qAB (blk_new w _) _]
 simpa using hu
theorem sa.encY {l:List S51} {A:Option Addr} {c:Nat} (w:World) (hA:k51.C w A l.length l) (hc:l.length≤c) (hv:∀ x ∈ l,Val x.f1∧x.f0.size≤140737488351232) (hl:l.length≤9223372036854775000) (h:sa.RS l) :
  Calls Try.prog 24 #[.slice A l.length c] w fun e w'=>∃ v,e=.returned (.tuple #[v,.int .i64 0])∧(Kd.int .u8).R 5 w' w.heap.size (fun _=>True) v (sa.enS l)∧Below w.heap.size w w' :=
 (sa.enc24 w hA hc hv hl).mono fun e w' q=>by
  rcases q with q | q
  ·exact absurd h q.1
  ·exact q.2
theorem sa.encN {l:List S51} {A:Option Addr} {c:Nat} (w:World) (hA:k51.C w A l.length l) (hc:l.length≤c) (hv:∀ x ∈ l,Val x.f1∧x.f0.size≤140737488351232) (hl:l.length≤9223372036854775000) (h:¬ sa.RS l) :
  Calls Try.prog 24 #[.slice A l.length c] w fun e w'=>e=.returned (.tuple #[.slice none 0 0,.int .i64 70])∧Below w.heap.size w w' :=
 (sa.enc24 w hA hc hv hl).mono fun e w' q=>by
  rcases q with q | q
  ·exact q.2
  ·exact absurd q.1 h
theorem sa.shown9 (w:World):Calls Try.prog 9 #[] w fun e w'=>e=.returned (.bool true)∧Below w.heap.size w w':=by
 have hu51:=Try.underlying51
 have hu34:=Try.underlying34
 have hx:∀ x ∈ [sa.x0],Val x.f1∧x.f0.size≤140737488351232:=fun x hx=>by
  rw [show x=sa.x0 by simpa using hx]
  exact ⟨sa.x0_val,by show (1:Nat)≤140737488351232;omega⟩
 have EN:=qAA.mk (sa.encY (l:=[sa.x0]) (c:=1) _ (sa.x0_row w) (Nat.le_refl _) hx (by show (1:Nat)≤9223372036854775000;omega) sa.x0_rs)
 clear hx
 rw [sa.x0_en] at EN
 have hst:strOfNums [83,83,84,49,1,1,98,2]=⟨#[83,83,84,49,1,1,98,2]⟩:=by rfl
 go_enter Try.func9,Try.ntmps9
 go_wp2_with (first | (go_at_call 24;refine EN.out.mono ?_;rintro e_ w2 ⟨v0,rfl,hr,hb⟩;obtain ⟨A9,c9,e9⟩:=Kd.qBE hr;subst e9;have R2:=Kd.qBv (P:=Try.prog) (c:=c9) Try.underlying44 Try.underlying5 Try.underlying9 (Kd.R_reads' hr).2.2;rw [hst] at R2;have R2:(convert 44 9 (.slice A9 8 c9)).run Try.prog w2=.ok (.string ⟨#[83,83,84,49,1,1,98,2]⟩) w2:=R2;have B2:=qAA.mk (qAf (qAF (Below.refl w.heap.size w) _) (qAF (Below.refl w.heap.size w) _).size hb);clear hr hb hst))
 go_ret
 exact ⟨rfl,B2.out⟩
theorem sa.pf51:PF (fun x:S51=>x.f0.size < 18446744073709551616∧(Val x.f1∧Frm x.f1)) sa.e51:=by
 intro x y r s hx hy e
 obtain ⟨e1,e2⟩:=PF.pair PF.str PF.val (x.f0,x.f1) (y.f0,y.f1) r s hx hy e
 cases x;cases y
 simp only [Prod.mk.injEq] at e1
 obtain ⟨rfl,rfl⟩:=e1
 exact ⟨rfl,e2⟩
theorem sa.rs_ok {l:List S51} (h:sa.RS l) (hv:∀ x ∈ l,Val x.f1):l.length < 18446744073709551616∧∀ x ∈ l,x.f0.size < 18446744073709551616∧(Val x.f1∧Frm x.f1) :=
 ⟨by have:=h.2.2.2;omega,fun x hx=>⟨by have:=(h.1 x hx).2.2;omega,hv x hx,sa.okV_frm 8 _ (h.1 x hx).1.1⟩⟩
theorem sa.begin_iff {a b:List S51} (ha:sa.RS a) (va:∀ x ∈ a,Val x.f1) (hb:sa.RS b) (vb:∀ x ∈ b,Val x.f1) (hle:(sa.enS a).length≤(sa.enS b).length) :
  (sa.enS b).take (sa.enS a).length=sa.enS a ↔ a=b:=by
 constructor
 ·intro e
  have e2:=List.take_append_drop (sa.enS a).length (sa.enS b)
  rw [e] at e2
  exact (PF.tag [83,83,84,49] (PF.lst sa.pf51) a b ((sa.enS b).drop (sa.enS a).length) [] (sa.rs_ok ha va) (sa.rs_ok hb vb) (by rw [List.append_nil];exact e2)).1
 ·rintro rfl
  exact List.take_of_length_le (Nat.le_refl _)
theorem sa.enS_bytes {l:List S51} (h:sa.RS l) (hv:∀ x ∈ l,Val x.f1):Bytes (sa.enS l):=by
 have h1:Bytes (lst sa.e51 l):=lst_bytes (fun x hx=>by
  unfold sa.e51 X.str
  exact ((qBo _ (Int.natCast_nonneg _)).append (bytes_of _)).append (en_bytes x.f1 (hv x hx) (sa.okV_frm 8 _ (h.1 x hx).1.1)))
 unfold sa.enS
 exact Bytes.append (qBO (by decide) (by decide) (qBO (by decide) (by decide) (qBO (by decide) (by decide) (qBO (by decide) (by decide) Bytes.nil)))) h1
theorem sa.enS_len {l:List S51} (h:sa.RS l) (hv:∀ x ∈ l,Val x.f1):(sa.enS l).length≤5000000:=by
 have h1:=sa.flat_le sa.e51 30000 l (fun y hy=>sa.e51_len (hv y hy) (h.1 y hy))
 have h2:=qBW (l.length:Int)
 have h3:30000 * l.length≤30000 * 128:=Nat.mul_le_mul_left _ h.2.2.2
 unfold sa.enS X.lst
 simp only [List.length_append,List.length_cons,List.length_nil]
 omega
set_option maxHeartbeats 8000000 in
theorem sa.apart8 {a b:List S51} {A:Option Addr} {ca:Nat} {B:Option Addr} {cb:Nat} {w:World} (hA:k51.C w A a.length a) (hca:a.length≤ca) (ha:∀ x ∈ a,Val x.f1∧x.f0.size≤140737488351232) (za:∀ x ∈ a,Siz x.f1) (la:a.length≤9223372036854775000)
  (hB:k51.C w B b.length b) (hcb:b.length≤cb) (hb:∀ x ∈ b,Val x.f1∧x.f0.size≤140737488351232) (lb:b.length≤9223372036854775000) :
  Calls Try.prog 8 #[.slice A a.length ca,.slice B b.length cb] w fun e w'=>e=.returned (.bool true)∧Below w.heap.size w w':=by
 have hu44:=Try.underlying44
 obtain ⟨i0,hi0,_,_,_⟩:=info_parts (show (Try.prog.info? 5).map (fun i=>(i.zero,i.size,i.bytes))=some (some (.int .u8 0),1,1) by kernel_rfl)
 obtain ⟨t,⟨K,hK⟩,hT⟩:=ent_ev a b la (fun y hy=>⟨(ha y hy).1,za y hy⟩) (fun y hy=>(hb y hy).1)
 obtain ⟨t0,⟨K0,hK0⟩,hT0⟩:=ent_ev a a la (fun y hy=>⟨(ha y hy).1,za y hy⟩) (fun y hy=>(ha y hy).1)
 obtain rfl:t0=true:=hT0.2 rfl
 have SM:=qAA.mk (fun (W:World) (hW:Below w.heap.size w W)=>qAM.calls K A ca a B cb b t W (Kd.qAZ hA hW) hca (Kd.qAZ hB hW) hcb (hK K (Nat.le_refl _)))
 have SM0:=qAA.mk (fun (W:World) (hW:Below w.heap.size w W) (A2:Option Addr) (c2:Nat) (q:k51.C W A2 a.length a) (qc:a.length≤c2)=>qAM.calls K0 A2 c2 a A ca a true W q qc (Kd.qAZ hA hW) hca (hK0 K0 (Nat.le_refl _)))
 have YA:=qAA.mk (fun (W:World) (hW:Below w.heap.size w W) (h:sa.RS a)=>sa.encY W (Kd.qAZ hA hW) hca ha la h)
 have NA:=qAA.mk (fun (W:World) (hW:Below w.heap.size w W) (h:¬ sa.RS a)=>sa.encN W (Kd.qAZ hA hW) hca ha la h)
 have YB:=qAA.mk (fun (W:World) (hW:Below w.heap.size w W) (h:sa.RS b)=>sa.encY W (Kd.qAZ hB hW) hcb hb lb h)
 have NB:=qAA.mk (fun (W:World) (hW:Below w.heap.size w W) (h:¬ sa.RS b)=>sa.encN W (Kd.qAZ hB hW) hcb hb lb h)
 have va:∀ x ∈ a,Val x.f1:=fun x hx=>(ha x hx).1
 have vb:∀ x ∈ b,Val x.f1:=fun x hx=>(hb x hx).1
 clear hA hca ha za la hB hcb hb lb hK hK0 hT0
 by_cases ra:sa.RS a
 case neg =>
  have EA:=qAA.mk (fun (W:World) (hW:Below w.heap.size w W)=>NA.out W hW ra)
  by_cases rb:sa.RS b
  case neg =>
   have EB:=qAA.mk (fun (W:World) (hW:Below w.heap.size w W)=>NB.out W hW rb)
   clear ra rb va vb
   go_enter Try.func8,Try.ntmps8
   have tka:=qAA.mk True.intro
   go_wp2_with (first | (go_at_call 9;refine (sa.shown9 _).mono ?_;rintro e_ w2 ⟨rfl,hb⟩;have O2:=qAA.mk hb;clear hb) | (go_at_call 24;clear tka;refine (EA.out _ O2.out).mono ?_;rintro e_ w3 ⟨rfl,hb⟩;have O3:=qAA.mk (qAS O2.out hb);have Sa:=qAA.mk hb;clear hb) | (go_at_call 24;refine (EB.out _ O3.out).mono ?_;rintro e_ w4 ⟨rfl,hb⟩;have O4:=qAA.mk (qAS O3.out hb);have Sb:=qAA.mk hb;clear hb))
   go_ret
   exact ⟨rfl,O4.out⟩
  case pos =>
   have EB:=qAA.mk (fun (W:World) (hW:Below w.heap.size w W)=>YB.out W hW rb)
   clear ra rb va vb
   go_enter Try.func8,Try.ntmps8
   have tka:=qAA.mk True.intro
   go_wp2_with (first | (go_at_call 9;refine (sa.shown9 _).mono ?_;rintro e_ w2 ⟨rfl,hb⟩;have O2:=qAA.mk hb;clear hb) | (go_at_call 24;clear tka;refine (EA.out _ O2.out).mono ?_;rintro e_ w3 ⟨rfl,hb⟩;have O3:=qAA.mk (qAS O2.out hb);have Sa:=qAA.mk hb;clear hb) | (go_at_call 24;refine (EB.out _ O3.out).mono ?_;rintro e_ w4 ⟨vb,rfl,hr,hb⟩;obtain ⟨Xb,qb,eb⟩:=Kd.qBE hr;subst eb;have Rb:=qAA.mk hr;clear hr;have O4:=qAA.mk (qAS O3.out hb);have Sb:=qAA.mk hb;clear hb))
   go_ret
   exact ⟨rfl,O4.out⟩
 have EA:=qAA.mk (fun (W:World) (hW:Below w.heap.size w W)=>YA.out W hW ra)
 by_cases rb:sa.RS b
 case neg =>
  have EB:=qAA.mk (fun (W:World) (hW:Below w.heap.size w W)=>NB.out W hW rb)
  clear ra rb va vb
  go_enter Try.func8,Try.ntmps8
  have tka:=qAA.mk True.intro
  go_wp2_with (first | (go_at_call 9;refine (sa.shown9 _).mono ?_;rintro e_ w2 ⟨rfl,hb⟩;have O2:=qAA.mk hb;clear hb) | (go_at_call 24;clear tka;refine (EA.out _ O2.out).mono ?_;rintro e_ w3 ⟨va,rfl,hr,hb⟩;obtain ⟨Xa,qa,ea⟩:=Kd.qBE hr;subst ea;have Ra:=qAA.mk hr;clear hr;have O3:=qAA.mk (qAS O2.out hb);have Sa:=qAA.mk hb;clear hb) | (go_at_call 24;refine (EB.out _ O3.out).mono ?_;rintro e_ w4 ⟨rfl,hb⟩;have O4:=qAA.mk (qAS O3.out hb);have Sb:=qAA.mk hb;clear hb))
  go_ret
  exact ⟨rfl,O4.out⟩
 have EB:=qAA.mk (fun (W:World) (hW:Below w.heap.size w W)=>YB.out W hW rb)
 have IFF:=qAA.mk (fun hle=>sa.begin_iff ra va rb vb hle)
 have BA:=qAA.mk (sa.enS_bytes ra va)
 have BB:=qAA.mk (sa.enS_bytes rb vb)
 have LX:=qAA.mk (sa.enS_len ra va)
 have LY:=qAA.mk (sa.enS_len rb vb)
 have EQ:=qAA.mk (show a=b→sa.enS a=sa.enS b by rintro rfl;rfl)
 have HT:=qAA.mk hT
 have hback:=sa.decF_back a ra va
 have DC:=qAA.mk (fun (W:World) (X:Option Addr) (q:Nat) (hC:(Kd.int .u8).C W X (sa.enS a).length (sa.enS a)) (hq:(sa.enS a).length≤q)=>sa.dec22 BA.out (by have:=LX.out;omega) hC hq)
 rw [hback] at DC
 dsimp only at DC
 clear ra va rb vb YA NA YB NB hT hback
 generalize sa.enS a=x at *
 generalize sa.enS b=y at *
 cases t with
 | true =>
  have hsm:=HT.out.1 rfl
  have hxy:=EQ.out hsm
  clear hsm EQ HT IFF
  subst hxy
  have i1:decide ((x.length:Int)≤(x.length:Int))=true:=decide_eq_true (by omega)
  have i2:decide (x.length≤x.length)=true:=decide_eq_true (by omega)
  go_enter Try.func8,Try.ntmps8
  have tka:=qAA.mk True.intro
  go_wp2_with (first | (go_at_call 9;refine (sa.shown9 _).mono ?_;rintro e_ w2 ⟨rfl,hb⟩;have O2:=qAA.mk hb;clear hb) | (go_at_call 24;clear tka;refine (EA.out _ O2.out).mono ?_;rintro e_ w3 ⟨va,rfl,hr,hb⟩;obtain ⟨Xa,qa,ea⟩:=Kd.qBE hr;subst ea;have Ra:=qAA.mk hr;clear hr;have O3:=qAA.mk (qAS O2.out hb);have Sa:=qAA.mk hb;clear hb) | (go_at_call 24;refine (EB.out _ O3.out).mono ?_;rintro e_ w4 ⟨vb,rfl,hr,hb⟩;obtain ⟨Xb,qb,eb⟩:=Kd.qBE hr;subst eb;have Rb:=qAA.mk hr;clear hr;have O4:=qAA.mk (qAS O3.out hb);have Sb:=qAA.mk hb;clear hb) | (go_at_call 22;refine (DC.out _ Xa qa (Kd.qAZ (Kd.R_reads' Ra.out).2.2 Sb.out) (Kd.R_reads' Ra.out).2.1).mono ?_;rintro e_ w5 ⟨hb,v5,rfl,hr⟩;obtain ⟨A5,c5,e5⟩:=Kd.qBE hr;subst e5;have RK:=qAA.mk (sa.ke_C (Kd.R_reads' hr).2.2);have LK:=qAA.mk (Kd.R_reads' hr).2.1;have O5:=qAA.mk (qAS O4.out hb);have Sd:=qAA.mk hb;clear hb hr))
  have CUT:=cut_to (P:=Try.prog) 44 5 .i64 Try.underlying44 hi0 Xb x.length qb (x.length:Int) (Int.natCast_nonneg _) (Int.le_refl _) (Kd.R_reads' Rb.out).2.1
  rw [Int.toNat_natCast] at CUT
  have CA:=qAA.mk (Kd.qAZ (Kd.qAZ (Kd.R_reads' Ra.out).2.2 Sb.out) Sd.out)
  have CB:=qAA.mk (Kd.qAZ (Kd.R_reads' Rb.out).2.2 Sd.out)
  have SRA:=qAA.mk (fun (W:World) (hC:(Kd.int .u8).C W Xa x.length x)=>Kd.qBv (P:=Try.prog) (c:=qa) Try.underlying44 Try.underlying5 Try.underlying9 hC)
  have SRB:=qAA.mk (fun (W:World) (hC:(Kd.int .u8).C W Xb x.length x)=>Kd.qBv (P:=Try.prog) (c:=qb) Try.underlying44 Try.underlying5 Try.underlying9 hC)
  generalize strOfNums x=s1 at SRA SRB
  refine qAy (n:=16) (S:=fun w'=>(convert 44 9 (.slice Xb x.length qb)).run Try.prog w'=.ok (.string s1) w'∧(convert 44 9 (.slice Xa x.length qa)).run Try.prog w'=.ok (.string s1) w') (ds:=[]) #[qF,qF,qF,qF,qF,qF,qF,qF,qF,qF,qF,qF,qF,qF,qF,qF] (by kernel_rfl) rfl rfl ⟨SRB.out _ (Kd.qAo CB.out),SRA.out _ (Kd.qAo CA.out)⟩ (fun hHeld => ?_)
  generalize hwd:w5.drew=wd at hHeld ⊢
  have RKd:=qAA.mk (hwd▸Kd.qAo RK.out)
  have Od:=qAA.mk (hwd▸qAX O5.out)
  clear hwd
  refine qAL (i:=0) (N:=some 38) (v := ?_) (a' := ?_) #[qT,qF,qF,qF,qF,qF,qF,qF,qF,qF,qF,qF,qF,qF,qF,qF] rfl rfl (by kernel_rfl) (fun _ _ _ h=>h) (Or.inl ⟨by rfl, ?_⟩) ?_ ?_
  rotate_left
  ·intro w'
   go_simp
   with_reducible rfl
  rotate_left
  ·simp only [Act.put,qs1,qs2,qs3,qAH,qAI]
   rfl
  refine qAL (i:=1) (N:=some 39) (v := ?_) (a' := ?_) #[qT,qT,qF,qF,qF,qF,qF,qF,qF,qF,qF,qF,qF,qF,qF,qF] rfl rfl (by kernel_rfl) (fun _ _ _ h=>h) (Or.inl ⟨by rfl, ?_⟩) ?_ ?_
  rotate_left
  ·intro w'
   go_simp
   with_reducible rfl
  rotate_left
  ·simp only [Act.put,qs1,qs2,qs3,qAH,qAI]
   rfl
  refine qAL (i:=2) (N:=some 40) (v := ?_) (a' := ?_) #[qT,qT,qT,qF,qF,qF,qF,qF,qF,qF,qF,qF,qF,qF,qF,qF] rfl rfl (by kernel_rfl) (fun _ _ _ h=>h) (Or.inl ⟨by rfl, ?_⟩) ?_ ?_
  rotate_left
  ·intro w'
   go_simp
   with_reducible rfl
  rotate_left
  ·simp only [Act.put,qs1,qs2,qs3,qAH,qAI]
   rfl
  refine qAL (i:=3) (N:=some 41) (v := ?_) (a' := ?_) #[qT,qT,qT,qT,qF,qF,qF,qF,qF,qF,qF,qF,qF,qF,qF,qF] rfl rfl (by kernel_rfl) (fun _ _ _ h=>h) (Or.inl ⟨by rfl, ?_⟩) ?_ ?_
  rotate_left
  ·intro w'
   go_simp
   with_reducible rfl
  rotate_left
  ·simp only [Act.put,qs1,qs2,qs3,qAH,qAI]
   rfl
  refine qAL (i:=4) (N:=some 42) (v := ?_) (a' := ?_) #[qT,qT,qT,qT,qT,qF,qF,qF,qF,qF,qF,qF,qF,qF,qF,qF] rfl rfl (by kernel_rfl) (fun _ _ _ h=>h) (Or.inl ⟨by rfl, ?_⟩) ?_ ?_
  rotate_left
  ·intro w'
   go_simp
   with_reducible rfl
  rotate_left
  ·simp only [Act.put,qs1,qs2,qs3,qAH,qAI]
   rfl
  refine qAL (i:=5) (N:=some 43) (v := ?_) (a' := ?_) #[qT,qT,qT,qT,qT,qT,qF,qF,qF,qF,qF,qF,qF,qF,qF,qF] rfl rfl (by kernel_rfl) (fun _ _ _ h=>h) (Or.inl ⟨by rfl, ?_⟩) ?_ ?_
  rotate_left
  ·intro w'
   go_simp
   with_reducible rfl
  rotate_left
  ·simp only [Act.put,qs1,qs2,qs3,qAH,qAI]
   rfl
  refine qAL (i:=6) (N:=some 44) (v := ?_) (a' := ?_) #[qT,qT,qT,qT,qT,qT,qT,qF,qF,qF,qF,qF,qF,qF,qF,qF] rfl rfl (by kernel_rfl) (fun _ _ _ h=>h) (Or.inl ⟨by rfl, ?_⟩) ?_ ?_
  rotate_left
  ·intro w'
   go_simp
   with_reducible rfl
  rotate_left
  ·simp only [Act.put,qs1,qs2,qs3,qAH,qAI]
   rfl
  refine qAL (i:=7) (N:=some 45) (v := ?_) (a' := ?_) #[qT,qT,qT,qT,qT,qT,qT,qT,qF,qF,qF,qF,qF,qF,qF,qF] rfl rfl (by kernel_rfl) (fun _ _ _ h=>h) (Or.inl ⟨by rfl, ?_⟩) ?_ ?_
  rotate_left
  ·intro w'
   go_simp
   with_reducible rfl
  rotate_left
  ·simp only [Act.put,qs1,qs2,qs3,qAH,qAI]
   rfl
  refine qAL (i:=8) (N:=some 46) (v := ?_) (a' := ?_) #[qT,qT,qT,qT,qT,qT,qT,qT,qT,qF,qF,qF,qF,qF,qF,qF] rfl rfl (by kernel_rfl) (fun _ _ _ h=>h) (Or.inl ⟨by rfl, ?_⟩) ?_ ?_
  rotate_left
  ·intro w'
   go_simp
   with_reducible rfl
  rotate_left
  ·simp only [Act.put,qs1,qs2,qs3,qAH,qAI]
   rfl
  refine qAL (i:=9) (N:=some 47) (v := ?_) (a' := ?_) #[qT,qT,qT,qT,qT,qT,qT,qT,qT,qT,qF,qF,qF,qF,qF,qF] rfl rfl (by kernel_rfl) (fun _ _ _ h=>h) (Or.inl ⟨by rfl, ?_⟩) ?_ ?_
  rotate_left
  ·intro w'
   go_simp
   with_reducible rfl
  rotate_left
  ·simp only [Act.put,qs1,qs2,qs3,qAH,qAI]
   rfl
  refine qAL (i:=11) (N:=some 49) (v := ?_) (a' := ?_) #[qT,qT,qT,qT,qT,qT,qT,qT,qT,qT,qF,qT,qF,qF,qF,qF] rfl rfl (by kernel_rfl) (fun _ _ _ h=>h) (Or.inl ⟨by rfl, ?_⟩) ?_ ?_
  rotate_left
  ·intro w'
   go_simp
   with_reducible rfl
  rotate_left
  ·simp only [Act.put,qs1,qs2,qs3,qAH,qAI]
   rfl
  refine qAt (i:=10) (N:=some 48) (v := ?_) (a' := ?_) #[qT,qT,qT,qT,qT,qT,qT,qT,qT,qT,qT,qT,qF,qF,qF,qF] rfl rfl (by kernel_rfl) (fun _ _ _ h=>h) (Or.inl ⟨by rfl, ?_⟩) hHeld ?_ ?_
  rotate_left
  ·rintro w' ⟨s0,s1⟩
   go_simp
   with_reducible rfl
  rotate_left
  ·simp only [Act.put,qs1,qs2,qs3,qAH,qAI]
   rfl
  refine qAt (i:=12) (N:=some 50) (v := ?_) (a' := ?_) #[qT,qT,qT,qT,qT,qT,qT,qT,qT,qT,qT,qT,qT,qF,qF,qF] rfl rfl (by kernel_rfl) (fun _ _ _ h=>h) (Or.inl ⟨by rfl, ?_⟩) hHeld ?_ ?_
  rotate_left
  ·rintro w' ⟨s0,s1⟩
   go_simp
   with_reducible rfl
  rotate_left
  ·simp only [Act.put,qs1,qs2,qs3,qAH,qAI]
   rfl
  refine qAL (i:=13) (N:=some 51) (v := ?_) (a' := ?_) #[qT,qT,qT,qT,qT,qT,qT,qT,qT,qT,qT,qT,qT,qT,qF,qF] rfl rfl (by kernel_rfl) (fun _ _ _ h=>h) (Or.inl ⟨by rfl, ?_⟩) ?_ ?_
  rotate_left
  ·intro w'
   go_simp
   with_reducible rfl
  rotate_left
  ·simp only [Act.put,qs1,qs2,qs3,qAH,qAI]
   rfl
  refine qAL (i:=14) (N:=some 52) (v := ?_) (a' := ?_) #[qT,qT,qT,qT,qT,qT,qT,qT,qT,qT,qT,qT,qT,qT,qT,qF] rfl rfl (by kernel_rfl) (fun _ _ _ h=>h) (Or.inl ⟨by rfl, ?_⟩) ?_ ?_
  rotate_left
  ·intro w'
   go_simp
   with_reducible rfl
  rotate_left
  ·simp only [Act.put,qs1,qs2,qs3,qAH,qAI]
   rfl
  refine qAL (i:=15) (N:=some 13) (v := ?_) (a' := ?_) #[qT,qT,qT,qT,qT,qT,qT,qT,qT,qT,qT,qT,qT,qT,qT,qT] rfl rfl (by kernel_rfl) (fun _ _ _ h=>h) (Or.inl ⟨by rfl, ?_⟩) ?_ ?_
  rotate_left
  ·intro w'
   go_simp
   with_reducible rfl
  rotate_left
  ·simp only [Act.put,qs1,qs2,qs3,qAH,qAI]
   rfl
  refine qBM (by kernel_rfl) ?_
  have tkb:=qAA.mk True.intro
  go_wp2_with (first | (go_at_call 19;clear tkb;refine (SM0.out _ Od.out A5 c5 RKd.out LK.out).mono ?_;rintro e_ w7 ⟨rfl,hb⟩;have O7:=qAA.mk (qAS Od.out hb);clear hb) | (go_at_call 19;refine (SM.out _ O7.out).mono ?_;rintro e_ w8 ⟨rfl,hb⟩;have O8:=qAA.mk (qAS O7.out hb);clear hb))
  go_ret
  exact ⟨rfl,O8.out⟩
 | false =>
  have hns:¬ a=b:=fun h=>by cases HT.out.2 h
  by_cases hle:x.length≤y.length
  ·have hne:=fun h=>hns ((IFF.out hle).1 h)
   have hsn:strOfNums (y.take x.length) ≠ strOfNums x:=fun h=>hne (str_inj (fun z hz=>BB.out z (List.mem_of_mem_take hz)) BA.out h)
   have hll:(y.take x.length).length=x.length:=by rw [List.length_take];omega
   have i1:decide ((x.length:Int)≤(y.length:Int))=true:=decide_eq_true (by omega)
   have i2:decide (x.length≤y.length)=true:=decide_eq_true (by omega)
   have HLE:=qAA.mk hle;have HSN:=qAA.mk hsn;have HLL:=qAA.mk hll
   clear hne hns EQ HT IFF hsn hle hll
   go_enter Try.func8,Try.ntmps8
   have tka:=qAA.mk True.intro
   go_wp2_with (first | (go_at_call 9;refine (sa.shown9 _).mono ?_;rintro e_ w2 ⟨rfl,hb⟩;have O2:=qAA.mk hb;clear hb) | (go_at_call 24;clear tka;refine (EA.out _ O2.out).mono ?_;rintro e_ w3 ⟨va,rfl,hr,hb⟩;obtain ⟨Xa,qa,ea⟩:=Kd.qBE hr;subst ea;have Ra:=qAA.mk hr;clear hr;have O3:=qAA.mk (qAS O2.out hb);have Sa:=qAA.mk hb;clear hb) | (go_at_call 24;refine (EB.out _ O3.out).mono ?_;rintro e_ w4 ⟨vb,rfl,hr,hb⟩;obtain ⟨Xb,qb,eb⟩:=Kd.qBE hr;subst eb;have Rb:=qAA.mk hr;clear hr;have O4:=qAA.mk (qAS O3.out hb);have Sb:=qAA.mk hb;clear hb) | (go_at_call 22;refine (DC.out _ Xa qa (Kd.qAZ (Kd.R_reads' Ra.out).2.2 Sb.out) (Kd.R_reads' Ra.out).2.1).mono ?_;rintro e_ w5 ⟨hb,v5,rfl,hr⟩;obtain ⟨A5,c5,e5⟩:=Kd.qBE hr;subst e5;have RK:=qAA.mk (sa.ke_C (Kd.R_reads' hr).2.2);have LK:=qAA.mk (Kd.R_reads' hr).2.1;have O5:=qAA.mk (qAS O4.out hb);have Sd:=qAA.mk hb;clear hb hr))
   have CUT:=cut_to (P:=Try.prog) 44 5 .i64 Try.underlying44 hi0 Xb y.length qb (x.length:Int) (Int.natCast_nonneg _) (by have:=HLE.out;omega) (Kd.R_reads' Rb.out).2.1
   rw [Int.toNat_natCast] at CUT
   have CA:=qAA.mk (Kd.qAZ (Kd.qAZ (Kd.R_reads' Ra.out).2.2 Sb.out) Sd.out)
   have CB:=qAA.mk (Kd.C_take (Kd.qAZ (Kd.R_reads' Rb.out).2.2 Sd.out) HLE.out)
   rw [HLL.out] at CB
   have SRA:=qAA.mk (fun (W:World) (hC:(Kd.int .u8).C W Xa x.length x)=>Kd.qBv (P:=Try.prog) (c:=qa) Try.underlying44 Try.underlying5 Try.underlying9 hC)
   have SRB:=qAA.mk (fun (W:World) (hC:(Kd.int .u8).C W Xb x.length (y.take x.length))=>Kd.qBv (P:=Try.prog) (c:=qb) Try.underlying44 Try.underlying5 Try.underlying9 hC)
   have hsn:=HSN.out
   clear HSN
   generalize strOfNums x=s1 at SRA hsn
   generalize strOfNums (y.take x.length)=s2 at SRB hsn
   have i3:(s2.toList == s1.toList)=false:=by simpa using fun h=>hsn (toList_inj h)
   have i4:decide (s2=s1)=false:=decide_eq_false hsn
   refine qAy (n:=16) (S:=fun w'=>(convert 44 9 (.slice Xb x.length qb)).run Try.prog w'=.ok (.string s2) w'∧(convert 44 9 (.slice Xa x.length qa)).run Try.prog w'=.ok (.string s1) w') (ds:=[]) #[qF,qF,qF,qF,qF,qF,qF,qF,qF,qF,qF,qF,qF,qF,qF,qF] (by kernel_rfl) rfl rfl ⟨SRB.out _ (Kd.qAo CB.out),SRA.out _ (Kd.qAo CA.out)⟩ (fun hHeld => ?_)
   generalize hwd:w5.drew=wd at hHeld ⊢
   have RKd:=qAA.mk (hwd▸Kd.qAo RK.out)
   have Od:=qAA.mk (hwd▸qAX O5.out)
   clear hwd
   refine qAL (i:=0) (N:=some 38) (v := ?_) (a' := ?_) #[qT,qF,qF,qF,qF,qF,qF,qF,qF,qF,qF,qF,qF,qF,qF,qF] rfl rfl (by kernel_rfl) (fun _ _ _ h=>h) (Or.inl ⟨by rfl, ?_⟩) ?_ ?_
   rotate_left
   ·intro w'
    go_simp
    with_reducible rfl
   rotate_left
   ·simp only [Act.put,qs1,qs2,qs3,qAH,qAI]
    rfl
   refine qAL (i:=1) (N:=some 39) (v := ?_) (a' := ?_) #[qT,qT,qF,qF,qF,qF,qF,qF,qF,qF,qF,qF,qF,qF,qF,qF] rfl rfl (by kernel_rfl) (fun _ _ _ h=>h) (Or.inl ⟨by rfl, ?_⟩) ?_ ?_
   rotate_left
   ·intro w'
    go_simp
    with_reducible rfl
   rotate_left
   ·simp only [Act.put,qs1,qs2,qs3,qAH,qAI]
    rfl
   refine qAL (i:=2) (N:=some 40) (v := ?_) (a' := ?_) #[qT,qT,qT,qF,qF,qF,qF,qF,qF,qF,qF,qF,qF,qF,qF,qF] rfl rfl (by kernel_rfl) (fun _ _ _ h=>h) (Or.inl ⟨by rfl, ?_⟩) ?_ ?_
   rotate_left
   ·intro w'
    go_simp
    with_reducible rfl
   rotate_left
   ·simp only [Act.put,qs1,qs2,qs3,qAH,qAI]
    rfl
   refine qAL (i:=3) (N:=some 41) (v := ?_) (a' := ?_) #[qT,qT,qT,qT,qF,qF,qF,qF,qF,qF,qF,qF,qF,qF,qF,qF] rfl rfl (by kernel_rfl) (fun _ _ _ h=>h) (Or.inl ⟨by rfl, ?_⟩) ?_ ?_
   rotate_left
   ·intro w'
    go_simp
    with_reducible rfl
   rotate_left
   ·simp only [Act.put,qs1,qs2,qs3,qAH,qAI]
    rfl
   refine qAL (i:=4) (N:=some 42) (v := ?_) (a' := ?_) #[qT,qT,qT,qT,qT,qF,qF,qF,qF,qF,qF,qF,qF,qF,qF,qF] rfl rfl (by kernel_rfl) (fun _ _ _ h=>h) (Or.inl ⟨by rfl, ?_⟩) ?_ ?_
   rotate_left
   ·intro w'
    go_simp
    with_reducible rfl
   rotate_left
   ·simp only [Act.put,qs1,qs2,qs3,qAH,qAI]
    rfl
   refine qAL (i:=5) (N:=some 43) (v := ?_) (a' := ?_) #[qT,qT,qT,qT,qT,qT,qF,qF,qF,qF,qF,qF,qF,qF,qF,qF] rfl rfl (by kernel_rfl) (fun _ _ _ h=>h) (Or.inl ⟨by rfl, ?_⟩) ?_ ?_
   rotate_left
   ·intro w'
    go_simp
    with_reducible rfl
   rotate_left
   ·simp only [Act.put,qs1,qs2,qs3,qAH,qAI]
    rfl
   refine qAL (i:=6) (N:=some 44) (v := ?_) (a' := ?_) #[qT,qT,qT,qT,qT,qT,qT,qF,qF,qF,qF,qF,qF,qF,qF,qF] rfl rfl (by kernel_rfl) (fun _ _ _ h=>h) (Or.inl ⟨by rfl, ?_⟩) ?_ ?_
   rotate_left
   ·intro w'
    go_simp
    with_reducible rfl
   rotate_left
   ·simp only [Act.put,qs1,qs2,qs3,qAH,qAI]
    rfl
   refine qAL (i:=7) (N:=some 45) (v := ?_) (a' := ?_) #[qT,qT,qT,qT,qT,qT,qT,qT,qF,qF,qF,qF,qF,qF,qF,qF] rfl rfl (by kernel_rfl) (fun _ _ _ h=>h) (Or.inl ⟨by rfl, ?_⟩) ?_ ?_
   rotate_left
   ·intro w'
    go_simp
    with_reducible rfl
   rotate_left
   ·simp only [Act.put,qs1,qs2,qs3,qAH,qAI]
    rfl
   refine qAL (i:=8) (N:=some 46) (v := ?_) (a' := ?_) #[qT,qT,qT,qT,qT,qT,qT,qT,qT,qF,qF,qF,qF,qF,qF,qF] rfl rfl (by kernel_rfl) (fun _ _ _ h=>h) (Or.inl ⟨by rfl, ?_⟩) ?_ ?_
   rotate_left
   ·intro w'
    go_simp
    with_reducible rfl
   rotate_left
   ·simp only [Act.put,qs1,qs2,qs3,qAH,qAI]
    rfl
   refine qAL (i:=9) (N:=some 47) (v := ?_) (a' := ?_) #[qT,qT,qT,qT,qT,qT,qT,qT,qT,qT,qF,qF,qF,qF,qF,qF] rfl rfl (by kernel_rfl) (fun _ _ _ h=>h) (Or.inl ⟨by rfl, ?_⟩) ?_ ?_
   rotate_left
   ·intro w'
    go_simp
    with_reducible rfl
   rotate_left
   ·simp only [Act.put,qs1,qs2,qs3,qAH,qAI]
    rfl
   refine qAL (i:=11) (N:=some 49) (v := ?_) (a' := ?_) #[qT,qT,qT,qT,qT,qT,qT,qT,qT,qT,qF,qT,qF,qF,qF,qF] rfl rfl (by kernel_rfl) (fun _ _ _ h=>h) (Or.inl ⟨by rfl, ?_⟩) ?_ ?_
   rotate_left
   ·intro w'
    go_simp
    with_reducible rfl
   rotate_left
   ·simp only [Act.put,qs1,qs2,qs3,qAH,qAI]
    rfl
   refine qAt (i:=10) (N:=some 48) (v := ?_) (a' := ?_) #[qT,qT,qT,qT,qT,qT,qT,qT,qT,qT,qT,qT,qF,qF,qF,qF] rfl rfl (by kernel_rfl) (fun _ _ _ h=>h) (Or.inl ⟨by rfl, ?_⟩) hHeld ?_ ?_
   rotate_left
   ·rintro w' ⟨s0,s1⟩
    go_simp
    with_reducible rfl
   rotate_left
   ·simp only [Act.put,qs1,qs2,qs3,qAH,qAI]
    rfl
   refine qAt (i:=12) (N:=some 50) (v := ?_) (a' := ?_) #[qT,qT,qT,qT,qT,qT,qT,qT,qT,qT,qT,qT,qT,qF,qF,qF] rfl rfl (by kernel_rfl) (fun _ _ _ h=>h) (Or.inl ⟨by rfl, ?_⟩) hHeld ?_ ?_
   rotate_left
   ·rintro w' ⟨s0,s1⟩
    go_simp
    with_reducible rfl
   rotate_left
   ·simp only [Act.put,qs1,qs2,qs3,qAH,qAI]
    rfl
   refine qAL (i:=13) (N:=some 51) (v := ?_) (a' := ?_) #[qT,qT,qT,qT,qT,qT,qT,qT,qT,qT,qT,qT,qT,qT,qF,qF] rfl rfl (by kernel_rfl) (fun _ _ _ h=>h) (Or.inl ⟨by rfl, ?_⟩) ?_ ?_
   rotate_left
   ·intro w'
    go_simp
    with_reducible rfl
   rotate_left
   ·simp only [Act.put,qs1,qs2,qs3,qAH,qAI]
    rfl
   refine qAL (i:=14) (N:=some 52) (v := ?_) (a' := ?_) #[qT,qT,qT,qT,qT,qT,qT,qT,qT,qT,qT,qT,qT,qT,qT,qF] rfl rfl (by kernel_rfl) (fun _ _ _ h=>h) (Or.inl ⟨by rfl, ?_⟩) ?_ ?_
   rotate_left
   ·intro w'
    go_simp
    with_reducible rfl
   rotate_left
   ·simp only [Act.put,qs1,qs2,qs3,qAH,qAI]
    rfl
   refine qAL (i:=15) (N:=some 13) (v := ?_) (a' := ?_) #[qT,qT,qT,qT,qT,qT,qT,qT,qT,qT,qT,qT,qT,qT,qT,qT] rfl rfl (by kernel_rfl) (fun _ _ _ h=>h) (Or.inl ⟨by rfl, ?_⟩) ?_ ?_
   rotate_left
   ·intro w'
    go_simp
    with_reducible rfl
   rotate_left
   ·simp only [Act.put,qs1,qs2,qs3,qAH,qAI]
    rfl
   refine qBM (by kernel_rfl) ?_
   have tkb:=qAA.mk True.intro
   go_wp2_with (first | (go_at_call 19;clear tkb;refine (SM0.out _ Od.out A5 c5 RKd.out LK.out).mono ?_;rintro e_ w7 ⟨rfl,hb⟩;have O7:=qAA.mk (qAS Od.out hb);clear hb) | (go_at_call 19;refine (SM.out _ O7.out).mono ?_;rintro e_ w8 ⟨rfl,hb⟩;have O8:=qAA.mk (qAS O7.out hb);clear hb))
   go_ret
   exact ⟨rfl,O8.out⟩
  ·clear hns EQ HT IFF
   have i1:decide ((x.length:Int)≤(y.length:Int))=false:=decide_eq_false (by omega)
   have i2:decide (x.length≤y.length)=false:=decide_eq_false (by omega)
   clear hle
   go_enter Try.func8,Try.ntmps8
   have tka:=qAA.mk True.intro
   go_wp2_with (first | (go_at_call 9;refine (sa.shown9 _).mono ?_;rintro e_ w2 ⟨rfl,hb⟩;have O2:=qAA.mk hb;clear hb) | (go_at_call 24;clear tka;refine (EA.out _ O2.out).mono ?_;rintro e_ w3 ⟨va,rfl,hr,hb⟩;obtain ⟨Xa,qa,ea⟩:=Kd.qBE hr;subst ea;have Ra:=qAA.mk hr;clear hr;have O3:=qAA.mk (qAS O2.out hb);have Sa:=qAA.mk hb;clear hb) | (go_at_call 24;refine (EB.out _ O3.out).mono ?_;rintro e_ w4 ⟨vb,rfl,hr,hb⟩;obtain ⟨Xb,qb,eb⟩:=Kd.qBE hr;subst eb;have Rb:=qAA.mk hr;clear hr;have O4:=qAA.mk (qAS O3.out hb);have Sb:=qAA.mk hb;clear hb) | (go_at_call 22;refine (DC.out _ Xa qa (Kd.qAZ (Kd.R_reads' Ra.out).2.2 Sb.out) (Kd.R_reads' Ra.out).2.1).mono ?_;rintro e_ w5 ⟨hb,v5,rfl,hr⟩;obtain ⟨A5,c5,e5⟩:=Kd.qBE hr;subst e5;have RK:=qAA.mk (sa.ke_C (Kd.R_reads' hr).2.2);have LK:=qAA.mk (Kd.R_reads' hr).2.1;have O5:=qAA.mk (qAS O4.out hb);have Sd:=qAA.mk hb;clear hb hr))
   refine qAy (n:=16) (S:=fun w'=>True) (ds:=[]) #[qF,qF,qF,qF,qF,qF,qF,qF,qF,qF,qF,qF,qF,qF,qF,qF] (by kernel_rfl) rfl rfl trivial (fun hHeld => ?_)
   generalize hwd:w5.drew=wd at hHeld ⊢
   have RKd:=qAA.mk (hwd▸Kd.qAo RK.out)
   have Od:=qAA.mk (hwd▸qAX O5.out)
   clear hwd
   refine qAL (i:=0) (N:=some 38) (v := ?_) (a' := ?_) #[qT,qF,qF,qF,qF,qF,qF,qF,qF,qF,qF,qF,qF,qF,qF,qF] rfl rfl (by kernel_rfl) (fun _ _ _ h=>h) (Or.inl ⟨by rfl, ?_⟩) ?_ ?_
   rotate_left
   ·intro w'
    go_simp
    with_reducible rfl
   rotate_left
   ·simp only [Act.put,qs1,qs2,qs3,qAH,qAI]
    rfl
   refine qAL (i:=1) (N:=some 39) (v := ?_) (a' := ?_) #[qT,qT,qF,qF,qF,qF,qF,qF,qF,qF,qF,qF,qF,qF,qF,qF] rfl rfl (by kernel_rfl) (fun _ _ _ h=>h) (Or.inl ⟨by rfl, ?_⟩) ?_ ?_
   rotate_left
   ·intro w'
    go_simp
    with_reducible rfl
   rotate_left
   ·simp only [Act.put,qs1,qs2,qs3,qAH,qAI]
    rfl
   refine qAL (i:=2) (N:=some 40) (v := ?_) (a' := ?_) #[qT,qT,qT,qF,qF,qF,qF,qF,qF,qF,qF,qF,qF,qF,qF,qF] rfl rfl (by kernel_rfl) (fun _ _ _ h=>h) (Or.inl ⟨by rfl, ?_⟩) ?_ ?_
   rotate_left
   ·intro w'
    go_simp
    with_reducible rfl
   rotate_left
   ·simp only [Act.put,qs1,qs2,qs3,qAH,qAI]
    rfl
   refine qAL (i:=3) (N:=some 41) (v := ?_) (a' := ?_) #[qT,qT,qT,qT,qF,qF,qF,qF,qF,qF,qF,qF,qF,qF,qF,qF] rfl rfl (by kernel_rfl) (fun _ _ _ h=>h) (Or.inl ⟨by rfl, ?_⟩) ?_ ?_
   rotate_left
   ·intro w'
    go_simp
    with_reducible rfl
   rotate_left
   ·simp only [Act.put,qs1,qs2,qs3,qAH,qAI]
    rfl
   refine qAL (i:=4) (N:=some 42) (v := ?_) (a' := ?_) #[qT,qT,qT,qT,qT,qF,qF,qF,qF,qF,qF,qF,qF,qF,qF,qF] rfl rfl (by kernel_rfl) (fun _ _ _ h=>h) (Or.inl ⟨by rfl, ?_⟩) ?_ ?_
   rotate_left
   ·intro w'
    go_simp
    with_reducible rfl
   rotate_left
   ·simp only [Act.put,qs1,qs2,qs3,qAH,qAI]
    rfl
   refine qAL (i:=5) (N:=some 43) (v := ?_) (a' := ?_) #[qT,qT,qT,qT,qT,qT,qF,qF,qF,qF,qF,qF,qF,qF,qF,qF] rfl rfl (by kernel_rfl) (fun _ _ _ h=>h) (Or.inl ⟨by rfl, ?_⟩) ?_ ?_
   rotate_left
   ·intro w'
    go_simp
    with_reducible rfl
   rotate_left
   ·simp only [Act.put,qs1,qs2,qs3,qAH,qAI]
    rfl
   refine qAL (i:=6) (N:=some 44) (v:=undef) (a' := ?_) #[qT,qT,qT,qT,qT,qT,qT,qF,qF,qF,qF,qF,qF,qF,qF,qF] rfl rfl (by kernel_rfl) (fun _ _ _ h=>h) (Or.inr ⟨by rfl,rfl⟩) ?_ ?_
   rotate_left
   ·simp only [Act.put,qs1,qs2,qs3,qAH,qAI]
    rfl
   refine qAL (i:=7) (N:=some 45) (v:=undef) (a' := ?_) #[qT,qT,qT,qT,qT,qT,qT,qT,qF,qF,qF,qF,qF,qF,qF,qF] rfl rfl (by kernel_rfl) (fun _ _ _ h=>h) (Or.inr ⟨by rfl,rfl⟩) ?_ ?_
   rotate_left
   ·simp only [Act.put,qs1,qs2,qs3,qAH,qAI]
    rfl
   refine qAL (i:=8) (N:=some 46) (v:=undef) (a' := ?_) #[qT,qT,qT,qT,qT,qT,qT,qT,qT,qF,qF,qF,qF,qF,qF,qF] rfl rfl (by kernel_rfl) (fun _ _ _ h=>h) (Or.inr ⟨by rfl,rfl⟩) ?_ ?_
   rotate_left
   ·simp only [Act.put,qs1,qs2,qs3,qAH,qAI]
    rfl
   refine qAL (i:=9) (N:=some 47) (v:=undef) (a' := ?_) #[qT,qT,qT,qT,qT,qT,qT,qT,qT,qT,qF,qF,qF,qF,qF,qF] rfl rfl (by kernel_rfl) (fun _ _ _ h=>h) (Or.inr ⟨by rfl,rfl⟩) ?_ ?_
   rotate_left
   ·simp only [Act.put,qs1,qs2,qs3,qAH,qAI]
    rfl
   refine qAL (i:=10) (N:=some 48) (v:=undef) (a' := ?_) #[qT,qT,qT,qT,qT,qT,qT,qT,qT,qT,qT,qF,qF,qF,qF,qF] rfl rfl (by kernel_rfl) (fun _ _ _ h=>h) (Or.inr ⟨by rfl,rfl⟩) ?_ ?_
   rotate_left
   ·simp only [Act.put,qs1,qs2,qs3,qAH,qAI]
    rfl
   refine qAL (i:=11) (N:=some 49) (v:=undef) (a' := ?_) #[qT,qT,qT,qT,qT,qT,qT,qT,qT,qT,qT,qT,qF,qF,qF,qF] rfl rfl (by kernel_rfl) (fun _ _ _ h=>h) (Or.inr ⟨by rfl,rfl⟩) ?_ ?_
   rotate_left
   ·simp only [Act.put,qs1,qs2,qs3,qAH,qAI]
    rfl
   refine qAL (i:=12) (N:=some 50) (v:=undef) (a' := ?_) #[qT,qT,qT,qT,qT,qT,qT,qT,qT,qT,qT,qT,qT,qF,qF,qF] rfl rfl (by kernel_rfl) (fun _ _ _ h=>h) (Or.inr ⟨by rfl,rfl⟩) ?_ ?_
   rotate_left
   ·simp only [Act.put,qs1,qs2,qs3,qAH,qAI]
    rfl
   refine qAL (i:=13) (N:=some 51) (v:=undef) (a' := ?_) #[qT,qT,qT,qT,qT,qT,qT,qT,qT,qT,qT,qT,qT,qT,qF,qF] rfl rfl (by kernel_rfl) (fun _ _ _ h=>h) (Or.inr ⟨by rfl,rfl⟩) ?_ ?_
   rotate_left
   ·simp only [Act.put,qs1,qs2,qs3,qAH,qAI]
    rfl
   refine qAL (i:=14) (N:=some 52) (v := ?_) (a' := ?_) #[qT,qT,qT,qT,qT,qT,qT,qT,qT,qT,qT,qT,qT,qT,qT,qF] rfl rfl (by kernel_rfl) (fun _ _ _ h=>h) (Or.inl ⟨by rfl, ?_⟩) ?_ ?_
   rotate_left
   ·intro w'
    go_simp
    with_reducible rfl
   rotate_left
   ·simp only [Act.put,qs1,qs2,qs3,qAH,qAI]
    rfl
   refine qAL (i:=15) (N:=some 13) (v := ?_) (a' := ?_) #[qT,qT,qT,qT,qT,qT,qT,qT,qT,qT,qT,qT,qT,qT,qT,qT] rfl rfl (by kernel_rfl) (fun _ _ _ h=>h) (Or.inl ⟨by rfl, ?_⟩) ?_ ?_
   rotate_left
   ·intro w'
    go_simp
    with_reducible rfl
   rotate_left
   ·simp only [Act.put,qs1,qs2,qs3,qAH,qAI]
    rfl
   refine qBM (by kernel_rfl) ?_
   have tkb:=qAA.mk True.intro
   go_wp2_with (first | (go_at_call 19;clear tkb;refine (SM0.out _ Od.out A5 c5 RKd.out LK.out).mono ?_;rintro e_ w7 ⟨rfl,hb⟩;have O7:=qAA.mk (qAS Od.out hb);clear hb) | (go_at_call 19;refine (SM.out _ O7.out).mono ?_;rintro e_ w8 ⟨rfl,hb⟩;have O8:=qAA.mk (qAS O7.out hb);clear hb))
   go_ret
   exact ⟨rfl,O8.out⟩
end
end Go.Proofs.Ytdommiicjpjfpaa.X
namespace Go.Proofs.Ytdommiicjpjfpaa.X
open Go.RowKit Go.Proofs.YtdommiicjpjfpaaW.PrintWords Go.Proofs.YtdommiicjpjfpaaW.PrintLast Go.Proofs.YtdommiicjpjfpaaW.PrintMore Go.Proofs.YtdommiicjpjfpaaW
section
set_option maxHeartbeats 4000000
set_option maxRecDepth 100000
open Go.ChangeShapes Go.WideShapes Go.ChangeAt Go.RowKit
section
variable {H:Type} {enc:TypeId × Value→H} {w:World} {held:Bool} {spare:Nat→Bool}
theorem entry_size (fuel:Nat) (cs:List Value) (y:DataW H × List MemPlace) (h:DataW.trod enc Try.prog w 0 spare held fuel 51 cs=some y):∃ x,k51.K w x cs∧Val x.f1∧(Fits Try.prog 51 y.1→Siz x.f1∧x.f0.size≤140737488351232):=by
 obtain ⟨xs,n,rfl,rfl,hl,hxs,hf⟩:=DataW.trod_struct Try.underlying51 h
 have hl5:cs.length=6:=hl
 obtain ⟨c0,c1,c2,c3,c4,c5,rfl⟩:∃ c0 c1 c2 c3 c4 c5,cs=[c0,c1,c2,c3,c4,c5]:=by
  match cs,hl5 with
  | [c0,c1,c2,c3,c4,c5],_=>exact ⟨c0,c1,c2,c3,c4,c5,rfl⟩
 have hx:xs.length=2:=hxs
 obtain ⟨y0,y1,rfl⟩:∃ c0 c1,xs=[c0,c1]:=by
  match xs,hx with
  | [c0,c1],_=>exact ⟨c0,c1,rfl⟩
 have g0:=hf 0 _ rfl
 have g1:=hf 1 _ rfl
 clear hf
 have e0:DataW.trod enc Try.prog w 0 spare held n 9 [c0]=some y0:=g0
 have e1:DataW.trod enc Try.prog w 0 spare held n 34 [c1,c2,c3,c4,c5]=some y1:=g1
 obtain ⟨s0,p0,q0,w0⟩:=DataW.trod_string Try.underlying9 e0
 obtain ⟨x,hK,hV,hS⟩:=val_size n _ _ e1
 obtain ⟨A3,c3',A4,c4',ecs,l3,C3,l4,C4⟩:=k34_open hK
 cases p0
 injection ecs with d0 ecs;injection ecs with d1 ecs;injection ecs with d2 ecs;injection ecs with d3 ecs;injection ecs with d4 _
 subst d0;subst d1;subst d2;subst d3;subst d4
 refine ⟨⟨s0,x⟩,k51_mk w ⟨s0,x⟩ l3 C3 l4 C4,hV,fun hf => ?_⟩
 have hall:(DataW.agg [y0.1,y1.1]:DataW H).weights Try.prog 51=y0.1.weights Try.prog 9 ++ (y1.1.weights Try.prog 34 ++ []):=by
  rw [DataW.weights,Try.underlying51]
  simp only [List.map_cons,List.map_nil,DataW.weightsEach]
 unfold Fits at hf
 rw [show (List.map (·.1) [y0,y1])=[y0.1,y1.1] from rfl] at hf
 rw [hall] at hf
 simp only [List.mem_append] at hf
 refine ⟨hS (fun n hn=>hf n (.inr (.inl hn))), ?_⟩
 rw [q0] at hf
 have:=hf s0.data.toList.length (.inl (by simp [DataW.weights]))
 rwa [Array.length_toList] at this
end
theorem sa.rowE_open {H:Type} {enc:TypeId × Value→H} {w:World} {held:Bool} {spare:Nat→Bool} {A:Option Addr} {len c:Nat} {y:DataW H} {ps:List MemPlace} (h0:DataW.Trod enc Try.prog w 0 spare held 22 (.slice A len c) y ps) :
  ∃ xs:List S51,xs.length=len∧xs.length≤c∧k51.C w A xs.length xs∧(∀ x ∈ xs,Val x.f1)∧(Fits Try.prog 22 y→(∀ x ∈ xs,Siz x.f1∧x.f0.size≤140737488351232)∧xs.length * 96≤140737488351232)∧xs.length≤Rows.uptoBulk y:=by
 obtain ⟨fuel,h⟩:=h0
 obtain ⟨A',xs,c',e,l,m,hC,hg,hB⟩:=row_size k51 (fun x z=>Val x.f1∧(Fits Try.prog 51 z→Siz x.f1∧x.f0.size≤140737488351232)) Try.underlying22 (by kernel_rfl) fuel (fun n _ cs y hy=>entry_size n cs y hy) h
 have b51:Try.prog.bytesOf 51=96:=by kernel_rfl
 simp only [Value.cells] at e
 have e:Value.slice A len c=.slice A' xs.length c':=by simpa using e
 injection e with e1 e2 e3
 subst e1;subst e2;subst e3
 refine ⟨xs,rfl,l,hC,fun x hx => ?_,fun hf=>⟨fun x hx => ?_,by have:=hB hf;rwa [b51] at this⟩, ?_⟩
 ·obtain ⟨_,h,_⟩:=hg x hx
  exact h.1
 ·obtain ⟨_,h,hz⟩:=hg x hx
  exact h.2 (hz hf)
 ·rcases DataW.trod_slice Try.underlying22 h with ⟨h1,_⟩ | ⟨a,len,cap,elems,rest,n,_,hcs,hy,_,hlc,hcm,hlen,hel0,_,_⟩
  ·simp [Value.cells] at h1
   rw [h1.2.1]
   exact Nat.zero_le _
  ·simp [Value.cells] at hcs
   obtain ⟨_,hl,_⟩:=hcs
   obtain ⟨hy,_⟩:=Prod.mk.inj hy
   subst hy
   have hbulk:=XUp.slice_le (elems.map (·.1)) (rest.map (·.1))
   rw [List.length_map] at hbulk
   omega
end
end Go.Proofs.Ytdommiicjpjfpaa.X
