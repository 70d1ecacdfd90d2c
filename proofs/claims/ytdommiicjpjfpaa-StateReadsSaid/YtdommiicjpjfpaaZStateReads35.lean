import Derived.Test.YtdommiicjpjfpaaZStateReads3
import Derived.Test.YtdommiicjpjfpaaZStateReads2
import Derived.Test.YtdommiicjpjfpaaZStateReads4
import Derived.WalkLawsBesides
import Derived.Laws.Pointers
import Derived.Shelf.Abstract
import Derived.Deep.DeepMust
import Derived.Deep.QuietTactic
import Derived.BigQuiet
import Derived.ChangeArms
import Derived.Test.YtdommiicjpjfpaaZStateReads34
import Derived.Test.YtdommiicjpjfpaaZStateReads22
import Derived.Test.YtdommiicjpjfpaaZStateReads31
set_option linter.unusedVariables false
set_option linter.unusedSimpArgs false
namespace Go.Proofs.Ytdommiicjpjfpaa.X
open Go.RowKit Go.Proofs.YtdommiicjpjfpaaW.PrintWords Go.Proofs.YtdommiicjpjfpaaW.PrintLast Go.Proofs.YtdommiicjpjfpaaW.PrintMore Go.Proofs.YtdommiicjpjfpaaW
section
set_option maxHeartbeats 4000000
set_option maxRecDepth 100000
open Go.Proofs.Ytdommiicjpjfpaa Go.Proofs.Ytdommiicjpjfpaa.Pl
theorem sa.heavy_ev (s:ByteArray) (x:S34) (hx:Val x) (hr:sa.Rt x) (h0:s.toList ≠ []) (h1:(s.size:Int)≤32):∃ K,qBF.f K s x.f0 x.f1 x.f2 x.f3 x.f4=some (sa.hv ⟨s,x⟩):=by
 rcases sa.told1 x hx with ⟨_,hp,_,K,hK⟩ | ⟨hn,_⟩
 ·refine ⟨K, ?_⟩
  have hw:=hr.2
  unfold qBF.f
  have h:=hK K (Nat.le_refl _)
  dsimp only at h
  rw [h,Option.bind_some,if_neg (by omega),if_neg h0,if_neg (by omega)]
  congr 1
  unfold sa.hv wrap64
  dsimp only
  omega
 ·exact absurd hr hn
set_option maxHeartbeats 16000000 in
theorem sa.entry41 {bs:List Int} (hb:Bytes bs) (hl:bs.length≤140737488351232) {w0 w:World} {g:Nat} {B:Option Addr} {cb:Nat} {at_ all:Int} {vl:Value} {l:List S51} (hB:(Kd.int .u8).C w0 B bs.length bs) (hc:bs.length≤cb) (hg:w0.heap.size≤g) (hW:Below w0.heap.size w0 w) (hR:sa.RB7 w g B bs.length cb at_ all vl) (hO:sa.ke.R 51 w w0.heap.size (fun k=>k ≠ g) vl l) (hal:0≤all∧all≤32768) (hll:l.length≤1000) :
  Calls Try.prog 41 #[.pointer (some ⟨g,0,none⟩)] w (sa.EntT (sa.entF bs at_ all l) w0 g B bs.length cb):=by
 have hu34:=Try.underlying34
 have hu51:=Try.underlying51
 have hu75:=Try.underlying75
 have hu22:=Try.underlying22
 obtain ⟨AL,cl,el⟩:=Kd.qA0 hO
 subst el
 have TX:=zA (fun (W:World) (hb2:Below w0.heap.size w0 W)=>qBc.calls 24 B cb bs at_ 32 (qBX bs at_ 32).1 (qBX bs at_ 32).2.1 (qBX bs at_ 32).2.2 W (Kd.qAc hB hb2) hc (by rw [Text_eq 24 (Nat.le_refl _) bs hb (by omega) at_ 32 (by omega) (by omega)]))
 have TK:=zA (fun (W:World) (hb2:Below w0.heap.size w0 W) (n1:Int)=>sa.take1 (sa.uin_of hb hl) n1 (Kd.qAc hB hb2) hc)
 have TOK:=zA (fun (n1:Int) (x:S34) (a2 l2:Int) h=>sa.takeS_ok hb hl (at_:=n1) (x:=x) (a2:=a2) (l2:=l2) h)
 have HTS:=zA (fun h=>textAt_small (l:=bs) hb (a:=at_) (most:=32) (by omega) h)
 have HAL:=zA hal;have HLL:=zA hll;have HG:=zA hg
 have HW:=zA hW;have HR:=zA hR;have HO:=zA hO
 have HGW:=zA (qAe (show w.heap[g]?=some _ from hR))
 unfold sa.entF
 clear hB hc hg hW hR hO hal hll
 generalize qBX bs at_ 32=t at *
 obtain ⟨s,n1,e1⟩:=t
 dsimp only
 dsimp only at TX HTS
 obtain ⟨n,hn⟩:∃ n,n=l.length:=⟨_,rfl⟩
 have HN:=zA hn
 rw [← hn] at HR HO
 clear hn
 by_cases h1:e1 ≠ 0
 ·rw [if_pos h1]
  have d1:(e1 != 0)=true:=bne_iff_ne.2 h1
  have d2:(e1 == 0)=false:=beq_eq_false_iff_ne.2 h1
  have d3:decide (e1=0)=false:=zF h1
  clear h1
  go_enter Try.func41,Try.ntmps41
  go_wp2
  refine qAz (n:=16) (S:=fun w'=>w'.cell? ⟨g,0,none⟩=some (.slice B bs.length cb)∧w'.cell? ⟨g,1,none⟩=some (.int .i64 at_)) (ds:=[]) #[qF,qF,qF,qF,qF,qF,qF,qF,qF,qF,qF,qF,qF,qF,qF,qF] (by kernel_rfl) rfl rfl ⟨(qAB (show w.drew.heap[g]?=_ from HR.out) 0).trans rfl,(qAB (show w.drew.heap[g]?=_ from HR.out) 1).trans rfl⟩ (fun hHeld => ?_)
  generalize hwd:w.drew=wd at hHeld ⊢
  have Rd:=zA (hwd▸HR.out.below (qAK (Below.refl _ _)))
  have Wd:=zA (hwd▸qAK HW.out)
  have Od:=zA (hwd▸Kd.qBB HO.out)
  have HGd:=zA (show g < wd.heap.size from hwd▸HGW.out)
  clear hwd
  refine pU 0 11 ?_
  refine pU 1 12 ?_
  refine pU 2 13 ?_
  refine pU 4 15 ?_
  refine pU 5 16 ?_
  refine pU 6 17 ?_
  refine tK 3 14 hHeld ?_
  refine tK 7 18 hHeld ?_
  refine one_ (i:=8) (N:=some 19) #[qT,qT,qT,qT,qT,qT,qT,qT,qT,qF,qF,qF,qF,qF,qF,qF] rfl rfl (by kernel_rfl) (by decide) (fun K hK => ?_)
  refine qBZ Try.func60 (by kernel_rfl) rfl #[.slice B bs.length cb,.int .i64 at_,.int .i64 32] (by rfl) rfl rfl (by (try simp only [List.map_toArray,List.map_cons,List.map_nil]);first | done | rfl) ?_
  refine (TX.out wd Wd.out).mono ?_
  rintro e w2 ⟨rfl,hb⟩
  refine ⟨_,rfl, ?_⟩
  have R2:=zA (Rd.out.below hb.below)
  have W2:=zA (qAY Wd.out Wd.out.size hb.below)
  have O2:=zA (Kd.qAp Od.out hb.below)
  have HG2:=zA (Nat.lt_of_lt_of_le HGd.out hb.below.size)
  clear hb
  refine hK.out _ _ ⟨(qAB R2.out 0).trans rfl,(qAB R2.out 1).trans rfl⟩ (fun hHeld => ?_)
  clear hK K
  refine qA3 (a' := ?_) ?_ ?_
  rotate_left
  ·show Act.put _ (some 19) _=_
   simp only [Act.put,qs1,qs2,qs3,qAZ,qAb]
   rfl
  refine pU 9 10 ?_
  refine pU 10 20 ?_
  refine pU 11 21 ?_
  refine pU 12 22 ?_
  refine pU 13 4 ?_
  refine pU 14 5 ?_
  refine pU 15 6 ?_
  refine qBL (by kernel_rfl) ?_
  have z0:w2.cell? ⟨g,0,none⟩=some (.slice B bs.length cb):=(qAB R2.out 0).trans rfl;have z1:w2.cell? ⟨g,1,none⟩=some (.int .i64 at_):=(qAB R2.out 1).trans rfl;have z2:w2.cell? ⟨g,2,none⟩=some (.int .i64 all):=(qAB R2.out 2).trans rfl;have z3:w2.cell? ⟨g,3,none⟩=some (.slice AL n cl):=(qAB R2.out 3).trans rfl
  go_wp2
  go_ret2
  exact ⟨rfl,W2.out⟩
 rw [if_neg h1]
 have he1:e1=0:=Classical.byContradiction h1
 subst he1
 have HSZ:=zA (HTS.out rfl)
 clear h1 HTS
 by_cases h2:s.toList=[]
 ·rw [if_pos (Or.inl h2)]
  go_enter Try.func41,Try.ntmps41
  go_wp2
  refine qAz (n:=16) (S:=fun w'=>w'.cell? ⟨g,0,none⟩=some (.slice B bs.length cb)∧w'.cell? ⟨g,1,none⟩=some (.int .i64 at_)) (ds:=[]) #[qF,qF,qF,qF,qF,qF,qF,qF,qF,qF,qF,qF,qF,qF,qF,qF] (by kernel_rfl) rfl rfl ⟨(qAB (show w.drew.heap[g]?=_ from HR.out) 0).trans rfl,(qAB (show w.drew.heap[g]?=_ from HR.out) 1).trans rfl⟩ (fun hHeld => ?_)
  generalize hwd:w.drew=wd at hHeld ⊢
  have Rd:=zA (hwd▸HR.out.below (qAK (Below.refl _ _)))
  have Wd:=zA (hwd▸qAK HW.out)
  have Od:=zA (hwd▸Kd.qBB HO.out)
  have HGd:=zA (show g < wd.heap.size from hwd▸HGW.out)
  clear hwd
  refine pU 0 11 ?_
  refine pU 1 12 ?_
  refine pU 2 13 ?_
  refine pU 4 15 ?_
  refine pU 5 16 ?_
  refine pU 6 17 ?_
  refine tK 3 14 hHeld ?_
  refine tK 7 18 hHeld ?_
  refine one_ (i:=8) (N:=some 19) #[qT,qT,qT,qT,qT,qT,qT,qT,qT,qF,qF,qF,qF,qF,qF,qF] rfl rfl (by kernel_rfl) (by decide) (fun K hK => ?_)
  refine qBZ Try.func60 (by kernel_rfl) rfl #[.slice B bs.length cb,.int .i64 at_,.int .i64 32] (by rfl) rfl rfl (by (try simp only [List.map_toArray,List.map_cons,List.map_nil]);first | done | rfl) ?_
  refine (TX.out wd Wd.out).mono ?_
  rintro e w2 ⟨rfl,hb⟩
  refine ⟨_,rfl, ?_⟩
  have R2:=zA (Rd.out.below hb.below)
  have W2:=zA (qAY Wd.out Wd.out.size hb.below)
  have O2:=zA (Kd.qAp Od.out hb.below)
  have HG2:=zA (Nat.lt_of_lt_of_le HGd.out hb.below.size)
  clear hb
  refine hK.out _ _ ⟨(qAB R2.out 0).trans rfl,(qAB R2.out 1).trans rfl⟩ (fun hHeld => ?_)
  clear hK K
  refine qA3 (a' := ?_) ?_ ?_
  rotate_left
  ·show Act.put _ (some 19) _=_
   simp only [Act.put,qs1,qs2,qs3,qAZ,qAb]
   rfl
  refine pU 9 10 ?_
  refine pU 10 20 ?_
  refine pU 11 21 ?_
  refine pU 12 22 ?_
  refine pU 13 4 ?_
  refine pU 14 5 ?_
  refine pU 15 6 ?_
  refine qBL (by kernel_rfl) ?_
  go_wp2
  refine qAz (n:=28) (S:=fun w'=>True) (ds:=[]) #[qF,qF,qF,qF,qF,qF,qF,qF,qF,qF,qF,qF,qF,qF,qF,qF,qF,qF,qF,qF,qF,qF,qF,qF,qF,qF,qF,qF] (by kernel_rfl) rfl rfl trivial (fun hHeld => ?_)
  generalize hwd:w2.drew=wd2 at hHeld ⊢
  have R2d:=zA (hwd▸R2.out.below (qAK (Below.refl _ _)))
  have W2d:=zA (hwd▸qAK W2.out)
  have O2d:=zA (hwd▸Kd.qBB O2.out)
  have HG2d:=zA (show g < wd2.heap.size from hwd▸HG2.out)
  have HOB:=zA (fun k hk=>((Kd.qBd O2d.out).1 k hk).2.2.1)
  clear hwd
  refine pU 0 31 ?_
  refine pU 1 32 ?_
  refine pU 2 33 ?_
  refine pN 3 34 ?_
  refine pN 4 35 ?_
  refine pN 5 36 ?_
  refine pN 6 37 ?_
  refine pN 7 38 ?_
  refine pN 8 39 ?_
  refine pN 9 40 ?_
  refine pN 10 41 ?_
  refine pN 11 42 ?_
  refine pN 12 43 ?_
  refine pN 13 44 ?_
  refine pN 14 45 ?_
  refine pN 15 46 ?_
  refine pN 16 47 ?_
  refine pN 17 48 ?_
  refine pN 18 49 ?_
  refine pN 19 50 ?_
  refine pN 20 51 ?_
  refine pN 21 52 ?_
  refine pN 22 53 ?_
  refine pN 23 54 ?_
  refine pN 24 55 ?_
  refine pN 25 56 ?_
  refine pU 26 57 ?_
  refine pU 27 30 ?_
  refine qBL (by kernel_rfl) ?_
  have z1:wd2.cell? ⟨g,1,none⟩=some (.int .i64 at_):=(qAB R2d.out 1).trans rfl
  go_wp2
  go_ret2
  exact ⟨rfl,W2d.out⟩
 have k2:(s.toList == [])=false:=by simpa using h2
 have H2:=zA h2
 have HBB:=zA (And.intro hb hl)
 clear hb hl
 rcases Nat.eq_zero_or_pos n with hn0 | hn0
 ·have hcond:¬ (s.toList=[] ∨ (0 < l.length∧¬ Op.bytesLess (qAJ l ((l.length:Int) - 1)).f0.toList s.toList=true)):=by
   have:=HN.out
   rintro (h | ⟨h,_⟩)
   ·exact h2 h
   ·omega
  rw [if_neg hcond]
  subst hn0
  clear h2 hcond
  rcases hr:sa.takeS bs (qAd bs) (qCJ bs) n1 with ⟨x,a2,l2⟩ | ⟨ee,pp⟩
  case bad =>
   have TB:=zA (sa.takeS_bad HBB.out.1 HBB.out.2 hr)
   have TKB:=zA (fun (W:World) (hb2:Below w0.heap.size w0 W)=>show Calls Try.prog 61 #[.slice B bs.length cb,.int .i64 n1] W (fun e w'=>e=.returned (.tuple #[.agg #[.int .i64 0,.int .i64 0,.string ⟨#[]⟩,.slice none 0 0,.slice none 0 0],.int .i64 pp,.int .i64 ee])∧Below W.heap.size W w') from by have h:=TK.out W hb2 n1;rw [hr] at h;exact h)
   dsimp only
   have hee:ee ≠ 0:=by have:=TB.out.1;omega
   have d1:(ee != 0)=true:=bne_iff_ne.2 hee
   have d2:(ee == 0)=false:=beq_eq_false_iff_ne.2 hee
   have d3:decide (ee=0)=false:=zF hee
   clear hr hee
   go_enter Try.func41,Try.ntmps41
   go_wp2
   refine qAz (n:=16) (S:=fun w'=>w'.cell? ⟨g,0,none⟩=some (.slice B bs.length cb)∧w'.cell? ⟨g,1,none⟩=some (.int .i64 at_)) (ds:=[]) #[qF,qF,qF,qF,qF,qF,qF,qF,qF,qF,qF,qF,qF,qF,qF,qF] (by kernel_rfl) rfl rfl ⟨(qAB (show w.drew.heap[g]?=_ from HR.out) 0).trans rfl,(qAB (show w.drew.heap[g]?=_ from HR.out) 1).trans rfl⟩ (fun hHeld => ?_)
   generalize hwd:w.drew=wd at hHeld ⊢
   have Rd:=zA (hwd▸HR.out.below (qAK (Below.refl _ _)))
   have Wd:=zA (hwd▸qAK HW.out)
   have Od:=zA (hwd▸Kd.qBB HO.out)
   have HGd:=zA (show g < wd.heap.size from hwd▸HGW.out)
   clear hwd
   refine pU 0 11 ?_
   refine pU 1 12 ?_
   refine pU 2 13 ?_
   refine pU 4 15 ?_
   refine pU 5 16 ?_
   refine pU 6 17 ?_
   refine tK 3 14 hHeld ?_
   refine tK 7 18 hHeld ?_
   refine one_ (i:=8) (N:=some 19) #[qT,qT,qT,qT,qT,qT,qT,qT,qT,qF,qF,qF,qF,qF,qF,qF] rfl rfl (by kernel_rfl) (by decide) (fun K hK => ?_)
   refine qBZ Try.func60 (by kernel_rfl) rfl #[.slice B bs.length cb,.int .i64 at_,.int .i64 32] (by rfl) rfl rfl (by (try simp only [List.map_toArray,List.map_cons,List.map_nil]);first | done | rfl) ?_
   refine (TX.out wd Wd.out).mono ?_
   rintro e w2 ⟨rfl,hb⟩
   refine ⟨_,rfl, ?_⟩
   have R2:=zA (Rd.out.below hb.below)
   have W2:=zA (qAY Wd.out Wd.out.size hb.below)
   have O2:=zA (Kd.qAp Od.out hb.below)
   have HG2:=zA (Nat.lt_of_lt_of_le HGd.out hb.below.size)
   clear hb
   refine hK.out _ _ ⟨(qAB R2.out 0).trans rfl,(qAB R2.out 1).trans rfl⟩ (fun hHeld => ?_)
   clear hK K
   refine qA3 (a' := ?_) ?_ ?_
   rotate_left
   ·show Act.put _ (some 19) _=_
    simp only [Act.put,qs1,qs2,qs3,qAZ,qAb]
    rfl
   refine pU 9 10 ?_
   refine pU 10 20 ?_
   refine pU 11 21 ?_
   refine pU 12 22 ?_
   refine pU 13 4 ?_
   refine pU 14 5 ?_
   refine pU 15 6 ?_
   refine qBL (by kernel_rfl) ?_
   go_wp2
   refine qAz (n:=28) (S:=fun w'=>w'.cell? ⟨g,3,none⟩=some (.slice AL 0 cl)) (ds:=[]) #[qF,qF,qF,qF,qF,qF,qF,qF,qF,qF,qF,qF,qF,qF,qF,qF,qF,qF,qF,qF,qF,qF,qF,qF,qF,qF,qF,qF] (by kernel_rfl) rfl rfl ((qAB (show w2.drew.heap[g]?=_ from R2.out) 3).trans rfl) (fun hHeld => ?_)
   generalize hwd:w2.drew=wd2 at hHeld ⊢
   have R2d:=zA (hwd▸R2.out.below (qAK (Below.refl _ _)))
   have W2d:=zA (hwd▸qAK W2.out)
   have O2d:=zA (hwd▸Kd.qBB O2.out)
   have HG2d:=zA (show g < wd2.heap.size from hwd▸HG2.out)
   have HOB:=zA (fun k hk=>((Kd.qBd O2d.out).1 k hk).2.2.1)
   clear hwd
   refine pU 0 31 ?_
   refine pU 1 32 ?_
   refine pU 2 33 ?_
   refine pU 3 34 ?_
   refine pU 4 35 ?_
   refine pU 5 36 ?_
   refine tK 6 37 hHeld ?_
   refine pU 7 38 ?_
   refine pU 8 39 ?_
   refine pU 9 40 ?_
   refine pN 10 41 ?_
   refine pN 11 42 ?_
   refine pN 12 43 ?_
   refine pN 13 44 ?_
   refine pN 14 45 ?_
   refine pN 15 46 ?_
   refine pN 16 47 ?_
   refine pN 17 48 ?_
   refine pN 18 49 ?_
   refine pN 19 50 ?_
   refine pN 20 51 ?_
   refine pN 21 52 ?_
   refine pN 22 53 ?_
   refine pN 23 54 ?_
   refine pN 24 55 ?_
   refine pU 25 56 ?_
   refine pU 26 57 ?_
   refine pU 27 30 ?_
   refine qBL (by kernel_rfl) ?_
   have z0:wd2.cell? ⟨g,0,none⟩=some (.slice B bs.length cb):=(qAB R2d.out 0).trans rfl
   go_wp2_with (first | (go_at_call 61;refine (TKB.out _ W2d.out).mono ?_;rintro e_ w3 ⟨rfl,hb⟩;have W3:=zA (qAY W2d.out W2d.out.size hb);clear hb z0))
   go_ret2
   exact ⟨rfl,qAE W3.out _⟩
  case ok =>
   obtain ⟨hv0,_,hrt,p0,p1,p2,_,_⟩:=TOK.out n1 x a2 l2 hr
   obtain ⟨KH,hKH⟩:=sa.heavy_ev s x hv0 hrt H2.out HSZ.out
   have TKO:=zA (fun (W:World) (hb2:Below w0.heap.size w0 W)=>show Calls Try.prog 61 #[.slice B bs.length cb,.int .i64 n1] W (fun e w'=>∃ v3 v4:Value,e=.returned (.tuple #[.agg #[.int .i64 x.f0,.int .i64 x.f1,.string x.f2,v3,v4],.int .i64 a2,.int .i64 0])∧sa.VRow w' (fun k=>W.heap.size≤k∧k < w'.heap.size) 8 v3 x.f3∧sa.KRow w' (fun k=>W.heap.size≤k∧k < w'.heap.size) v4 x.f4∧Below W.heap.size W w') from by have h:=TK.out W hb2 n1;rw [hr] at h;exact h)
   dsimp only
   have hhv:0≤sa.hv ⟨s,x⟩∧sa.hv ⟨s,x⟩≤4000:=by have:=hrt.2;have:=HSZ.out;unfold sa.hv;dsimp only;omega
   generalize sa.hv ⟨s,x⟩=hw at hKH hhv ⊢
   have HKH:=zA hKH
   have hwa:wrap64 (all+hw)=all+hw:=by have:=HAL.out;unfold wrap64;omega
   have hwb:IntKind.i64.wrap (all+hw)=all+hw:=(qAZ _).trans hwa
   clear hr hKH hv0 hrt p0 p1 p2
   by_cases hbig:all+hw > 32768
   case pos =>
    rw [if_pos hbig]
    have d1:decide (all+hw > 32768)=true:=zT (by omega)
    have d2:decide (32768 < all+hw)=true:=zT (by omega)
    have HBG:=zA hbig
    clear hbig hhv
    go_enter Try.func41,Try.ntmps41
    go_wp2
    refine qAz (n:=16) (S:=fun w'=>w'.cell? ⟨g,0,none⟩=some (.slice B bs.length cb)∧w'.cell? ⟨g,1,none⟩=some (.int .i64 at_)) (ds:=[]) #[qF,qF,qF,qF,qF,qF,qF,qF,qF,qF,qF,qF,qF,qF,qF,qF] (by kernel_rfl) rfl rfl ⟨(qAB (show w.drew.heap[g]?=_ from HR.out) 0).trans rfl,(qAB (show w.drew.heap[g]?=_ from HR.out) 1).trans rfl⟩ (fun hHeld => ?_)
    generalize hwd:w.drew=wd at hHeld ⊢
    have Rd:=zA (hwd▸HR.out.below (qAK (Below.refl _ _)))
    have Wd:=zA (hwd▸qAK HW.out)
    have Od:=zA (hwd▸Kd.qBB HO.out)
    have HGd:=zA (show g < wd.heap.size from hwd▸HGW.out)
    clear hwd
    refine pU 0 11 ?_
    refine pU 1 12 ?_
    refine pU 2 13 ?_
    refine pU 4 15 ?_
    refine pU 5 16 ?_
    refine pU 6 17 ?_
    refine tK 3 14 hHeld ?_
    refine tK 7 18 hHeld ?_
    refine one_ (i:=8) (N:=some 19) #[qT,qT,qT,qT,qT,qT,qT,qT,qT,qF,qF,qF,qF,qF,qF,qF] rfl rfl (by kernel_rfl) (by decide) (fun K hK => ?_)
    refine qBZ Try.func60 (by kernel_rfl) rfl #[.slice B bs.length cb,.int .i64 at_,.int .i64 32] (by rfl) rfl rfl (by (try simp only [List.map_toArray,List.map_cons,List.map_nil]);first | done | rfl) ?_
    refine (TX.out wd Wd.out).mono ?_
    rintro e w2 ⟨rfl,hb⟩
    refine ⟨_,rfl, ?_⟩
    have R2:=zA (Rd.out.below hb.below)
    have W2:=zA (qAY Wd.out Wd.out.size hb.below)
    have O2:=zA (Kd.qAp Od.out hb.below)
    have HG2:=zA (Nat.lt_of_lt_of_le HGd.out hb.below.size)
    clear hb
    refine hK.out _ _ ⟨(qAB R2.out 0).trans rfl,(qAB R2.out 1).trans rfl⟩ (fun hHeld => ?_)
    clear hK K
    refine qA3 (a' := ?_) ?_ ?_
    rotate_left
    ·show Act.put _ (some 19) _=_
     simp only [Act.put,qs1,qs2,qs3,qAZ,qAb]
     rfl
    refine pU 9 10 ?_
    refine pU 10 20 ?_
    refine pU 11 21 ?_
    refine pU 12 22 ?_
    refine pU 13 4 ?_
    refine pU 14 5 ?_
    refine pU 15 6 ?_
    refine qBL (by kernel_rfl) ?_
    go_wp2
    refine qAz (n:=28) (S:=fun w'=>w'.cell? ⟨g,3,none⟩=some (.slice AL 0 cl)) (ds:=[]) #[qF,qF,qF,qF,qF,qF,qF,qF,qF,qF,qF,qF,qF,qF,qF,qF,qF,qF,qF,qF,qF,qF,qF,qF,qF,qF,qF,qF] (by kernel_rfl) rfl rfl ((qAB (show w2.drew.heap[g]?=_ from R2.out) 3).trans rfl) (fun hHeld => ?_)
    generalize hwd:w2.drew=wd2 at hHeld ⊢
    have R2d:=zA (hwd▸R2.out.below (qAK (Below.refl _ _)))
    have W2d:=zA (hwd▸qAK W2.out)
    have O2d:=zA (hwd▸Kd.qBB O2.out)
    have HG2d:=zA (show g < wd2.heap.size from hwd▸HG2.out)
    have HOB:=zA (fun k hk=>((Kd.qBd O2d.out).1 k hk).2.2.1)
    clear hwd
    refine pU 0 31 ?_
    refine pU 1 32 ?_
    refine pU 2 33 ?_
    refine pU 3 34 ?_
    refine pU 4 35 ?_
    refine pU 5 36 ?_
    refine tK 6 37 hHeld ?_
    refine pU 7 38 ?_
    refine pU 8 39 ?_
    refine pU 9 40 ?_
    refine pN 10 41 ?_
    refine pN 11 42 ?_
    refine pN 12 43 ?_
    refine pN 13 44 ?_
    refine pN 14 45 ?_
    refine pN 15 46 ?_
    refine pN 16 47 ?_
    refine pN 17 48 ?_
    refine pN 18 49 ?_
    refine pN 19 50 ?_
    refine pN 20 51 ?_
    refine pN 21 52 ?_
    refine pN 22 53 ?_
    refine pN 23 54 ?_
    refine pN 24 55 ?_
    refine pU 25 56 ?_
    refine pU 26 57 ?_
    refine pU 27 30 ?_
    refine qBL (by kernel_rfl) ?_
    have z0:wd2.cell? ⟨g,0,none⟩=some (.slice B bs.length cb):=(qAB R2d.out 0).trans rfl
    go_wp2_with (first | (go_at_call 61;refine (TKO.out _ W2d.out).mono ?_;rintro e_ w3 ⟨v3,v4,rfl,h3,h4,hb⟩;obtain ⟨A3,c3,e3,l3,C3⟩:=h3.C 8;obtain ⟨A4,c4,e4,l4,C4⟩:=h4.C;subst e3;subst e4;have KT3:=zA (sa.kt_got2 W2d.out.size h3 h4);have HS3:=zA hb.size;have K3:=zA C3;have K4:=zA C4;have L3:=zA l3;have L4:=zA l4;have W3:=zA (qAY W2d.out W2d.out.size hb);have R3:=zA (R2d.out.below hb);have O3:=zA (Kd.qAp O2d.out hb);clear hb h3 h4 C3 C4 l3 l4 z0))
    have B5:=zA (show Below w3.heap.size w3 ((w3.alloc (.cells #[.int .i64 x.f0,.int .i64 x.f1,.string x.f2,.slice A3 x.f3.length c3,.slice A4 x.f4.length c4] 34)).alloc (.cells #[.string s,.int .i64 x.f0,.int .i64 x.f1,.string x.f2,.slice A3 x.f3.length c3,.slice A4 x.f4.length c4] 51)) from qAE (qAE (Below.refl _ _) _) _)
    have X5:=zA (show ((w3.alloc (.cells #[.int .i64 x.f0,.int .i64 x.f1,.string x.f2,.slice A3 x.f3.length c3,.slice A4 x.f4.length c4] 34)).alloc (.cells #[.string s,.int .i64 x.f0,.int .i64 x.f1,.string x.f2,.slice A3 x.f3.length c3,.slice A4 x.f4.length c4] 51)).heap[w3.heap.size+1]?=some (.cells #[.string s,.int .i64 x.f0,.int .i64 x.f1,.string x.f2,.slice A3 x.f3.length c3,.slice A4 x.f4.length c4] 51 (0,0)) from by simpa using heap_alloc_new (w3.alloc (.cells #[.int .i64 x.f0,.int .i64 x.f1,.string x.f2,.slice A3 x.f3.length c3,.slice A4 x.f4.length c4] 34)) (.cells #[.string s,.int .i64 x.f0,.int .i64 x.f1,.string x.f2,.slice A3 x.f3.length c3,.slice A4 x.f4.length c4] 51))
    generalize (w3.alloc (.cells #[.int .i64 x.f0,.int .i64 x.f1,.string x.f2,.slice A3 x.f3.length c3,.slice A4 x.f4.length c4] 34)).alloc (.cells #[.string s,.int .i64 x.f0,.int .i64 x.f1,.string x.f2,.slice A3 x.f3.length c3,.slice A4 x.f4.length c4] 51)=w5 at *
    have W5:=zA (qAY W3.out W3.out.size B5.out)
    have R5:=zA (R3.out.below B5.out)
    have Q5:=zA (Kd.qAp O3.out B5.out)
    have KT5:=zA (Kd.qBs KT3.out B5.out)
    have J3:=zA (Kd.qAc K3.out B5.out)
    have J4:=zA (Kd.qAc K4.out B5.out)
    have HGX:=zA (show w3.heap.size+1 ≠ g from by have:=HG2d.out;have:=HS3.out;omega)
    have HGX2:=zA (show wd2.heap.size≤w3.heap.size+1 from by have:=HS3.out;omega)
    generalize w3.heap.size+1=gx at *
    clear K3 K4 R3 O3 KT3 B5 HS3 W3
    refine qAz (n:=10) (S:=fun w'=>w'.cell? ⟨g,2,none⟩=some (.int .i64 all)∧w'.cell? ⟨gx,0,none⟩=some (.string s)∧w'.cell? ⟨gx,1,none⟩=some (.int .i64 x.f0)∧w'.cell? ⟨gx,2,none⟩=some (.int .i64 x.f1)∧w'.cell? ⟨gx,3,none⟩=some (.string x.f2)∧w'.cell? ⟨gx,4,none⟩=some (.slice A3 x.f3.length c3)∧w'.cell? ⟨gx,5,none⟩=some (.slice A4 x.f4.length c4)) (ds:=[9]) #[qF,qF,qF,qF,qF,qF,qF,qF,qF,qF] (by kernel_rfl) rfl rfl ⟨(qAB (show w5.drew.heap[g]?=_ from R5.out) 2).trans rfl,(qAB (qAL X5.out) 0).trans rfl,(qAB (qAL X5.out) 1).trans rfl,(qAB (qAL X5.out) 2).trans rfl,(qAB (qAL X5.out) 3).trans rfl,(qAB (qAL X5.out) 4).trans rfl,(qAB (qAL X5.out) 5).trans rfl⟩ (fun hHeld => ?_)
    generalize hwd:w5.drew=wd5 at hHeld ⊢
    have R6:=zA (hwd▸R5.out.below (qAK (Below.refl _ _)))
    have W6:=zA (hwd▸qAK W5.out)
    have Q6:=zA (hwd▸Kd.qBB Q5.out)
    have KT6:=zA (hwd▸Kd.qBs KT5.out (qAK (Below.refl _ _)))
    have X6:=zA (hwd▸qAL X5.out)
    have I3:=zA (hwd▸Kd.qAs J3.out)
    have I4:=zA (hwd▸Kd.qAs J4.out)
    clear hwd R5 W5 Q5 KT5 X5 J3 J4
    refine pU 0 78 ?_
    refine pU 1 79 ?_
    refine pU 2 80 ?_
    refine tK 3 81 hHeld ?_
    refine tK 4 82 hHeld ?_
    refine one_ (i:=5) (N:=some 83) #[qT,qT,qT,qT,qT,qT,qF,qF,qF,qF] rfl rfl (by kernel_rfl) (by decide) (fun K hK => ?_)
    refine qBZ Try.func49 (by kernel_rfl) rfl #[.agg #[.string s,.int .i64 x.f0,.int .i64 x.f1,.string x.f2,.slice A3 x.f3.length c3,.slice A4 x.f4.length c4]] (by rfl) rfl rfl (by (try simp only [List.map_toArray,List.map_cons,List.map_nil]);first | done | rfl) ?_
    refine (qBF.calls KH s x.f0 x.f1 x.f2 A3 c3 x.f3 A4 c4 x.f4 hw wd5 I3.out L3.out I4.out L4.out HKH.out).mono ?_
    rintro e w7 ⟨rfl,hb⟩
    refine ⟨_,rfl, ?_⟩
    have R7:=zA (R6.out.below hb)
    have W7:=zA (qAY W6.out W6.out.size hb)
    have Q7:=zA (Kd.qAp Q6.out hb)
    have KT7:=zA (Kd.qBs KT6.out hb)
    have X7:=zA (qAX X6.out hb)
    clear hb
    have s2:=(qAB R7.out 2).trans rfl
    have s2f:=qAC R7.out 2
    refine hK.out _ _ ⟨(qAB R7.out 2).trans rfl,(qAB X7.out 0).trans rfl,(qAB X7.out 1).trans rfl,(qAB X7.out 2).trans rfl,(qAB X7.out 3).trans rfl,(qAB X7.out 4).trans rfl,(qAB X7.out 5).trans rfl⟩ (fun hHeld => ?_)
    clear hK K
    refine qA3 (a' := ?_) ?_ ?_
    rotate_left
    ·show Act.put _ (some 83) _=_
     simp only [Act.put,qs1,qs2,qs3,qAZ,qAb]
     rfl
    refine pU 6 84 ?_
    refine pU 7 85 ?_
    refine pU 8 86 ?_
    refine last_ (i:=9) (N:=none) #[qT,qT,qT,qT,qT,qT,qT,qT,qT,qT] rfl rfl (by kernel_rfl) (by decide) (fun K hK => ?_)
    refine skip_ (w1 := ?_) (by rfl) rfl ?_ ?_
    rotate_left
    ·go_simp
     rfl
    clear s2 s2f
    refine hK.out _ _ ?_
    clear hK K
    refine qBL (by kernel_rfl) ?_
    have R8:=zA (show sa.RB7 (w7.setCell ⟨g,2,none⟩ (.int .i64 (all+hw))) g B bs.length cb at_ (all+hw) (.slice AL 0 cl) from qAy R7.out 2 _ rfl)
    have W8:=zA (show Below w0.heap.size w0 (w7.setCell ⟨g,2,none⟩ (.int .i64 (all+hw))) from qAQ W7.out HG.out)
    have Q8:=zA (Kd.R_far Q7.out (p:=⟨g,2,none⟩) (fun k hk=>hk) (.int .i64 (all+hw)))
    have KT8:=zA (Kd.M_far KT7.out (p:=⟨g,2,none⟩) (fun k hk=>by have:=HG2d.out;dsimp only;omega) (.int .i64 (all+hw)))
    have X8:=zA ((Below.heap_setCell w7 ⟨g,2,none⟩ (.int .i64 (all+hw)) gx HGX.out).trans X7.out)
    generalize w7.setCell ⟨g,2,none⟩ (.int .i64 (all+hw))=w8 at *
    have z2:w8.cell? ⟨g,2,none⟩=some (.int .i64 (all+hw)):=(qAB R8.out 2).trans rfl
    have z1:w8.cell? ⟨g,1,none⟩=some (.int .i64 at_):=(qAB R8.out 1).trans rfl
    go_wp2
    go_ret2
    exact ⟨rfl,W8.out⟩
   case neg =>
    rw [if_neg hbig]
    have d1:decide (all+hw > 32768)=false:=zF (by omega)
    have d2:decide (32768 < all+hw)=false:=zF (by omega)
    have HBG:=zA hbig
    clear hbig hhv
    go_enter Try.func41,Try.ntmps41
    go_wp2
    refine qAz (n:=16) (S:=fun w'=>w'.cell? ⟨g,0,none⟩=some (.slice B bs.length cb)∧w'.cell? ⟨g,1,none⟩=some (.int .i64 at_)) (ds:=[]) #[qF,qF,qF,qF,qF,qF,qF,qF,qF,qF,qF,qF,qF,qF,qF,qF] (by kernel_rfl) rfl rfl ⟨(qAB (show w.drew.heap[g]?=_ from HR.out) 0).trans rfl,(qAB (show w.drew.heap[g]?=_ from HR.out) 1).trans rfl⟩ (fun hHeld => ?_)
    generalize hwd:w.drew=wd at hHeld ⊢
    have Rd:=zA (hwd▸HR.out.below (qAK (Below.refl _ _)))
    have Wd:=zA (hwd▸qAK HW.out)
    have Od:=zA (hwd▸Kd.qBB HO.out)
    have HGd:=zA (show g < wd.heap.size from hwd▸HGW.out)
    clear hwd
    refine pU 0 11 ?_
    refine pU 1 12 ?_
    refine pU 2 13 ?_
    refine pU 4 15 ?_
    refine pU 5 16 ?_
    refine pU 6 17 ?_
    refine tK 3 14 hHeld ?_
    refine tK 7 18 hHeld ?_
    refine one_ (i:=8) (N:=some 19) #[qT,qT,qT,qT,qT,qT,qT,qT,qT,qF,qF,qF,qF,qF,qF,qF] rfl rfl (by kernel_rfl) (by decide) (fun K hK => ?_)
    refine qBZ Try.func60 (by kernel_rfl) rfl #[.slice B bs.length cb,.int .i64 at_,.int .i64 32] (by rfl) rfl rfl (by (try simp only [List.map_toArray,List.map_cons,List.map_nil]);first | done | rfl) ?_
    refine (TX.out wd Wd.out).mono ?_
    rintro e w2 ⟨rfl,hb⟩
    refine ⟨_,rfl, ?_⟩
    have R2:=zA (Rd.out.below hb.below)
    have W2:=zA (qAY Wd.out Wd.out.size hb.below)
    have O2:=zA (Kd.qAp Od.out hb.below)
    have HG2:=zA (Nat.lt_of_lt_of_le HGd.out hb.below.size)
    clear hb
    refine hK.out _ _ ⟨(qAB R2.out 0).trans rfl,(qAB R2.out 1).trans rfl⟩ (fun hHeld => ?_)
    clear hK K
    refine qA3 (a' := ?_) ?_ ?_
    rotate_left
    ·show Act.put _ (some 19) _=_
     simp only [Act.put,qs1,qs2,qs3,qAZ,qAb]
     rfl
    refine pU 9 10 ?_
    refine pU 10 20 ?_
    refine pU 11 21 ?_
    refine pU 12 22 ?_
    refine pU 13 4 ?_
    refine pU 14 5 ?_
    refine pU 15 6 ?_
    refine qBL (by kernel_rfl) ?_
    go_wp2
    refine qAz (n:=28) (S:=fun w'=>w'.cell? ⟨g,3,none⟩=some (.slice AL 0 cl)) (ds:=[]) #[qF,qF,qF,qF,qF,qF,qF,qF,qF,qF,qF,qF,qF,qF,qF,qF,qF,qF,qF,qF,qF,qF,qF,qF,qF,qF,qF,qF] (by kernel_rfl) rfl rfl ((qAB (show w2.drew.heap[g]?=_ from R2.out) 3).trans rfl) (fun hHeld => ?_)
    generalize hwd:w2.drew=wd2 at hHeld ⊢
    have R2d:=zA (hwd▸R2.out.below (qAK (Below.refl _ _)))
    have W2d:=zA (hwd▸qAK W2.out)
    have O2d:=zA (hwd▸Kd.qBB O2.out)
    have HG2d:=zA (show g < wd2.heap.size from hwd▸HG2.out)
    have HOB:=zA (fun k hk=>((Kd.qBd O2d.out).1 k hk).2.2.1)
    clear hwd
    refine pU 0 31 ?_
    refine pU 1 32 ?_
    refine pU 2 33 ?_
    refine pU 3 34 ?_
    refine pU 4 35 ?_
    refine pU 5 36 ?_
    refine tK 6 37 hHeld ?_
    refine pU 7 38 ?_
    refine pU 8 39 ?_
    refine pU 9 40 ?_
    refine pN 10 41 ?_
    refine pN 11 42 ?_
    refine pN 12 43 ?_
    refine pN 13 44 ?_
    refine pN 14 45 ?_
    refine pN 15 46 ?_
    refine pN 16 47 ?_
    refine pN 17 48 ?_
    refine pN 18 49 ?_
    refine pN 19 50 ?_
    refine pN 20 51 ?_
    refine pN 21 52 ?_
    refine pN 22 53 ?_
    refine pN 23 54 ?_
    refine pN 24 55 ?_
    refine pU 25 56 ?_
    refine pU 26 57 ?_
    refine pU 27 30 ?_
    refine qBL (by kernel_rfl) ?_
    have z0:wd2.cell? ⟨g,0,none⟩=some (.slice B bs.length cb):=(qAB R2d.out 0).trans rfl
    go_wp2_with (first | (go_at_call 61;refine (TKO.out _ W2d.out).mono ?_;rintro e_ w3 ⟨v3,v4,rfl,h3,h4,hb⟩;obtain ⟨A3,c3,e3,l3,C3⟩:=h3.C 8;obtain ⟨A4,c4,e4,l4,C4⟩:=h4.C;subst e3;subst e4;have KT3:=zA (sa.kt_got2 W2d.out.size h3 h4);have HS3:=zA hb.size;have K3:=zA C3;have K4:=zA C4;have L3:=zA l3;have L4:=zA l4;have W3:=zA (qAY W2d.out W2d.out.size hb);have R3:=zA (R2d.out.below hb);have O3:=zA (Kd.qAp O2d.out hb);clear hb h3 h4 C3 C4 l3 l4 z0))
    have B5:=zA (show Below w3.heap.size w3 ((w3.alloc (.cells #[.int .i64 x.f0,.int .i64 x.f1,.string x.f2,.slice A3 x.f3.length c3,.slice A4 x.f4.length c4] 34)).alloc (.cells #[.string s,.int .i64 x.f0,.int .i64 x.f1,.string x.f2,.slice A3 x.f3.length c3,.slice A4 x.f4.length c4] 51)) from qAE (qAE (Below.refl _ _) _) _)
    have X5:=zA (show ((w3.alloc (.cells #[.int .i64 x.f0,.int .i64 x.f1,.string x.f2,.slice A3 x.f3.length c3,.slice A4 x.f4.length c4] 34)).alloc (.cells #[.string s,.int .i64 x.f0,.int .i64 x.f1,.string x.f2,.slice A3 x.f3.length c3,.slice A4 x.f4.length c4] 51)).heap[w3.heap.size+1]?=some (.cells #[.string s,.int .i64 x.f0,.int .i64 x.f1,.string x.f2,.slice A3 x.f3.length c3,.slice A4 x.f4.length c4] 51 (0,0)) from by simpa using heap_alloc_new (w3.alloc (.cells #[.int .i64 x.f0,.int .i64 x.f1,.string x.f2,.slice A3 x.f3.length c3,.slice A4 x.f4.length c4] 34)) (.cells #[.string s,.int .i64 x.f0,.int .i64 x.f1,.string x.f2,.slice A3 x.f3.length c3,.slice A4 x.f4.length c4] 51))
    generalize (w3.alloc (.cells #[.int .i64 x.f0,.int .i64 x.f1,.string x.f2,.slice A3 x.f3.length c3,.slice A4 x.f4.length c4] 34)).alloc (.cells #[.string s,.int .i64 x.f0,.int .i64 x.f1,.string x.f2,.slice A3 x.f3.length c3,.slice A4 x.f4.length c4] 51)=w5 at *
    have W5:=zA (qAY W3.out W3.out.size B5.out)
    have R5:=zA (R3.out.below B5.out)
    have Q5:=zA (Kd.qAp O3.out B5.out)
    have KT5:=zA (Kd.qBs KT3.out B5.out)
    have J3:=zA (Kd.qAc K3.out B5.out)
    have J4:=zA (Kd.qAc K4.out B5.out)
    have HGX:=zA (show w3.heap.size+1 ≠ g from by have:=HG2d.out;have:=HS3.out;omega)
    have HGX2:=zA (show wd2.heap.size≤w3.heap.size+1 from by have:=HS3.out;omega)
    generalize w3.heap.size+1=gx at *
    clear K3 K4 R3 O3 KT3 B5 HS3 W3
    refine qAz (n:=10) (S:=fun w'=>w'.cell? ⟨g,2,none⟩=some (.int .i64 all)∧w'.cell? ⟨gx,0,none⟩=some (.string s)∧w'.cell? ⟨gx,1,none⟩=some (.int .i64 x.f0)∧w'.cell? ⟨gx,2,none⟩=some (.int .i64 x.f1)∧w'.cell? ⟨gx,3,none⟩=some (.string x.f2)∧w'.cell? ⟨gx,4,none⟩=some (.slice A3 x.f3.length c3)∧w'.cell? ⟨gx,5,none⟩=some (.slice A4 x.f4.length c4)) (ds:=[9]) #[qF,qF,qF,qF,qF,qF,qF,qF,qF,qF] (by kernel_rfl) rfl rfl ⟨(qAB (show w5.drew.heap[g]?=_ from R5.out) 2).trans rfl,(qAB (qAL X5.out) 0).trans rfl,(qAB (qAL X5.out) 1).trans rfl,(qAB (qAL X5.out) 2).trans rfl,(qAB (qAL X5.out) 3).trans rfl,(qAB (qAL X5.out) 4).trans rfl,(qAB (qAL X5.out) 5).trans rfl⟩ (fun hHeld => ?_)
    generalize hwd:w5.drew=wd5 at hHeld ⊢
    have R6:=zA (hwd▸R5.out.below (qAK (Below.refl _ _)))
    have W6:=zA (hwd▸qAK W5.out)
    have Q6:=zA (hwd▸Kd.qBB Q5.out)
    have KT6:=zA (hwd▸Kd.qBs KT5.out (qAK (Below.refl _ _)))
    have X6:=zA (hwd▸qAL X5.out)
    have I3:=zA (hwd▸Kd.qAs J3.out)
    have I4:=zA (hwd▸Kd.qAs J4.out)
    clear hwd R5 W5 Q5 KT5 X5 J3 J4
    refine pU 0 78 ?_
    refine pU 1 79 ?_
    refine pU 2 80 ?_
    refine tK 3 81 hHeld ?_
    refine tK 4 82 hHeld ?_
    refine one_ (i:=5) (N:=some 83) #[qT,qT,qT,qT,qT,qT,qF,qF,qF,qF] rfl rfl (by kernel_rfl) (by decide) (fun K hK => ?_)
    refine qBZ Try.func49 (by kernel_rfl) rfl #[.agg #[.string s,.int .i64 x.f0,.int .i64 x.f1,.string x.f2,.slice A3 x.f3.length c3,.slice A4 x.f4.length c4]] (by rfl) rfl rfl (by (try simp only [List.map_toArray,List.map_cons,List.map_nil]);first | done | rfl) ?_
    refine (qBF.calls KH s x.f0 x.f1 x.f2 A3 c3 x.f3 A4 c4 x.f4 hw wd5 I3.out L3.out I4.out L4.out HKH.out).mono ?_
    rintro e w7 ⟨rfl,hb⟩
    refine ⟨_,rfl, ?_⟩
    have R7:=zA (R6.out.below hb)
    have W7:=zA (qAY W6.out W6.out.size hb)
    have Q7:=zA (Kd.qAp Q6.out hb)
    have KT7:=zA (Kd.qBs KT6.out hb)
    have X7:=zA (qAX X6.out hb)
    clear hb
    have s2:=(qAB R7.out 2).trans rfl
    have s2f:=qAC R7.out 2
    refine hK.out _ _ ⟨(qAB R7.out 2).trans rfl,(qAB X7.out 0).trans rfl,(qAB X7.out 1).trans rfl,(qAB X7.out 2).trans rfl,(qAB X7.out 3).trans rfl,(qAB X7.out 4).trans rfl,(qAB X7.out 5).trans rfl⟩ (fun hHeld => ?_)
    clear hK K
    refine qA3 (a' := ?_) ?_ ?_
    rotate_left
    ·show Act.put _ (some 83) _=_
     simp only [Act.put,qs1,qs2,qs3,qAZ,qAb]
     rfl
    refine pU 6 84 ?_
    refine pU 7 85 ?_
    refine pU 8 86 ?_
    refine last_ (i:=9) (N:=none) #[qT,qT,qT,qT,qT,qT,qT,qT,qT,qT] rfl rfl (by kernel_rfl) (by decide) (fun K hK => ?_)
    refine skip_ (w1 := ?_) (by rfl) rfl ?_ ?_
    rotate_left
    ·go_simp
     rfl
    clear s2 s2f
    refine hK.out _ _ ?_
    clear hK K
    refine qBL (by kernel_rfl) ?_
    have R8:=zA (show sa.RB7 (w7.setCell ⟨g,2,none⟩ (.int .i64 (all+hw))) g B bs.length cb at_ (all+hw) (.slice AL 0 cl) from qAy R7.out 2 _ rfl)
    have W8:=zA (show Below w0.heap.size w0 (w7.setCell ⟨g,2,none⟩ (.int .i64 (all+hw))) from qAQ W7.out HG.out)
    have Q8:=zA (Kd.R_far Q7.out (p:=⟨g,2,none⟩) (fun k hk=>hk) (.int .i64 (all+hw)))
    have KT8:=zA (Kd.M_far KT7.out (p:=⟨g,2,none⟩) (fun k hk=>by have:=HG2d.out;dsimp only;omega) (.int .i64 (all+hw)))
    have X8:=zA ((Below.heap_setCell w7 ⟨g,2,none⟩ (.int .i64 (all+hw)) gx HGX.out).trans X7.out)
    generalize w7.setCell ⟨g,2,none⟩ (.int .i64 (all+hw))=w8 at *
    have z2:w8.cell? ⟨g,2,none⟩=some (.int .i64 (all+hw)):=(qAB R8.out 2).trans rfl
    go_wp2
    clear z2
    refine qAz (n:=11) (S:=fun w'=>w'.cell? ⟨g,3,none⟩=some (.slice AL 0 cl)∧w'.cell? ⟨gx,0,none⟩=some (.string s)∧w'.cell? ⟨gx,1,none⟩=some (.int .i64 x.f0)∧w'.cell? ⟨gx,2,none⟩=some (.int .i64 x.f1)∧w'.cell? ⟨gx,3,none⟩=some (.string x.f2)∧w'.cell? ⟨gx,4,none⟩=some (.slice A3 x.f3.length c3)∧w'.cell? ⟨gx,5,none⟩=some (.slice A4 x.f4.length c4)) (ds:=[10]) #[qF,qF,qF,qF,qF,qF,qF,qF,qF,qF,qF] (by kernel_rfl) rfl rfl ⟨(qAB (show w8.drew.heap[g]?=_ from R8.out) 3).trans rfl,(qAB (qAL X8.out) 0).trans rfl,(qAB (qAL X8.out) 1).trans rfl,(qAB (qAL X8.out) 2).trans rfl,(qAB (qAL X8.out) 3).trans rfl,(qAB (qAL X8.out) 4).trans rfl,(qAB (qAL X8.out) 5).trans rfl⟩ (fun hHeld => ?_)
    generalize hwd:w8.drew=wd8 at hHeld ⊢
    have R9:=zA (hwd▸R8.out.below (qAK (Below.refl _ _)))
    have W9:=zA (hwd▸qAK W8.out)
    have Q9:=zA (hwd▸Kd.qBB Q8.out)
    have KT9:=zA (hwd▸Kd.qBs KT8.out (qAK (Below.refl _ _)))
    have X9:=zA (hwd▸qAL X8.out)
    clear hwd R8 W8 Q8 KT8 X8
    refine pU 0 96 ?_
    refine pU 1 97 ?_
    refine pU 2 98 ?_
    refine pU 3 99 ?_
    refine tK 4 100 hHeld ?_
    refine tK 5 101 hHeld ?_
    refine one_ (i:=6) (N:=some 102) #[qT,qT,qT,qT,qT,qT,qT,qF,qF,qF,qF] rfl rfl (by kernel_rfl) (by decide) (fun K hK => ?_)
    refine qCL (w1 := ?_) (v := ?_) (by rfl) rfl ?_ ?_
    rotate_left 2
    ·go_simp
     constructor
     ·rfl
     ·rfl
    refine hK.out _ _ ⟨(qAB (qAP R9.out _) 3).trans rfl,(qAB (qAP X9.out _) 0).trans rfl,(qAB (qAP X9.out _) 1).trans rfl,(qAB (qAP X9.out _) 2).trans rfl,(qAB (qAP X9.out _) 3).trans rfl,(qAB (qAP X9.out _) 4).trans rfl,(qAB (qAP X9.out _) 5).trans rfl⟩ (fun hHeld => ?_)
    clear hK K
    refine qA3 (a' := ?_) ?_ ?_
    rotate_left
    ·show Act.put _ (some 102) _=_
     simp only [Act.put,qs1,qs2,qs3,qAZ,qAb]
     rfl
    refine one_ (i:=7) (N:=some 103) #[qT,qT,qT,qT,qT,qT,qT,qT,qF,qF,qF] rfl rfl (by kernel_rfl) (by decide) (fun K hK => ?_)
    refine Kd.qBO sa.ke (w0:=w0) w0.heap.size (by rfl) (.tmp 100) (.tmp 102) 22 51 (.agg #[.string ⟨#[]⟩,.int .i64 0,.int .i64 0,.string ⟨#[]⟩,.slice none 0 0,.slice none 0 0]) 96 rfl Try.underlying22 info51 rfl (by decide) (by omega) _ l ⟨s,x⟩ [.string s,.int .i64 x.f0,.int .i64 x.f1,.string x.f2,.slice A3 x.f3.length c3,.slice A4 x.f4.length c4] (fun k=>k ≠ g) (fun k=>wd2.heap.size≤k) rfl rfl ?aM ?aF ?aN ?aO ?aB ?aS ?aL ?_
    (case aM=>exact sa.ke_M KT9.out)
    (case aF=>exact fun k hk=>⟨by have:=HG2d.out;omega,fun e=>by have:=HOB.out k e.symm;omega⟩)
    (case aN=>exact fun k hk=>by have:=qAe (show wd8.heap[g]?=some _ from R9.out);omega)
    (case aO=>exact Q9.out)
    (case aB=>exact W9.out)
    (case aS=>exact W9.out.size)
    (case aL=>have:=HLL.out;omega)
    intro v11 w11 hr hb hg hat
    obtain ⟨A11,c11,e11⟩:=Kd.qA0 hr
    subst e11
    rw [show (l ++ [(⟨s,x⟩:S51)]).length=l.length+1 from by simp] at hr
    have R11:=zA (qA1 R9.out hg (Kd.R_away Q9.out (fun _ hk=>hk)))
    have X11:=zA (qA1 X9.out hg (fun e=>by have:=HOB.out gx e.symm;have:=HGX2.out;omega))
    have Q11:=zA hr
    have W11:=zA hb
    clear hr hb hg hat
    have s3:=(qAB R11.out 3).trans rfl
    have s3f:=qAC R11.out 3
    refine hK.out _ _ ⟨(qAB R11.out 3).trans rfl,(qAB X11.out 0).trans rfl,(qAB X11.out 1).trans rfl,(qAB X11.out 2).trans rfl,(qAB X11.out 3).trans rfl,(qAB X11.out 4).trans rfl,(qAB X11.out 5).trans rfl⟩ (fun hHeld => ?_)
    clear hK K
    refine qA3 (a' := ?_) ?_ ?_
    rotate_left
    ·show Act.put _ (some 103) _=_
     simp only [Act.put,qs1,qs2,qs3,qAZ,qAb]
     rfl
    refine pU 8 104 ?_
    refine pU 9 105 ?_
    refine last_ (i:=10) (N:=none) #[qT,qT,qT,qT,qT,qT,qT,qT,qT,qT,qT] rfl rfl (by kernel_rfl) (by decide) (fun K hK => ?_)
    refine skip_ (w1 := ?_) (by rfl) rfl ?_ ?_
    rotate_left
    ·go_simp
     rfl
    clear s3 s3f
    refine hK.out _ _ ?_
    clear hK K
    refine qBL (by kernel_rfl) ?_
    have R12:=zA (show sa.RB7 (w11.setCell ⟨g,3,none⟩ (.slice A11 (l.length+1) c11)) g B bs.length cb at_ (all+hw) (.slice A11 (l.length+1) c11) from qAy R11.out 3 _ rfl)
    have W12:=zA (show Below w0.heap.size w0 (w11.setCell ⟨g,3,none⟩ (.slice A11 (l.length+1) c11)) from qAQ W11.out HG.out)
    have Q12:=zA (Kd.R_far Q11.out (p:=⟨g,3,none⟩) (fun k hk=>hk) (.slice A11 (l.length+1) c11))
    generalize w11.setCell ⟨g,3,none⟩ (.slice A11 (l.length+1) c11)=w12 at *
    have z1:w12.cell? ⟨g,1,none⟩=some (.int .i64 at_):=(qAB R12.out 1).trans rfl
    have z1f:=qAC R12.out 1
    go_wp2
    go_ret2
    exact ⟨rfl,qAQ W12.out HG.out,_,qAy R12.out 1 _ rfl,Kd.R_far Q12.out (p:=⟨g,1,none⟩) (fun k hk=>hk) _⟩
 obtain ⟨k,rfl⟩:∃ k,n=k+1:=⟨n - 1,by omega⟩
 have hkl:(k:Int)=(l.length:Int) - 1:=by have:=HN.out;omega
 rw [← hkl]
 have hk0:(0:Int)≤(k:Int):=by omega
 have hk1:wrap64 (((k+1:Nat):Int) - 1)=(k:Int):=by have:=HN.out;have:=HLL.out;unfold wrap64;omega
 have hk5:wrap64 (k:Int)=(k:Int):=by have:=HN.out;have:=HLL.out;unfold wrap64;omega
 have hk6:IntKind.i64.wrap (k:Int)=(k:Int):=(qAZ _).trans hk5
 have hk2:(((k+1:Nat):Int)) > 0:=by omega
 have hk3:decide ((((k+1:Nat):Int)) > 0)=true:=zT hk2
 have hk4:(k:Int) < ((k+1:Nat):Int):=by omega
 have hk8:(k:Int) < (k:Int)+1:=by omega
 have hk9:((k:Int) < (k:Int)+1)=True:=eq_true hk8
 have hk7:0 < l.length:=by have:=HN.out;omega
 have HAT:=zA (fun (W:World) (hC:sa.ke.C W AL l.length l)=>qCI (sa.ke_C hC) (k:Int) (by omega) (by have:=HN.out;omega))
 generalize qAJ l (k:Int)=y at HAT ⊢
 clear hkl hn0
 cases p3:Op.bytesLess y.f0.toList s.toList with
 | false =>
  rw [if_pos (Or.inr ⟨hk7,by simp⟩)]
  clear h2 hk7
  go_enter Try.func41,Try.ntmps41
  go_wp2
  refine qAz (n:=16) (S:=fun w'=>w'.cell? ⟨g,0,none⟩=some (.slice B bs.length cb)∧w'.cell? ⟨g,1,none⟩=some (.int .i64 at_)) (ds:=[]) #[qF,qF,qF,qF,qF,qF,qF,qF,qF,qF,qF,qF,qF,qF,qF,qF] (by kernel_rfl) rfl rfl ⟨(qAB (show w.drew.heap[g]?=_ from HR.out) 0).trans rfl,(qAB (show w.drew.heap[g]?=_ from HR.out) 1).trans rfl⟩ (fun hHeld => ?_)
  generalize hwd:w.drew=wd at hHeld ⊢
  have Rd:=zA (hwd▸HR.out.below (qAK (Below.refl _ _)))
  have Wd:=zA (hwd▸qAK HW.out)
  have Od:=zA (hwd▸Kd.qBB HO.out)
  have HGd:=zA (show g < wd.heap.size from hwd▸HGW.out)
  clear hwd
  refine pU 0 11 ?_
  refine pU 1 12 ?_
  refine pU 2 13 ?_
  refine pU 4 15 ?_
  refine pU 5 16 ?_
  refine pU 6 17 ?_
  refine tK 3 14 hHeld ?_
  refine tK 7 18 hHeld ?_
  refine one_ (i:=8) (N:=some 19) #[qT,qT,qT,qT,qT,qT,qT,qT,qT,qF,qF,qF,qF,qF,qF,qF] rfl rfl (by kernel_rfl) (by decide) (fun K hK => ?_)
  refine qBZ Try.func60 (by kernel_rfl) rfl #[.slice B bs.length cb,.int .i64 at_,.int .i64 32] (by rfl) rfl rfl (by (try simp only [List.map_toArray,List.map_cons,List.map_nil]);first | done | rfl) ?_
  refine (TX.out wd Wd.out).mono ?_
  rintro e w2 ⟨rfl,hb⟩
  refine ⟨_,rfl, ?_⟩
  have R2:=zA (Rd.out.below hb.below)
  have W2:=zA (qAY Wd.out Wd.out.size hb.below)
  have O2:=zA (Kd.qAp Od.out hb.below)
  have HG2:=zA (Nat.lt_of_lt_of_le HGd.out hb.below.size)
  clear hb
  refine hK.out _ _ ⟨(qAB R2.out 0).trans rfl,(qAB R2.out 1).trans rfl⟩ (fun hHeld => ?_)
  clear hK K
  refine qA3 (a' := ?_) ?_ ?_
  rotate_left
  ·show Act.put _ (some 19) _=_
   simp only [Act.put,qs1,qs2,qs3,qAZ,qAb]
   rfl
  refine pU 9 10 ?_
  refine pU 10 20 ?_
  refine pU 11 21 ?_
  refine pU 12 22 ?_
  refine pU 13 4 ?_
  refine pU 14 5 ?_
  refine pU 15 6 ?_
  refine qBL (by kernel_rfl) ?_
  go_wp2
  obtain ⟨ad,a4_,b4_,a5_,b5_,eA,h0,_⟩:=HAT.out w2.drew (Kd.R_reads' (Kd.qBB O2.out)).2.2;subst eA;rw [Int.toNat_natCast] at h0
  refine qAz (n:=28) (S:=fun w'=>w'.cell? ⟨g,3,none⟩=some (.slice (some ad) (k+1) cl)∧w'.cell? (ad.add (k * 6))=some (.string y.f0)) (ds:=[]) #[qF,qF,qF,qF,qF,qF,qF,qF,qF,qF,qF,qF,qF,qF,qF,qF,qF,qF,qF,qF,qF,qF,qF,qF,qF,qF,qF,qF] (by kernel_rfl) rfl rfl ⟨(qAB (show w2.drew.heap[g]?=_ from R2.out) 3).trans rfl,h0⟩ (fun hHeld => ?_)
  generalize hwd:w2.drew=wd2 at hHeld ⊢
  have R2d:=zA (hwd▸R2.out.below (qAK (Below.refl _ _)))
  have W2d:=zA (hwd▸qAK W2.out)
  have O2d:=zA (hwd▸Kd.qBB O2.out)
  have HG2d:=zA (show g < wd2.heap.size from hwd▸HG2.out)
  have HOB:=zA (fun k hk=>((Kd.qBd O2d.out).1 k hk).2.2.1)
  clear hwd
  refine pU 0 31 ?_
  refine pU 1 32 ?_
  refine pU 2 33 ?_
  refine pU 3 34 ?_
  refine pU 4 35 ?_
  refine pU 5 36 ?_
  refine tK 6 37 hHeld ?_
  refine pU 7 38 ?_
  refine pU 8 39 ?_
  refine pU 9 40 ?_
  refine pU 10 41 ?_
  refine pU 11 42 ?_
  refine pU 12 43 ?_
  refine pU 14 45 ?_
  refine pU 15 46 ?_
  refine pU 16 47 ?_
  refine pU 23 54 ?_
  refine tK 13 44 hHeld ?_
  refine tK 17 48 hHeld ?_
  refine pU 18 49 ?_
  refine pU 19 50 ?_
  refine pU 20 51 ?_
  refine pU 21 52 ?_
  refine tK 22 53 hHeld ?_
  refine pU 24 55 ?_
  refine pU 25 56 ?_
  refine pU 26 57 ?_
  refine pU 27 30 ?_
  refine qBL (by kernel_rfl) ?_
  have z1:wd2.cell? ⟨g,1,none⟩=some (.int .i64 at_):=(qAB R2d.out 1).trans rfl
  go_wp2
  go_ret2
  exact ⟨rfl,W2d.out⟩
 | true =>
  rw [if_neg (by
    rintro (h | ⟨_,h⟩);· exact h2 h
    ·exact h rfl)]
  clear h2 hk7
  rcases hr:sa.takeS bs (qAd bs) (qCJ bs) n1 with ⟨x,a2,l2⟩ | ⟨ee,pp⟩
  case bad =>
   have TB:=zA (sa.takeS_bad HBB.out.1 HBB.out.2 hr)
   have TKB:=zA (fun (W:World) (hb2:Below w0.heap.size w0 W)=>show Calls Try.prog 61 #[.slice B bs.length cb,.int .i64 n1] W (fun e w'=>e=.returned (.tuple #[.agg #[.int .i64 0,.int .i64 0,.string ⟨#[]⟩,.slice none 0 0,.slice none 0 0],.int .i64 pp,.int .i64 ee])∧Below W.heap.size W w') from by have h:=TK.out W hb2 n1;rw [hr] at h;exact h)
   dsimp only
   have hee:ee ≠ 0:=by have:=TB.out.1;omega
   have d1:(ee != 0)=true:=bne_iff_ne.2 hee
   have d2:(ee == 0)=false:=beq_eq_false_iff_ne.2 hee
   have d3:decide (ee=0)=false:=zF hee
   clear hr hee
   go_enter Try.func41,Try.ntmps41
   go_wp2
   refine qAz (n:=16) (S:=fun w'=>w'.cell? ⟨g,0,none⟩=some (.slice B bs.length cb)∧w'.cell? ⟨g,1,none⟩=some (.int .i64 at_)) (ds:=[]) #[qF,qF,qF,qF,qF,qF,qF,qF,qF,qF,qF,qF,qF,qF,qF,qF] (by kernel_rfl) rfl rfl ⟨(qAB (show w.drew.heap[g]?=_ from HR.out) 0).trans rfl,(qAB (show w.drew.heap[g]?=_ from HR.out) 1).trans rfl⟩ (fun hHeld => ?_)
   generalize hwd:w.drew=wd at hHeld ⊢
   have Rd:=zA (hwd▸HR.out.below (qAK (Below.refl _ _)))
   have Wd:=zA (hwd▸qAK HW.out)
   have Od:=zA (hwd▸Kd.qBB HO.out)
   have HGd:=zA (show g < wd.heap.size from hwd▸HGW.out)
   clear hwd
   refine pU 0 11 ?_
   refine pU 1 12 ?_
   refine pU 2 13 ?_
   refine pU 4 15 ?_
   refine pU 5 16 ?_
   refine pU 6 17 ?_
   refine tK 3 14 hHeld ?_
   refine tK 7 18 hHeld ?_
   refine one_ (i:=8) (N:=some 19) #[qT,qT,qT,qT,qT,qT,qT,qT,qT,qF,qF,qF,qF,qF,qF,qF] rfl rfl (by kernel_rfl) (by decide) (fun K hK => ?_)
   refine qBZ Try.func60 (by kernel_rfl) rfl #[.slice B bs.length cb,.int .i64 at_,.int .i64 32] (by rfl) rfl rfl (by (try simp only [List.map_toArray,List.map_cons,List.map_nil]);first | done | rfl) ?_
   refine (TX.out wd Wd.out).mono ?_
   rintro e w2 ⟨rfl,hb⟩
   refine ⟨_,rfl, ?_⟩
   have R2:=zA (Rd.out.below hb.below)
   have W2:=zA (qAY Wd.out Wd.out.size hb.below)
   have O2:=zA (Kd.qAp Od.out hb.below)
   have HG2:=zA (Nat.lt_of_lt_of_le HGd.out hb.below.size)
   clear hb
   refine hK.out _ _ ⟨(qAB R2.out 0).trans rfl,(qAB R2.out 1).trans rfl⟩ (fun hHeld => ?_)
   clear hK K
   refine qA3 (a' := ?_) ?_ ?_
   rotate_left
   ·show Act.put _ (some 19) _=_
    simp only [Act.put,qs1,qs2,qs3,qAZ,qAb]
    rfl
   refine pU 9 10 ?_
   refine pU 10 20 ?_
   refine pU 11 21 ?_
   refine pU 12 22 ?_
   refine pU 13 4 ?_
   refine pU 14 5 ?_
   refine pU 15 6 ?_
   refine qBL (by kernel_rfl) ?_
   go_wp2
   obtain ⟨ad,a4_,b4_,a5_,b5_,eA,h0,_⟩:=HAT.out w2.drew (Kd.R_reads' (Kd.qBB O2.out)).2.2;subst eA;rw [Int.toNat_natCast] at h0
   refine qAz (n:=28) (S:=fun w'=>w'.cell? ⟨g,3,none⟩=some (.slice (some ad) (k+1) cl)∧w'.cell? (ad.add (k * 6))=some (.string y.f0)) (ds:=[]) #[qF,qF,qF,qF,qF,qF,qF,qF,qF,qF,qF,qF,qF,qF,qF,qF,qF,qF,qF,qF,qF,qF,qF,qF,qF,qF,qF,qF] (by kernel_rfl) rfl rfl ⟨(qAB (show w2.drew.heap[g]?=_ from R2.out) 3).trans rfl,h0⟩ (fun hHeld => ?_)
   generalize hwd:w2.drew=wd2 at hHeld ⊢
   have R2d:=zA (hwd▸R2.out.below (qAK (Below.refl _ _)))
   have W2d:=zA (hwd▸qAK W2.out)
   have O2d:=zA (hwd▸Kd.qBB O2.out)
   have HG2d:=zA (show g < wd2.heap.size from hwd▸HG2.out)
   have HOB:=zA (fun k hk=>((Kd.qBd O2d.out).1 k hk).2.2.1)
   clear hwd
   refine pU 0 31 ?_
   refine pU 1 32 ?_
   refine pU 2 33 ?_
   refine pU 3 34 ?_
   refine pU 4 35 ?_
   refine pU 5 36 ?_
   refine tK 6 37 hHeld ?_
   refine pU 7 38 ?_
   refine pU 8 39 ?_
   refine pU 9 40 ?_
   refine pU 10 41 ?_
   refine pU 11 42 ?_
   refine pU 12 43 ?_
   refine pU 14 45 ?_
   refine pU 15 46 ?_
   refine pU 16 47 ?_
   refine pU 23 54 ?_
   refine tK 13 44 hHeld ?_
   refine tK 17 48 hHeld ?_
   refine pU 18 49 ?_
   refine pU 19 50 ?_
   refine pU 20 51 ?_
   refine pU 21 52 ?_
   refine tK 22 53 hHeld ?_
   refine pU 24 55 ?_
   refine pU 25 56 ?_
   refine pU 26 57 ?_
   refine pU 27 30 ?_
   refine qBL (by kernel_rfl) ?_
   have z0:wd2.cell? ⟨g,0,none⟩=some (.slice B bs.length cb):=(qAB R2d.out 0).trans rfl
   go_wp2_with (first | (go_at_call 61;refine (TKB.out _ W2d.out).mono ?_;rintro e_ w3 ⟨rfl,hb⟩;have W3:=zA (qAY W2d.out W2d.out.size hb);clear hb z0))
   go_ret2
   exact ⟨rfl,qAE W3.out _⟩
  case ok =>
   obtain ⟨hv0,_,hrt,p0,p1,p2,_,_⟩:=TOK.out n1 x a2 l2 hr
   obtain ⟨KH,hKH⟩:=sa.heavy_ev s x hv0 hrt H2.out HSZ.out
   have TKO:=zA (fun (W:World) (hb2:Below w0.heap.size w0 W)=>show Calls Try.prog 61 #[.slice B bs.length cb,.int .i64 n1] W (fun e w'=>∃ v3 v4:Value,e=.returned (.tuple #[.agg #[.int .i64 x.f0,.int .i64 x.f1,.string x.f2,v3,v4],.int .i64 a2,.int .i64 0])∧sa.VRow w' (fun k=>W.heap.size≤k∧k < w'.heap.size) 8 v3 x.f3∧sa.KRow w' (fun k=>W.heap.size≤k∧k < w'.heap.size) v4 x.f4∧Below W.heap.size W w') from by have h:=TK.out W hb2 n1;rw [hr] at h;exact h)
   dsimp only
   have hhv:0≤sa.hv ⟨s,x⟩∧sa.hv ⟨s,x⟩≤4000:=by have:=hrt.2;have:=HSZ.out;unfold sa.hv;dsimp only;omega
   generalize sa.hv ⟨s,x⟩=hw at hKH hhv ⊢
   have HKH:=zA hKH
   have hwa:wrap64 (all+hw)=all+hw:=by have:=HAL.out;unfold wrap64;omega
   have hwb:IntKind.i64.wrap (all+hw)=all+hw:=(qAZ _).trans hwa
   clear hr hKH hv0 hrt p0 p1 p2
   by_cases hbig:all+hw > 32768
   case pos =>
    rw [if_pos hbig]
    have d1:decide (all+hw > 32768)=true:=zT (by omega)
    have d2:decide (32768 < all+hw)=true:=zT (by omega)
    have HBG:=zA hbig
    clear hbig hhv
    go_enter Try.func41,Try.ntmps41
    go_wp2
    refine qAz (n:=16) (S:=fun w'=>w'.cell? ⟨g,0,none⟩=some (.slice B bs.length cb)∧w'.cell? ⟨g,1,none⟩=some (.int .i64 at_)) (ds:=[]) #[qF,qF,qF,qF,qF,qF,qF,qF,qF,qF,qF,qF,qF,qF,qF,qF] (by kernel_rfl) rfl rfl ⟨(qAB (show w.drew.heap[g]?=_ from HR.out) 0).trans rfl,(qAB (show w.drew.heap[g]?=_ from HR.out) 1).trans rfl⟩ (fun hHeld => ?_)
    generalize hwd:w.drew=wd at hHeld ⊢
    have Rd:=zA (hwd▸HR.out.below (qAK (Below.refl _ _)))
    have Wd:=zA (hwd▸qAK HW.out)
    have Od:=zA (hwd▸Kd.qBB HO.out)
    have HGd:=zA (show g < wd.heap.size from hwd▸HGW.out)
    clear hwd
    refine pU 0 11 ?_
    refine pU 1 12 ?_
    refine pU 2 13 ?_
    refine pU 4 15 ?_
    refine pU 5 16 ?_
    refine pU 6 17 ?_
    refine tK 3 14 hHeld ?_
    refine tK 7 18 hHeld ?_
    refine one_ (i:=8) (N:=some 19) #[qT,qT,qT,qT,qT,qT,qT,qT,qT,qF,qF,qF,qF,qF,qF,qF] rfl rfl (by kernel_rfl) (by decide) (fun K hK => ?_)
    refine qBZ Try.func60 (by kernel_rfl) rfl #[.slice B bs.length cb,.int .i64 at_,.int .i64 32] (by rfl) rfl rfl (by (try simp only [List.map_toArray,List.map_cons,List.map_nil]);first | done | rfl) ?_
    refine (TX.out wd Wd.out).mono ?_
    rintro e w2 ⟨rfl,hb⟩
    refine ⟨_,rfl, ?_⟩
    have R2:=zA (Rd.out.below hb.below)
    have W2:=zA (qAY Wd.out Wd.out.size hb.below)
    have O2:=zA (Kd.qAp Od.out hb.below)
    have HG2:=zA (Nat.lt_of_lt_of_le HGd.out hb.below.size)
    clear hb
    refine hK.out _ _ ⟨(qAB R2.out 0).trans rfl,(qAB R2.out 1).trans rfl⟩ (fun hHeld => ?_)
    clear hK K
    refine qA3 (a' := ?_) ?_ ?_
    rotate_left
    ·show Act.put _ (some 19) _=_
     simp only [Act.put,qs1,qs2,qs3,qAZ,qAb]
     rfl
    refine pU 9 10 ?_
    refine pU 10 20 ?_
    refine pU 11 21 ?_
    refine pU 12 22 ?_
    refine pU 13 4 ?_
    refine pU 14 5 ?_
    refine pU 15 6 ?_
    refine qBL (by kernel_rfl) ?_
    go_wp2
    obtain ⟨ad,a4_,b4_,a5_,b5_,eA,h0,_⟩:=HAT.out w2.drew (Kd.R_reads' (Kd.qBB O2.out)).2.2;subst eA;rw [Int.toNat_natCast] at h0
    refine qAz (n:=28) (S:=fun w'=>w'.cell? ⟨g,3,none⟩=some (.slice (some ad) (k+1) cl)∧w'.cell? (ad.add (k * 6))=some (.string y.f0)) (ds:=[]) #[qF,qF,qF,qF,qF,qF,qF,qF,qF,qF,qF,qF,qF,qF,qF,qF,qF,qF,qF,qF,qF,qF,qF,qF,qF,qF,qF,qF] (by kernel_rfl) rfl rfl ⟨(qAB (show w2.drew.heap[g]?=_ from R2.out) 3).trans rfl,h0⟩ (fun hHeld => ?_)
    generalize hwd:w2.drew=wd2 at hHeld ⊢
    have R2d:=zA (hwd▸R2.out.below (qAK (Below.refl _ _)))
    have W2d:=zA (hwd▸qAK W2.out)
    have O2d:=zA (hwd▸Kd.qBB O2.out)
    have HG2d:=zA (show g < wd2.heap.size from hwd▸HG2.out)
    have HOB:=zA (fun k hk=>((Kd.qBd O2d.out).1 k hk).2.2.1)
    clear hwd
    refine pU 0 31 ?_
    refine pU 1 32 ?_
    refine pU 2 33 ?_
    refine pU 3 34 ?_
    refine pU 4 35 ?_
    refine pU 5 36 ?_
    refine tK 6 37 hHeld ?_
    refine pU 7 38 ?_
    refine pU 8 39 ?_
    refine pU 9 40 ?_
    refine pU 10 41 ?_
    refine pU 11 42 ?_
    refine pU 12 43 ?_
    refine pU 14 45 ?_
    refine pU 15 46 ?_
    refine pU 16 47 ?_
    refine pU 23 54 ?_
    refine tK 13 44 hHeld ?_
    refine tK 17 48 hHeld ?_
    refine pU 18 49 ?_
    refine pU 19 50 ?_
    refine pU 20 51 ?_
    refine pU 21 52 ?_
    refine tK 22 53 hHeld ?_
    refine pU 24 55 ?_
    refine pU 25 56 ?_
    refine pU 26 57 ?_
    refine pU 27 30 ?_
    refine qBL (by kernel_rfl) ?_
    have z0:wd2.cell? ⟨g,0,none⟩=some (.slice B bs.length cb):=(qAB R2d.out 0).trans rfl
    go_wp2_with (first | (go_at_call 61;refine (TKO.out _ W2d.out).mono ?_;rintro e_ w3 ⟨v3,v4,rfl,h3,h4,hb⟩;obtain ⟨A3,c3,e3,l3,C3⟩:=h3.C 8;obtain ⟨A4,c4,e4,l4,C4⟩:=h4.C;subst e3;subst e4;have KT3:=zA (sa.kt_got2 W2d.out.size h3 h4);have HS3:=zA hb.size;have K3:=zA C3;have K4:=zA C4;have L3:=zA l3;have L4:=zA l4;have W3:=zA (qAY W2d.out W2d.out.size hb);have R3:=zA (R2d.out.below hb);have O3:=zA (Kd.qAp O2d.out hb);clear hb h3 h4 C3 C4 l3 l4 z0))
    have B5:=zA (show Below w3.heap.size w3 ((w3.alloc (.cells #[.int .i64 x.f0,.int .i64 x.f1,.string x.f2,.slice A3 x.f3.length c3,.slice A4 x.f4.length c4] 34)).alloc (.cells #[.string s,.int .i64 x.f0,.int .i64 x.f1,.string x.f2,.slice A3 x.f3.length c3,.slice A4 x.f4.length c4] 51)) from qAE (qAE (Below.refl _ _) _) _)
    have X5:=zA (show ((w3.alloc (.cells #[.int .i64 x.f0,.int .i64 x.f1,.string x.f2,.slice A3 x.f3.length c3,.slice A4 x.f4.length c4] 34)).alloc (.cells #[.string s,.int .i64 x.f0,.int .i64 x.f1,.string x.f2,.slice A3 x.f3.length c3,.slice A4 x.f4.length c4] 51)).heap[w3.heap.size+1]?=some (.cells #[.string s,.int .i64 x.f0,.int .i64 x.f1,.string x.f2,.slice A3 x.f3.length c3,.slice A4 x.f4.length c4] 51 (0,0)) from by simpa using heap_alloc_new (w3.alloc (.cells #[.int .i64 x.f0,.int .i64 x.f1,.string x.f2,.slice A3 x.f3.length c3,.slice A4 x.f4.length c4] 34)) (.cells #[.string s,.int .i64 x.f0,.int .i64 x.f1,.string x.f2,.slice A3 x.f3.length c3,.slice A4 x.f4.length c4] 51))
    generalize (w3.alloc (.cells #[.int .i64 x.f0,.int .i64 x.f1,.string x.f2,.slice A3 x.f3.length c3,.slice A4 x.f4.length c4] 34)).alloc (.cells #[.string s,.int .i64 x.f0,.int .i64 x.f1,.string x.f2,.slice A3 x.f3.length c3,.slice A4 x.f4.length c4] 51)=w5 at *
    have W5:=zA (qAY W3.out W3.out.size B5.out)
    have R5:=zA (R3.out.below B5.out)
    have Q5:=zA (Kd.qAp O3.out B5.out)
    have KT5:=zA (Kd.qBs KT3.out B5.out)
    have J3:=zA (Kd.qAc K3.out B5.out)
    have J4:=zA (Kd.qAc K4.out B5.out)
    have HGX:=zA (show w3.heap.size+1 ≠ g from by have:=HG2d.out;have:=HS3.out;omega)
    have HGX2:=zA (show wd2.heap.size≤w3.heap.size+1 from by have:=HS3.out;omega)
    generalize w3.heap.size+1=gx at *
    clear K3 K4 R3 O3 KT3 B5 HS3 W3
    refine qAz (n:=10) (S:=fun w'=>w'.cell? ⟨g,2,none⟩=some (.int .i64 all)∧w'.cell? ⟨gx,0,none⟩=some (.string s)∧w'.cell? ⟨gx,1,none⟩=some (.int .i64 x.f0)∧w'.cell? ⟨gx,2,none⟩=some (.int .i64 x.f1)∧w'.cell? ⟨gx,3,none⟩=some (.string x.f2)∧w'.cell? ⟨gx,4,none⟩=some (.slice A3 x.f3.length c3)∧w'.cell? ⟨gx,5,none⟩=some (.slice A4 x.f4.length c4)) (ds:=[9]) #[qF,qF,qF,qF,qF,qF,qF,qF,qF,qF] (by kernel_rfl) rfl rfl ⟨(qAB (show w5.drew.heap[g]?=_ from R5.out) 2).trans rfl,(qAB (qAL X5.out) 0).trans rfl,(qAB (qAL X5.out) 1).trans rfl,(qAB (qAL X5.out) 2).trans rfl,(qAB (qAL X5.out) 3).trans rfl,(qAB (qAL X5.out) 4).trans rfl,(qAB (qAL X5.out) 5).trans rfl⟩ (fun hHeld => ?_)
    generalize hwd:w5.drew=wd5 at hHeld ⊢
    have R6:=zA (hwd▸R5.out.below (qAK (Below.refl _ _)))
    have W6:=zA (hwd▸qAK W5.out)
    have Q6:=zA (hwd▸Kd.qBB Q5.out)
    have KT6:=zA (hwd▸Kd.qBs KT5.out (qAK (Below.refl _ _)))
    have X6:=zA (hwd▸qAL X5.out)
    have I3:=zA (hwd▸Kd.qAs J3.out)
    have I4:=zA (hwd▸Kd.qAs J4.out)
    clear hwd R5 W5 Q5 KT5 X5 J3 J4
    refine pU 0 78 ?_
    refine pU 1 79 ?_
    refine pU 2 80 ?_
    refine tK 3 81 hHeld ?_
    refine tK 4 82 hHeld ?_
    refine one_ (i:=5) (N:=some 83) #[qT,qT,qT,qT,qT,qT,qF,qF,qF,qF] rfl rfl (by kernel_rfl) (by decide) (fun K hK => ?_)
    refine qBZ Try.func49 (by kernel_rfl) rfl #[.agg #[.string s,.int .i64 x.f0,.int .i64 x.f1,.string x.f2,.slice A3 x.f3.length c3,.slice A4 x.f4.length c4]] (by rfl) rfl rfl (by (try simp only [List.map_toArray,List.map_cons,List.map_nil]);first | done | rfl) ?_
    refine (qBF.calls KH s x.f0 x.f1 x.f2 A3 c3 x.f3 A4 c4 x.f4 hw wd5 I3.out L3.out I4.out L4.out HKH.out).mono ?_
    rintro e w7 ⟨rfl,hb⟩
    refine ⟨_,rfl, ?_⟩
    have R7:=zA (R6.out.below hb)
    have W7:=zA (qAY W6.out W6.out.size hb)
    have Q7:=zA (Kd.qAp Q6.out hb)
    have KT7:=zA (Kd.qBs KT6.out hb)
    have X7:=zA (qAX X6.out hb)
    clear hb
    have s2:=(qAB R7.out 2).trans rfl
    have s2f:=qAC R7.out 2
    refine hK.out _ _ ⟨(qAB R7.out 2).trans rfl,(qAB X7.out 0).trans rfl,(qAB X7.out 1).trans rfl,(qAB X7.out 2).trans rfl,(qAB X7.out 3).trans rfl,(qAB X7.out 4).trans rfl,(qAB X7.out 5).trans rfl⟩ (fun hHeld => ?_)
    clear hK K
    refine qA3 (a' := ?_) ?_ ?_
    rotate_left
    ·show Act.put _ (some 83) _=_
     simp only [Act.put,qs1,qs2,qs3,qAZ,qAb]
     rfl
    refine pU 6 84 ?_
    refine pU 7 85 ?_
    refine pU 8 86 ?_
    refine last_ (i:=9) (N:=none) #[qT,qT,qT,qT,qT,qT,qT,qT,qT,qT] rfl rfl (by kernel_rfl) (by decide) (fun K hK => ?_)
    refine skip_ (w1 := ?_) (by rfl) rfl ?_ ?_
    rotate_left
    ·go_simp
     rfl
    clear s2 s2f
    refine hK.out _ _ ?_
    clear hK K
    refine qBL (by kernel_rfl) ?_
    have R8:=zA (show sa.RB7 (w7.setCell ⟨g,2,none⟩ (.int .i64 (all+hw))) g B bs.length cb at_ (all+hw) (.slice (some ad) (k+1) cl) from qAy R7.out 2 _ rfl)
    have W8:=zA (show Below w0.heap.size w0 (w7.setCell ⟨g,2,none⟩ (.int .i64 (all+hw))) from qAQ W7.out HG.out)
    have Q8:=zA (Kd.R_far Q7.out (p:=⟨g,2,none⟩) (fun k hk=>hk) (.int .i64 (all+hw)))
    have KT8:=zA (Kd.M_far KT7.out (p:=⟨g,2,none⟩) (fun k hk=>by have:=HG2d.out;dsimp only;omega) (.int .i64 (all+hw)))
    have X8:=zA ((Below.heap_setCell w7 ⟨g,2,none⟩ (.int .i64 (all+hw)) gx HGX.out).trans X7.out)
    generalize w7.setCell ⟨g,2,none⟩ (.int .i64 (all+hw))=w8 at *
    have z2:w8.cell? ⟨g,2,none⟩=some (.int .i64 (all+hw)):=(qAB R8.out 2).trans rfl
    have z1:w8.cell? ⟨g,1,none⟩=some (.int .i64 at_):=(qAB R8.out 1).trans rfl
    go_wp2
    go_ret2
    exact ⟨rfl,W8.out⟩
   case neg =>
    rw [if_neg hbig]
    have d1:decide (all+hw > 32768)=false:=zF (by omega)
    have d2:decide (32768 < all+hw)=false:=zF (by omega)
    have HBG:=zA hbig
    clear hbig hhv
    go_enter Try.func41,Try.ntmps41
    go_wp2
    refine qAz (n:=16) (S:=fun w'=>w'.cell? ⟨g,0,none⟩=some (.slice B bs.length cb)∧w'.cell? ⟨g,1,none⟩=some (.int .i64 at_)) (ds:=[]) #[qF,qF,qF,qF,qF,qF,qF,qF,qF,qF,qF,qF,qF,qF,qF,qF] (by kernel_rfl) rfl rfl ⟨(qAB (show w.drew.heap[g]?=_ from HR.out) 0).trans rfl,(qAB (show w.drew.heap[g]?=_ from HR.out) 1).trans rfl⟩ (fun hHeld => ?_)
    generalize hwd:w.drew=wd at hHeld ⊢
    have Rd:=zA (hwd▸HR.out.below (qAK (Below.refl _ _)))
    have Wd:=zA (hwd▸qAK HW.out)
    have Od:=zA (hwd▸Kd.qBB HO.out)
    have HGd:=zA (show g < wd.heap.size from hwd▸HGW.out)
    clear hwd
    refine pU 0 11 ?_
    refine pU 1 12 ?_
    refine pU 2 13 ?_
    refine pU 4 15 ?_
    refine pU 5 16 ?_
    refine pU 6 17 ?_
    refine tK 3 14 hHeld ?_
    refine tK 7 18 hHeld ?_
    refine one_ (i:=8) (N:=some 19) #[qT,qT,qT,qT,qT,qT,qT,qT,qT,qF,qF,qF,qF,qF,qF,qF] rfl rfl (by kernel_rfl) (by decide) (fun K hK => ?_)
    refine qBZ Try.func60 (by kernel_rfl) rfl #[.slice B bs.length cb,.int .i64 at_,.int .i64 32] (by rfl) rfl rfl (by (try simp only [List.map_toArray,List.map_cons,List.map_nil]);first | done | rfl) ?_
    refine (TX.out wd Wd.out).mono ?_
    rintro e w2 ⟨rfl,hb⟩
    refine ⟨_,rfl, ?_⟩
    have R2:=zA (Rd.out.below hb.below)
    have W2:=zA (qAY Wd.out Wd.out.size hb.below)
    have O2:=zA (Kd.qAp Od.out hb.below)
    have HG2:=zA (Nat.lt_of_lt_of_le HGd.out hb.below.size)
    clear hb
    refine hK.out _ _ ⟨(qAB R2.out 0).trans rfl,(qAB R2.out 1).trans rfl⟩ (fun hHeld => ?_)
    clear hK K
    refine qA3 (a' := ?_) ?_ ?_
    rotate_left
    ·show Act.put _ (some 19) _=_
     simp only [Act.put,qs1,qs2,qs3,qAZ,qAb]
     rfl
    refine pU 9 10 ?_
    refine pU 10 20 ?_
    refine pU 11 21 ?_
    refine pU 12 22 ?_
    refine pU 13 4 ?_
    refine pU 14 5 ?_
    refine pU 15 6 ?_
    refine qBL (by kernel_rfl) ?_
    go_wp2
    obtain ⟨ad,a4_,b4_,a5_,b5_,eA,h0,_⟩:=HAT.out w2.drew (Kd.R_reads' (Kd.qBB O2.out)).2.2;subst eA;rw [Int.toNat_natCast] at h0
    refine qAz (n:=28) (S:=fun w'=>w'.cell? ⟨g,3,none⟩=some (.slice (some ad) (k+1) cl)∧w'.cell? (ad.add (k * 6))=some (.string y.f0)) (ds:=[]) #[qF,qF,qF,qF,qF,qF,qF,qF,qF,qF,qF,qF,qF,qF,qF,qF,qF,qF,qF,qF,qF,qF,qF,qF,qF,qF,qF,qF] (by kernel_rfl) rfl rfl ⟨(qAB (show w2.drew.heap[g]?=_ from R2.out) 3).trans rfl,h0⟩ (fun hHeld => ?_)
    generalize hwd:w2.drew=wd2 at hHeld ⊢
    have R2d:=zA (hwd▸R2.out.below (qAK (Below.refl _ _)))
    have W2d:=zA (hwd▸qAK W2.out)
    have O2d:=zA (hwd▸Kd.qBB O2.out)
    have HG2d:=zA (show g < wd2.heap.size from hwd▸HG2.out)
    have HOB:=zA (fun k hk=>((Kd.qBd O2d.out).1 k hk).2.2.1)
    clear hwd
    refine pU 0 31 ?_
    refine pU 1 32 ?_
    refine pU 2 33 ?_
    refine pU 3 34 ?_
    refine pU 4 35 ?_
    refine pU 5 36 ?_
    refine tK 6 37 hHeld ?_
    refine pU 7 38 ?_
    refine pU 8 39 ?_
    refine pU 9 40 ?_
    refine pU 10 41 ?_
    refine pU 11 42 ?_
    refine pU 12 43 ?_
    refine pU 14 45 ?_
    refine pU 15 46 ?_
    refine pU 16 47 ?_
    refine pU 23 54 ?_
    refine tK 13 44 hHeld ?_
    refine tK 17 48 hHeld ?_
    refine pU 18 49 ?_
    refine pU 19 50 ?_
    refine pU 20 51 ?_
    refine pU 21 52 ?_
    refine tK 22 53 hHeld ?_
    refine pU 24 55 ?_
    refine pU 25 56 ?_
    refine pU 26 57 ?_
    refine pU 27 30 ?_
    refine qBL (by kernel_rfl) ?_
    have z0:wd2.cell? ⟨g,0,none⟩=some (.slice B bs.length cb):=(qAB R2d.out 0).trans rfl
    go_wp2_with (first | (go_at_call 61;refine (TKO.out _ W2d.out).mono ?_;rintro e_ w3 ⟨v3,v4,rfl,h3,h4,hb⟩;obtain ⟨A3,c3,e3,l3,C3⟩:=h3.C 8;obtain ⟨A4,c4,e4,l4,C4⟩:=h4.C;subst e3;subst e4;have KT3:=zA (sa.kt_got2 W2d.out.size h3 h4);have HS3:=zA hb.size;have K3:=zA C3;have K4:=zA C4;have L3:=zA l3;have L4:=zA l4;have W3:=zA (qAY W2d.out W2d.out.size hb);have R3:=zA (R2d.out.below hb);have O3:=zA (Kd.qAp O2d.out hb);clear hb h3 h4 C3 C4 l3 l4 z0))
    have B5:=zA (show Below w3.heap.size w3 ((w3.alloc (.cells #[.int .i64 x.f0,.int .i64 x.f1,.string x.f2,.slice A3 x.f3.length c3,.slice A4 x.f4.length c4] 34)).alloc (.cells #[.string s,.int .i64 x.f0,.int .i64 x.f1,.string x.f2,.slice A3 x.f3.length c3,.slice A4 x.f4.length c4] 51)) from qAE (qAE (Below.refl _ _) _) _)
    have X5:=zA (show ((w3.alloc (.cells #[.int .i64 x.f0,.int .i64 x.f1,.string x.f2,.slice A3 x.f3.length c3,.slice A4 x.f4.length c4] 34)).alloc (.cells #[.string s,.int .i64 x.f0,.int .i64 x.f1,.string x.f2,.slice A3 x.f3.length c3,.slice A4 x.f4.length c4] 51)).heap[w3.heap.size+1]?=some (.cells #[.string s,.int .i64 x.f0,.int .i64 x.f1,.string x.f2,.slice A3 x.f3.length c3,.slice A4 x.f4.length c4] 51 (0,0)) from by simpa using heap_alloc_new (w3.alloc (.cells #[.int .i64 x.f0,.int .i64 x.f1,.string x.f2,.slice A3 x.f3.length c3,.slice A4 x.f4.length c4] 34)) (.cells #[.string s,.int .i64 x.f0,.int .i64 x.f1,.string x.f2,.slice A3 x.f3.length c3,.slice A4 x.f4.length c4] 51))
    generalize (w3.alloc (.cells #[.int .i64 x.f0,.int .i64 x.f1,.string x.f2,.slice A3 x.f3.length c3,.slice A4 x.f4.length c4] 34)).alloc (.cells #[.string s,.int .i64 x.f0,.int .i64 x.f1,.string x.f2,.slice A3 x.f3.length c3,.slice A4 x.f4.length c4] 51)=w5 at *
    have W5:=zA (qAY W3.out W3.out.size B5.out)
    have R5:=zA (R3.out.below B5.out)
    have Q5:=zA (Kd.qAp O3.out B5.out)
    have KT5:=zA (Kd.qBs KT3.out B5.out)
    have J3:=zA (Kd.qAc K3.out B5.out)
    have J4:=zA (Kd.qAc K4.out B5.out)
    have HGX:=zA (show w3.heap.size+1 ≠ g from by have:=HG2d.out;have:=HS3.out;omega)
    have HGX2:=zA (show wd2.heap.size≤w3.heap.size+1 from by have:=HS3.out;omega)
    generalize w3.heap.size+1=gx at *
    clear K3 K4 R3 O3 KT3 B5 HS3 W3
    refine qAz (n:=10) (S:=fun w'=>w'.cell? ⟨g,2,none⟩=some (.int .i64 all)∧w'.cell? ⟨gx,0,none⟩=some (.string s)∧w'.cell? ⟨gx,1,none⟩=some (.int .i64 x.f0)∧w'.cell? ⟨gx,2,none⟩=some (.int .i64 x.f1)∧w'.cell? ⟨gx,3,none⟩=some (.string x.f2)∧w'.cell? ⟨gx,4,none⟩=some (.slice A3 x.f3.length c3)∧w'.cell? ⟨gx,5,none⟩=some (.slice A4 x.f4.length c4)) (ds:=[9]) #[qF,qF,qF,qF,qF,qF,qF,qF,qF,qF] (by kernel_rfl) rfl rfl ⟨(qAB (show w5.drew.heap[g]?=_ from R5.out) 2).trans rfl,(qAB (qAL X5.out) 0).trans rfl,(qAB (qAL X5.out) 1).trans rfl,(qAB (qAL X5.out) 2).trans rfl,(qAB (qAL X5.out) 3).trans rfl,(qAB (qAL X5.out) 4).trans rfl,(qAB (qAL X5.out) 5).trans rfl⟩ (fun hHeld => ?_)
    generalize hwd:w5.drew=wd5 at hHeld ⊢
    have R6:=zA (hwd▸R5.out.below (qAK (Below.refl _ _)))
    have W6:=zA (hwd▸qAK W5.out)
    have Q6:=zA (hwd▸Kd.qBB Q5.out)
    have KT6:=zA (hwd▸Kd.qBs KT5.out (qAK (Below.refl _ _)))
    have X6:=zA (hwd▸qAL X5.out)
    have I3:=zA (hwd▸Kd.qAs J3.out)
    have I4:=zA (hwd▸Kd.qAs J4.out)
    clear hwd R5 W5 Q5 KT5 X5 J3 J4
    refine pU 0 78 ?_
    refine pU 1 79 ?_
    refine pU 2 80 ?_
    refine tK 3 81 hHeld ?_
    refine tK 4 82 hHeld ?_
    refine one_ (i:=5) (N:=some 83) #[qT,qT,qT,qT,qT,qT,qF,qF,qF,qF] rfl rfl (by kernel_rfl) (by decide) (fun K hK => ?_)
    refine qBZ Try.func49 (by kernel_rfl) rfl #[.agg #[.string s,.int .i64 x.f0,.int .i64 x.f1,.string x.f2,.slice A3 x.f3.length c3,.slice A4 x.f4.length c4]] (by rfl) rfl rfl (by (try simp only [List.map_toArray,List.map_cons,List.map_nil]);first | done | rfl) ?_
    refine (qBF.calls KH s x.f0 x.f1 x.f2 A3 c3 x.f3 A4 c4 x.f4 hw wd5 I3.out L3.out I4.out L4.out HKH.out).mono ?_
    rintro e w7 ⟨rfl,hb⟩
    refine ⟨_,rfl, ?_⟩
    have R7:=zA (R6.out.below hb)
    have W7:=zA (qAY W6.out W6.out.size hb)
    have Q7:=zA (Kd.qAp Q6.out hb)
    have KT7:=zA (Kd.qBs KT6.out hb)
    have X7:=zA (qAX X6.out hb)
    clear hb
    have s2:=(qAB R7.out 2).trans rfl
    have s2f:=qAC R7.out 2
    refine hK.out _ _ ⟨(qAB R7.out 2).trans rfl,(qAB X7.out 0).trans rfl,(qAB X7.out 1).trans rfl,(qAB X7.out 2).trans rfl,(qAB X7.out 3).trans rfl,(qAB X7.out 4).trans rfl,(qAB X7.out 5).trans rfl⟩ (fun hHeld => ?_)
    clear hK K
    refine qA3 (a' := ?_) ?_ ?_
    rotate_left
    ·show Act.put _ (some 83) _=_
     simp only [Act.put,qs1,qs2,qs3,qAZ,qAb]
     rfl
    refine pU 6 84 ?_
    refine pU 7 85 ?_
    refine pU 8 86 ?_
    refine last_ (i:=9) (N:=none) #[qT,qT,qT,qT,qT,qT,qT,qT,qT,qT] rfl rfl (by kernel_rfl) (by decide) (fun K hK => ?_)
    refine skip_ (w1 := ?_) (by rfl) rfl ?_ ?_
    rotate_left
    ·go_simp
     rfl
    clear s2 s2f
    refine hK.out _ _ ?_
    clear hK K
    refine qBL (by kernel_rfl) ?_
    have R8:=zA (show sa.RB7 (w7.setCell ⟨g,2,none⟩ (.int .i64 (all+hw))) g B bs.length cb at_ (all+hw) (.slice (some ad) (k+1) cl) from qAy R7.out 2 _ rfl)
    have W8:=zA (show Below w0.heap.size w0 (w7.setCell ⟨g,2,none⟩ (.int .i64 (all+hw))) from qAQ W7.out HG.out)
    have Q8:=zA (Kd.R_far Q7.out (p:=⟨g,2,none⟩) (fun k hk=>hk) (.int .i64 (all+hw)))
    have KT8:=zA (Kd.M_far KT7.out (p:=⟨g,2,none⟩) (fun k hk=>by have:=HG2d.out;dsimp only;omega) (.int .i64 (all+hw)))
    have X8:=zA ((Below.heap_setCell w7 ⟨g,2,none⟩ (.int .i64 (all+hw)) gx HGX.out).trans X7.out)
    generalize w7.setCell ⟨g,2,none⟩ (.int .i64 (all+hw))=w8 at *
    have z2:w8.cell? ⟨g,2,none⟩=some (.int .i64 (all+hw)):=(qAB R8.out 2).trans rfl
    go_wp2
    clear z2
    refine qAz (n:=11) (S:=fun w'=>w'.cell? ⟨g,3,none⟩=some (.slice (some ad) (k+1) cl)∧w'.cell? ⟨gx,0,none⟩=some (.string s)∧w'.cell? ⟨gx,1,none⟩=some (.int .i64 x.f0)∧w'.cell? ⟨gx,2,none⟩=some (.int .i64 x.f1)∧w'.cell? ⟨gx,3,none⟩=some (.string x.f2)∧w'.cell? ⟨gx,4,none⟩=some (.slice A3 x.f3.length c3)∧w'.cell? ⟨gx,5,none⟩=some (.slice A4 x.f4.length c4)) (ds:=[10]) #[qF,qF,qF,qF,qF,qF,qF,qF,qF,qF,qF] (by kernel_rfl) rfl rfl ⟨(qAB (show w8.drew.heap[g]?=_ from R8.out) 3).trans rfl,(qAB (qAL X8.out) 0).trans rfl,(qAB (qAL X8.out) 1).trans rfl,(qAB (qAL X8.out) 2).trans rfl,(qAB (qAL X8.out) 3).trans rfl,(qAB (qAL X8.out) 4).trans rfl,(qAB (qAL X8.out) 5).trans rfl⟩ (fun hHeld => ?_)
    generalize hwd:w8.drew=wd8 at hHeld ⊢
    have R9:=zA (hwd▸R8.out.below (qAK (Below.refl _ _)))
    have W9:=zA (hwd▸qAK W8.out)
    have Q9:=zA (hwd▸Kd.qBB Q8.out)
    have KT9:=zA (hwd▸Kd.qBs KT8.out (qAK (Below.refl _ _)))
    have X9:=zA (hwd▸qAL X8.out)
    clear hwd R8 W8 Q8 KT8 X8
    refine pU 0 96 ?_
    refine pU 1 97 ?_
    refine pU 2 98 ?_
    refine pU 3 99 ?_
    refine tK 4 100 hHeld ?_
    refine tK 5 101 hHeld ?_
    refine one_ (i:=6) (N:=some 102) #[qT,qT,qT,qT,qT,qT,qT,qF,qF,qF,qF] rfl rfl (by kernel_rfl) (by decide) (fun K hK => ?_)
    refine qCL (w1 := ?_) (v := ?_) (by rfl) rfl ?_ ?_
    rotate_left 2
    ·go_simp
     constructor
     ·rfl
     ·rfl
    refine hK.out _ _ ⟨(qAB (qAP R9.out _) 3).trans rfl,(qAB (qAP X9.out _) 0).trans rfl,(qAB (qAP X9.out _) 1).trans rfl,(qAB (qAP X9.out _) 2).trans rfl,(qAB (qAP X9.out _) 3).trans rfl,(qAB (qAP X9.out _) 4).trans rfl,(qAB (qAP X9.out _) 5).trans rfl⟩ (fun hHeld => ?_)
    clear hK K
    refine qA3 (a' := ?_) ?_ ?_
    rotate_left
    ·show Act.put _ (some 102) _=_
     simp only [Act.put,qs1,qs2,qs3,qAZ,qAb]
     rfl
    refine one_ (i:=7) (N:=some 103) #[qT,qT,qT,qT,qT,qT,qT,qT,qF,qF,qF] rfl rfl (by kernel_rfl) (by decide) (fun K hK => ?_)
    refine Kd.qBO sa.ke (w0:=w0) w0.heap.size (by rfl) (.tmp 100) (.tmp 102) 22 51 (.agg #[.string ⟨#[]⟩,.int .i64 0,.int .i64 0,.string ⟨#[]⟩,.slice none 0 0,.slice none 0 0]) 96 rfl Try.underlying22 info51 rfl (by decide) (by omega) _ l ⟨s,x⟩ [.string s,.int .i64 x.f0,.int .i64 x.f1,.string x.f2,.slice A3 x.f3.length c3,.slice A4 x.f4.length c4] (fun k=>k ≠ g) (fun k=>wd2.heap.size≤k) rfl rfl ?aM ?aF ?aN ?aO ?aB ?aS ?aL ?_
    (case aM=>exact sa.ke_M KT9.out)
    (case aF=>exact fun k hk=>⟨by have:=HG2d.out;omega,fun e=>by have:=HOB.out k e.symm;omega⟩)
    (case aN=>exact fun k hk=>by have:=qAe (show wd8.heap[g]?=some _ from R9.out);omega)
    (case aO=>exact Q9.out)
    (case aB=>exact W9.out)
    (case aS=>exact W9.out.size)
    (case aL=>have:=HLL.out;omega)
    intro v11 w11 hr hb hg hat
    obtain ⟨A11,c11,e11⟩:=Kd.qA0 hr
    subst e11
    rw [show (l ++ [(⟨s,x⟩:S51)]).length=l.length+1 from by simp] at hr
    have R11:=zA (qA1 R9.out hg (Kd.R_away Q9.out (fun _ hk=>hk)))
    have X11:=zA (qA1 X9.out hg (fun e=>by have:=HOB.out gx e.symm;have:=HGX2.out;omega))
    have Q11:=zA hr
    have W11:=zA hb
    clear hr hb hg hat
    have s3:=(qAB R11.out 3).trans rfl
    have s3f:=qAC R11.out 3
    refine hK.out _ _ ⟨(qAB R11.out 3).trans rfl,(qAB X11.out 0).trans rfl,(qAB X11.out 1).trans rfl,(qAB X11.out 2).trans rfl,(qAB X11.out 3).trans rfl,(qAB X11.out 4).trans rfl,(qAB X11.out 5).trans rfl⟩ (fun hHeld => ?_)
    clear hK K
    refine qA3 (a' := ?_) ?_ ?_
    rotate_left
    ·show Act.put _ (some 103) _=_
     simp only [Act.put,qs1,qs2,qs3,qAZ,qAb]
     rfl
    refine pU 8 104 ?_
    refine pU 9 105 ?_
    refine last_ (i:=10) (N:=none) #[qT,qT,qT,qT,qT,qT,qT,qT,qT,qT,qT] rfl rfl (by kernel_rfl) (by decide) (fun K hK => ?_)
    refine skip_ (w1 := ?_) (by rfl) rfl ?_ ?_
    rotate_left
    ·go_simp
     rfl
    clear s3 s3f
    refine hK.out _ _ ?_
    clear hK K
    refine qBL (by kernel_rfl) ?_
    have R12:=zA (show sa.RB7 (w11.setCell ⟨g,3,none⟩ (.slice A11 (l.length+1) c11)) g B bs.length cb at_ (all+hw) (.slice A11 (l.length+1) c11) from qAy R11.out 3 _ rfl)
    have W12:=zA (show Below w0.heap.size w0 (w11.setCell ⟨g,3,none⟩ (.slice A11 (l.length+1) c11)) from qAQ W11.out HG.out)
    have Q12:=zA (Kd.R_far Q11.out (p:=⟨g,3,none⟩) (fun k hk=>hk) (.slice A11 (l.length+1) c11))
    generalize w11.setCell ⟨g,3,none⟩ (.slice A11 (l.length+1) c11)=w12 at *
    have z1:w12.cell? ⟨g,1,none⟩=some (.int .i64 at_):=(qAB R12.out 1).trans rfl
    have z1f:=qAC R12.out 1
    go_wp2
    go_ret2
    exact ⟨rfl,qAQ W12.out HG.out,_,qAy R12.out 1 _ rfl,Kd.R_far Q12.out (p:=⟨g,1,none⟩) (fun k hk=>hk) _⟩
end
section
set_option maxHeartbeats 4000000
set_option maxRecDepth 100000
open Go.Proofs.Ytdommiicjpjfpaa Go.Proofs.Ytdommiicjpjfpaa.Pl
def sa.decL (bs:List Int):Nat→Int→Int→List S51→sa.R3 (List S51)
 | 0,a,all,l=>.ok l a all
 | k+1,a,all,l=>match sa.entF bs a all l with
  | .bad c p=>.bad c p
  | .ok l2 a2 all2=>sa.decL bs k a2 all2 l2
def sa.decF (bs:List Int):Int × Int × List S51 :=
 if (bs.length:Int) < 4 ∨ bs.take 4 ≠ [83,83,84,49] then (71,0,[])
 else if (qAd bs 4).2.2 ≠ 0 then (71,4,[])
 else if (qAd bs 4).1 > 128 then (70,4,[])
 else match sa.decL bs (qAd bs 4).1.toNat (qAd bs 4).2.1 0 [] with
  | .bad c p=>(c,p,[])
  | .ok l a _=>if a < (bs.length:Int) then (72,a,[]) else (0,0,l)
theorem sa.entF_ok {bs:List Int} {a all:Int} {l l2:List S51} {a2 all2:Int} (h0:0≤all) (h:sa.entF bs a all l=.ok l2 a2 all2):l2.length=l.length+1∧0≤all2∧all2≤32768:=by
 unfold sa.entF at h
 split at h
 ·cases h
 split at h
 ·cases h
 split at h
 ·cases h
 ·split at h
  ·cases h
  ·rename_i hq
   injection h with e1 e2 e3
   subst e1
   refine ⟨by simp, ?_,by omega⟩
   have:(0:Int)≤sa.hv ⟨(qBX bs a 32).1,‹S34›⟩:=by unfold sa.hv;omega
   omega
def sa.DecT (c p:Int) (l:List S51) (w:World) (e:Ending) (w':World):Prop:=Below w.heap.size w w'∧∃ v,e=.returned (.tuple #[v,.int .i64 p,.int .i64 c])∧sa.ke.R 51 w' w.heap.size (fun _=>True) v l
theorem sa.qBY {c p:Int} {w w':World} {e:Ending} (he:e=.returned (.tuple #[.slice none 0 0,.int .i64 p,.int .i64 c])) (hb:Below w.heap.size w w'):sa.DecT c p [] w e w':=⟨hb,_,he,Kd.qA7 _ _ _ _ _⟩
set_option maxHeartbeats 16000000 in
theorem sa.dec22 {bs:List Int} (hb:Bytes bs) (hl:bs.length≤140737488351232) {w:World} {A:Option Addr} {c:Nat} (hC:(Kd.int .u8).C w A bs.length bs) (hc:bs.length≤c) :
  Calls Try.prog 22 #[.slice A bs.length c] w (sa.DecT (sa.decF bs).1 (sa.decF bs).2.1 (sa.decF bs).2.2 w):=by
 have hu75:=Try.underlying75
 have hu44:=Try.underlying44
 have HCC:=zA (fun (W:World) (hb2:Below w.heap.size w W)=>Kd.qAc hC hb2)
 have HUC:=zA (fun (W:World) (hb2:Below w.heap.size w W)=>qAq.calls 24 A c bs 4 (qAd bs 4).1 (qAd bs 4).2.1 (qAd bs 4).2.2 W (Kd.qAc hC hb2) hc (by rw [Uint_eq 24 (Nat.le_refl _) bs hb (by omega) 4]))
 have HUR:=zA (qA9 bs hb 4)
 have HE:=zA (fun (W:World) (g:Nat) (at_ all:Int) (vl:Value) (l:List S51) (hg:w.heap.size≤g) (hW:Below w.heap.size w W) (hR:sa.RB7 W g A bs.length c at_ all vl) (hO:sa.ke.R 51 W w.heap.size (fun k=>k ≠ g) vl l) (hal:0≤all∧all≤32768) (hll:l.length≤1000)=>sa.entry41 hb hl hC hc hg hW hR hO hal hll)
 have HLE:=zA hl
 have HCL:=zA hc
 have HB:=zA hb
 unfold sa.decF
 by_cases h4:(bs.length:Int) < 4
 ·rw [if_pos (Or.inl h4)]
  have i1:decide ((bs.length:Int) < 4)=true:=zT h4
  have i2:decide (bs.length < 4)=true:=zT (by omega)
  clear h4 hb hl hC hc
  go_enter Try.func22,Try.ntmps22
  go_wp2
  refine bodyPost_ret (results_tmp3 rfl _ _ _) rfl ?_
  exact sa.qBY rfl (Below.refl _ _)
 have i1:decide ((bs.length:Int) < 4)=false:=zF h4
 have i2:decide (bs.length < 4)=false:=zF (by omega)
 have ht4:(bs.take 4).length=4:=by rw [List.length_take];omega
 obtain ⟨i0,hi0,_,_,_⟩:=info_parts (show (Try.prog.info? 5).map (fun i=>(i.zero,i.size,i.bytes))=some (some (.int .u8 0),1,1) by kernel_rfl)
 have CUT:=cut_to (P:=Try.prog) 44 5 .i64 Try.underlying44 hi0 A bs.length c 4 (by omega) (by omega) hc
 have CV:=Kd.qB8 (P:=Try.prog) (c:=c) Try.underlying44 Try.underlying5 Try.underlying9 (Kd.C_take hC (m:=4) (by omega))
 rw [ht4] at CV
 have hmg:strOfNums [83,83,84,49]=⟨#[83,83,84,49]⟩:=by rfl
 clear h4 hC hc
 by_cases hm:bs.take 4=[83,83,84,49]
 case neg =>
  rw [if_pos (Or.inr hm)]
  have hne:strOfNums (bs.take 4) ≠ (⟨#[83,83,84,49]⟩:ByteArray):=fun h=>hm (str_inj (fun z hz=>hb z (List.mem_of_mem_take hz)) (qBz (by decide) (by decide) (qBz (by decide) (by decide) (qBz (by decide) (by decide) (qBz (by decide) (by decide) Bytes.nil)))) (h.trans hmg.symm))
  generalize strOfNums (bs.take 4)=s1 at CV hne
  have j1:(s1.toList == [83,83,84,49])=false:=by simpa using fun h=>hne (toList_inj (h.trans (by rw [ByteArray.toList_eq])))
  have j2:(s1.toList != [83,83,84,49])=true:=by simpa using fun h=>hne (toList_inj (h.trans (by rw [ByteArray.toList_eq])))
  clear hm hne hb hl hmg
  go_enter Try.func22,Try.ntmps22
  go_wp2
  refine bodyPost_ret (results_tmp3 rfl _ _ _) rfl ?_
  exact sa.qBY rfl (Below.refl _ _)
 rw [hm,hmg] at CV
 rw [if_neg (by
   rintro (h | h);· simp only [decide_eq_false_iff_not] at i1;exact i1 h
   ·exact h hm)]
 clear hm hmg hb hl
 have hUO:=fun h=>qBb bs HB.out 4 h
 generalize qAd bs 4=u at *
 obtain ⟨n1,nx,e1⟩:=u
 dsimp only
 dsimp only at HUC HUR hUO
 by_cases h1:e1 ≠ 0
 ·rw [if_pos h1]
  have d1:(e1 != 0)=true:=bne_iff_ne.2 h1
  have d2:(e1 == 0)=false:=beq_eq_false_iff_ne.2 h1
  have d3:decide (e1=0)=false:=zF h1
  clear h1 hUO
  go_enter Try.func22,Try.ntmps22
  go_wp2_with (first | (go_at_call 40;refine (HUC.out _ (Below.refl _ _)).mono ?_;rintro e_ w2 ⟨rfl,hd⟩;have B2:=zA hd.below;clear hd))
  refine bodyPost_ret (results_tmp3 rfl _ _ _) rfl ?_
  exact sa.qBY rfl B2.out
 rw [if_neg h1]
 have he1:e1=0:=Classical.byContradiction h1
 subst he1
 have HUO:=zA (hUO rfl)
 clear h1 hUO
 by_cases h2:n1 > 128
 ·rw [if_pos h2]
  have d1:decide (n1 > 128)=true:=zT h2
  have d2:decide (128 < n1)=true:=zT h2
  clear h2
  go_enter Try.func22,Try.ntmps22
  go_wp2_with (first | (go_at_call 40;refine (HUC.out _ (Below.refl _ _)).mono ?_;rintro e_ w2 ⟨rfl,hd⟩;have B2:=zA hd.below;clear hd))
  refine bodyPost_ret (results_tmp3 rfl _ _ _) rfl ?_
  exact sa.qBY rfl B2.out
 rw [if_neg h2]
 have d1:decide (n1 > 128)=false:=zF h2
 have d2:decide (128 < n1)=false:=zF h2
 obtain ⟨n,rfl⟩:∃ n:Nat,n1=(n:Int):=⟨n1.toNat,by have:=HUR.out.1;omega⟩
 have hn:n≤128:=by omega
 have hwn:wrap64 (n:Int)=(n:Int):=by unfold wrap64;omega
 have hwn2:IntKind.i64.wrap (n:Int)=(n:Int):=(qAZ _).trans hwn
 have HN:=zA hn
 rw [Int.toNat_natCast]
 generalize hRR:sa.decL bs n nx 0 []=r
 have HRR:=zA hRR
 clear h2 hn hRR
 go_enter Try.func22,Try.ntmps22
 go_wp2_with (first | (go_at_call 40;refine (HUC.out _ (Below.refl _ _)).mono ?_;rintro e_ w2 ⟨rfl,hd⟩;have B2:=zA hd.below;clear hd) | ((with_reducible refine qAl (N:=33) rfl ?_);refine qAg ?hg (N:=33) ?hd (cs:=#[.slice A bs.length c,.int .i64 nx,.int .i64 0,.slice none 0 0]) (t:=75) ?hr ?_;(case hd=>rfl);(case hg=>rfl);(case hr=>first | (go_simp;done) | (go_simp;rfl));intro g hg w3 hbox hb1;have R3:=zA (show sa.RB7 w3 g A bs.length c nx 0 (.slice none 0 0) from hbox);have B3:=zA (qAO B2.out hb1);have HG:=zA (show w.heap.size≤g from by rw [hg];exact B2.out.size);clear hbox hb1 hg))
 go_loopw [36] (fun v36 wr=>∃ (j:Nat) (at_ all:Int) (l:List S51) (vl:Value),v36=.int .i64 (j:Int)∧qAA (j≤n∧sa.decL bs (n - j) at_ all l=r∧l.length=j∧0≤all∧all≤32768)∧qAA (sa.RB7 wr g A bs.length c at_ all vl)∧qAA (sa.ke.R 51 wr w.heap.size (fun k=>k ≠ g) vl l)∧qAA (Below w.heap.size w wr)) (fun v36 _=>n - (intOf v36).toNat)
 case atStart=>exact ⟨0,nx,0,[],.slice none 0 0,rfl,⟨Nat.zero_le _,HRR.out,rfl,by omega,by omega⟩,R3,⟨Kd.qA7 _ _ _ _ _⟩,B3⟩
 case round =>
  clear R3 B3
  obtain ⟨j,at_,all,l,vl,rfl,HJ,HR,HO,HW⟩:=hrel
  by_cases hlt:j < n
  ·have k1:decide ((j:Int) < (n:Int))=true:=zT (by omega)
   have k2:decide (j < n)=true:=zT hlt
   have k3:(j < n)=True:=eq_true hlt
   have hw1:wrap64 ((j:Int)+1)=(j:Int)+1:=by have:=HN.out;unfold wrap64;omega
   have HWR:=zA hw1
   have hdl:sa.decL bs (n - j) at_ all l=match sa.entF bs at_ all l with
    | .bad c p=>.bad c p
    | .ok l2 a2 all2=>sa.decL bs (n - (j+1)) a2 all2 l2:=by
    rw [show n - j=(n - (j+1))+1 by omega]
    rfl
   have ET:=zA (HE.out wr g at_ all vl l HG.out HW.out HR.out HO.out ⟨HJ.out.2.2.2.1,HJ.out.2.2.2.2⟩ (by have:=HJ.out.2.2.1;have:=HN.out;omega))
   rcases hr:sa.entF bs at_ all l with ⟨l2,a2,all2⟩ | ⟨cc,pp⟩
   ·rw [hr] at ET hdl
    dsimp only at hdl
    have HDL:=zA (hdl.symm.trans HJ.out.2.1)
    have HOK:=zA (sa.entF_ok HJ.out.2.2.2.1 hr)
    have HLT:=zA hlt
    have ETO:=zA (show Calls Try.prog 41 #[.pointer (some ⟨g,0,none⟩)] wr (fun e w'=>e=.returned (.tuple #[.int .i64 0,.int .i64 0])∧Below w.heap.size w w'∧∃ vl,sa.RB7 w' g A bs.length c a2 all2 vl∧sa.ke.R 51 w' w.heap.size (fun k=>k ≠ g) vl l2) from ET.out)
    clear hr hdl hlt ET
    go_wp2_with (first | (go_at_call 41;refine ETO.out.mono ?_;rintro e_ w5 ⟨rfl,hb5,vl5,hr5,ho5⟩;have W5:=zA hb5;have R5:=zA hr5;have O5:=zA ho5;clear hb5 hr5 ho5))
    go_roundw
    case rel=>exact ⟨j+1,a2,all2,l2,vl5,by rw [HWR.out];rfl,⟨by have:=HLT.out;omega,HDL.out,by have:=HOK.out.1;have:=HJ.out.2.2.1;omega,HOK.out.2.1,HOK.out.2.2⟩,R5,O5,W5⟩
    case measure =>
     rw [HWR.out]
     show n - ((j:Int)+1).toNat < n - ((j:Int)).toNat
     have:=HLT.out
     omega
   ·rw [hr] at ET hdl
    dsimp only at hdl
    have hrr:=HJ.out.2.1.symm.trans hdl
    have hcc:cc ≠ 0:=by
     have h:=hr
     unfold sa.entF at h
     split at h
     ·injection h with h _;omega
     split at h
     ·injection h with h _;omega
     split at h
     ·injection h with h _;omega
     ·split at h
      ·injection h with h _;omega
      ·cases h
    have d3:(cc != 0)=true:=bne_iff_ne.2 hcc
    have d4:(cc == 0)=false:=beq_eq_false_iff_ne.2 hcc
    have d5:decide (cc=0)=false:=zF hcc
    have ETB:=zA (show Calls Try.prog 41 #[.pointer (some ⟨g,0,none⟩)] wr (fun e w'=>e=.returned (.tuple #[.int .i64 pp,.int .i64 cc])∧Below w.heap.size w w') from ET.out)
    subst hrr
    try dsimp only
    clear hr hdl hlt ET hcc HRR HJ
    go_wp2_with (first | (go_at_call 41;refine ETB.out.mono ?_;rintro e_ w5 ⟨rfl,hb5⟩;have W5:=zA hb5;clear hb5))
    refine bodyPost_ret (results_tmp3 rfl _ _ _) rfl ?_
    exact sa.qBY rfl W5.out
  ·obtain rfl:j=n:=by have:=HJ.out.1;omega
   have k1:decide ((j:Int) < (j:Int))=false:=zF (by omega)
   have k2:decide (j < j)=false:=zF (by omega)
   have hrr:sa.R3.ok l at_ all=r:=by have h:=HJ.out.2.1;rw [Nat.sub_self] at h;exact h
   subst hrr
   try dsimp only
   clear hlt HRR
   have z1:wr.cell? ⟨g,1,none⟩=some (.int .i64 at_):=(qAB HR.out 1).trans rfl
   have z3:wr.cell? ⟨g,3,none⟩=some vl:=(qAB HR.out 3).trans rfl
   by_cases hend:at_ < (bs.length:Int)
   ·have k5:decide (at_ < (bs.length:Int))=true:=zT hend
    have k6:(at_ < (bs.length:Int))=True:=eq_true hend
    go_wp2
    clear z1 z3
    refine qAz (n:=7) (S:=fun w'=>w'.cell? ⟨g,1,none⟩=some (.int .i64 at_)) (ds:=[]) #[qF,qF,qF,qF,qF,qF,qF] (by kernel_rfl) rfl rfl ((qAB (show wr.drew.heap[g]?=_ from HR.out) 1).trans rfl) (fun hHeld => ?_)
    generalize hwd:wr.drew=wd at hHeld ⊢
    have Wd:=zA (hwd▸qAK HW.out)
    clear hwd
    refine pU 0 55 ?_
    refine pU 1 56 ?_
    refine pU 2 57 ?_
    refine pU 4 2 ?_
    refine tK 3 58 hHeld ?_
    refine pU 5 3 ?_
    refine pU 6 4 ?_
    refine qBL (by kernel_rfl) ?_
    go_wp2
    refine bodyPost_ret (results_tmp3 rfl _ _ _) rfl ?_
    dsimp only
    exact sa.qBY rfl Wd.out
   ·have k5:decide (at_ < (bs.length:Int))=false:=zF hend
    have k6:(at_ < (bs.length:Int))=False:=eq_false hend
    go_wp2
    refine bodyPost_ret (results_tmp3 rfl _ _ _) rfl ?_
    dsimp only
    exact ⟨HW.out,_,rfl,Kd.qBi HO.out (fun _ _=>trivial)⟩
end
end Go.Proofs.Ytdommiicjpjfpaa.X
