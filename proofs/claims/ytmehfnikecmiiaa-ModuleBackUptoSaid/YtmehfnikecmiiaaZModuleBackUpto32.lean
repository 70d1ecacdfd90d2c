import Derived.Test.YtmehfnikecmiiaaZModuleBackUpto3
import Derived.Test.YtmehfnikecmiiaaZModuleBackUpto2
import Derived.WalkLawsBesides
import Derived.Laws.Pointers
import Derived.Shelf.Abstract
import Derived.Deep.DeepMust
import Derived.Deep.QuietTactic
import Derived.BigQuiet
import Derived.ChangeArms
import Derived.Laws.EntriesVeiled
import Derived.Test.YtmehfnikecmiiaaZModuleBackUpto31
import Derived.Test.YtmehfnikecmiiaaZModuleBackUpto4
import Derived.Test.YtmehfnikecmiiaaZModuleBackUpto30
import Derived.Deep.Upon
import Derived.ArgAppend
import Derived.Lib.SlBytesConst
import Derived.Test.YtmehfnikecmiiaaZModuleBackUpto29
import Derived.Laws.Rows
import Derived.Test.YtmehfnikecmiiaaZModuleBackUpto25
set_option linter.unusedVariables false
set_option linter.unusedSimpArgs false
namespace Go.Proofs.Ytmehfnikecmiiaa.X
open Go.RowKit Go.Proofs.YtmehfnikecmiiaaW.PrintWords Go.Proofs.YtmehfnikecmiiaaW.PrintLast Go.Proofs.YtmehfnikecmiiaaW.PrintMore Go.Proofs.YtmehfnikecmiiaaW
section
set_option maxHeartbeats 1000000
set_option maxRecDepth 100000
open Go.Proofs.Ytmehfnikecmiiaa Go.Proofs.Ytmehfnikecmiiaa.Pl
theorem mb.qB8 {bs:List Int} {k i:Nat} {s:mb.RS} (h:(mb.qBR i bs s).c ≠ 0):mb.qBp bs (k+1) i s=mb.qBR i bs s:=by
 show (if (mb.qBR i bs s).c ≠ 0 then _ else _)=_
 rw [if_pos h]
theorem mb.rest_eq {bs:List Int} {k i:Nat} {s:mb.RS} (h:(mb.qBR i bs s).c=0):mb.qBp bs (k+1) i s=mb.qBp bs k (i+1) (mb.qBR i bs s):=by
 show (if (mb.qBR i bs s).c ≠ 0 then _ else _)=_
 rw [if_neg (fun q=>q h)]
theorem mb.faS_ne {s:mb.RS} (e:Int) (h:s.c ≠ 0):mb.faS s e=s:=by
 unfold mb.faS
 rw [mb.flC_n e h,mb.flD_n s.d s.a h]
set_option maxHeartbeats 16000000 in
theorem mb.all42 {bs:List Int} (hb:Bytes bs) (hl:bs.length≤140737488351232) {w0 W:World} {g:Nat} {B A:Option Addr} {n cb ca:Nat} {s:mb.RS} (h:mb.RMS w0 W g B n cb s) (hC:(Kd.int .u8).C w0 A bs.length bs) (hca:bs.length≤ca) (hs:s.c=0) (hi:mb.In bs.length s) (hn:mb.Ln 0 s) :
  Calls Try.prog 42 #[.pointer (some ⟨g,0,none⟩),.slice A bs.length ca] W fun en W'=>en=.returned (.tuple #[])∧∃ B2 n2 c2,mb.RMS w0 W' g B2 n2 c2 (mb.qBp bs 3 0 s):=by
 have hu69:=Try.underlying69
 have hu87:=Try.underlying87
 have hu88:=Try.underlying88
 have hu29:=Try.underlying29
 obtain ⟨i0,hi0,_,_,_⟩:=info_parts (show (Try.prog.info? 5).map (fun i=>(i.zero,i.size,i.bytes))=some (some (.int .u8 0),1,1) by kernel_rfl)
 have CUT:=qAA.mk (fun (j:Int) (h0:0≤j) (h1:j≤bs.length)=>cut_to (P:=Try.prog) 29 5 .i64 Try.underlying29 hi0 A bs.length ca j h0 h1 hca)
 have HB:=qAA.mk hb
 have HL:=qAA.mk hl
 have HC:=qAA.mk hC
 have HCA:=qAA.mk hca
 have H:=qAA.mk h
 have HS:=qAA.mk hs
 have HI:=qAA.mk hi
 have HN:=qAA.mk hn
 obtain ⟨r,hr⟩:∃ r,r=mb.qBp bs 3 0 s:=⟨_,rfl⟩
 rw [← hr]
 have HR:=qAA.mk hr
 clear hb hl hC hca h hs hi hn hr hi0
 go_enter Try.func42,Try.ntmps42
 go_step3
 go_wp2
 go_step3
 go_wp2
 have HA:=qAA.mk (H.out.below (qAH (Below.refl W.heap.size W) (.cells #[(.int .u64 100),(.func (.func 56) #[] #[]),(.int .u64 24),(.func (.func 57) #[] #[]),(.int .u64 24),(.func (.func 58) #[] #[])] 87)))
 have SA:=qAA.mk (show (W.alloc (.cells #[(.int .u64 100),(.func (.func 56) #[] #[]),(.int .u64 24),(.func (.func 57) #[] #[]),(.int .u64 24),(.func (.func 58) #[] #[])] 87)).heap[W.heap.size]?=some (.cells #[(.int .u64 100),(.func (.func 56) #[] #[]),(.int .u64 24),(.func (.func 57) #[] #[]),(.int .u64 24),(.func (.func 58) #[] #[])] 87 (0,0)) from by simpa using heap_alloc_new W _)
 generalize W.alloc (.cells #[(.int .u64 100),(.func (.func 56) #[] #[]),(.int .u64 24),(.func (.func 57) #[] #[]),(.int .u64 24),(.func (.func 58) #[] #[])] 87)=WA at *
 generalize W.heap.size=sb at *
 go_loopw [15] (fun v15 wr=>∃ (i:Nat) (s1:mb.RS) (B1:Option Addr) (n1 cb1:Nat),v15=.int .i64 (i:Int)∧qAA (i≤3∧s1.c=0∧r=mb.qBp bs (3 - i) i s1∧mb.In bs.length s1∧mb.Ln (100 * i) s1)∧qAA (mb.RMS w0 wr g B1 n1 cb1 s1)∧qAA (wr.heap[sb]?=some (.cells #[(.int .u64 100),(.func (.func 56) #[] #[]),(.int .u64 24),(.func (.func 57) #[] #[]),(.int .u64 24),(.func (.func 58) #[] #[])] 87 (0,0)))) (fun v15 _=>3 - (intOf v15).toNat)
 case atStart=>exact ⟨0,s,B,n,cb,rfl,⟨Nat.zero_le _,HS.out,HR.out,HI.out,HN.out⟩,HA,SA⟩
 case round =>
  clear HA SA H HS HI HN HR
  obtain ⟨i,s1,B1,n1,cb1,hv,H0,H1,S1⟩:=hrel
  obtain hi | hi | hi | hi:i=3 ∨ i=0 ∨ i=1 ∨ i=2:=by have:=H0.out.1;omega
  ·subst hi
   rw [show ((3:Nat):Int)=3 from rfl] at hv
   subst hv
   obtain ⟨_,z1,_⟩:=H1.out.cell
   have HR:=qAA.mk H0.out.2.2.1
   by_cases hlt:s1.a < (bs.length:Int)
   ·have k1:decide (s1.a < (bs.length:Int))=true:=decide_eq_true hlt
    have e1:=qAA.mk (show r=mb.faS s1 93 from HR.out.trans (if_pos hlt))
    clear hlt
    go_wp2_with (first | (go_at_call 61;refine (mb.fai H1.out 93).mono ?_;rintro e_ w9 ⟨rfl,hr,hf⟩;have H9:=qAA.mk hr;clear hr hf))
    (first | rw [Exit.noGoto_normal] | rw [Exit.noGoto_ret] | skip)
    first | go_end0 | ((try simp only [Exit.inBlock,Exit.then,Exit.noGoto]);refine bodyPost_ret (results_none rfl _ _ _) rfl ?_)
    rw [e1.out]
    exact ⟨rfl,_,_,_,H9.out⟩
   ·have k1:decide (s1.a < (bs.length:Int))=false:=decide_eq_false hlt
    have e1:=qAA.mk (show r=s1 from HR.out.trans (if_neg hlt))
    clear hlt
    go_wp2
    (first | rw [Exit.noGoto_normal] | rw [Exit.noGoto_ret] | skip)
    first | go_end0 | ((try simp only [Exit.inBlock,Exit.then,Exit.noGoto]);refine bodyPost_ret (results_none rfl _ _ _) rfl ?_)
    rw [e1.out]
    exact ⟨rfl,_,_,_,H1.out⟩
  ·subst hi
   rw [show ((0:Nat):Int)=0 from rfl] at hv
   subst hv
   have HR:=qAA.mk (show r=mb.qBp bs (2+1) 0 s1 from H0.out.2.2.1)
   have OI:=qAA.mk (mb.op_in HB.out 0 H0.out.2.2.2.1)
   have c0:wr.cell? ⟨sb,0,none⟩=some (.int .u64 100):=(qAB S1.out 0).trans rfl
   have c1:wr.cell? ⟨sb,1,none⟩=some (.func (.func 56) #[] #[]):=(qAB S1.out 1).trans rfl
   have H2:=qAA.mk (H1.out.below (qAH (Below.refl wr.heap.size wr) (.cells #[(.int .u64 100),(.func (.func 56) #[] #[])] 87)))
   have S2:=qAA.mk ((mb.FrS.of_below (qAH (Below.refl wr.heap.size wr) (.cells #[(.int .u64 100),(.func (.func 56) #[] #[])] 87))).2 sb _ S1.out)
   have X2:=qAA.mk (show (wr.alloc (.cells #[(.int .u64 100),(.func (.func 56) #[] #[])] 87)).heap[wr.heap.size]?=some (.cells #[(.int .u64 100),(.func (.func 56) #[] #[])] 87 (0,0)) from by simpa using heap_alloc_new wr _)
   have OC:=qAA.mk (mb.opn 0 HB.out HL.out H2.out HC.out HCA.out H0.out.2.2.2.1 1 (by rfl))
   have RD:=qAA.mk (show mb.qBR 0 bs s1=if (mb.opS 0 bs s1).c ≠ 0 then mb.opS 0 bs s1 else (if (mb.secF 0 (bs.take (mb.opE 0 bs s1).toNat) (mb.nuN 0 (bs.take (mb.opE 0 bs s1).toNat) (mb.opS 0 bs s1)).toNat (mb.nuS 0 (bs.take (mb.opE 0 bs s1).toNat) (mb.opS 0 bs s1))).c ≠ 0 then mb.secF 0 (bs.take (mb.opE 0 bs s1).toNat) (mb.nuN 0 (bs.take (mb.opE 0 bs s1).toNat) (mb.opS 0 bs s1)).toNat (mb.nuS 0 (bs.take (mb.opE 0 bs s1).toNat) (mb.opS 0 bs s1)) else if (mb.secF 0 (bs.take (mb.opE 0 bs s1).toNat) (mb.nuN 0 (bs.take (mb.opE 0 bs s1).toNat) (mb.opS 0 bs s1)).toNat (mb.nuS 0 (bs.take (mb.opE 0 bs s1).toNat) (mb.opS 0 bs s1))).a ≠ mb.opE 0 bs s1 then mb.faS (mb.secF 0 (bs.take (mb.opE 0 bs s1).toNat) (mb.nuN 0 (bs.take (mb.opE 0 bs s1).toNat) (mb.opS 0 bs s1)).toNat (mb.nuS 0 (bs.take (mb.opE 0 bs s1).toNat) (mb.opS 0 bs s1))) 91 else mb.secF 0 (bs.take (mb.opE 0 bs s1).toNat) (mb.nuN 0 (bs.take (mb.opE 0 bs s1).toNat) (mb.opS 0 bs s1)).toNat (mb.nuS 0 (bs.take (mb.opE 0 bs s1).toNat) (mb.opS 0 bs s1))) from rfl)
   have LN1:=qAA.mk (show mb.Ln (100 * 0) (mb.opS 0 bs s1) from H0.out.2.2.2.2)
   clear H1 S1
   generalize mb.opE 0 bs s1=eO at *
   generalize mb.opS 0 bs s1=sO at *
   generalize hrr:mb.qBR 0 bs s1=rr at RD
   have HRR:=qAA.mk hrr
   clear hrr
   by_cases hop:sO.c ≠ 0
   ·have e1:=qAA.mk (show r=sO from HR.out.trans (by rw [mb.qB8 (by rw [HRR.out,RD.out,if_pos hop];exact hop),HRR.out,RD.out,if_pos hop]))
    have d1:(sO.c != 0)=true:=bne_iff_ne.2 hop
    have d2:(sO.c == 0)=false:=beq_eq_false_iff_ne.2 hop
    have d3:decide (sO.c=0)=false:=decide_eq_false hop
    clear hop
    go_wp2_with (first | (go_at_call 59;refine OC.out.mono ?_;rintro e_ w3 ⟨rfl,hr,hf⟩;have H3:=qAA.mk hr;have S3:=qAA.mk (hf.2 sb _ S2.out);have X3:=qAA.mk (hf.2 _ _ X2.out);obtain ⟨z0,_,z2,_,zf⟩:=H3.out.cell;have zf0:=zf 0;clear hr hf zf))
    (first | rw [Exit.noGoto_normal] | rw [Exit.noGoto_ret] | skip)
    first | go_end0 | ((try simp only [Exit.inBlock,Exit.then,Exit.noGoto]);refine bodyPost_ret (results_none rfl _ _ _) rfl ?_)
    rw [e1.out]
    exact ⟨rfl,_,_,_,H3.out⟩
   have hop0:sO.c=0:=Classical.byContradiction hop
   have RD:=qAA.mk (RD.out.trans (if_neg hop))
   have d1:(sO.c != 0)=false:=by rw [hop0];rfl
   have d2:(sO.c == 0)=true:=by rw [hop0];rfl
   have d3:decide (sO.c=0)=true:=by rw [hop0];rfl
   clear hop hop0
   obtain ⟨e,he⟩:∃ e:Nat,eO=(e:Int):=⟨eO.toNat,by have:=OI.out.1.1;omega⟩
   subst he
   have hel:e≤bs.length:=by have:=OI.out.1.2;omega
   have hCE:=Kd.C_take HC.out (m:=e) hel
   have hBE:Bytes (bs.take e):=HB.out.take e
   have hEL:(bs.take e).length=e:=by rw [List.length_take];omega
   rw [Int.toNat_natCast] at RD
   generalize bs.take e=bE at *
   subst hEL
   have CU:=CUT.out (bE.length:Int) (by omega) (by omega)
   rw [Int.toNat_natCast] at CU
   have HEL:=qAA.mk hel
   have HCE:=qAA.mk hCE
   have HBE:=qAA.mk hBE
   have HLE:=qAA.mk (show bE.length≤140737488351232 from by have:=HL.out;omega)
   have HCAE:=qAA.mk (show bE.length≤ca from by have:=HCA.out;omega)
   have NI:=qAA.mk (mb.nu_in hBE hel 0 OI.out.2)
   have NC:=qAA.mk (fun (W1:World) (h:mb.RMS w0 W1 g A bE.length ca sO)=>mb.nmb 0 HBE.out HLE.out h HCE.out HCAE.out 100 (by rfl))
   have LN1:=qAA.mk (show mb.Ln (100 * 0) (mb.nuS 0 bE sO) from LN1.out)
   clear hel hCE hBE
   obtain ⟨k,hk⟩:∃ k:Nat,mb.nuN 0 bE sO=(k:Int):=⟨(mb.nuN 0 bE sO).toNat,by have:=NI.out.1.1;omega⟩
   rw [hk] at NI RD
   simp only [hk] at NC
   clear hk
   rw [Int.toNat_natCast] at RD
   generalize mb.nuS 0 bE sO=sN at *
   obtain ⟨sF,hsF⟩:∃ sF,sF=mb.secF 0 bE k sN:=⟨_,rfl⟩
   rw [← hsF] at RD
   have HSF:=qAA.mk hsF
   clear hsF
   go_wp2_with (first | (go_at_call 59;refine OC.out.mono ?_;rintro e_ w3 ⟨rfl,hr,hf⟩;have H3:=qAA.mk hr;have S3:=qAA.mk (hf.2 sb _ S2.out);have X3:=qAA.mk (hf.2 _ _ X2.out);obtain ⟨z0,_,z2,_,zf⟩:=H3.out.cell;have zf0:=zf 0;clear hr hf zf;have H4:=qAA.mk (H3.out.setb A bE.length ca);have S4:=qAA.mk ((H3.out.frb (.slice A bE.length ca)).2 sb _ S3.out);have X4:=qAA.mk ((H3.out.frb (.slice A bE.length ca)).2 _ _ X3.out);have y0:(w3.setCell ⟨g,0,none⟩ (.slice A bE.length ca)).cell? ⟨wr.heap.size,0,none⟩=some (.int .u64 100):=(qAB X4.out 0).trans rfl) | (go_at_call 60;refine (NC.out _ H4.out).mono ?_;rintro e_ w5 ⟨rfl,hr,hf⟩;have H5:=qAA.mk hr;have S5:=qAA.mk (hf.2 sb _ S4.out);have X5:=qAA.mk (hf.2 _ _ X4.out);clear hr hf y0))
   clear d1 d2 d3 CU
   generalize wr.heap.size=x at *
   go_loopw [8] (fun v8 wq=>∃ (j b:Nat) (s2:mb.RS),v8=.int .i64 (j:Int)∧qAA (sF=mb.secF 0 bE j s2∧mb.In bs.length s2∧mb.Ln b s2∧b+j≤100 * (0+1))∧qAA (mb.RMS w0 wq g A bE.length ca s2)∧qAA (wq.heap[sb]?=some (.cells #[(.int .u64 100),(.func (.func 56) #[] #[]),(.int .u64 24),(.func (.func 57) #[] #[]),(.int .u64 24),(.func (.func 58) #[] #[])] 87 (0,0)))∧qAA (wq.heap[x]?=some (.cells #[(.int .u64 100),(.func (.func 56) #[] #[])] 87 (0,0)))) (fun v8 _=>(intOf v8).toNat)
   case atStart=>exact ⟨k,100 * 0,sN,rfl,⟨HSF.out,NI.out.2,LN1.out,by have:=NI.out.1.2;omega⟩,H5,S5,X5⟩
   case round =>
    obtain ⟨j,b,s2,hv2,J0,H6,S6,X6⟩:=hrel
    obtain ⟨_,z1,z2,_,_⟩:=H6.out.cell
    rcases j with _ | j
    ·rw [show ((0:Nat):Int)=0 from rfl] at hv2
     subst hv2
     have es:sF=s2:=J0.out.1
     subst es
     by_cases hc:sF.c ≠ 0
     ·have d1:(sF.c != 0)=true:=bne_iff_ne.2 hc
      have d2:(sF.c == 0)=false:=beq_eq_false_iff_ne.2 hc
      have d3:decide (sF.c=0)=false:=decide_eq_false hc
      have er:rr=sF:=RD.out.trans (if_pos hc)
      have e1:=qAA.mk (show r=sF from HR.out.trans ((mb.qB8 (by rw [HRR.out,er];exact hc)).trans (HRR.out.trans er)))
      have FE:=qAA.mk (mb.faS_ne 91 hc)
      clear er
      by_cases ha:sF.a ≠ (bE.length:Int)
      ·have f1:(sF.a != (bE.length:Int))=true:=bne_iff_ne.2 ha
       have f2:(sF.a == (bE.length:Int))=false:=beq_eq_false_iff_ne.2 ha
       have f3:decide (sF.a=(bE.length:Int))=false:=decide_eq_false ha
       clear ha hc
       go_wp2_with (first | (go_at_call 61;refine (mb.fai H6.out 91).mono ?_;rintro e_ w9 ⟨rfl,hr,hf⟩;rw [FE.out] at hr;have H9:=qAA.mk hr;obtain ⟨_,_,y2,_,_⟩:=H9.out.cell;clear hr hf))
       (first | rw [Exit.noGoto_normal] | rw [Exit.noGoto_ret] | skip)
       first | go_end0 | ((try simp only [Exit.inBlock,Exit.then,Exit.noGoto]);refine bodyPost_ret (results_none rfl _ _ _) rfl ?_)
       rw [e1.out]
       exact ⟨rfl,_,_,_,H9.out⟩
      ·have f0:sF.a=(bE.length:Int):=Classical.byContradiction ha
       have f1:(sF.a != (bE.length:Int))=false:=by rw [f0];simp
       have f2:(sF.a == (bE.length:Int))=true:=by rw [f0];simp
       have f3:decide (sF.a=(bE.length:Int))=true:=decide_eq_true f0
       clear ha hc f0
       go_wp2
       (first | rw [Exit.noGoto_normal] | rw [Exit.noGoto_ret] | skip)
       first | go_end0 | ((try simp only [Exit.inBlock,Exit.then,Exit.noGoto]);refine bodyPost_ret (results_none rfl _ _ _) rfl ?_)
       rw [e1.out]
       exact ⟨rfl,_,_,_,H6.out⟩
     ·have hc0:sF.c=0:=Classical.byContradiction hc
      by_cases ha:sF.a ≠ (bE.length:Int)
      ·have f1:(sF.a != (bE.length:Int))=true:=bne_iff_ne.2 ha
       have f2:(sF.a == (bE.length:Int))=false:=beq_eq_false_iff_ne.2 ha
       have f3:decide (sF.a=(bE.length:Int))=false:=decide_eq_false ha
       have er:rr=mb.faS sF 91:=RD.out.trans ((if_neg hc).trans (if_pos ha))
       have h91:(mb.faS sF 91).c=91:=by
        show mb.flC sF.c 91=91
        rw [hc0];rfl
       have e1:=qAA.mk (show r=mb.faS sF 91 from HR.out.trans ((mb.qB8 (by rw [HRR.out,er,h91];decide)).trans (HRR.out.trans er)))
       have H91:=qAA.mk h91
       clear ha hc hc0 er h91
       go_wp2_with (first | (go_at_call 61;refine (mb.fai H6.out 91).mono ?_;rintro e_ w9 ⟨rfl,hr,hf⟩;have H9:=qAA.mk hr;obtain ⟨_,_,y2,_,_⟩:=H9.out.cell;rw [H91.out] at y2;clear hr hf))
       (first | rw [Exit.noGoto_normal] | rw [Exit.noGoto_ret] | skip)
       first | go_end0 | ((try simp only [Exit.inBlock,Exit.then,Exit.noGoto]);refine bodyPost_ret (results_none rfl _ _ _) rfl ?_)
       rw [e1.out]
       exact ⟨rfl,_,_,_,H9.out⟩
      ·have f0:sF.a=(bE.length:Int):=Classical.byContradiction ha
       have f1:(sF.a != (bE.length:Int))=false:=by rw [f0];simp
       have f2:(sF.a == (bE.length:Int))=true:=by rw [f0];simp
       have f3:decide (sF.a=(bE.length:Int))=true:=decide_eq_true f0
       have er:rr=sF:=RD.out.trans ((if_neg hc).trans (if_neg ha))
       have e1:=qAA.mk (show r=mb.qBp bs (3 - (0+1)) (0+1) sF from HR.out.trans ((mb.rest_eq (by rw [HRR.out,er];exact hc0)).trans (by rw [HRR.out,er])))
       have HC0:=qAA.mk hc0
       rw [hc0] at z2
       clear ha hc f0 er hc0
       go_wp2
       go_roundw
       case rel=>exact ⟨0+1,sF,A,bE.length,ca,rfl,⟨by omega,HC0.out,e1.out,J0.out.2.1,J0.out.2.2.1.mono (by have:=J0.out.2.2.2;omega)⟩,H6,S6⟩
       case measure=>simp [intOf]
    ·subst hv2
     have k1:decide (((j+1:Nat):Int) > 0)=true:=decide_eq_true (by omega)
     have k2:decide ((0:Int) < ((j+1:Nat):Int))=true:=decide_eq_true (by omega)
     have k3:(0:Int) < (j:Int)+1:=by omega
     have x1:wr.cell? ⟨x,1,none⟩=some (.func (.func 56) #[] #[]):=(qAB X6.out 1).trans rfl
     have ON:=qAA.mk (mb.one_0 HBE.out HLE.out H6.out HCE.out HCAE.out (J0.out.2.2.1.mono (by have:=J0.out.2.2.2;omega)))
     have O1:=qAA.mk (mb.one_in HBE.out HLE.out HEL.out 0 J0.out.2.1)
     have O2:=qAA.mk (mb.one_ln 0 bE J0.out.2.2.1)
     have ES:=qAA.mk (show sF=if (mb.one 0 bE s2).c ≠ 0 then mb.one 0 bE s2 else mb.secF 0 bE j (mb.one 0 bE s2) from J0.out.1)
     generalize mb.one 0 bE s2=s3 at *
     have hwj:wrap64 (((j+1:Nat):Int) - 1)=(j:Int):=by have:=J0.out.2.2.2;unfold wrap64;omega
     have hwj3:wrap64 ((j:Int)+1 - 1)=(j:Int):=by have:=J0.out.2.2.2;unfold wrap64;omega
     have hwj2:IntKind.i64.wrap (((j+1:Nat):Int) - 1)=(j:Int):=(qAR _).trans hwj
     have HWJ:=qAA.mk (show wrap64 (j:Int)=(j:Int) from by have:=J0.out.2.2.2;unfold wrap64;omega)
     by_cases hc:s3.c ≠ 0
     ·have d1:(s3.c != 0)=true:=bne_iff_ne.2 hc
      have d2:(s3.c == 0)=false:=beq_eq_false_iff_ne.2 hc
      have d3:decide (s3.c=0)=false:=decide_eq_false hc
      have es:sF=s3:=ES.out.trans (if_pos hc)
      subst es
      have er:rr=sF:=RD.out.trans (if_pos hc)
      have e1:=qAA.mk (show r=sF from HR.out.trans ((mb.qB8 (by rw [HRR.out,er];exact hc)).trans (HRR.out.trans er)))
      have FE:=qAA.mk (mb.faS_ne 93 hc)
      clear er
      by_cases hlt:sF.a < (bs.length:Int)
      ·have l1:decide (sF.a < (bs.length:Int))=true:=decide_eq_true hlt
       clear hlt hc
       go_wp2_with (first | (go_at_call 56;refine ON.out.mono ?_;rintro e_ w7 ⟨rfl,hr,hf⟩;have H7:=qAA.mk hr;obtain ⟨_,y1,y2,_,_⟩:=H7.out.cell;clear hr hf) | (go_at_call 61;refine (mb.fai H7.out 93).mono ?_;rintro e_ w9 ⟨rfl,hr,hf⟩;rw [FE.out] at hr;have H9:=qAA.mk hr;clear hr hf))
       (first | rw [Exit.noGoto_normal] | rw [Exit.noGoto_ret] | skip)
       first | go_end0 | ((try simp only [Exit.inBlock,Exit.then,Exit.noGoto]);refine bodyPost_ret (results_none rfl _ _ _) rfl ?_)
       rw [e1.out]
       exact ⟨rfl,_,_,_,H9.out⟩
      ·have l1:decide (sF.a < (bs.length:Int))=false:=decide_eq_false hlt
       clear hlt hc
       go_wp2_with (first | (go_at_call 56;refine ON.out.mono ?_;rintro e_ w7 ⟨rfl,hr,hf⟩;have H7:=qAA.mk hr;obtain ⟨_,y1,y2,_,_⟩:=H7.out.cell;clear hr hf))
       (first | rw [Exit.noGoto_normal] | rw [Exit.noGoto_ret] | skip)
       first | go_end0 | ((try simp only [Exit.inBlock,Exit.then,Exit.noGoto]);refine bodyPost_ret (results_none rfl _ _ _) rfl ?_)
       rw [e1.out]
       exact ⟨rfl,_,_,_,H7.out⟩
     ·have hc0:s3.c=0:=Classical.byContradiction hc
      have es:=qAA.mk (ES.out.trans (if_neg hc))
      have HC0:=qAA.mk hc0
      clear hc hc0
      go_wp2_with (first | (go_at_call 56;refine ON.out.mono ?_;rintro e_ w7 ⟨rfl,hr,hf⟩;have H7:=qAA.mk hr;have S7:=qAA.mk (hf.2 sb _ S6.out);have X7:=qAA.mk (hf.2 _ _ X6.out);obtain ⟨_,_,y2,_,_⟩:=H7.out.cell;rw [HC0.out] at y2;clear hr hf))
      go_roundw
      case rel=>exact ⟨j,b+1,s3,by rw [HWJ.out],⟨es.out,O1.out,O2.out,by have:=J0.out.2.2.2;omega⟩,H7,S7,X7⟩
      case measure =>
       rw [HWJ.out]
       show ((j:Nat):Int).toNat < (((j+1:Nat):Int)).toNat
       omega
  ·subst hi
   rw [show ((1:Nat):Int)=1 from rfl] at hv
   subst hv
   have HR:=qAA.mk (show r=mb.qBp bs (1+1) 1 s1 from H0.out.2.2.1)
   have OI:=qAA.mk (mb.op_in HB.out 1 H0.out.2.2.2.1)
   have c0:wr.cell? ⟨sb,2,none⟩=some (.int .u64 24):=(qAB S1.out 2).trans rfl
   have c1:wr.cell? ⟨sb,3,none⟩=some (.func (.func 57) #[] #[]):=(qAB S1.out 3).trans rfl
   have H2:=qAA.mk (H1.out.below (qAH (Below.refl wr.heap.size wr) (.cells #[(.int .u64 24),(.func (.func 57) #[] #[])] 87)))
   have S2:=qAA.mk ((mb.FrS.of_below (qAH (Below.refl wr.heap.size wr) (.cells #[(.int .u64 24),(.func (.func 57) #[] #[])] 87))).2 sb _ S1.out)
   have X2:=qAA.mk (show (wr.alloc (.cells #[(.int .u64 24),(.func (.func 57) #[] #[])] 87)).heap[wr.heap.size]?=some (.cells #[(.int .u64 24),(.func (.func 57) #[] #[])] 87 (0,0)) from by simpa using heap_alloc_new wr _)
   have OC:=qAA.mk (mb.opn 1 HB.out HL.out H2.out HC.out HCA.out H0.out.2.2.2.1 2 (by rfl))
   have RD:=qAA.mk (show mb.qBR 1 bs s1=if (mb.opS 1 bs s1).c ≠ 0 then mb.opS 1 bs s1 else (if (mb.secF 1 (bs.take (mb.opE 1 bs s1).toNat) (mb.nuN 1 (bs.take (mb.opE 1 bs s1).toNat) (mb.opS 1 bs s1)).toNat (mb.nuS 1 (bs.take (mb.opE 1 bs s1).toNat) (mb.opS 1 bs s1))).c ≠ 0 then mb.secF 1 (bs.take (mb.opE 1 bs s1).toNat) (mb.nuN 1 (bs.take (mb.opE 1 bs s1).toNat) (mb.opS 1 bs s1)).toNat (mb.nuS 1 (bs.take (mb.opE 1 bs s1).toNat) (mb.opS 1 bs s1)) else if (mb.secF 1 (bs.take (mb.opE 1 bs s1).toNat) (mb.nuN 1 (bs.take (mb.opE 1 bs s1).toNat) (mb.opS 1 bs s1)).toNat (mb.nuS 1 (bs.take (mb.opE 1 bs s1).toNat) (mb.opS 1 bs s1))).a ≠ mb.opE 1 bs s1 then mb.faS (mb.secF 1 (bs.take (mb.opE 1 bs s1).toNat) (mb.nuN 1 (bs.take (mb.opE 1 bs s1).toNat) (mb.opS 1 bs s1)).toNat (mb.nuS 1 (bs.take (mb.opE 1 bs s1).toNat) (mb.opS 1 bs s1))) 91 else mb.secF 1 (bs.take (mb.opE 1 bs s1).toNat) (mb.nuN 1 (bs.take (mb.opE 1 bs s1).toNat) (mb.opS 1 bs s1)).toNat (mb.nuS 1 (bs.take (mb.opE 1 bs s1).toNat) (mb.opS 1 bs s1))) from rfl)
   have LN1:=qAA.mk (show mb.Ln (100 * 1) (mb.opS 1 bs s1) from H0.out.2.2.2.2)
   clear H1 S1
   generalize mb.opE 1 bs s1=eO at *
   generalize mb.opS 1 bs s1=sO at *
   generalize hrr:mb.qBR 1 bs s1=rr at RD
   have HRR:=qAA.mk hrr
   clear hrr
   by_cases hop:sO.c ≠ 0
   ·have e1:=qAA.mk (show r=sO from HR.out.trans (by rw [mb.qB8 (by rw [HRR.out,RD.out,if_pos hop];exact hop),HRR.out,RD.out,if_pos hop]))
    have d1:(sO.c != 0)=true:=bne_iff_ne.2 hop
    have d2:(sO.c == 0)=false:=beq_eq_false_iff_ne.2 hop
    have d3:decide (sO.c=0)=false:=decide_eq_false hop
    clear hop
    go_wp2_with (first | (go_at_call 59;refine OC.out.mono ?_;rintro e_ w3 ⟨rfl,hr,hf⟩;have H3:=qAA.mk hr;have S3:=qAA.mk (hf.2 sb _ S2.out);have X3:=qAA.mk (hf.2 _ _ X2.out);obtain ⟨z0,_,z2,_,zf⟩:=H3.out.cell;have zf0:=zf 0;clear hr hf zf))
    (first | rw [Exit.noGoto_normal] | rw [Exit.noGoto_ret] | skip)
    first | go_end0 | ((try simp only [Exit.inBlock,Exit.then,Exit.noGoto]);refine bodyPost_ret (results_none rfl _ _ _) rfl ?_)
    rw [e1.out]
    exact ⟨rfl,_,_,_,H3.out⟩
   have hop0:sO.c=0:=Classical.byContradiction hop
   have RD:=qAA.mk (RD.out.trans (if_neg hop))
   have d1:(sO.c != 0)=false:=by rw [hop0];rfl
   have d2:(sO.c == 0)=true:=by rw [hop0];rfl
   have d3:decide (sO.c=0)=true:=by rw [hop0];rfl
   clear hop hop0
   obtain ⟨e,he⟩:∃ e:Nat,eO=(e:Int):=⟨eO.toNat,by have:=OI.out.1.1;omega⟩
   subst he
   have hel:e≤bs.length:=by have:=OI.out.1.2;omega
   have hCE:=Kd.C_take HC.out (m:=e) hel
   have hBE:Bytes (bs.take e):=HB.out.take e
   have hEL:(bs.take e).length=e:=by rw [List.length_take];omega
   rw [Int.toNat_natCast] at RD
   generalize bs.take e=bE at *
   subst hEL
   have CU:=CUT.out (bE.length:Int) (by omega) (by omega)
   rw [Int.toNat_natCast] at CU
   have HEL:=qAA.mk hel
   have HCE:=qAA.mk hCE
   have HBE:=qAA.mk hBE
   have HLE:=qAA.mk (show bE.length≤140737488351232 from by have:=HL.out;omega)
   have HCAE:=qAA.mk (show bE.length≤ca from by have:=HCA.out;omega)
   have NI:=qAA.mk (mb.nu_in hBE hel 1 OI.out.2)
   have NC:=qAA.mk (fun (W1:World) (h:mb.RMS w0 W1 g A bE.length ca sO)=>mb.nmb 1 HBE.out HLE.out h HCE.out HCAE.out 24 (by rfl))
   have LN1:=qAA.mk (show mb.Ln (100 * 1) (mb.nuS 1 bE sO) from LN1.out)
   clear hel hCE hBE
   obtain ⟨k,hk⟩:∃ k:Nat,mb.nuN 1 bE sO=(k:Int):=⟨(mb.nuN 1 bE sO).toNat,by have:=NI.out.1.1;omega⟩
   rw [hk] at NI RD
   simp only [hk] at NC
   clear hk
   rw [Int.toNat_natCast] at RD
   generalize mb.nuS 1 bE sO=sN at *
   obtain ⟨sF,hsF⟩:∃ sF,sF=mb.secF 1 bE k sN:=⟨_,rfl⟩
   rw [← hsF] at RD
   have HSF:=qAA.mk hsF
   clear hsF
   go_wp2_with (first | (go_at_call 59;refine OC.out.mono ?_;rintro e_ w3 ⟨rfl,hr,hf⟩;have H3:=qAA.mk hr;have S3:=qAA.mk (hf.2 sb _ S2.out);have X3:=qAA.mk (hf.2 _ _ X2.out);obtain ⟨z0,_,z2,_,zf⟩:=H3.out.cell;have zf0:=zf 0;clear hr hf zf;have H4:=qAA.mk (H3.out.setb A bE.length ca);have S4:=qAA.mk ((H3.out.frb (.slice A bE.length ca)).2 sb _ S3.out);have X4:=qAA.mk ((H3.out.frb (.slice A bE.length ca)).2 _ _ X3.out);have y0:(w3.setCell ⟨g,0,none⟩ (.slice A bE.length ca)).cell? ⟨wr.heap.size,0,none⟩=some (.int .u64 24):=(qAB X4.out 0).trans rfl) | (go_at_call 60;refine (NC.out _ H4.out).mono ?_;rintro e_ w5 ⟨rfl,hr,hf⟩;have H5:=qAA.mk hr;have S5:=qAA.mk (hf.2 sb _ S4.out);have X5:=qAA.mk (hf.2 _ _ X4.out);clear hr hf y0))
   clear d1 d2 d3 CU
   generalize wr.heap.size=x at *
   go_loopw [8] (fun v8 wq=>∃ (j b:Nat) (s2:mb.RS),v8=.int .i64 (j:Int)∧qAA (sF=mb.secF 1 bE j s2∧mb.In bs.length s2∧mb.Ln b s2∧b+j≤100 * (1+1))∧qAA (mb.RMS w0 wq g A bE.length ca s2)∧qAA (wq.heap[sb]?=some (.cells #[(.int .u64 100),(.func (.func 56) #[] #[]),(.int .u64 24),(.func (.func 57) #[] #[]),(.int .u64 24),(.func (.func 58) #[] #[])] 87 (0,0)))∧qAA (wq.heap[x]?=some (.cells #[(.int .u64 24),(.func (.func 57) #[] #[])] 87 (0,0)))) (fun v8 _=>(intOf v8).toNat)
   case atStart=>exact ⟨k,100 * 1,sN,rfl,⟨HSF.out,NI.out.2,LN1.out,by have:=NI.out.1.2;omega⟩,H5,S5,X5⟩
   case round =>
    obtain ⟨j,b,s2,hv2,J0,H6,S6,X6⟩:=hrel
    obtain ⟨_,z1,z2,_,_⟩:=H6.out.cell
    rcases j with _ | j
    ·rw [show ((0:Nat):Int)=0 from rfl] at hv2
     subst hv2
     have es:sF=s2:=J0.out.1
     subst es
     by_cases hc:sF.c ≠ 0
     ·have d1:(sF.c != 0)=true:=bne_iff_ne.2 hc
      have d2:(sF.c == 0)=false:=beq_eq_false_iff_ne.2 hc
      have d3:decide (sF.c=0)=false:=decide_eq_false hc
      have er:rr=sF:=RD.out.trans (if_pos hc)
      have e1:=qAA.mk (show r=sF from HR.out.trans ((mb.qB8 (by rw [HRR.out,er];exact hc)).trans (HRR.out.trans er)))
      have FE:=qAA.mk (mb.faS_ne 91 hc)
      clear er
      by_cases ha:sF.a ≠ (bE.length:Int)
      ·have f1:(sF.a != (bE.length:Int))=true:=bne_iff_ne.2 ha
       have f2:(sF.a == (bE.length:Int))=false:=beq_eq_false_iff_ne.2 ha
       have f3:decide (sF.a=(bE.length:Int))=false:=decide_eq_false ha
       clear ha hc
       go_wp2_with (first | (go_at_call 61;refine (mb.fai H6.out 91).mono ?_;rintro e_ w9 ⟨rfl,hr,hf⟩;rw [FE.out] at hr;have H9:=qAA.mk hr;obtain ⟨_,_,y2,_,_⟩:=H9.out.cell;clear hr hf))
       (first | rw [Exit.noGoto_normal] | rw [Exit.noGoto_ret] | skip)
       first | go_end0 | ((try simp only [Exit.inBlock,Exit.then,Exit.noGoto]);refine bodyPost_ret (results_none rfl _ _ _) rfl ?_)
       rw [e1.out]
       exact ⟨rfl,_,_,_,H9.out⟩
      ·have f0:sF.a=(bE.length:Int):=Classical.byContradiction ha
       have f1:(sF.a != (bE.length:Int))=false:=by rw [f0];simp
       have f2:(sF.a == (bE.length:Int))=true:=by rw [f0];simp
       have f3:decide (sF.a=(bE.length:Int))=true:=decide_eq_true f0
       clear ha hc f0
       go_wp2
       (first | rw [Exit.noGoto_normal] | rw [Exit.noGoto_ret] | skip)
       first | go_end0 | ((try simp only [Exit.inBlock,Exit.then,Exit.noGoto]);refine bodyPost_ret (results_none rfl _ _ _) rfl ?_)
       rw [e1.out]
       exact ⟨rfl,_,_,_,H6.out⟩
     ·have hc0:sF.c=0:=Classical.byContradiction hc
      by_cases ha:sF.a ≠ (bE.length:Int)
      ·have f1:(sF.a != (bE.length:Int))=true:=bne_iff_ne.2 ha
       have f2:(sF.a == (bE.length:Int))=false:=beq_eq_false_iff_ne.2 ha
       have f3:decide (sF.a=(bE.length:Int))=false:=decide_eq_false ha
       have er:rr=mb.faS sF 91:=RD.out.trans ((if_neg hc).trans (if_pos ha))
       have h91:(mb.faS sF 91).c=91:=by
        show mb.flC sF.c 91=91
        rw [hc0];rfl
       have e1:=qAA.mk (show r=mb.faS sF 91 from HR.out.trans ((mb.qB8 (by rw [HRR.out,er,h91];decide)).trans (HRR.out.trans er)))
       have H91:=qAA.mk h91
       clear ha hc hc0 er h91
       go_wp2_with (first | (go_at_call 61;refine (mb.fai H6.out 91).mono ?_;rintro e_ w9 ⟨rfl,hr,hf⟩;have H9:=qAA.mk hr;obtain ⟨_,_,y2,_,_⟩:=H9.out.cell;rw [H91.out] at y2;clear hr hf))
       (first | rw [Exit.noGoto_normal] | rw [Exit.noGoto_ret] | skip)
       first | go_end0 | ((try simp only [Exit.inBlock,Exit.then,Exit.noGoto]);refine bodyPost_ret (results_none rfl _ _ _) rfl ?_)
       rw [e1.out]
       exact ⟨rfl,_,_,_,H9.out⟩
      ·have f0:sF.a=(bE.length:Int):=Classical.byContradiction ha
       have f1:(sF.a != (bE.length:Int))=false:=by rw [f0];simp
       have f2:(sF.a == (bE.length:Int))=true:=by rw [f0];simp
       have f3:decide (sF.a=(bE.length:Int))=true:=decide_eq_true f0
       have er:rr=sF:=RD.out.trans ((if_neg hc).trans (if_neg ha))
       have e1:=qAA.mk (show r=mb.qBp bs (3 - (1+1)) (1+1) sF from HR.out.trans ((mb.rest_eq (by rw [HRR.out,er];exact hc0)).trans (by rw [HRR.out,er])))
       have HC0:=qAA.mk hc0
       rw [hc0] at z2
       clear ha hc f0 er hc0
       go_wp2
       go_roundw
       case rel=>exact ⟨1+1,sF,A,bE.length,ca,rfl,⟨by omega,HC0.out,e1.out,J0.out.2.1,J0.out.2.2.1.mono (by have:=J0.out.2.2.2;omega)⟩,H6,S6⟩
       case measure=>simp [intOf]
    ·subst hv2
     have k1:decide (((j+1:Nat):Int) > 0)=true:=decide_eq_true (by omega)
     have k2:decide ((0:Int) < ((j+1:Nat):Int))=true:=decide_eq_true (by omega)
     have k3:(0:Int) < (j:Int)+1:=by omega
     have x1:wr.cell? ⟨x,1,none⟩=some (.func (.func 57) #[] #[]):=(qAB X6.out 1).trans rfl
     have ON:=qAA.mk (mb.one_1 HBE.out HLE.out H6.out HCE.out HCAE.out (J0.out.2.2.1.mono (by have:=J0.out.2.2.2;omega)))
     have O1:=qAA.mk (mb.one_in HBE.out HLE.out HEL.out 1 J0.out.2.1)
     have O2:=qAA.mk (mb.one_ln 1 bE J0.out.2.2.1)
     have ES:=qAA.mk (show sF=if (mb.one 1 bE s2).c ≠ 0 then mb.one 1 bE s2 else mb.secF 1 bE j (mb.one 1 bE s2) from J0.out.1)
     generalize mb.one 1 bE s2=s3 at *
     have hwj:wrap64 (((j+1:Nat):Int) - 1)=(j:Int):=by have:=J0.out.2.2.2;unfold wrap64;omega
     have hwj3:wrap64 ((j:Int)+1 - 1)=(j:Int):=by have:=J0.out.2.2.2;unfold wrap64;omega
     have hwj2:IntKind.i64.wrap (((j+1:Nat):Int) - 1)=(j:Int):=(qAR _).trans hwj
     have HWJ:=qAA.mk (show wrap64 (j:Int)=(j:Int) from by have:=J0.out.2.2.2;unfold wrap64;omega)
     by_cases hc:s3.c ≠ 0
     ·have d1:(s3.c != 0)=true:=bne_iff_ne.2 hc
      have d2:(s3.c == 0)=false:=beq_eq_false_iff_ne.2 hc
      have d3:decide (s3.c=0)=false:=decide_eq_false hc
      have es:sF=s3:=ES.out.trans (if_pos hc)
      subst es
      have er:rr=sF:=RD.out.trans (if_pos hc)
      have e1:=qAA.mk (show r=sF from HR.out.trans ((mb.qB8 (by rw [HRR.out,er];exact hc)).trans (HRR.out.trans er)))
      have FE:=qAA.mk (mb.faS_ne 93 hc)
      clear er
      by_cases hlt:sF.a < (bs.length:Int)
      ·have l1:decide (sF.a < (bs.length:Int))=true:=decide_eq_true hlt
       clear hlt hc
       go_wp2_with (first | (go_at_call 57;refine ON.out.mono ?_;rintro e_ w7 ⟨rfl,hr,hf⟩;have H7:=qAA.mk hr;obtain ⟨_,y1,y2,_,_⟩:=H7.out.cell;clear hr hf) | (go_at_call 61;refine (mb.fai H7.out 93).mono ?_;rintro e_ w9 ⟨rfl,hr,hf⟩;rw [FE.out] at hr;have H9:=qAA.mk hr;clear hr hf))
       (first | rw [Exit.noGoto_normal] | rw [Exit.noGoto_ret] | skip)
       first | go_end0 | ((try simp only [Exit.inBlock,Exit.then,Exit.noGoto]);refine bodyPost_ret (results_none rfl _ _ _) rfl ?_)
       rw [e1.out]
       exact ⟨rfl,_,_,_,H9.out⟩
      ·have l1:decide (sF.a < (bs.length:Int))=false:=decide_eq_false hlt
       clear hlt hc
       go_wp2_with (first | (go_at_call 57;refine ON.out.mono ?_;rintro e_ w7 ⟨rfl,hr,hf⟩;have H7:=qAA.mk hr;obtain ⟨_,y1,y2,_,_⟩:=H7.out.cell;clear hr hf))
       (first | rw [Exit.noGoto_normal] | rw [Exit.noGoto_ret] | skip)
       first | go_end0 | ((try simp only [Exit.inBlock,Exit.then,Exit.noGoto]);refine bodyPost_ret (results_none rfl _ _ _) rfl ?_)
       rw [e1.out]
       exact ⟨rfl,_,_,_,H7.out⟩
     ·have hc0:s3.c=0:=Classical.byContradiction hc
      have es:=qAA.mk (ES.out.trans (if_neg hc))
      have HC0:=qAA.mk hc0
      clear hc hc0
      go_wp2_with (first | (go_at_call 57;refine ON.out.mono ?_;rintro e_ w7 ⟨rfl,hr,hf⟩;have H7:=qAA.mk hr;have S7:=qAA.mk (hf.2 sb _ S6.out);have X7:=qAA.mk (hf.2 _ _ X6.out);obtain ⟨_,_,y2,_,_⟩:=H7.out.cell;rw [HC0.out] at y2;clear hr hf))
      go_roundw
      case rel=>exact ⟨j,b+1,s3,by rw [HWJ.out],⟨es.out,O1.out,O2.out,by have:=J0.out.2.2.2;omega⟩,H7,S7,X7⟩
      case measure =>
       rw [HWJ.out]
       show ((j:Nat):Int).toNat < (((j+1:Nat):Int)).toNat
       omega
  ·subst hi
   rw [show ((2:Nat):Int)=2 from rfl] at hv
   subst hv
   have HR:=qAA.mk (show r=mb.qBp bs (0+1) 2 s1 from H0.out.2.2.1)
   have OI:=qAA.mk (mb.op_in HB.out 2 H0.out.2.2.2.1)
   have c0:wr.cell? ⟨sb,4,none⟩=some (.int .u64 24):=(qAB S1.out 4).trans rfl
   have c1:wr.cell? ⟨sb,5,none⟩=some (.func (.func 58) #[] #[]):=(qAB S1.out 5).trans rfl
   have H2:=qAA.mk (H1.out.below (qAH (Below.refl wr.heap.size wr) (.cells #[(.int .u64 24),(.func (.func 58) #[] #[])] 87)))
   have S2:=qAA.mk ((mb.FrS.of_below (qAH (Below.refl wr.heap.size wr) (.cells #[(.int .u64 24),(.func (.func 58) #[] #[])] 87))).2 sb _ S1.out)
   have X2:=qAA.mk (show (wr.alloc (.cells #[(.int .u64 24),(.func (.func 58) #[] #[])] 87)).heap[wr.heap.size]?=some (.cells #[(.int .u64 24),(.func (.func 58) #[] #[])] 87 (0,0)) from by simpa using heap_alloc_new wr _)
   have OC:=qAA.mk (mb.opn 2 HB.out HL.out H2.out HC.out HCA.out H0.out.2.2.2.1 3 (by rfl))
   have RD:=qAA.mk (show mb.qBR 2 bs s1=if (mb.opS 2 bs s1).c ≠ 0 then mb.opS 2 bs s1 else (if (mb.secF 2 (bs.take (mb.opE 2 bs s1).toNat) (mb.nuN 2 (bs.take (mb.opE 2 bs s1).toNat) (mb.opS 2 bs s1)).toNat (mb.nuS 2 (bs.take (mb.opE 2 bs s1).toNat) (mb.opS 2 bs s1))).c ≠ 0 then mb.secF 2 (bs.take (mb.opE 2 bs s1).toNat) (mb.nuN 2 (bs.take (mb.opE 2 bs s1).toNat) (mb.opS 2 bs s1)).toNat (mb.nuS 2 (bs.take (mb.opE 2 bs s1).toNat) (mb.opS 2 bs s1)) else if (mb.secF 2 (bs.take (mb.opE 2 bs s1).toNat) (mb.nuN 2 (bs.take (mb.opE 2 bs s1).toNat) (mb.opS 2 bs s1)).toNat (mb.nuS 2 (bs.take (mb.opE 2 bs s1).toNat) (mb.opS 2 bs s1))).a ≠ mb.opE 2 bs s1 then mb.faS (mb.secF 2 (bs.take (mb.opE 2 bs s1).toNat) (mb.nuN 2 (bs.take (mb.opE 2 bs s1).toNat) (mb.opS 2 bs s1)).toNat (mb.nuS 2 (bs.take (mb.opE 2 bs s1).toNat) (mb.opS 2 bs s1))) 91 else mb.secF 2 (bs.take (mb.opE 2 bs s1).toNat) (mb.nuN 2 (bs.take (mb.opE 2 bs s1).toNat) (mb.opS 2 bs s1)).toNat (mb.nuS 2 (bs.take (mb.opE 2 bs s1).toNat) (mb.opS 2 bs s1))) from rfl)
   have LN1:=qAA.mk (show mb.Ln (100 * 2) (mb.opS 2 bs s1) from H0.out.2.2.2.2)
   clear H1 S1
   generalize mb.opE 2 bs s1=eO at *
   generalize mb.opS 2 bs s1=sO at *
   generalize hrr:mb.qBR 2 bs s1=rr at RD
   have HRR:=qAA.mk hrr
   clear hrr
   by_cases hop:sO.c ≠ 0
   ·have e1:=qAA.mk (show r=sO from HR.out.trans (by rw [mb.qB8 (by rw [HRR.out,RD.out,if_pos hop];exact hop),HRR.out,RD.out,if_pos hop]))
    have d1:(sO.c != 0)=true:=bne_iff_ne.2 hop
    have d2:(sO.c == 0)=false:=beq_eq_false_iff_ne.2 hop
    have d3:decide (sO.c=0)=false:=decide_eq_false hop
    clear hop
    go_wp2_with (first | (go_at_call 59;refine OC.out.mono ?_;rintro e_ w3 ⟨rfl,hr,hf⟩;have H3:=qAA.mk hr;have S3:=qAA.mk (hf.2 sb _ S2.out);have X3:=qAA.mk (hf.2 _ _ X2.out);obtain ⟨z0,_,z2,_,zf⟩:=H3.out.cell;have zf0:=zf 0;clear hr hf zf))
    (first | rw [Exit.noGoto_normal] | rw [Exit.noGoto_ret] | skip)
    first | go_end0 | ((try simp only [Exit.inBlock,Exit.then,Exit.noGoto]);refine bodyPost_ret (results_none rfl _ _ _) rfl ?_)
    rw [e1.out]
    exact ⟨rfl,_,_,_,H3.out⟩
   have hop0:sO.c=0:=Classical.byContradiction hop
   have RD:=qAA.mk (RD.out.trans (if_neg hop))
   have d1:(sO.c != 0)=false:=by rw [hop0];rfl
   have d2:(sO.c == 0)=true:=by rw [hop0];rfl
   have d3:decide (sO.c=0)=true:=by rw [hop0];rfl
   clear hop hop0
   obtain ⟨e,he⟩:∃ e:Nat,eO=(e:Int):=⟨eO.toNat,by have:=OI.out.1.1;omega⟩
   subst he
   have hel:e≤bs.length:=by have:=OI.out.1.2;omega
   have hCE:=Kd.C_take HC.out (m:=e) hel
   have hBE:Bytes (bs.take e):=HB.out.take e
   have hEL:(bs.take e).length=e:=by rw [List.length_take];omega
   rw [Int.toNat_natCast] at RD
   generalize bs.take e=bE at *
   subst hEL
   have CU:=CUT.out (bE.length:Int) (by omega) (by omega)
   rw [Int.toNat_natCast] at CU
   have HEL:=qAA.mk hel
   have HCE:=qAA.mk hCE
   have HBE:=qAA.mk hBE
   have HLE:=qAA.mk (show bE.length≤140737488351232 from by have:=HL.out;omega)
   have HCAE:=qAA.mk (show bE.length≤ca from by have:=HCA.out;omega)
   have NI:=qAA.mk (mb.nu_in hBE hel 2 OI.out.2)
   have NC:=qAA.mk (fun (W1:World) (h:mb.RMS w0 W1 g A bE.length ca sO)=>mb.nmb 2 HBE.out HLE.out h HCE.out HCAE.out 24 (by rfl))
   have LN1:=qAA.mk (show mb.Ln (100 * 2) (mb.nuS 2 bE sO) from LN1.out)
   clear hel hCE hBE
   obtain ⟨k,hk⟩:∃ k:Nat,mb.nuN 2 bE sO=(k:Int):=⟨(mb.nuN 2 bE sO).toNat,by have:=NI.out.1.1;omega⟩
   rw [hk] at NI RD
   simp only [hk] at NC
   clear hk
   rw [Int.toNat_natCast] at RD
   generalize mb.nuS 2 bE sO=sN at *
   obtain ⟨sF,hsF⟩:∃ sF,sF=mb.secF 2 bE k sN:=⟨_,rfl⟩
   rw [← hsF] at RD
   have HSF:=qAA.mk hsF
   clear hsF
   go_wp2_with (first | (go_at_call 59;refine OC.out.mono ?_;rintro e_ w3 ⟨rfl,hr,hf⟩;have H3:=qAA.mk hr;have S3:=qAA.mk (hf.2 sb _ S2.out);have X3:=qAA.mk (hf.2 _ _ X2.out);obtain ⟨z0,_,z2,_,zf⟩:=H3.out.cell;have zf0:=zf 0;clear hr hf zf;have H4:=qAA.mk (H3.out.setb A bE.length ca);have S4:=qAA.mk ((H3.out.frb (.slice A bE.length ca)).2 sb _ S3.out);have X4:=qAA.mk ((H3.out.frb (.slice A bE.length ca)).2 _ _ X3.out);have y0:(w3.setCell ⟨g,0,none⟩ (.slice A bE.length ca)).cell? ⟨wr.heap.size,0,none⟩=some (.int .u64 24):=(qAB X4.out 0).trans rfl) | (go_at_call 60;refine (NC.out _ H4.out).mono ?_;rintro e_ w5 ⟨rfl,hr,hf⟩;have H5:=qAA.mk hr;have S5:=qAA.mk (hf.2 sb _ S4.out);have X5:=qAA.mk (hf.2 _ _ X4.out);clear hr hf y0))
   clear d1 d2 d3 CU
   generalize wr.heap.size=x at *
   go_loopw [8] (fun v8 wq=>∃ (j b:Nat) (s2:mb.RS),v8=.int .i64 (j:Int)∧qAA (sF=mb.secF 2 bE j s2∧mb.In bs.length s2∧mb.Ln b s2∧b+j≤100 * (2+1))∧qAA (mb.RMS w0 wq g A bE.length ca s2)∧qAA (wq.heap[sb]?=some (.cells #[(.int .u64 100),(.func (.func 56) #[] #[]),(.int .u64 24),(.func (.func 57) #[] #[]),(.int .u64 24),(.func (.func 58) #[] #[])] 87 (0,0)))∧qAA (wq.heap[x]?=some (.cells #[(.int .u64 24),(.func (.func 58) #[] #[])] 87 (0,0)))) (fun v8 _=>(intOf v8).toNat)
   case atStart=>exact ⟨k,100 * 2,sN,rfl,⟨HSF.out,NI.out.2,LN1.out,by have:=NI.out.1.2;omega⟩,H5,S5,X5⟩
   case round =>
    obtain ⟨j,b,s2,hv2,J0,H6,S6,X6⟩:=hrel
    obtain ⟨_,z1,z2,_,_⟩:=H6.out.cell
    rcases j with _ | j
    ·rw [show ((0:Nat):Int)=0 from rfl] at hv2
     subst hv2
     have es:sF=s2:=J0.out.1
     subst es
     by_cases hc:sF.c ≠ 0
     ·have d1:(sF.c != 0)=true:=bne_iff_ne.2 hc
      have d2:(sF.c == 0)=false:=beq_eq_false_iff_ne.2 hc
      have d3:decide (sF.c=0)=false:=decide_eq_false hc
      have er:rr=sF:=RD.out.trans (if_pos hc)
      have e1:=qAA.mk (show r=sF from HR.out.trans ((mb.qB8 (by rw [HRR.out,er];exact hc)).trans (HRR.out.trans er)))
      have FE:=qAA.mk (mb.faS_ne 91 hc)
      clear er
      by_cases ha:sF.a ≠ (bE.length:Int)
      ·have f1:(sF.a != (bE.length:Int))=true:=bne_iff_ne.2 ha
       have f2:(sF.a == (bE.length:Int))=false:=beq_eq_false_iff_ne.2 ha
       have f3:decide (sF.a=(bE.length:Int))=false:=decide_eq_false ha
       clear ha hc
       go_wp2_with (first | (go_at_call 61;refine (mb.fai H6.out 91).mono ?_;rintro e_ w9 ⟨rfl,hr,hf⟩;rw [FE.out] at hr;have H9:=qAA.mk hr;obtain ⟨_,_,y2,_,_⟩:=H9.out.cell;clear hr hf))
       (first | rw [Exit.noGoto_normal] | rw [Exit.noGoto_ret] | skip)
       first | go_end0 | ((try simp only [Exit.inBlock,Exit.then,Exit.noGoto]);refine bodyPost_ret (results_none rfl _ _ _) rfl ?_)
       rw [e1.out]
       exact ⟨rfl,_,_,_,H9.out⟩
      ·have f0:sF.a=(bE.length:Int):=Classical.byContradiction ha
       have f1:(sF.a != (bE.length:Int))=false:=by rw [f0];simp
       have f2:(sF.a == (bE.length:Int))=true:=by rw [f0];simp
       have f3:decide (sF.a=(bE.length:Int))=true:=decide_eq_true f0
       clear ha hc f0
       go_wp2
       (first | rw [Exit.noGoto_normal] | rw [Exit.noGoto_ret] | skip)
       first | go_end0 | ((try simp only [Exit.inBlock,Exit.then,Exit.noGoto]);refine bodyPost_ret (results_none rfl _ _ _) rfl ?_)
       rw [e1.out]
       exact ⟨rfl,_,_,_,H6.out⟩
     ·have hc0:sF.c=0:=Classical.byContradiction hc
      by_cases ha:sF.a ≠ (bE.length:Int)
      ·have f1:(sF.a != (bE.length:Int))=true:=bne_iff_ne.2 ha
       have f2:(sF.a == (bE.length:Int))=false:=beq_eq_false_iff_ne.2 ha
       have f3:decide (sF.a=(bE.length:Int))=false:=decide_eq_false ha
       have er:rr=mb.faS sF 91:=RD.out.trans ((if_neg hc).trans (if_pos ha))
       have h91:(mb.faS sF 91).c=91:=by
        show mb.flC sF.c 91=91
        rw [hc0];rfl
       have e1:=qAA.mk (show r=mb.faS sF 91 from HR.out.trans ((mb.qB8 (by rw [HRR.out,er,h91];decide)).trans (HRR.out.trans er)))
       have H91:=qAA.mk h91
       clear ha hc hc0 er h91
       go_wp2_with (first | (go_at_call 61;refine (mb.fai H6.out 91).mono ?_;rintro e_ w9 ⟨rfl,hr,hf⟩;have H9:=qAA.mk hr;obtain ⟨_,_,y2,_,_⟩:=H9.out.cell;rw [H91.out] at y2;clear hr hf))
       (first | rw [Exit.noGoto_normal] | rw [Exit.noGoto_ret] | skip)
       first | go_end0 | ((try simp only [Exit.inBlock,Exit.then,Exit.noGoto]);refine bodyPost_ret (results_none rfl _ _ _) rfl ?_)
       rw [e1.out]
       exact ⟨rfl,_,_,_,H9.out⟩
      ·have f0:sF.a=(bE.length:Int):=Classical.byContradiction ha
       have f1:(sF.a != (bE.length:Int))=false:=by rw [f0];simp
       have f2:(sF.a == (bE.length:Int))=true:=by rw [f0];simp
       have f3:decide (sF.a=(bE.length:Int))=true:=decide_eq_true f0
       have er:rr=sF:=RD.out.trans ((if_neg hc).trans (if_neg ha))
       have e1:=qAA.mk (show r=mb.qBp bs (3 - (2+1)) (2+1) sF from HR.out.trans ((mb.rest_eq (by rw [HRR.out,er];exact hc0)).trans (by rw [HRR.out,er])))
       have HC0:=qAA.mk hc0
       rw [hc0] at z2
       clear ha hc f0 er hc0
       go_wp2
       go_roundw
       case rel=>exact ⟨2+1,sF,A,bE.length,ca,rfl,⟨by omega,HC0.out,e1.out,J0.out.2.1,J0.out.2.2.1.mono (by have:=J0.out.2.2.2;omega)⟩,H6,S6⟩
       case measure=>simp [intOf]
    ·subst hv2
     have k1:decide (((j+1:Nat):Int) > 0)=true:=decide_eq_true (by omega)
     have k2:decide ((0:Int) < ((j+1:Nat):Int))=true:=decide_eq_true (by omega)
     have k3:(0:Int) < (j:Int)+1:=by omega
     have x1:wr.cell? ⟨x,1,none⟩=some (.func (.func 58) #[] #[]):=(qAB X6.out 1).trans rfl
     have ON:=qAA.mk (mb.one_2 HBE.out HLE.out H6.out HCE.out HCAE.out (J0.out.2.2.1.mono (by have:=J0.out.2.2.2;omega)))
     have O1:=qAA.mk (mb.one_in HBE.out HLE.out HEL.out 2 J0.out.2.1)
     have O2:=qAA.mk (mb.one_ln 2 bE J0.out.2.2.1)
     have ES:=qAA.mk (show sF=if (mb.one 2 bE s2).c ≠ 0 then mb.one 2 bE s2 else mb.secF 2 bE j (mb.one 2 bE s2) from J0.out.1)
     generalize mb.one 2 bE s2=s3 at *
     have hwj:wrap64 (((j+1:Nat):Int) - 1)=(j:Int):=by have:=J0.out.2.2.2;unfold wrap64;omega
     have hwj3:wrap64 ((j:Int)+1 - 1)=(j:Int):=by have:=J0.out.2.2.2;unfold wrap64;omega
     have hwj2:IntKind.i64.wrap (((j+1:Nat):Int) - 1)=(j:Int):=(qAR _).trans hwj
     have HWJ:=qAA.mk (show wrap64 (j:Int)=(j:Int) from by have:=J0.out.2.2.2;unfold wrap64;omega)
     by_cases hc:s3.c ≠ 0
     ·have d1:(s3.c != 0)=true:=bne_iff_ne.2 hc
      have d2:(s3.c == 0)=false:=beq_eq_false_iff_ne.2 hc
      have d3:decide (s3.c=0)=false:=decide_eq_false hc
      have es:sF=s3:=ES.out.trans (if_pos hc)
      subst es
      have er:rr=sF:=RD.out.trans (if_pos hc)
      have e1:=qAA.mk (show r=sF from HR.out.trans ((mb.qB8 (by rw [HRR.out,er];exact hc)).trans (HRR.out.trans er)))
      have FE:=qAA.mk (mb.faS_ne 93 hc)
      clear er
      by_cases hlt:sF.a < (bs.length:Int)
      ·have l1:decide (sF.a < (bs.length:Int))=true:=decide_eq_true hlt
       clear hlt hc
       go_wp2_with (first | (go_at_call 58;refine ON.out.mono ?_;rintro e_ w7 ⟨rfl,hr,hf⟩;have H7:=qAA.mk hr;obtain ⟨_,y1,y2,_,_⟩:=H7.out.cell;clear hr hf) | (go_at_call 61;refine (mb.fai H7.out 93).mono ?_;rintro e_ w9 ⟨rfl,hr,hf⟩;rw [FE.out] at hr;have H9:=qAA.mk hr;clear hr hf))
       (first | rw [Exit.noGoto_normal] | rw [Exit.noGoto_ret] | skip)
       first | go_end0 | ((try simp only [Exit.inBlock,Exit.then,Exit.noGoto]);refine bodyPost_ret (results_none rfl _ _ _) rfl ?_)
       rw [e1.out]
       exact ⟨rfl,_,_,_,H9.out⟩
      ·have l1:decide (sF.a < (bs.length:Int))=false:=decide_eq_false hlt
       clear hlt hc
       go_wp2_with (first | (go_at_call 58;refine ON.out.mono ?_;rintro e_ w7 ⟨rfl,hr,hf⟩;have H7:=qAA.mk hr;obtain ⟨_,y1,y2,_,_⟩:=H7.out.cell;clear hr hf))
       (first | rw [Exit.noGoto_normal] | rw [Exit.noGoto_ret] | skip)
       first | go_end0 | ((try simp only [Exit.inBlock,Exit.then,Exit.noGoto]);refine bodyPost_ret (results_none rfl _ _ _) rfl ?_)
       rw [e1.out]
       exact ⟨rfl,_,_,_,H7.out⟩
     ·have hc0:s3.c=0:=Classical.byContradiction hc
      have es:=qAA.mk (ES.out.trans (if_neg hc))
      have HC0:=qAA.mk hc0
      clear hc hc0
      go_wp2_with (first | (go_at_call 58;refine ON.out.mono ?_;rintro e_ w7 ⟨rfl,hr,hf⟩;have H7:=qAA.mk hr;have S7:=qAA.mk (hf.2 sb _ S6.out);have X7:=qAA.mk (hf.2 _ _ X6.out);obtain ⟨_,_,y2,_,_⟩:=H7.out.cell;rw [HC0.out] at y2;clear hr hf))
      go_roundw
      case rel=>exact ⟨j,b+1,s3,by rw [HWJ.out],⟨es.out,O1.out,O2.out,by have:=J0.out.2.2.2;omega⟩,H7,S7,X7⟩
      case measure =>
       rw [HWJ.out]
       show ((j:Nat):Int).toNat < (((j+1:Nat):Int)).toNat
       omega
end
end Go.Proofs.Ytmehfnikecmiiaa.X
namespace Go.Proofs.Ytmehfnikecmiiaa.X
open Go.RowKit Go.Proofs.YtmehfnikecmiiaaW.PrintWords Go.Proofs.YtmehfnikecmiiaaW.PrintLast Go.Proofs.YtmehfnikecmiiaaW.PrintMore Go.Proofs.YtmehfnikecmiiaaW
section
set_option maxHeartbeats 4000000
set_option maxRecDepth 100000
open Go.Proofs.Ytmehfnikecmiiaa Go.Proofs.Ytmehfnikecmiiaa.Pl
def mb.fm52 (x:S52):Prop:=(0≤x.f0∧x.f0≤8)∧(x.f0≤x.f1∧x.f1≤32)∧(0≤x.f2∧x.f2≤40)∧x.f3.size≤4000
def mb.fm56 (n:Nat) (l:List S56) (i:Nat):Prop:=∀ x,l[i]?=some x→mb.isN x.f0=true∧(0≤x.f1∧x.f1≤(n:Int) - 1)∧(0 < i→∀ y,l[i - 1]?=some y→Op.bytesLess y.f0.toList x.f0.toList=true)
def mb.FM (m0:List S48) (m1:List S52) (m2:List S56):Prop:=m0.length≤100∧m1.length≤24∧m2.length≤24∧(∀ x ∈ m0,mb.g48 x)∧(∀ x ∈ m1,mb.fm52 x)∧∀ i,i < m2.length→mb.fm56 m1.length m2 i
theorem mb.FM.all52 {m0:List S48} {m1:List S52} {m2:List S56} (h:mb.FM m0 m1 m2):∀ x ∈ m1,mb.g52 x:=by
 intro x hx
 obtain ⟨a,b,c,d⟩:=h.2.2.2.2.1 x hx
 exact ⟨⟨a.1,by omega⟩,⟨by omega,by omega⟩,⟨c.1,by omega⟩,d⟩
theorem mb.FM.all56 {m0:List S48} {m1:List S52} {m2:List S56} (h:mb.FM m0 m1 m2) (hs:∀ x ∈ m2,x.f0.size≤140737488351232):∀ x ∈ m2,mb.g56 x:=by
 intro x hx
 obtain ⟨i,hi,rfl⟩:=List.mem_iff_getElem.1 hx
 obtain ⟨a,b,c⟩:=h.2.2.2.2.2 i hi _ (List.getElem?_eq_getElem hi)
 have h24:=h.2.1
 exact ⟨mb.isN_l (hs _ hx) a,b.1,by omega⟩
theorem mb.cell56 {W:World} {ad:Addr} {l:List S56} {k:Nat} {y:S56} (h:k56.C W (some ad) l.length l) (hy:l[k]?=some y):W.cell? (ad.add (k * 2))=some (.string y.f0):=by
 have hk:=(List.getElem?_eq_some_iff.1 hy).1
 obtain ⟨ad2,ea,g0,g1⟩:=at_T56 h (k:Int) (by omega) (by omega)
 cases ea
 rw [Int.toNat_natCast] at g0
 have e:qAy l (k:Int)=y:=by
  unfold qAy
  rw [Int.toNat_natCast,List.getD_eq_getElem?_getD,hy]
  rfl
 rw [e] at g0
 exact g0
def mb.Told (w w':World) (P:Prop) (e:Ending):Prop:=∃ t:Bool,e=.returned (.bool t)∧(t=true ↔ P)∧Below w.heap.size w w'
theorem mb.told {w w':World} {P:Prop} {e:Ending} (t:Bool) (h:e=.returned (.bool t)) (ht:t=true ↔ P) (hb:Below w.heap.size w w'):mb.Told w w' P e:=⟨t,h,ht,hb⟩
set_option maxHeartbeats 8000000 in
theorem mb.formed25 {m0:List S48} {m1:List S52} {m2:List S56} {A0:Option Addr} {c0:Nat} {A1:Option Addr} {c1:Nat} {A2:Option Addr} {c2:Nat} (w:World) (h0:k48.C w A0 m0.length m0) (l0:m0.length≤c0) (h1:k52.C w A1 m1.length m1) (l1:m1.length≤c1) (h2:k56.C w A2 m2.length m2) (l2:m2.length≤c2) (hv:∀ x ∈ m0,Val x) (hs2:∀ x ∈ m2,x.f0.size≤140737488351232) :
  Calls Try.prog 25 #[.agg #[.slice A0 m0.length c0,.slice A1 m1.length c1,.slice A2 m2.length c2]] w fun e w'=>mb.Told w w' (mb.FM m0 m1 m2) e:=by
 have hu27:=Try.underlying27
 have hu52:=Try.underlying52
 have hu56:=Try.underlying56
 have HA0:=qAA.mk h0;have HA1:=qAA.mk h1;have HA2:=qAA.mk h2;have HL0:=qAA.mk l0;have HL1:=qAA.mk l1;have HL2:=qAA.mk l2
 have HV:=qAA.mk hv
 have HS2:=qAA.mk hs2
 clear h0 l0 h1 l1 h2 l2 hv hs2
 by_cases hc0:100 < m0.length
 case pos =>
  have i0a:decide ((m0.length:Int) > 100)=true:=decide_eq_true (by omega)
  have i0b:decide (100 < m0.length)=true:=decide_eq_true (by omega)
  have i0c:decide ((100:Int) < (m0.length:Int))=true:=decide_eq_true (by omega)
  go_enter Try.func25,Try.ntmps25
  go_wp2_with (first | ((with_reducible refine qAr (N:=1) rfl ?_);refine qAk ?hg (N:=1) ?hd (cs:=#[.slice A0 m0.length c0,.slice A1 m1.length c1,.slice A2 m2.length c2]) (t:=27) ?hr ?_;(case hd=>rfl);(case hg=>rfl);(case hr=>first | (go_simp;done) | (go_simp;rfl));intro gb hg w1 hbox hb1;have BX1:=qAA.mk hbox;have B1:=qAA.mk hb1;clear hbox hb1 hg;have z0:w1.cell? ⟨gb,0,none⟩=some (.slice A0 m0.length c0):=(qAB BX1.out 0).trans rfl;have z1:w1.cell? ⟨gb,1,none⟩=some (.slice A1 m1.length c1):=(qAB BX1.out 1).trans rfl;have z2:w1.cell? ⟨gb,2,none⟩=some (.slice A2 m2.length c2):=(qAB BX1.out 2).trans rfl))
  go_ret
  exact mb.told false rfl ⟨fun h=>by (cases h),fun h=>by have:=h.1;omega⟩ B1.out
 have i0a:decide ((m0.length:Int) > 100)=false:=decide_eq_false (by omega)
 have i0b:decide (100 < m0.length)=false:=decide_eq_false (by omega)
 have i0c:decide ((100:Int) < (m0.length:Int))=false:=decide_eq_false (by omega)
 by_cases hc1:24 < m1.length
 case pos =>
  have i1a:decide ((m1.length:Int) > 24)=true:=decide_eq_true (by omega)
  have i1b:decide (24 < m1.length)=true:=decide_eq_true (by omega)
  have i1c:decide ((24:Int) < (m1.length:Int))=true:=decide_eq_true (by omega)
  go_enter Try.func25,Try.ntmps25
  go_wp2_with (first | ((with_reducible refine qAr (N:=1) rfl ?_);refine qAk ?hg (N:=1) ?hd (cs:=#[.slice A0 m0.length c0,.slice A1 m1.length c1,.slice A2 m2.length c2]) (t:=27) ?hr ?_;(case hd=>rfl);(case hg=>rfl);(case hr=>first | (go_simp;done) | (go_simp;rfl));intro gb hg w1 hbox hb1;have BX1:=qAA.mk hbox;have B1:=qAA.mk hb1;clear hbox hb1 hg;have z0:w1.cell? ⟨gb,0,none⟩=some (.slice A0 m0.length c0):=(qAB BX1.out 0).trans rfl;have z1:w1.cell? ⟨gb,1,none⟩=some (.slice A1 m1.length c1):=(qAB BX1.out 1).trans rfl;have z2:w1.cell? ⟨gb,2,none⟩=some (.slice A2 m2.length c2):=(qAB BX1.out 2).trans rfl))
  go_ret
  exact mb.told false rfl ⟨fun h=>by (cases h),fun h=>by have:=h.2.1;omega⟩ B1.out
 have i1a:decide ((m1.length:Int) > 24)=false:=decide_eq_false (by omega)
 have i1b:decide (24 < m1.length)=false:=decide_eq_false (by omega)
 have i1c:decide ((24:Int) < (m1.length:Int))=false:=decide_eq_false (by omega)
 by_cases hc2:24 < m2.length
 case pos =>
  have i2a:decide ((m2.length:Int) > 24)=true:=decide_eq_true (by omega)
  have i2b:decide (24 < m2.length)=true:=decide_eq_true (by omega)
  have i2c:decide ((24:Int) < (m2.length:Int))=true:=decide_eq_true (by omega)
  go_enter Try.func25,Try.ntmps25
  go_wp2_with (first | ((with_reducible refine qAr (N:=1) rfl ?_);refine qAk ?hg (N:=1) ?hd (cs:=#[.slice A0 m0.length c0,.slice A1 m1.length c1,.slice A2 m2.length c2]) (t:=27) ?hr ?_;(case hd=>rfl);(case hg=>rfl);(case hr=>first | (go_simp;done) | (go_simp;rfl));intro gb hg w1 hbox hb1;have BX1:=qAA.mk hbox;have B1:=qAA.mk hb1;clear hbox hb1 hg;have z0:w1.cell? ⟨gb,0,none⟩=some (.slice A0 m0.length c0):=(qAB BX1.out 0).trans rfl;have z1:w1.cell? ⟨gb,1,none⟩=some (.slice A1 m1.length c1):=(qAB BX1.out 1).trans rfl;have z2:w1.cell? ⟨gb,2,none⟩=some (.slice A2 m2.length c2):=(qAB BX1.out 2).trans rfl))
  go_ret
  exact mb.told false rfl ⟨fun h=>by (cases h),fun h=>by have:=h.2.2.1;omega⟩ B1.out
 have i2a:decide ((m2.length:Int) > 24)=false:=decide_eq_false (by omega)
 have i2b:decide (24 < m2.length)=false:=decide_eq_false (by omega)
 have i2c:decide ((24:Int) < (m2.length:Int))=false:=decide_eq_false (by omega)
 have CON:=qAA.mk (fun (W:World) (hb:Below w.heap.size w W)=>mb.contains45 W (Kd.qAS HA0.out hb) HL0.out (by omega) HV.out)
 have HC0:=qAA.mk (show m0.length≤100 by omega);have HC1:=qAA.mk (show m1.length≤24 by omega);have HC2:=qAA.mk (show m2.length≤24 by omega)
 clear hc0 hc1 hc2
 go_enter Try.func25,Try.ntmps25
 go_wp2_with (first | ((with_reducible refine qAr (N:=1) rfl ?_);refine qAk ?hg (N:=1) ?hd (cs:=#[.slice A0 m0.length c0,.slice A1 m1.length c1,.slice A2 m2.length c2]) (t:=27) ?hr ?_;(case hd=>rfl);(case hg=>rfl);(case hr=>first | (go_simp;done) | (go_simp;rfl));intro gb hg w1 hbox hb1;have BX1:=qAA.mk hbox;have B1:=qAA.mk hb1;clear hbox hb1 hg;have z0:w1.cell? ⟨gb,0,none⟩=some (.slice A0 m0.length c0):=(qAB BX1.out 0).trans rfl;have z1:w1.cell? ⟨gb,1,none⟩=some (.slice A1 m1.length c1):=(qAB BX1.out 1).trans rfl;have z2:w1.cell? ⟨gb,2,none⟩=some (.slice A2 m2.length c2):=(qAB BX1.out 2).trans rfl) | (go_at_call 45;refine (CON.out _ B1.out).mono ?_;rintro e_ w2 ⟨t,rfl,ht,hb⟩;have HT:=qAA.mk ht;have B2:=qAA.mk (qAV B1.out hb);have BX2:=qAA.mk (qAL BX1.out hb);clear ht hb z0 z1 z2;have z0:=(qAB BX2.out 0).trans rfl;have z1:=(qAB BX2.out 1).trans rfl;have z2:=(qAB BX2.out 2).trans rfl))
 ·rename_i ht
  subst ht
  go_ret
  exact mb.told false rfl ⟨fun h=>by (cases h),fun h=>by cases HT.out.2 h.2.2.2.1⟩ B2.out
 have ht:t=false:=by
  cases t with
  | false=>rfl
  | true=>contradiction
 subst ht
 have HT0:=qAA.mk (HT.out.1 rfl)
 clear HT
 have B0:=qAA.mk (B2.out)
 clear z0 z1 z2 CON B1 BX1
 go_loopw [29] (fun v29 wr=>∃ j:Nat,v29=.int .i64 (j:Int)∧qAA (j≤m1.length∧∀ x ∈ m1.take j,mb.fm52 x)∧qAA (wr.heap[gb]?=some (.cells #[.slice A0 m0.length c0,.slice A1 m1.length c1,.slice A2 m2.length c2] 27 (0,0)))∧qAA (Below w.heap.size w wr)) (fun v29 _=>m1.length - (intOf v29).toNat)
 case atStart=>exact ⟨0,rfl,⟨Nat.zero_le _,fun x hx=>by simp at hx⟩,BX2,B0⟩
 case round =>
  clear BX2 B2 B0
  obtain ⟨j,rfl,HJ,BX2,HO⟩:=hrel
  have z0:=(qAB BX2.out 0).trans rfl
  have z1:=(qAB BX2.out 1).trans rfl
  have z2:=(qAB BX2.out 2).trans rfl
  by_cases hlt:j < m1.length
  ·have i1:decide ((j:Int) < (m1.length:Int))=true:=decide_eq_true (by omega)
   have i2:decide (j < m1.length)=true:=decide_eq_true hlt
   have i3:(j < m1.length)=True:=eq_true hlt
   have i4:(j:Int) < (m1.length:Int):=by omega
   have HWR:=qAA.mk (mb.row_wr hlt (by have:=HC1.out;omega))
   have HM:=qAA.mk (mb.meas j m1.length hlt HWR.out)
   have hg:m1[j]?=some (qAp m1 (j:Int)):=by
    unfold qAp
    rw [Int.toNat_natCast,List.getD_eq_getElem?_getD,List.getElem?_eq_getElem hlt]
    rfl
   obtain ⟨ad,ea,h0,h1,h2,h3⟩:=at_T52 (Kd.qAS HA1.out HO.out) (j:Int) (by omega) (by omega)
   subst ea
   rw [Int.toNat_natCast] at h0 h1 h2 h3
   generalize qAp m1 (j:Int)=x at *
   have HG:=qAA.mk hg
   have HX:=qAA.mk (List.mem_of_getElem? hg)
   have HTK:=qAA.mk (fun (q:mb.fm52 x)=>show ∀ y ∈ m1.take (j+1),mb.fm52 y from fun y hy=>by
    rw [List.take_add_one,hg] at hy
    rcases List.mem_append.1 hy with hy | hy
    ·exact HJ.out.2 y hy
    ·rw [show y=x by simpa using hy];exact q)
   have LB:=qAA.mk (show (wr.alloc (.cells #[.int .i64 x.f0,.int .i64 x.f1,.int .i64 x.f2,.string x.f3] 52)).heap[wr.heap.size]?=some (.cells #[.int .i64 x.f0,.int .i64 x.f1,.int .i64 x.f2,.string x.f3] 52 (0,0)) by simpa using heap_alloc_new wr _)
   have BA:=qAA.mk (HO.out.alloc HO.out.size (.cells #[.int .i64 x.f0,.int .i64 x.f1,.int .i64 x.f2,.string x.f3] 52))
   have BY:=qAA.mk (qAK BX2.out (.cells #[.int .i64 x.f0,.int .i64 x.f1,.int .i64 x.f2,.string x.f3] 52))
   clear hlt hg
   by_cases p0:0≤x.f0∧x.f0≤8
   case neg =>
    have WN0:=qAA.mk (fun (W:World)=>show Calls Try.prog 48 #[.int .i64 x.f0,.int .i64 0,.int .i64 8] W (fun e w'=>e=.returned (.bool false)∧Below W.heap.size W w') from (mb.qCP x.f0 (0) (8) W).mono (fun e w' q=>⟨q.1.trans (by rw [decide_eq_false p0]),q.2⟩))
    go_wp2_with (first | (go_at_call 48;refine (WN0.out _).mono ?_;rintro e_ w3 ⟨rfl,hb⟩;have BA0:=qAA.mk (qAU BA.out BA.out.size hb);have LB0:=qAA.mk (qAL LB.out hb);have BY0:=qAA.mk (qAL BY.out hb);clear hb h0 h1 h2 h3 z0 z1 z2;have y0:=(qAB LB0.out 0).trans rfl;have y1:=(qAB LB0.out 1).trans rfl;have y2:=(qAB LB0.out 2).trans rfl;have y3:=(qAB LB0.out 3).trans rfl))
    go_ret
    exact mb.told false rfl ⟨fun h=>by (cases h),fun h=>absurd (h.2.2.2.2.1 x HX.out) (fun q=>p0 q.1)⟩ BA0.out
   have WN0:=qAA.mk (fun (W:World)=>show Calls Try.prog 48 #[.int .i64 x.f0,.int .i64 0,.int .i64 8] W (fun e w'=>e=.returned (.bool true)∧Below W.heap.size W w') from (mb.qCP x.f0 (0) (8) W).mono (fun e w' q=>⟨q.1.trans (by rw [decide_eq_true p0]),q.2⟩))
   by_cases p1:x.f0≤x.f1∧x.f1≤32
   case neg =>
    have WN1:=qAA.mk (fun (W:World)=>show Calls Try.prog 48 #[.int .i64 x.f1,.int .i64 x.f0,.int .i64 32] W (fun e w'=>e=.returned (.bool false)∧Below W.heap.size W w') from (mb.qCP x.f1 (x.f0) (32) W).mono (fun e w' q=>⟨q.1.trans (by rw [decide_eq_false p1]),q.2⟩))
    have tk0:=qAA.mk True.intro
    go_wp2_with (first | (go_at_call 48;clear tk0;refine (WN0.out _).mono ?_;rintro e_ w3 ⟨rfl,hb⟩;have BA0:=qAA.mk (qAU BA.out BA.out.size hb);have LB0:=qAA.mk (qAL LB.out hb);have BY0:=qAA.mk (qAL BY.out hb);clear hb h0 h1 h2 h3 z0 z1 z2;have y0:=(qAB LB0.out 0).trans rfl;have y1:=(qAB LB0.out 1).trans rfl;have y2:=(qAB LB0.out 2).trans rfl;have y3:=(qAB LB0.out 3).trans rfl) | (go_at_call 48;refine (WN1.out _).mono ?_;rintro e_ w4 ⟨rfl,hb⟩;have BA1:=qAA.mk (qAU BA0.out BA0.out.size hb);have LB1:=qAA.mk (qAL LB0.out hb);have BY1:=qAA.mk (qAL BY0.out hb);clear hb y0 y1 y2 y3;have y0:=(qAB LB1.out 0).trans rfl;have y1:=(qAB LB1.out 1).trans rfl;have y2:=(qAB LB1.out 2).trans rfl;have y3:=(qAB LB1.out 3).trans rfl))
    go_ret
    exact mb.told false rfl ⟨fun h=>by (cases h),fun h=>absurd (h.2.2.2.2.1 x HX.out) (fun q=>p1 q.2.1)⟩ BA1.out
   have WN1:=qAA.mk (fun (W:World)=>show Calls Try.prog 48 #[.int .i64 x.f1,.int .i64 x.f0,.int .i64 32] W (fun e w'=>e=.returned (.bool true)∧Below W.heap.size W w') from (mb.qCP x.f1 (x.f0) (32) W).mono (fun e w' q=>⟨q.1.trans (by rw [decide_eq_true p1]),q.2⟩))
   by_cases p2:0≤x.f2∧x.f2≤40
   case neg =>
    have WN2:=qAA.mk (fun (W:World)=>show Calls Try.prog 48 #[.int .i64 x.f2,.int .i64 0,.int .i64 40] W (fun e w'=>e=.returned (.bool false)∧Below W.heap.size W w') from (mb.qCP x.f2 (0) (40) W).mono (fun e w' q=>⟨q.1.trans (by rw [decide_eq_false p2]),q.2⟩))
    have tk0:=qAA.mk True.intro
    have tk1:=qAA.mk True.intro
    go_wp2_with (first | (go_at_call 48;clear tk0;refine (WN0.out _).mono ?_;rintro e_ w3 ⟨rfl,hb⟩;have BA0:=qAA.mk (qAU BA.out BA.out.size hb);have LB0:=qAA.mk (qAL LB.out hb);have BY0:=qAA.mk (qAL BY.out hb);clear hb h0 h1 h2 h3 z0 z1 z2;have y0:=(qAB LB0.out 0).trans rfl;have y1:=(qAB LB0.out 1).trans rfl;have y2:=(qAB LB0.out 2).trans rfl;have y3:=(qAB LB0.out 3).trans rfl) | (go_at_call 48;clear tk1;refine (WN1.out _).mono ?_;rintro e_ w4 ⟨rfl,hb⟩;have BA1:=qAA.mk (qAU BA0.out BA0.out.size hb);have LB1:=qAA.mk (qAL LB0.out hb);have BY1:=qAA.mk (qAL BY0.out hb);clear hb y0 y1 y2 y3;have y0:=(qAB LB1.out 0).trans rfl;have y1:=(qAB LB1.out 1).trans rfl;have y2:=(qAB LB1.out 2).trans rfl;have y3:=(qAB LB1.out 3).trans rfl) | (go_at_call 48;refine (WN2.out _).mono ?_;rintro e_ w5 ⟨rfl,hb⟩;have BA2:=qAA.mk (qAU BA1.out BA1.out.size hb);have LB2:=qAA.mk (qAL LB1.out hb);have BY2:=qAA.mk (qAL BY1.out hb);clear hb y0 y1 y2 y3;have y0:=(qAB LB2.out 0).trans rfl;have y1:=(qAB LB2.out 1).trans rfl;have y2:=(qAB LB2.out 2).trans rfl;have y3:=(qAB LB2.out 3).trans rfl))
    go_ret
    exact mb.told false rfl ⟨fun h=>by (cases h),fun h=>absurd (h.2.2.2.2.1 x HX.out) (fun q=>p2 q.2.2.1)⟩ BA2.out
   have WN2:=qAA.mk (fun (W:World)=>show Calls Try.prog 48 #[.int .i64 x.f2,.int .i64 0,.int .i64 40] W (fun e w'=>e=.returned (.bool true)∧Below W.heap.size W w') from (mb.qCP x.f2 (0) (40) W).mono (fun e w' q=>⟨q.1.trans (by rw [decide_eq_true p2]),q.2⟩))
   by_cases p3:x.f3.size≤4000
   case neg =>
    have j1:decide ((x.f3.size:Int) > 4000)=true:=decide_eq_true (by omega)
    have j2:decide (4000 < x.f3.size)=true:=decide_eq_true (by omega)
    have j3:decide ((4000:Int) < (x.f3.size:Int))=true:=decide_eq_true (by omega)
    have tk0:=qAA.mk True.intro
    have tk1:=qAA.mk True.intro
    go_wp2_with (first | (go_at_call 48;clear tk0;refine (WN0.out _).mono ?_;rintro e_ w3 ⟨rfl,hb⟩;have BA0:=qAA.mk (qAU BA.out BA.out.size hb);have LB0:=qAA.mk (qAL LB.out hb);have BY0:=qAA.mk (qAL BY.out hb);clear hb h0 h1 h2 h3 z0 z1 z2;have y0:=(qAB LB0.out 0).trans rfl;have y1:=(qAB LB0.out 1).trans rfl;have y2:=(qAB LB0.out 2).trans rfl;have y3:=(qAB LB0.out 3).trans rfl) | (go_at_call 48;clear tk1;refine (WN1.out _).mono ?_;rintro e_ w4 ⟨rfl,hb⟩;have BA1:=qAA.mk (qAU BA0.out BA0.out.size hb);have LB1:=qAA.mk (qAL LB0.out hb);have BY1:=qAA.mk (qAL BY0.out hb);clear hb y0 y1 y2 y3;have y0:=(qAB LB1.out 0).trans rfl;have y1:=(qAB LB1.out 1).trans rfl;have y2:=(qAB LB1.out 2).trans rfl;have y3:=(qAB LB1.out 3).trans rfl) | (go_at_call 48;refine (WN2.out _).mono ?_;rintro e_ w5 ⟨rfl,hb⟩;have BA2:=qAA.mk (qAU BA1.out BA1.out.size hb);have LB2:=qAA.mk (qAL LB1.out hb);have BY2:=qAA.mk (qAL BY1.out hb);clear hb y0 y1 y2 y3;have y0:=(qAB LB2.out 0).trans rfl;have y1:=(qAB LB2.out 1).trans rfl;have y2:=(qAB LB2.out 2).trans rfl;have y3:=(qAB LB2.out 3).trans rfl))
    go_ret
    exact mb.told false rfl ⟨fun h=>by (cases h),fun h=>absurd (h.2.2.2.2.1 x HX.out) (fun q=>p3 q.2.2.2)⟩ BA2.out
   case pos =>
    have j1:decide ((x.f3.size:Int) > 4000)=false:=decide_eq_false (by omega)
    have j2:decide (4000 < x.f3.size)=false:=decide_eq_false (by omega)
    have j3:decide ((4000:Int) < (x.f3.size:Int))=false:=decide_eq_false (by omega)
    have tk0:=qAA.mk True.intro
    have tk1:=qAA.mk True.intro
    go_wp2_with (first | (go_at_call 48;clear tk0;refine (WN0.out _).mono ?_;rintro e_ w3 ⟨rfl,hb⟩;have BA0:=qAA.mk (qAU BA.out BA.out.size hb);have LB0:=qAA.mk (qAL LB.out hb);have BY0:=qAA.mk (qAL BY.out hb);clear hb h0 h1 h2 h3 z0 z1 z2;have y0:=(qAB LB0.out 0).trans rfl;have y1:=(qAB LB0.out 1).trans rfl;have y2:=(qAB LB0.out 2).trans rfl;have y3:=(qAB LB0.out 3).trans rfl) | (go_at_call 48;clear tk1;refine (WN1.out _).mono ?_;rintro e_ w4 ⟨rfl,hb⟩;have BA1:=qAA.mk (qAU BA0.out BA0.out.size hb);have LB1:=qAA.mk (qAL LB0.out hb);have BY1:=qAA.mk (qAL BY0.out hb);clear hb y0 y1 y2 y3;have y0:=(qAB LB1.out 0).trans rfl;have y1:=(qAB LB1.out 1).trans rfl;have y2:=(qAB LB1.out 2).trans rfl;have y3:=(qAB LB1.out 3).trans rfl) | (go_at_call 48;refine (WN2.out _).mono ?_;rintro e_ w5 ⟨rfl,hb⟩;have BA2:=qAA.mk (qAU BA1.out BA1.out.size hb);have LB2:=qAA.mk (qAL LB1.out hb);have BY2:=qAA.mk (qAL BY1.out hb);clear hb y0 y1 y2 y3;have y0:=(qAB LB2.out 0).trans rfl;have y1:=(qAB LB2.out 1).trans rfl;have y2:=(qAB LB2.out 2).trans rfl;have y3:=(qAB LB2.out 3).trans rfl))
    go_roundw
    case rel=>exact ⟨j+1,by rw [HWR.out];rfl,⟨by have:=i4;omega,HTK.out ⟨p0,p1,p2,p3⟩⟩,BY2,BA2⟩
    case measure=>exact HM.out
  ·have i1:decide ((j:Int) < (m1.length:Int))=false:=decide_eq_false (by omega)
   have i2:decide (j < m1.length)=false:=decide_eq_false hlt
   have i3:(j < m1.length)=False:=eq_false hlt
   have HF1:=qAA.mk (show ∀ x ∈ m1,mb.fm52 x from fun x hx=>HJ.out.2 x (by rw [List.take_of_length_le (by omega)];exact hx))
   clear hlt HJ
   go_wp2
   clear z0 z1 z2
   go_loopw [61] (fun v61 wr=>∃ j:Nat,v61=.int .i64 (j:Int)∧qAA (j≤m2.length∧∀ i,i < j→mb.fm56 m1.length m2 i)∧qAA (wr.heap[gb]?=some (.cells #[.slice A0 m0.length c0,.slice A1 m1.length c1,.slice A2 m2.length c2] 27 (0,0)))∧qAA (Below w.heap.size w wr)) (fun v61 _=>m2.length - (intOf v61).toNat)
   case atStart=>exact ⟨0,rfl,⟨Nat.zero_le _,fun i hi=>absurd hi (Nat.not_lt_zero i)⟩,BX2,HO⟩
   case round =>
    clear BX2 HO i1 i2 i3
    obtain ⟨j,rfl,HJ,BX2,HO⟩:=hrel
    have z0:=(qAB BX2.out 0).trans rfl
    have z1:=(qAB BX2.out 1).trans rfl
    have z2:=(qAB BX2.out 2).trans rfl
    by_cases hlt:j < m2.length
    ·have i1:decide ((j:Int) < (m2.length:Int))=true:=decide_eq_true (by omega)
     have i2:decide (j < m2.length)=true:=decide_eq_true hlt
     have i3:(j < m2.length)=True:=eq_true hlt
     have i4:(j:Int) < (m2.length:Int):=by omega
     have HWR:=qAA.mk (mb.row_wr hlt (by have:=HC2.out;omega))
     have HM:=qAA.mk (mb.meas j m2.length hlt HWR.out)
     have hg:m2[j]?=some (qAy m2 (j:Int)):=by
      unfold qAy
      rw [Int.toNat_natCast,List.getD_eq_getElem?_getD,List.getElem?_eq_getElem hlt]
      rfl
     obtain ⟨ad,ea,h0,h1⟩:=at_T56 (Kd.qAS HA2.out HO.out) (j:Int) (by omega) (by omega)
     subst ea
     rw [Int.toNat_natCast] at h0 h1
     generalize qAy m2 (j:Int)=x at *
     have HG:=qAA.mk hg
     have HX:=qAA.mk (List.mem_of_getElem? hg)
     have LB:=qAA.mk (show (wr.alloc (.cells #[.string x.f0,.int .i64 x.f1] 56)).heap[wr.heap.size]?=some (.cells #[.string x.f0,.int .i64 x.f1] 56 (0,0)) by simpa using heap_alloc_new wr _)
     have BA:=qAA.mk (HO.out.alloc HO.out.size (.cells #[.string x.f0,.int .i64 x.f1] 56))
     have BY:=qAA.mk (qAK BX2.out (.cells #[.string x.f0,.int .i64 x.f1] 56))
     have hwm:wrap64 ((m1.length:Int) - 1)=(m1.length:Int) - 1:=by have:=HC1.out;unfold wrap64;omega
     have hwm2:IntKind.i64.wrap ((m1.length:Int) - 1)=(m1.length:Int) - 1:=(qAR _).trans hwm
     have ISN:=qAA.mk (fun (W:World)=>mb.isname9 x.f0 (HS2.out x HX.out) W)
     have HFM:=qAA.mk (fun (q:mb.FM m0 m1 m2)=>q.2.2.2.2.2 j hlt x hg)
     clear hlt hg BX2
     go_wp2
     clear h0 h1 z0 z1 z2
     generalize wr.alloc (.cells #[.string x.f0,.int .i64 x.f1] 56)=w2 at *
     cases p0:mb.isN x.f0 with
     | false =>
      rw [p0] at ISN
      refine qAn (n:=30) (S:=fun w'=>w'.cell? ⟨gb,1,none⟩=some (.slice A1 m1.length c1)∧w'.cell? ⟨gb,2,none⟩=some (.slice (some ad) m2.length c2)∧w'.cell? ⟨wr.heap.size,0,none⟩=some (.string x.f0)∧w'.cell? ⟨wr.heap.size,1,none⟩=some (.int .i64 x.f1)) (ds:=[]) #[qF,qF,qF,qF,qF,qF,qF,qF,qF,qF,qF,qF,qF,qF,qF,qF,qF,qF,qF,qF,qF,qF,qF,qF,qF,qF,qF,qF,qF,qF] (by kernel_rfl) rfl rfl ⟨(qAB (qAJ BY.out) 1).trans rfl,(qAB (qAJ BY.out) 2).trans rfl,(qAB (qAJ LB.out) 0).trans rfl,(qAB (qAJ LB.out) 1).trans rfl⟩ (fun hHeld => ?_)
      generalize hwd:w2.drew=wd at hHeld ⊢
      have BAd:=qAA.mk (hwd▸qAM BA.out)
      have LBd:=qAA.mk (hwd▸qAJ LB.out)
      have BYd:=qAA.mk (hwd▸qAJ BY.out)
      clear hwd BA LB BY
      refine pU 0 66 ?_
      refine tK 1 67 hHeld ?_
      refine one_ (i:=2) (N:=some 68) #[qT,qT,qT,qF,qF,qF,qF,qF,qF,qF,qF,qF,qF,qF,qF,qF,qF,qF,qF,qF,qF,qF,qF,qF,qF,qF,qF,qF,qF,qF] rfl rfl (by kernel_rfl) (by decide) (fun K hK => ?_)
      refine qBJ Try.func9 (by kernel_rfl) rfl #[.string x.f0] (by rfl) rfl rfl (by (try simp only [List.map_toArray,List.map_cons,List.map_nil]);first | done | rfl) ?_
      refine (ISN.out wd).mono ?_
      rintro e w3 ⟨rfl,hb⟩
      refine ⟨_,rfl, ?_⟩
      have BA3:=qAA.mk (qAU BAd.out BAd.out.size hb)
      have LB3:=qAA.mk (qAL LBd.out hb)
      have BY3:=qAA.mk (qAL BYd.out hb)
      clear hb
      refine hK.out _ _ ⟨(qAB BY3.out 1).trans rfl,(qAB BY3.out 2).trans rfl,(qAB LB3.out 0).trans rfl,(qAB LB3.out 1).trans rfl⟩ (fun hHeld => ?_)
      clear hK K
      refine qAi (a' := ?_) ?_ ?_
      rotate_left
      ·show Act.put _ (some 68) _=_
       simp only [Act.put,qs1,qs2,qs3,qAR,qAT]
       rfl
      refine pU 3 69 ?_
      refine pU 4 70 ?_
      refine pN 5 71 ?_
      refine pN 6 72 ?_
      refine pN 7 73 ?_
      refine pN 8 74 ?_
      refine pN 9 75 ?_
      refine pN 10 76 ?_
      refine pN 11 77 ?_
      refine pN 12 78 ?_
      refine pU 13 79 ?_
      refine pU 14 80 ?_
      refine pN 15 81 ?_
      refine pN 16 82 ?_
      refine pN 17 83 ?_
      refine pN 18 84 ?_
      refine pN 19 85 ?_
      refine pN 20 86 ?_
      refine pN 21 87 ?_
      refine pN 22 88 ?_
      refine pN 23 89 ?_
      refine pN 24 90 ?_
      refine pN 25 91 ?_
      refine pN 26 92 ?_
      refine pN 27 93 ?_
      refine pN 28 94 ?_
      refine pU 29 95 ?_
      refine qA6 (by kernel_rfl) ?_
      go_wp2
      go_ret
      exact mb.told false rfl ⟨fun h=>by (cases h),fun h=>by have:=(HFM.out h).1;rw [p0] at this;cases this⟩ BA3.out
     | true =>
      rw [p0] at ISN
      by_cases p1:0≤x.f1∧x.f1≤(m1.length:Int) - 1
      case neg =>
       have WN:=qAA.mk (fun (W:World)=>show Calls Try.prog 48 #[.int .i64 x.f1,.int .i64 0,.int .i64 ((m1.length:Int) - 1)] W (fun e w'=>e=.returned (.bool false)∧Below W.heap.size W w') from (mb.qCP x.f1 0 ((m1.length:Int) - 1) W).mono (fun e w' q=>⟨q.1.trans (by rw [decide_eq_false p1]),q.2⟩))
       refine qAn (n:=30) (S:=fun w'=>w'.cell? ⟨gb,1,none⟩=some (.slice A1 m1.length c1)∧w'.cell? ⟨gb,2,none⟩=some (.slice (some ad) m2.length c2)∧w'.cell? ⟨wr.heap.size,0,none⟩=some (.string x.f0)∧w'.cell? ⟨wr.heap.size,1,none⟩=some (.int .i64 x.f1)) (ds:=[]) #[qF,qF,qF,qF,qF,qF,qF,qF,qF,qF,qF,qF,qF,qF,qF,qF,qF,qF,qF,qF,qF,qF,qF,qF,qF,qF,qF,qF,qF,qF] (by kernel_rfl) rfl rfl ⟨(qAB (qAJ BY.out) 1).trans rfl,(qAB (qAJ BY.out) 2).trans rfl,(qAB (qAJ LB.out) 0).trans rfl,(qAB (qAJ LB.out) 1).trans rfl⟩ (fun hHeld => ?_)
       generalize hwd:w2.drew=wd at hHeld ⊢
       have BAd:=qAA.mk (hwd▸qAM BA.out)
       have LBd:=qAA.mk (hwd▸qAJ LB.out)
       have BYd:=qAA.mk (hwd▸qAJ BY.out)
       clear hwd BA LB BY
       refine pU 0 66 ?_
       refine tK 1 67 hHeld ?_
       refine one_ (i:=2) (N:=some 68) #[qT,qT,qT,qF,qF,qF,qF,qF,qF,qF,qF,qF,qF,qF,qF,qF,qF,qF,qF,qF,qF,qF,qF,qF,qF,qF,qF,qF,qF,qF] rfl rfl (by kernel_rfl) (by decide) (fun K hK => ?_)
       refine qBJ Try.func9 (by kernel_rfl) rfl #[.string x.f0] (by rfl) rfl rfl (by (try simp only [List.map_toArray,List.map_cons,List.map_nil]);first | done | rfl) ?_
       refine (ISN.out wd).mono ?_
       rintro e w3 ⟨rfl,hb⟩
       refine ⟨_,rfl, ?_⟩
       have BA3:=qAA.mk (qAU BAd.out BAd.out.size hb)
       have LB3:=qAA.mk (qAL LBd.out hb)
       have BY3:=qAA.mk (qAL BYd.out hb)
       clear hb
       refine hK.out _ _ ⟨(qAB BY3.out 1).trans rfl,(qAB BY3.out 2).trans rfl,(qAB LB3.out 0).trans rfl,(qAB LB3.out 1).trans rfl⟩ (fun hHeld => ?_)
       clear hK K
       refine qAi (a' := ?_) ?_ ?_
       rotate_left
       ·show Act.put _ (some 68) _=_
        simp only [Act.put,qs1,qs2,qs3,qAR,qAT]
        rfl
       refine pU 3 69 ?_
       refine pU 4 70 ?_
       refine pU 5 71 ?_
       refine pU 7 73 ?_
       refine tK 6 72 hHeld ?_
       refine tK 8 74 hHeld ?_
       refine pU 9 75 ?_
       refine pU 10 76 ?_
       refine one_ (i:=11) (N:=some 77) #[qT,qT,qT,qT,qT,qT,qT,qT,qT,qT,qT,qT,qF,qF,qF,qF,qF,qF,qF,qF,qF,qF,qF,qF,qF,qF,qF,qF,qF,qF] rfl rfl (by kernel_rfl) (by decide) (fun K hK => ?_)
       refine qBJ Try.func48 (by kernel_rfl) rfl #[.int .i64 x.f1,.int .i64 0,.int .i64 ((m1.length:Int) - 1)] (by rfl) rfl rfl (by (try simp only [List.map_toArray,List.map_cons,List.map_nil]);first | done | rfl) ?_
       refine (WN.out w3).mono ?_
       rintro e w4 ⟨rfl,hb⟩
       refine ⟨_,rfl, ?_⟩
       have BA4:=qAA.mk (qAU BA3.out BA3.out.size hb)
       have LB4:=qAA.mk (qAL LB3.out hb)
       have BY4:=qAA.mk (qAL BY3.out hb)
       clear hb
       refine hK.out _ _ ⟨(qAB BY4.out 1).trans rfl,(qAB BY4.out 2).trans rfl,(qAB LB4.out 0).trans rfl,(qAB LB4.out 1).trans rfl⟩ (fun hHeld => ?_)
       clear hK K
       refine qAi (a' := ?_) ?_ ?_
       rotate_left
       ·show Act.put _ (some 77) _=_
        simp only [Act.put,qs1,qs2,qs3,qAR,qAT]
        rfl
       refine pU 12 78 ?_
       refine pU 13 79 ?_
       refine pU 14 80 ?_
       refine pN 15 81 ?_
       refine pN 16 82 ?_
       refine pN 17 83 ?_
       refine pN 18 84 ?_
       refine pN 19 85 ?_
       refine pN 20 86 ?_
       refine pN 21 87 ?_
       refine pN 22 88 ?_
       refine pN 23 89 ?_
       refine pN 24 90 ?_
       refine pN 25 91 ?_
       refine pN 26 92 ?_
       refine pN 27 93 ?_
       refine pN 28 94 ?_
       refine pU 29 95 ?_
       refine qA6 (by kernel_rfl) ?_
       go_wp2
       go_ret
       exact mb.told false rfl ⟨fun h=>by (cases h),fun h=>absurd (HFM.out h).2.1 p1⟩ BA4.out
      have WN:=qAA.mk (fun (W:World)=>show Calls Try.prog 48 #[.int .i64 x.f1,.int .i64 0,.int .i64 ((m1.length:Int) - 1)] W (fun e w'=>e=.returned (.bool true)∧Below W.heap.size W w') from (mb.qCP x.f1 0 ((m1.length:Int) - 1) W).mono (fun e w' q=>⟨q.1.trans (by rw [decide_eq_true p1]),q.2⟩))
      by_cases p2:j=0
      case pos =>
       subst p2
       refine qAn (n:=30) (S:=fun w'=>w'.cell? ⟨gb,1,none⟩=some (.slice A1 m1.length c1)∧w'.cell? ⟨gb,2,none⟩=some (.slice (some ad) m2.length c2)∧w'.cell? ⟨wr.heap.size,0,none⟩=some (.string x.f0)∧w'.cell? ⟨wr.heap.size,1,none⟩=some (.int .i64 x.f1)) (ds:=[]) #[qF,qF,qF,qF,qF,qF,qF,qF,qF,qF,qF,qF,qF,qF,qF,qF,qF,qF,qF,qF,qF,qF,qF,qF,qF,qF,qF,qF,qF,qF] (by kernel_rfl) rfl rfl ⟨(qAB (qAJ BY.out) 1).trans rfl,(qAB (qAJ BY.out) 2).trans rfl,(qAB (qAJ LB.out) 0).trans rfl,(qAB (qAJ LB.out) 1).trans rfl⟩ (fun hHeld => ?_)
       generalize hwd:w2.drew=wd at hHeld ⊢
       have BAd:=qAA.mk (hwd▸qAM BA.out)
       have LBd:=qAA.mk (hwd▸qAJ LB.out)
       have BYd:=qAA.mk (hwd▸qAJ BY.out)
       clear hwd BA LB BY
       refine pU 0 66 ?_
       refine tK 1 67 hHeld ?_
       refine one_ (i:=2) (N:=some 68) #[qT,qT,qT,qF,qF,qF,qF,qF,qF,qF,qF,qF,qF,qF,qF,qF,qF,qF,qF,qF,qF,qF,qF,qF,qF,qF,qF,qF,qF,qF] rfl rfl (by kernel_rfl) (by decide) (fun K hK => ?_)
       refine qBJ Try.func9 (by kernel_rfl) rfl #[.string x.f0] (by rfl) rfl rfl (by (try simp only [List.map_toArray,List.map_cons,List.map_nil]);first | done | rfl) ?_
       refine (ISN.out wd).mono ?_
       rintro e w3 ⟨rfl,hb⟩
       refine ⟨_,rfl, ?_⟩
       have BA3:=qAA.mk (qAU BAd.out BAd.out.size hb)
       have LB3:=qAA.mk (qAL LBd.out hb)
       have BY3:=qAA.mk (qAL BYd.out hb)
       clear hb
       refine hK.out _ _ ⟨(qAB BY3.out 1).trans rfl,(qAB BY3.out 2).trans rfl,(qAB LB3.out 0).trans rfl,(qAB LB3.out 1).trans rfl⟩ (fun hHeld => ?_)
       clear hK K
       refine qAi (a' := ?_) ?_ ?_
       rotate_left
       ·show Act.put _ (some 68) _=_
        simp only [Act.put,qs1,qs2,qs3,qAR,qAT]
        rfl
       refine pU 3 69 ?_
       refine pU 4 70 ?_
       refine pU 5 71 ?_
       refine pU 7 73 ?_
       refine tK 6 72 hHeld ?_
       refine tK 8 74 hHeld ?_
       refine pU 9 75 ?_
       refine pU 10 76 ?_
       refine one_ (i:=11) (N:=some 77) #[qT,qT,qT,qT,qT,qT,qT,qT,qT,qT,qT,qT,qF,qF,qF,qF,qF,qF,qF,qF,qF,qF,qF,qF,qF,qF,qF,qF,qF,qF] rfl rfl (by kernel_rfl) (by decide) (fun K hK => ?_)
       refine qBJ Try.func48 (by kernel_rfl) rfl #[.int .i64 x.f1,.int .i64 0,.int .i64 ((m1.length:Int) - 1)] (by rfl) rfl rfl (by (try simp only [List.map_toArray,List.map_cons,List.map_nil]);first | done | rfl) ?_
       refine (WN.out w3).mono ?_
       rintro e w4 ⟨rfl,hb⟩
       refine ⟨_,rfl, ?_⟩
       have BA4:=qAA.mk (qAU BA3.out BA3.out.size hb)
       have LB4:=qAA.mk (qAL LB3.out hb)
       have BY4:=qAA.mk (qAL BY3.out hb)
       clear hb
       refine hK.out _ _ ⟨(qAB BY4.out 1).trans rfl,(qAB BY4.out 2).trans rfl,(qAB LB4.out 0).trans rfl,(qAB LB4.out 1).trans rfl⟩ (fun hHeld => ?_)
       clear hK K
       refine qAi (a' := ?_) ?_ ?_
       rotate_left
       ·show Act.put _ (some 77) _=_
        simp only [Act.put,qs1,qs2,qs3,qAR,qAT]
        rfl
       refine pU 12 78 ?_
       refine pU 13 79 ?_
       refine pU 14 80 ?_
       refine pU 15 81 ?_
       refine pU 16 82 ?_
       refine pU 17 83 ?_
       refine pN 18 84 ?_
       refine pN 19 85 ?_
       refine pN 20 86 ?_
       refine pN 21 87 ?_
       refine pN 22 88 ?_
       refine pN 23 89 ?_
       refine pN 24 90 ?_
       refine pN 25 91 ?_
       refine pN 26 92 ?_
       refine pN 27 93 ?_
       refine pU 28 94 ?_
       refine pU 29 95 ?_
       refine qA6 (by kernel_rfl) ?_
       go_wp2
       go_roundw
       case rel=>exact ⟨1,by rfl,⟨by have:=i4;omega,fun i hi y hy=>by
        obtain rfl:i=0:=by omega
        rw [HG.out] at hy
        cases hy
        exact ⟨p0,p1,fun h=>absurd h (by omega)⟩⟩,BY4,BA4⟩
       case measure=>show m2.length - 1 < m2.length - 0;have:=i4;omega
      obtain ⟨k,rfl⟩:∃ k,j=k+1:=⟨j - 1,by omega⟩
      have hkl:k < m2.length:=by have:=i4;omega
      have hk0:(0:Int)≤(k:Int):=by omega
      have hk1:wrap64 (((k+1:Nat):Int) - 1)=(k:Int):=by have:=HC2.out;unfold wrap64;omega
      have hk5:wrap64 (k:Int)=(k:Int):=by have:=HC2.out;unfold wrap64;omega
      have hk6:IntKind.i64.wrap (k:Int)=(k:Int):=(qAR _).trans hk5
      have hk2:(((k+1:Nat):Int)) > 0:=by omega
      have hk3:decide ((((k+1:Nat):Int)) > 0)=true:=decide_eq_true hk2
      have hk4:(k:Int) < (m2.length:Int):=by omega
      have hgk:m2[k]?=some (qAy m2 (k:Int)):=by
       unfold qAy
       rw [Int.toNat_natCast,List.getD_eq_getElem?_getD,List.getElem?_eq_getElem hkl]
       rfl
      generalize qAy m2 (k:Int)=y at *
      have HGK:=qAA.mk hgk
      have G0:=qAA.mk (Kd.qAS HA2.out BA.out)
      clear hgk hkl
      cases p3:Op.bytesLess y.f0.toList x.f0.toList with
      | false =>
       refine qAn (n:=30) (S:=fun w'=>w'.cell? ⟨gb,1,none⟩=some (.slice A1 m1.length c1)∧w'.cell? ⟨gb,2,none⟩=some (.slice (some ad) m2.length c2)∧w'.cell? ⟨wr.heap.size,0,none⟩=some (.string x.f0)∧w'.cell? ⟨wr.heap.size,1,none⟩=some (.int .i64 x.f1)∧w'.cell? (ad.add (k * 2))=some (.string y.f0)) (ds:=[]) #[qF,qF,qF,qF,qF,qF,qF,qF,qF,qF,qF,qF,qF,qF,qF,qF,qF,qF,qF,qF,qF,qF,qF,qF,qF,qF,qF,qF,qF,qF] (by kernel_rfl) rfl rfl ⟨(qAB (qAJ BY.out) 1).trans rfl,(qAB (qAJ BY.out) 2).trans rfl,(qAB (qAJ LB.out) 0).trans rfl,(qAB (qAJ LB.out) 1).trans rfl,(mb.cell56 (Kd.qAS G0.out (qAM (Below.refl _ _))) HGK.out)⟩ (fun hHeld => ?_)
       generalize hwd:w2.drew=wd at hHeld ⊢
       have BAd:=qAA.mk (hwd▸qAM BA.out)
       have LBd:=qAA.mk (hwd▸qAJ LB.out)
       have BYd:=qAA.mk (hwd▸qAJ BY.out)
       have Gd:=qAA.mk (hwd▸Kd.qAS G0.out (qAM (Below.refl _ _)))
       clear hwd BA LB BY G0
       refine pU 0 66 ?_
       refine tK 1 67 hHeld ?_
       refine one_ (i:=2) (N:=some 68) #[qT,qT,qT,qF,qF,qF,qF,qF,qF,qF,qF,qF,qF,qF,qF,qF,qF,qF,qF,qF,qF,qF,qF,qF,qF,qF,qF,qF,qF,qF] rfl rfl (by kernel_rfl) (by decide) (fun K hK => ?_)
       refine qBJ Try.func9 (by kernel_rfl) rfl #[.string x.f0] (by rfl) rfl rfl (by (try simp only [List.map_toArray,List.map_cons,List.map_nil]);first | done | rfl) ?_
       refine (ISN.out wd).mono ?_
       rintro e w3 ⟨rfl,hb⟩
       refine ⟨_,rfl, ?_⟩
       have BA3:=qAA.mk (qAU BAd.out BAd.out.size hb)
       have LB3:=qAA.mk (qAL LBd.out hb)
       have BY3:=qAA.mk (qAL BYd.out hb)
       have G3:=qAA.mk (Kd.qAS Gd.out hb)
       clear hb
       refine hK.out _ _ ⟨(qAB BY3.out 1).trans rfl,(qAB BY3.out 2).trans rfl,(qAB LB3.out 0).trans rfl,(qAB LB3.out 1).trans rfl,(mb.cell56 G3.out HGK.out)⟩ (fun hHeld => ?_)
       clear hK K
       refine qAi (a' := ?_) ?_ ?_
       rotate_left
       ·show Act.put _ (some 68) _=_
        simp only [Act.put,qs1,qs2,qs3,qAR,qAT]
        rfl
       refine pU 3 69 ?_
       refine pU 4 70 ?_
       refine pU 5 71 ?_
       refine pU 7 73 ?_
       refine tK 6 72 hHeld ?_
       refine tK 8 74 hHeld ?_
       refine pU 9 75 ?_
       refine pU 10 76 ?_
       refine one_ (i:=11) (N:=some 77) #[qT,qT,qT,qT,qT,qT,qT,qT,qT,qT,qT,qT,qF,qF,qF,qF,qF,qF,qF,qF,qF,qF,qF,qF,qF,qF,qF,qF,qF,qF] rfl rfl (by kernel_rfl) (by decide) (fun K hK => ?_)
       refine qBJ Try.func48 (by kernel_rfl) rfl #[.int .i64 x.f1,.int .i64 0,.int .i64 ((m1.length:Int) - 1)] (by rfl) rfl rfl (by (try simp only [List.map_toArray,List.map_cons,List.map_nil]);first | done | rfl) ?_
       refine (WN.out w3).mono ?_
       rintro e w4 ⟨rfl,hb⟩
       refine ⟨_,rfl, ?_⟩
       have BA4:=qAA.mk (qAU BA3.out BA3.out.size hb)
       have LB4:=qAA.mk (qAL LB3.out hb)
       have BY4:=qAA.mk (qAL BY3.out hb)
       have G4:=qAA.mk (Kd.qAS G3.out hb)
       clear hb
       refine hK.out _ _ ⟨(qAB BY4.out 1).trans rfl,(qAB BY4.out 2).trans rfl,(qAB LB4.out 0).trans rfl,(qAB LB4.out 1).trans rfl,(mb.cell56 G4.out HGK.out)⟩ (fun hHeld => ?_)
       clear hK K
       refine qAi (a' := ?_) ?_ ?_
       rotate_left
       ·show Act.put _ (some 77) _=_
        simp only [Act.put,qs1,qs2,qs3,qAR,qAT]
        rfl
       refine pU 12 78 ?_
       refine pU 13 79 ?_
       refine pU 14 80 ?_
       refine pU 15 81 ?_
       refine pU 16 82 ?_
       refine pU 17 83 ?_
       refine pU 18 84 ?_
       refine pU 20 86 ?_
       refine pU 21 87 ?_
       refine pU 25 91 ?_
       refine tK 19 85 hHeld ?_
       refine pU 22 88 ?_
       refine pU 23 89 ?_
       refine tK 24 90 hHeld ?_
       refine tK 26 92 hHeld ?_
       refine pU 27 93 ?_
       refine pU 28 94 ?_
       refine pU 29 95 ?_
       refine qA6 (by kernel_rfl) ?_
       go_wp2
       go_ret
       exact mb.told false rfl ⟨fun h=>by (cases h),fun h=>by have:=(HFM.out h).2.2 (by omega) y (by simpa using HGK.out);rw [p3] at this;cases this⟩ BA4.out
      | true =>
       refine qAn (n:=30) (S:=fun w'=>w'.cell? ⟨gb,1,none⟩=some (.slice A1 m1.length c1)∧w'.cell? ⟨gb,2,none⟩=some (.slice (some ad) m2.length c2)∧w'.cell? ⟨wr.heap.size,0,none⟩=some (.string x.f0)∧w'.cell? ⟨wr.heap.size,1,none⟩=some (.int .i64 x.f1)∧w'.cell? (ad.add (k * 2))=some (.string y.f0)) (ds:=[]) #[qF,qF,qF,qF,qF,qF,qF,qF,qF,qF,qF,qF,qF,qF,qF,qF,qF,qF,qF,qF,qF,qF,qF,qF,qF,qF,qF,qF,qF,qF] (by kernel_rfl) rfl rfl ⟨(qAB (qAJ BY.out) 1).trans rfl,(qAB (qAJ BY.out) 2).trans rfl,(qAB (qAJ LB.out) 0).trans rfl,(qAB (qAJ LB.out) 1).trans rfl,(mb.cell56 (Kd.qAS G0.out (qAM (Below.refl _ _))) HGK.out)⟩ (fun hHeld => ?_)
       generalize hwd:w2.drew=wd at hHeld ⊢
       have BAd:=qAA.mk (hwd▸qAM BA.out)
       have LBd:=qAA.mk (hwd▸qAJ LB.out)
       have BYd:=qAA.mk (hwd▸qAJ BY.out)
       have Gd:=qAA.mk (hwd▸Kd.qAS G0.out (qAM (Below.refl _ _)))
       clear hwd BA LB BY G0
       refine pU 0 66 ?_
       refine tK 1 67 hHeld ?_
       refine one_ (i:=2) (N:=some 68) #[qT,qT,qT,qF,qF,qF,qF,qF,qF,qF,qF,qF,qF,qF,qF,qF,qF,qF,qF,qF,qF,qF,qF,qF,qF,qF,qF,qF,qF,qF] rfl rfl (by kernel_rfl) (by decide) (fun K hK => ?_)
       refine qBJ Try.func9 (by kernel_rfl) rfl #[.string x.f0] (by rfl) rfl rfl (by (try simp only [List.map_toArray,List.map_cons,List.map_nil]);first | done | rfl) ?_
       refine (ISN.out wd).mono ?_
       rintro e w3 ⟨rfl,hb⟩
       refine ⟨_,rfl, ?_⟩
       have BA3:=qAA.mk (qAU BAd.out BAd.out.size hb)
       have LB3:=qAA.mk (qAL LBd.out hb)
       have BY3:=qAA.mk (qAL BYd.out hb)
       have G3:=qAA.mk (Kd.qAS Gd.out hb)
       clear hb
       refine hK.out _ _ ⟨(qAB BY3.out 1).trans rfl,(qAB BY3.out 2).trans rfl,(qAB LB3.out 0).trans rfl,(qAB LB3.out 1).trans rfl,(mb.cell56 G3.out HGK.out)⟩ (fun hHeld => ?_)
       clear hK K
       refine qAi (a' := ?_) ?_ ?_
       rotate_left
       ·show Act.put _ (some 68) _=_
        simp only [Act.put,qs1,qs2,qs3,qAR,qAT]
        rfl
       refine pU 3 69 ?_
       refine pU 4 70 ?_
       refine pU 5 71 ?_
       refine pU 7 73 ?_
       refine tK 6 72 hHeld ?_
       refine tK 8 74 hHeld ?_
       refine pU 9 75 ?_
       refine pU 10 76 ?_
       refine one_ (i:=11) (N:=some 77) #[qT,qT,qT,qT,qT,qT,qT,qT,qT,qT,qT,qT,qF,qF,qF,qF,qF,qF,qF,qF,qF,qF,qF,qF,qF,qF,qF,qF,qF,qF] rfl rfl (by kernel_rfl) (by decide) (fun K hK => ?_)
       refine qBJ Try.func48 (by kernel_rfl) rfl #[.int .i64 x.f1,.int .i64 0,.int .i64 ((m1.length:Int) - 1)] (by rfl) rfl rfl (by (try simp only [List.map_toArray,List.map_cons,List.map_nil]);first | done | rfl) ?_
       refine (WN.out w3).mono ?_
       rintro e w4 ⟨rfl,hb⟩
       refine ⟨_,rfl, ?_⟩
       have BA4:=qAA.mk (qAU BA3.out BA3.out.size hb)
       have LB4:=qAA.mk (qAL LB3.out hb)
       have BY4:=qAA.mk (qAL BY3.out hb)
       have G4:=qAA.mk (Kd.qAS G3.out hb)
       clear hb
       refine hK.out _ _ ⟨(qAB BY4.out 1).trans rfl,(qAB BY4.out 2).trans rfl,(qAB LB4.out 0).trans rfl,(qAB LB4.out 1).trans rfl,(mb.cell56 G4.out HGK.out)⟩ (fun hHeld => ?_)
       clear hK K
       refine qAi (a' := ?_) ?_ ?_
       rotate_left
       ·show Act.put _ (some 77) _=_
        simp only [Act.put,qs1,qs2,qs3,qAR,qAT]
        rfl
       refine pU 12 78 ?_
       refine pU 13 79 ?_
       refine pU 14 80 ?_
       refine pU 15 81 ?_
       refine pU 16 82 ?_
       refine pU 17 83 ?_
       refine pU 18 84 ?_
       refine pU 20 86 ?_
       refine pU 21 87 ?_
       refine pU 25 91 ?_
       refine tK 19 85 hHeld ?_
       refine pU 22 88 ?_
       refine pU 23 89 ?_
       refine tK 24 90 hHeld ?_
       refine tK 26 92 hHeld ?_
       refine pU 27 93 ?_
       refine pU 28 94 ?_
       refine pU 29 95 ?_
       refine qA6 (by kernel_rfl) ?_
       go_wp2
       go_roundw
       case rel=>exact ⟨k+1+1,congrArg (Value.int IntKind.i64) HWR.out,⟨by have:=i4;omega,fun i hi y' hy'=>by
        by_cases e:i < k+1
        ·exact HJ.out.2 i e y' hy'
        ·obtain rfl:i=k+1:=by omega
         rw [HG.out] at hy'
         cases hy'
         exact ⟨p0,p1,fun _ z hz=>by rw [show k+1 - 1=k from rfl,HGK.out] at hz;cases hz;exact p3⟩⟩,BY4,BA4⟩
       case measure=>exact HM.out
    ·have i1:decide ((j:Int) < (m2.length:Int))=false:=decide_eq_false (by omega)
     have i2:decide (j < m2.length)=false:=decide_eq_false hlt
     have i3:(j < m2.length)=False:=eq_false hlt
     have HALL:=qAA.mk (show mb.FM m0 m1 m2 from ⟨HC0.out,HC1.out,HC2.out,HT0.out,HF1.out,fun i hi=>HJ.out.2 i (by omega)⟩)
     clear hlt
     go_wp2
     go_ret
     exact mb.told true rfl ⟨fun _=>HALL.out,fun _=>rfl⟩ HO.out
end
end Go.Proofs.Ytmehfnikecmiiaa.X
namespace Go.Proofs.Ytmehfnikecmiiaa.X
open Go.RowKit Go.Proofs.YtmehfnikecmiiaaW.PrintWords Go.Proofs.YtmehfnikecmiiaaW.PrintLast Go.Proofs.YtmehfnikecmiiaaW.PrintMore Go.Proofs.YtmehfnikecmiiaaW
section
set_option maxHeartbeats 4000000
set_option maxRecDepth 100000
open Go.Proofs.Ytmehfnikecmiiaa Go.Proofs.Ytmehfnikecmiiaa.Pl
section
variable {P:Program} {ops:Array Oper} {o:Oper} {a:Act} {Q:Exit→Act→World→Prop} {Kc:Act→World→Prop}
theorem mb.step_full {W:World} (hw:Region.wanted o (yielded ops a.tmps)=true) (s x:Operand) (t e:TypeId) (ho:o.op=.call { callee:=.builtin .append,args:=#[s,x],argTypes:=#[t,t] })
  (ht:P.underlying t=some (.slice e)) (hinfo:(P.info? e).map (fun i=>(i.zero,i.size,i.bytes))=some (some (.int .u8 0),1,1)) {A:Option Addr} {xs:List Int} {c:Nat} (p:Int)
  (hs:a.eval s=.slice A xs.length c) (hcc:c=xs.length) (hx:a.eval x=.slice (some ⟨W.heap.size,0,none⟩) 1 1) (HA:(Kd.int .u8).C W A xs.length xs) (h0:0 < xs.length) (hl:xs.length+1≤140737488355328)
  (h:∀ v1 w1,(Kd.int .u8).R e w1 W.heap.size (fun _=>True) v1 (xs ++ [p])→Below W.heap.size W w1→Kc (a.put o.dst v1) w1) :
  if Region.wanted o (yielded ops a.tmps)=true then Oper.wp P o a (W.alloc (.cells [Value.int .u8 p].toArray e)) Kc Q else Kc (a.put o.dst undef) (W.alloc (.cells [Value.int .u8 p].toArray e)):=by
 subst hcc
 obtain ⟨i0,hi,hzz⟩:=Option.map_eq_some_iff.1 hinfo
 simp only [Prod.mk.injEq] at hzz
 obtain ⟨hz0,hz1,hz2⟩:=hzz
 have RA:qA7 (Value.int .u8) (0:Int) (W.alloc (.cells [Value.int .u8 p].toArray e)) A xs.length xs:=Kd.qBm (enc:=Value.int .u8) (d:=(0:Int)) (h1:=fun _=>rfl) (Kd.qAs HA _)
 have BE:Below W.heap.size W (W.alloc (.cells [Value.int .u8 p].toArray e)):=qAH (Below.refl _ _) _
 have hsz:W.heap.size≤(W.alloc (.cells [Value.int .u8 p].toArray e)).heap.size:=BE.size
 have hnew:∀ (j:Nat) (u:Value),[Value.int .u8 p][j]?=some u→(W.alloc (.cells [Value.int .u8 p].toArray e)).cell? ((⟨W.heap.size,0,none⟩:Addr).add j)=some u:=fun j u hj=>by
  rw [add_plain,qAB (qB6 W _) j]
  simpa using hj
 generalize W.alloc (.cells [Value.int .u8 p].toArray e)=W0 at *
 obtain ⟨b,rfl,hcell⟩:=RA.2.2 h0
 obtain ⟨v',w',hrun,r1,r2⟩:=run_append_arg_grows (P:=P) W0 t o.type e i0 (.int .u8 0) 1 1 ht hi hz0 hz1 hz2 rfl (by decide) b xs.length xs.length (encs (Value.int .u8) xs) (by simp [encs]) (fun j u hu=>by
  have hj:j < xs.length:=by
   rcases Nat.lt_or_ge j xs.length with h | h
   ·exact h
   ·simp [encs,List.getElem?_eq_none h] at hu
  rw [encs_get (d:=(0:Int)) xs j hj] at hu
  rw [← hu]
  exact hcell j (by omega)) ⟨W.heap.size,0,none⟩ 1 1 [Value.int .u8 p] rfl hnew (by omega) (by simp only [maxLen];omega) (by omega)
 rw [if_pos hw]
 unfold Oper.wp
 simp [execOp,ho,resolve,invoke,builtin,hs,hx,hrun,Result.andThen]
 refine h v' w' (Kd.qBg (Kd.R_of_own (enc:=Value.int .u8) (h1:=fun _=>rfl) (by simpa [encs] using r1) (fun _ _=>trivial)) hsz) ?_
 exact Below.grown BE r2 hsz (fun k hk=>by cases hk)
end
def mb.enE (m0:List S48) (m1:List S52) (m2:List S56):List Int:=[83,67,77,49] ++ (([1] ++ txt (lst en m0)) ++ (([2] ++ txt (lst mb.e52 m1)) ++ ([3] ++ txt (lst mb.e56 m2))))
def mb.OK (m0:List S48) (m1:List S52) (m2:List S56):Prop:=mb.FM m0 m1 m2∧(mb.enE m0 m1 m2).length≤65536
def mb.EncTold (w w':World) (m0:List S48) (m1:List S52) (m2:List S56) (e:Ending):Prop :=
 (¬ mb.OK m0 m1 m2∧e=.returned (.tuple #[.slice none 0 0,.int .i64 90])∧Below w.heap.size w w') ∨
 (mb.OK m0 m1 m2∧∃ v,e=.returned (.tuple #[v,.int .i64 0])∧(Kd.int .u8).R 5 w' w.heap.size (fun _=>True) v (mb.enE m0 m1 m2)∧Below w.heap.size w w')
theorem mb.enc_bad {w w':World} {m0:List S48} {m1:List S52} {m2:List S56} {e:Ending} (h:¬ mb.OK m0 m1 m2) (he:e=.returned (.tuple #[.slice none 0 0,.int .i64 90])) (hb:Below w.heap.size w w'):mb.EncTold w w' m0 m1 m2 e:=Or.inl ⟨h,he,hb⟩
theorem mb.enc_ok {w w':World} {m0:List S48} {m1:List S52} {m2:List S56} {e:Ending} {v:Value} {d:List Int} (h:mb.OK m0 m1 m2) (he:e=.returned (.tuple #[v,.int .i64 0])) (hd:d=mb.enE m0 m1 m2) (hr:(Kd.int .u8).R 5 w' w.heap.size (fun _=>True) v d) (hb:Below w.heap.size w w'):mb.EncTold w w' m0 m1 m2 e:=Or.inr ⟨h,v,he,hd▸hr,hb⟩
theorem mb.lst_le {α:Type} (c:α→List Int) (m n:Nat) (l:List α) (h:∀ x ∈ l,(c x).length≤m) (hn:l.length≤n):(lst c l).length≤10+m * n:=by
 have h1:=mb.flat_le c m l h
 have h2:=qA1 (l.length:Int)
 have h3:m * l.length≤m * n:=Nat.mul_le_mul_left _ hn
 unfold X.lst
 rw [List.length_append]
 omega
def mb.DD (p0 p1 p2:List Int) (j:Nat):List Int:=[83,67,77,49] ++ (([[1] ++ txt p0,[2] ++ txt p1,[3] ++ txt p2].take j).flatten)
theorem mb.dd1 (p0 p1 p2:List Int):mb.DD p0 p1 p2 0 ++ [1] ++ putU (p0.length:Int) ++ p0=mb.DD p0 p1 p2 1:=by simp [mb.DD,X.txt]
theorem mb.dd2 (p0 p1 p2:List Int):mb.DD p0 p1 p2 1 ++ [2] ++ putU (p1.length:Int) ++ p1=mb.DD p0 p1 p2 2:=by simp [mb.DD,X.txt]
theorem mb.dd3 (p0 p1 p2:List Int):mb.DD p0 p1 p2 2 ++ [3] ++ putU (p2.length:Int) ++ p2=mb.DD p0 p1 p2 3:=by simp [mb.DD,X.txt]
theorem mb.dd_len (p0 p1 p2:List Int) (h0:p0.length≤3000000) (h1:p1.length≤3000000) (h2:p2.length≤3000000) (j:Nat) (hj:j≤3):(mb.DD p0 p1 p2 j).length≤9000100:=by
 have n0:=qA1 (p0.length:Int)
 have n1:=qA1 (p1.length:Int)
 have n2:=qA1 (p2.length:Int)
 obtain rfl | rfl | rfl | rfl:j=0 ∨ j=1 ∨ j=2 ∨ j=3:=by omega
 all_goals (simp [mb.DD,X.txt];try omega)
set_option maxHeartbeats 8000000 in
theorem mb.enc12 {m0:List S48} {m1:List S52} {m2:List S56} {A0:Option Addr} {c0:Nat} {A1:Option Addr} {c1:Nat} {A2:Option Addr} {c2:Nat} (w:World) (h0:k48.C w A0 m0.length m0) (l0:m0.length≤c0) (h1:k52.C w A1 m1.length m1) (l1:m1.length≤c1) (h2:k56.C w A2 m2.length m2) (l2:m2.length≤c2) (hv:∀ x ∈ m0,Val x) (hs2:∀ x ∈ m2,x.f0.size≤140737488351232) :
  Calls Try.prog 12 #[.agg #[.slice A0 m0.length c0,.slice A1 m1.length c1,.slice A2 m2.length c2]] w fun e w'=>mb.EncTold w w' m0 m1 m2 e:=by
 have hu27:=Try.underlying27
 have hu29:=Try.underlying29
 have kc:=fun (w:World) (C:Array Value) (n c:Nat)=>Lib.run_convert_bytes_const (P:=Try.prog) w 29 5 C n c Try.underlying29 Try.underlying5
 have HA0:=qAA.mk h0;have HA1:=qAA.mk h1;have HA2:=qAA.mk h2;have HL0:=qAA.mk l0;have HL1:=qAA.mk l1;have HL2:=qAA.mk l2
 have FMD:=qAA.mk (fun (W:World) (hb:Below w.heap.size w W)=>mb.formed25 W (Kd.qAS h0 hb) l0 (Kd.qAS h1 hb) l1 (Kd.qAS h2 hb) l2 hv hs2)
 have HV:=qAA.mk hv
 have HS2:=qAA.mk hs2
 clear h0 l0 h1 l1 h2 l2 hv hs2
 by_cases hF:mb.FM m0 m1 m2
 case neg =>
  have FC:=qAA.mk (fun (W:World) (hb:Below w.heap.size w W)=>show Calls Try.prog 25 #[.agg #[.slice A0 m0.length c0,.slice A1 m1.length c1,.slice A2 m2.length c2]] W (fun e w'=>e=.returned (.bool false)∧Below W.heap.size W w') from (FMD.out W hb).mono (fun e w' q=>by
   obtain ⟨t,e1,ht,hb⟩:=q
   cases t with
   | false=>exact ⟨e1,hb⟩
   | true=>exact absurd (ht.1 rfl) hF))
  go_enter Try.func12,Try.ntmps12
  go_wp2_with (first | (((with_reducible refine qAr (N:=1) rfl ?_);refine qAk ?hg (N:=1) ?hd (cs:=#[.slice A0 m0.length c0,.slice A1 m1.length c1,.slice A2 m2.length c2]) (t:=27) ?hr ?_;(case hd=>rfl);(case hg=>rfl);(case hr=>first | (go_simp;done) | (go_simp;rfl));intro gb hg w1 hbox hb1;have BX1:=qAA.mk hbox;have B1:=qAA.mk hb1;clear hbox hb1 hg);have z0:w1.cell? ⟨gb,0,none⟩=some (.slice A0 m0.length c0):=(qAB BX1.out 0).trans rfl;have z1:w1.cell? ⟨gb,1,none⟩=some (.slice A1 m1.length c1):=(qAB BX1.out 1).trans rfl;have z2:w1.cell? ⟨gb,2,none⟩=some (.slice A2 m2.length c2):=(qAB BX1.out 2).trans rfl) | (go_at_call 25;refine (FC.out _ B1.out).mono ?_;rintro e_ w2 ⟨rfl,hb⟩;have B2:=qAA.mk (qAV B1.out hb);clear hb z0 z1 z2))
  go_ret2
  exact mb.enc_bad (fun h=>hF h.1) rfl B2.out
 have FC:=qAA.mk (fun (W:World) (hb:Below w.heap.size w W)=>show Calls Try.prog 25 #[.agg #[.slice A0 m0.length c0,.slice A1 m1.length c1,.slice A2 m2.length c2]] W (fun e w'=>e=.returned (.bool true)∧Below W.heap.size W w') from (FMD.out W hb).mono (fun e w' q=>by
  obtain ⟨t,e1,ht,hb⟩:=q
  cases t with
  | true=>exact ⟨e1,hb⟩
  | false=>exact absurd (ht.2 hF) (by decide)))
 have HOK:=qAA.mk hF
 obtain ⟨p0,hp0⟩:∃ p,p=lst en m0:=⟨_,rfl⟩
 obtain ⟨p1,hp1⟩:∃ p,p=lst mb.e52 m1:=⟨_,rfl⟩
 obtain ⟨p2,hp2⟩:∃ p,p=lst mb.e56 m2:=⟨_,rfl⟩
 have BD0:=qAA.mk (fun (W:World) (hb:Below w.heap.size w W)=>mb.body26 W (Kd.qAS HA0.out hb) HL0.out (Nat.le_trans hF.1 (by omega)) hF.2.2.2.1)
 have BD1:=qAA.mk (fun (W:World) (hb:Below w.heap.size w W)=>mb.body28 W (Kd.qAS HA1.out hb) HL1.out (Nat.le_trans hF.2.1 (by omega)) hF.all52)
 have BD2:=qAA.mk (fun (W:World) (hb:Below w.heap.size w W)=>mb.body30 W (Kd.qAS HA2.out hb) HL2.out (Nat.le_trans hF.2.2.1 (by omega)) (hF.all56 HS2.out))
 rw [← hp0] at BD0;rw [← hp1] at BD1;rw [← hp2] at BD2
 have N0:p0.length≤3000000:=by rw [hp0];exact Nat.le_trans (mb.lst_le en 24576 100 m0 (fun x hx=>mb.e48_len (hF.2.2.2.1 x hx)) hF.1) (by omega)
 have N1:p1.length≤3000000:=by rw [hp1];exact Nat.le_trans (mb.lst_le mb.e52 5000 24 m1 (fun x hx=>mb.e52_len (hF.all52 x hx)) hF.2.1) (by omega)
 have N2:p2.length≤3000000:=by rw [hp2];exact Nat.le_trans (mb.lst_le mb.e56 100 24 m2 (fun x hx=>mb.e56_len (hF.all56 HS2.out x hx)) hF.2.2.1) (by omega)
 have Y0:Bytes p0:=by rw [hp0];exact qCW (fun x hx=>en_bytes x (hF.2.2.2.1 x hx).1 (hF.2.2.2.1 x hx).2.1)
 have Y1:Bytes p1:=by rw [hp1];exact qCW (fun x hx=>enF_bytes _ (hF.all52 x hx).1.1 (hF.all52 x hx).2.1.1 (hF.all52 x hx).2.2.1.1)
 have Y2:Bytes p2:=by rw [hp2];exact qCW (fun x hx=>enX_bytes _ (hF.all56 HS2.out x hx).2.1)
 have DL:=qAA.mk (mb.dd_len p0 p1 p2 N0 N1 N2)
 have EE:=qAA.mk (show mb.DD p0 p1 p2 3=mb.enE m0 m1 m2 by unfold mb.enE;rw [← hp0,← hp1,← hp2];simp [mb.DD])
 have PT0:=qAA.mk (fun (W:World) (B:Option Addr) (cb:Nat) (d:List Int) (hd:d=mb.DD p0 p1 p2 0 ++ [1]) (hC:(Kd.int .u8).C W B d.length d) (hc:d.length≤cb)=>show Calls Try.prog 32 #[.slice B d.length cb,.string (strOfNums p0)] W (fun e w'=>∃ v,e=.returned v∧(Kd.int .u8).R 5 w' W.heap.size (fun _=>True) v (mb.DD p0 p1 p2 1)∧Below W.heap.size W w') from
  qA5.calls 10 B cb d (strOfNums p0) (mb.DD p0 p1 p2 1) W hC hc (by
   have hl:=DL.out 0 (by omega)
   rw [qCC 10 d _ (Nat.le_refl _) (by rw [qBf,hd,List.length_append,List.length_singleton];omega),qBf,qBk _ Y0,hd,mb.dd1]))
 have PT1:=qAA.mk (fun (W:World) (B:Option Addr) (cb:Nat) (d:List Int) (hd:d=mb.DD p0 p1 p2 1 ++ [2]) (hC:(Kd.int .u8).C W B d.length d) (hc:d.length≤cb)=>show Calls Try.prog 32 #[.slice B d.length cb,.string (strOfNums p1)] W (fun e w'=>∃ v,e=.returned v∧(Kd.int .u8).R 5 w' W.heap.size (fun _=>True) v (mb.DD p0 p1 p2 2)∧Below W.heap.size W w') from
  qA5.calls 10 B cb d (strOfNums p1) (mb.DD p0 p1 p2 2) W hC hc (by
   have hl:=DL.out 1 (by omega)
   rw [qCC 10 d _ (Nat.le_refl _) (by rw [qBf,hd,List.length_append,List.length_singleton];omega),qBf,qBk _ Y1,hd,mb.dd2]))
 have PT2:=qAA.mk (fun (W:World) (B:Option Addr) (cb:Nat) (d:List Int) (hd:d=mb.DD p0 p1 p2 2 ++ [3]) (hC:(Kd.int .u8).C W B d.length d) (hc:d.length≤cb)=>show Calls Try.prog 32 #[.slice B d.length cb,.string (strOfNums p2)] W (fun e w'=>∃ v,e=.returned v∧(Kd.int .u8).R 5 w' W.heap.size (fun _=>True) v (mb.DD p0 p1 p2 3)∧Below W.heap.size W w') from
  qA5.calls 10 B cb d (strOfNums p2) (mb.DD p0 p1 p2 3) W hC hc (by
   have hl:=DL.out 2 (by omega)
   rw [qCC 10 d _ (Nat.le_refl _) (by rw [qBf,hd,List.length_append,List.length_singleton];omega),qBf,qBk _ Y2,hd,mb.dd3]))
 have hs0:(mb.DD p0 p1 p2 0)=[83,67,77,49]:=by simp [mb.DD]
 clear hF hp0 hp1 hp2 N0 N1 N2 Y0 Y1 Y2 FMD HV HS2 HA0 HA1 HA2 HL0 HL1 HL2
 have HS0:=qAA.mk hs0
 clear hs0
 go_enter Try.func12,Try.ntmps12
 go_wp2_with (first | (((with_reducible refine qAr (N:=1) rfl ?_);refine qAk ?hg (N:=1) ?hd (cs:=#[.slice A0 m0.length c0,.slice A1 m1.length c1,.slice A2 m2.length c2]) (t:=27) ?hr ?_;(case hd=>rfl);(case hg=>rfl);(case hr=>first | (go_simp;done) | (go_simp;rfl));intro gb hg w1 hbox hb1;have BX1:=qAA.mk hbox;have B1:=qAA.mk hb1;clear hbox hb1 hg);have z0:w1.cell? ⟨gb,0,none⟩=some (.slice A0 m0.length c0):=(qAB BX1.out 0).trans rfl;have z1:w1.cell? ⟨gb,1,none⟩=some (.slice A1 m1.length c1):=(qAB BX1.out 1).trans rfl;have z2:w1.cell? ⟨gb,2,none⟩=some (.slice A2 m2.length c2):=(qAB BX1.out 2).trans rfl) | (go_at_call 25;refine (FC.out _ B1.out).mono ?_;rintro e_ w2 ⟨rfl,hb⟩;have B2:=qAA.mk (qAV B1.out hb);have BX2:=qAA.mk (qAL BX1.out hb);clear hb z0 z1 z2))
 have MG:=qAA.mk (show (Kd.int .u8).C (w2.alloc (.cells #[.int .u8 83,.int .u8 67,.int .u8 77,.int .u8 49] 5 (4,5))) (some ⟨w2.heap.size,0,none⟩) 4 [83,67,77,49] from
  Kd.C_of_reads (enc:=Value.int .u8) (d:=(0:Int)) (h1:=fun _=>rfl) ⟨rfl,by decide,fun _=>⟨_,rfl,fun j hj=>by
   have hj:j < 4:=hj
   rw [add_plain,cell_of_row _ w2.heap.size j _ 5 (4,5) (heap_alloc_new w2 _)]
   obtain rfl | rfl | rfl | rfl:j=0 ∨ j=1 ∨ j=2 ∨ j=3:=by omega
   all_goals rfl⟩⟩)
 have B3:=qAA.mk (B2.out.alloc B2.out.size (.cells #[.int .u8 83,.int .u8 67,.int .u8 77,.int .u8 49] 5 (4,5)))
 have BX3:=qAA.mk (qAK BX2.out (.cells #[.int .u8 83,.int .u8 67,.int .u8 77,.int .u8 49] 5 (4,5)))
 clear B2 BX2 B1 BX1 FC
 generalize w2.alloc (.cells #[.int .u8 83,.int .u8 67,.int .u8 77,.int .u8 49] 5 (4,5))=w3 at *
 generalize w2.heap.size=gm at *
 clear w2
 refine qAn (n:=12) (S:=fun w'=>w'.cell? ⟨gb,0,none⟩=some (.slice A0 m0.length c0)∧w'.cell? ⟨gb,1,none⟩=some (.slice A1 m1.length c1)∧w'.cell? ⟨gb,2,none⟩=some (.slice A2 m2.length c2)) (ds:=[]) #[qF,qF,qF,qF,qF,qF,qF,qF,qF,qF,qF,qF] (by kernel_rfl) rfl rfl ⟨(qAB (qAJ BX3.out) 0).trans rfl,(qAB (qAJ BX3.out) 1).trans rfl,(qAB (qAJ BX3.out) 2).trans rfl⟩ (fun hHeld => ?_)
 generalize hwd:w3.drew=wd at hHeld ⊢
 have BAd:=qAA.mk (hwd▸qAM B3.out)
 have BXd:=qAA.mk (hwd▸qAJ BX3.out)
 have MGd:=qAA.mk (hwd▸Kd.qBW MG.out)
 clear hwd B3 BX3 MG
 refine pU 0 12 ?_
 refine pU 3 15 ?_
 refine pU 6 18 ?_
 refine pU 11 23 ?_
 refine tK 1 13 hHeld ?_
 refine tK 4 16 hHeld ?_
 refine tK 7 19 hHeld ?_
 refine one_ (i:=2) (N:=some 14) #[qT,qT,qT,qT,qT,qF,qT,qT,qF,qF,qF,qT] rfl rfl (by kernel_rfl) (by decide) (fun K hK => ?_)
 refine qBJ Try.func26 (by kernel_rfl) rfl #[.slice A0 m0.length c0,.func (.func 27) #[] #[]] (by rfl) rfl rfl (by (try simp only [List.map_toArray,List.map_cons,List.map_nil]);first | done | rfl) ?_
 refine (BD0.out wd BAd.out).mono ?_
 rintro e w4 ⟨P0,q0,rfl,hr,hcc,hb⟩
 refine ⟨_,rfl, ?_⟩
 have BA4:=qAA.mk (qAU BAd.out BAd.out.size hb)
 have BX4:=qAA.mk (qAL BXd.out hb)
 have MG4:=qAA.mk (Kd.qAS MGd.out hb)
 have R04:=qAA.mk hr
 have Q0:=qAA.mk hcc
 clear hr hcc hb
 refine hK.out _ _ ⟨(qAB BX4.out 0).trans rfl,(qAB BX4.out 1).trans rfl,(qAB BX4.out 2).trans rfl⟩ (fun hHeld => ?_)
 clear hK K
 refine qAi (a' := ?_) ?_ ?_
 rotate_left
 ·show Act.put _ (some 14) _=_
  simp only [Act.put,qs1,qs2,qs3,qAR,qAT]
  rfl
 refine one_ (i:=5) (N:=some 17) #[qT,qT,qT,qT,qT,qT,qT,qT,qF,qF,qF,qT] rfl rfl (by kernel_rfl) (by decide) (fun K hK => ?_)
 refine qBJ Try.func28 (by kernel_rfl) rfl #[.slice A1 m1.length c1,.func (.func 29) #[] #[]] (by rfl) rfl rfl (by (try simp only [List.map_toArray,List.map_cons,List.map_nil]);first | done | rfl) ?_
 refine (BD1.out w4 BA4.out).mono ?_
 rintro e w5 ⟨P1,q1,rfl,hr,hcc,hb⟩
 refine ⟨_,rfl, ?_⟩
 have BA5:=qAA.mk (qAU BA4.out BA4.out.size hb)
 have BX5:=qAA.mk (qAL BX4.out hb)
 have MG5:=qAA.mk (Kd.qAS MG4.out hb)
 have R05:=qAA.mk (Kd.qAS R04.out hb)
 have R15:=qAA.mk hr
 have Q1:=qAA.mk hcc
 clear hr hcc hb
 refine hK.out _ _ ⟨(qAB BX5.out 0).trans rfl,(qAB BX5.out 1).trans rfl,(qAB BX5.out 2).trans rfl⟩ (fun hHeld => ?_)
 clear hK K
 refine qAi (a' := ?_) ?_ ?_
 rotate_left
 ·show Act.put _ (some 17) _=_
  simp only [Act.put,qs1,qs2,qs3,qAR,qAT]
  rfl
 refine one_ (i:=8) (N:=some 20) #[qT,qT,qT,qT,qT,qT,qT,qT,qT,qF,qF,qT] rfl rfl (by kernel_rfl) (by decide) (fun K hK => ?_)
 refine qBJ Try.func30 (by kernel_rfl) rfl #[.slice A2 m2.length c2,.func (.func 31) #[] #[]] (by rfl) rfl rfl (by (try simp only [List.map_toArray,List.map_cons,List.map_nil]);first | done | rfl) ?_
 refine (BD2.out w5 BA5.out).mono ?_
 rintro e w6 ⟨P2,q2,rfl,hr,hcc,hb⟩
 refine ⟨_,rfl, ?_⟩
 have BA6:=qAA.mk (qAU BA5.out BA5.out.size hb)
 have BX6:=qAA.mk (qAL BX5.out hb)
 have MG6:=qAA.mk (Kd.qAS MG5.out hb)
 have R06:=qAA.mk (Kd.qAS R05.out hb)
 have R16:=qAA.mk (Kd.qAS R15.out hb)
 have R26:=qAA.mk hr
 have Q2:=qAA.mk hcc
 clear hr hcc hb
 refine hK.out _ _ ⟨(qAB BX6.out 0).trans rfl,(qAB BX6.out 1).trans rfl,(qAB BX6.out 2).trans rfl⟩ (fun hHeld => ?_)
 clear hK K
 refine qAi (a' := ?_) ?_ ?_
 rotate_left
 ·show Act.put _ (some 20) _=_
  simp only [Act.put,qs1,qs2,qs3,qAR,qAT]
  rfl
 refine one_ (i:=9) (N:=some 21) #[qT,qT,qT,qT,qT,qT,qT,qT,qT,qT,qF,qT] rfl rfl (by kernel_rfl) (by decide) (fun K hK => ?_)
 refine qBO (w1 := ?_) (v := ?_) (by rfl) rfl ?_ ?_
 rotate_left 2
 ·go_simp
  constructor
  ·rfl
  ·rfl
 refine hK.out _ _ ⟨(qAB (qAK BX6.out _) 0).trans rfl,(qAB (qAK BX6.out _) 1).trans rfl,(qAB (qAK BX6.out _) 2).trans rfl⟩ (fun hHeld => ?_)
 clear hK K
 refine qAi (a' := ?_) ?_ ?_
 rotate_left
 ·show Act.put _ (some 21) _=_
  simp only [Act.put,qs1,qs2,qs3,qAR,qAT]
  rfl
 refine pU 10 22 ?_
 refine qA6 (by kernel_rfl) ?_
 go_wp2
 have BS:=qAA.mk (qB6 w6 (.cells #[.slice P0 p0.length q0,.slice P1 p1.length q1,.slice P2 p2.length q2] 29))
 have B7:=qAA.mk (BA6.out.alloc BA6.out.size (.cells #[.slice P0 p0.length q0,.slice P1 p1.length q1,.slice P2 p2.length q2] 29))
 have T0:=qAA.mk (Kd.qAs R06.out (.cells #[.slice P0 p0.length q0,.slice P1 p1.length q1,.slice P2 p2.length q2] 29))
 have T1:=qAA.mk (Kd.qAs R16.out (.cells #[.slice P0 p0.length q0,.slice P1 p1.length q1,.slice P2 p2.length q2] 29))
 have T2:=qAA.mk (Kd.qAs R26.out (.cells #[.slice P0 p0.length q0,.slice P1 p1.length q1,.slice P2 p2.length q2] 29))
 have M7:=qAA.mk (Kd.qAs MG6.out (.cells #[.slice P0 p0.length q0,.slice P1 p1.length q1,.slice P2 p2.length q2] 29))
 clear BA6 R06 R16 R26 MG6
 generalize w6.alloc (.cells #[.slice P0 p0.length q0,.slice P1 p1.length q1,.slice P2 p2.length q2] 29)=wb at *
 generalize w6.heap.size=gs at *
 go_loopw [23,4] (fun v23 v4 wr=>∃ (j:Nat) (d:List Int) (B:Option Addr) (cb:Nat),v23=.int .i64 (j:Int)∧v4=.slice B d.length cb∧qAA (j≤3∧d=mb.DD p0 p1 p2 j)∧qAA (j=0∧cb=d.length∧(Kd.int .u8).C wr B d.length d ∨ 0 < j∧(Kd.int .u8).R 5 wr wb.heap.size (fun _=>True) (.slice B d.length cb) d)∧qAA (Below wb.heap.size wb wr)) (fun v23 _ _=>3 - (intOf v23).toNat)
 case atStart=>exact ⟨0,[83,67,77,49],some ⟨gm,0,none⟩,4,rfl,rfl,⟨Nat.zero_le _,HS0.out.symm⟩,⟨Or.inl ⟨rfl,rfl,M7.out⟩⟩,⟨Below.refl _ _⟩⟩
 case round =>
  obtain ⟨j,d,B,cb,rfl,rfl,HJ,HO,HB⟩:=hrel
  have z0:wr.cell? ⟨gs,0,none⟩=some (.slice P0 p0.length q0):=(qAB (qAL BS.out HB.out) 0).trans rfl
  have z1:wr.cell? ⟨gs,1,none⟩=some (.slice P1 p1.length q1):=(qAB (qAL BS.out HB.out) 1).trans rfl
  have z2:wr.cell? ⟨gs,2,none⟩=some (.slice P2 p2.length q2):=(qAB (qAL BS.out HB.out) 2).trans rfl
  by_cases hlt:j < 3
  ·have HD:=qAA.mk (show d.length≤9000100 by rw [HJ.out.2];exact DL.out j HJ.out.1)
   obtain rfl | rfl | rfl:j=0 ∨ j=1 ∨ j=2:=by omega
   ·have HO2:=qAA.mk (show cb=d.length∧(Kd.int .u8).C wr B d.length d by
     have ho:cb=d.length∧(Kd.int .u8).C wr B d.length d:=by
      rcases HO.out with h | h
      ·exact h.2
      ·omega
     exact ho)
    clear HO hlt
    go_wp2
    clear z0 z1 z2
    refine qAn (n:=10) (S:=fun w'=>(convert 29 9 (.slice P0 p0.length q0)).run Try.prog w'=.ok (.string (strOfNums p0)) w') (ds:=[]) #[qF,qF,qF,qF,qF,qF,qF,qF,qF,qF] (by kernel_rfl) rfl rfl ((Kd.qBc (P:=Try.prog) Try.underlying29 Try.underlying5 Try.underlying9 (Kd.qAS T0.out (qAM HB.out)))) (fun hHeld => ?_)
    generalize hwd:wr.drew=wd at hHeld ⊢
    have Bd:=qAA.mk (hwd▸qAM HB.out)
    have Od:=qAA.mk (show cb=d.length∧(Kd.int .u8).C wd B d.length d from ⟨HO2.out.1,hwd▸Kd.qBW HO2.out.2⟩)
    clear hwd HO2 HB
    refine pU 0 28 ?_
    refine pU 1 29 ?_
    refine pU 2 30 ?_
    refine pU 3 31 ?_
    refine pU 6 34 ?_
    refine tK 7 35 hHeld ?_
    refine one_ (i:=4) (N:=some 32) #[qT,qT,qT,qT,qT,qF,qT,qT,qF,qF] rfl rfl (by kernel_rfl) (by decide) (fun K hK => ?_)
    refine qBO (w1 := ?_) (v := ?_) (by rfl) rfl ?_ ?_
    rotate_left 2
    ·go_simp
     constructor
     ·rfl
     ·rfl
    refine hK.out _ _ ((Kd.qBc (P:=Try.prog) Try.underlying29 Try.underlying5 Try.underlying9 (Kd.qAs (Kd.qAS T0.out Bd.out) _))) (fun hHeld => ?_)
    clear hK K
    refine qAi (a' := ?_) ?_ ?_
    rotate_left
    ·show Act.put _ (some 32) _=_
     simp only [Act.put,qs1,qs2,qs3,qAR,qAT]
     rfl
    refine one_ (i:=5) (N:=some 33) #[qT,qT,qT,qT,qT,qT,qT,qT,qF,qF] rfl rfl (by kernel_rfl) (by decide) (fun K hK => ?_)
    refine mb.step_full (by rfl) (.tmp 28) (.tmp 32) 29 5 rfl Try.underlying29 info5 _ rfl Od.out.1 rfl Od.out.2 ?aN ?aL ?_
    (case aN=>rw [HJ.out.2,HS0.out];decide)
    (case aL=>have:=HD.out;omega)
    intro v1 w5 hr hb
    rw [show IntKind.u8.wrap (wrap64 1)=1 from by decide +kernel] at hr
    have hr:=Kd.qBg hr Bd.out.size
    have B5:=qAA.mk (qAU Bd.out Bd.out.size hb)
    obtain ⟨A5,c5,e5⟩:=Kd.qAZ hr
    subst e5
    have O5:=qAA.mk hr
    clear hr hb
    refine hK.out _ _ ((Kd.qBc (P:=Try.prog) Try.underlying29 Try.underlying5 Try.underlying9 (Kd.qAS T0.out B5.out))) (fun hHeld => ?_)
    clear hK K
    refine qAi (a' := ?_) ?_ ?_
    rotate_left
    ·show Act.put _ (some 33) _=_
     simp only [Act.put,qs1,qs2,qs3,qAR,qAT]
     rfl
    refine one_ (i:=8) (N:=some 36) #[qT,qT,qT,qT,qT,qT,qT,qT,qT,qF] rfl rfl (by kernel_rfl) (by decide) (fun K hK => ?_)
    refine qBJ Try.func32 (by kernel_rfl) rfl #[.slice A5 (d ++ [1]).length c5,.string (strOfNums p0)] (by rfl) rfl rfl (by (try simp only [List.map_toArray,List.map_cons,List.map_nil]);first | done | rfl) ?_
    refine (PT0.out w5 A5 c5 (d ++ [1]) (by rw [HJ.out.2]) (Kd.R_reads' O5.out).2.2 (Kd.R_reads' O5.out).2.1).mono ?_
    rintro e w9 ⟨v9,rfl,hr,hb⟩
    refine ⟨_,rfl, ?_⟩
    obtain ⟨A9,c9,e9⟩:=Kd.qAZ hr
    subst e9
    have B9:=qAA.mk (qAU B5.out B5.out.size hb)
    have O9:=qAA.mk (Kd.qBg hr B5.out.size)
    clear hr hb
    refine hK.out _ _ ((Kd.qBc (P:=Try.prog) Try.underlying29 Try.underlying5 Try.underlying9 (Kd.qAS T0.out B9.out))) (fun hHeld => ?_)
    clear hK K
    refine qAi (a' := ?_) ?_ ?_
    rotate_left
    ·show Act.put _ (some 36) _=_
     simp only [Act.put,qs1,qs2,qs3,qAR,qAT]
     rfl
    refine pU 9 4 ?_
    refine qA6 (by kernel_rfl) ?_
    go_wp2
    go_roundw
    case rel=>exact ⟨1,mb.DD p0 p1 p2 1,A9,c9,rfl,rfl,⟨by decide,rfl⟩,⟨Or.inr ⟨by decide,O9.out⟩⟩,B9⟩
    case measure=>decide
   ·have HO2:=qAA.mk (show (Kd.int .u8).R 5 wr wb.heap.size (fun _=>True) (.slice B d.length cb) d by
     have ho:(Kd.int .u8).R 5 wr wb.heap.size (fun _=>True) (.slice B d.length cb) d:=by
      rcases HO.out with h | h
      ·omega
      ·exact h.2
     exact ho)
    clear HO hlt
    go_wp2
    clear z0 z1 z2
    refine qAn (n:=10) (S:=fun w'=>(convert 29 9 (.slice P1 p1.length q1)).run Try.prog w'=.ok (.string (strOfNums p1)) w') (ds:=[]) #[qF,qF,qF,qF,qF,qF,qF,qF,qF,qF] (by kernel_rfl) rfl rfl ((Kd.qBc (P:=Try.prog) Try.underlying29 Try.underlying5 Try.underlying9 (Kd.qAS T1.out (qAM HB.out)))) (fun hHeld => ?_)
    generalize hwd:wr.drew=wd at hHeld ⊢
    have Bd:=qAA.mk (hwd▸qAM HB.out)
    have Od:=qAA.mk (show (Kd.int .u8).R 5 wd wb.heap.size (fun _=>True) (.slice B d.length cb) d from hwd▸Kd.qBo HO2.out)
    clear hwd HO2 HB
    refine pU 0 28 ?_
    refine pU 1 29 ?_
    refine pU 2 30 ?_
    refine pU 3 31 ?_
    refine pU 6 34 ?_
    refine tK 7 35 hHeld ?_
    refine one_ (i:=4) (N:=some 32) #[qT,qT,qT,qT,qT,qF,qT,qT,qF,qF] rfl rfl (by kernel_rfl) (by decide) (fun K hK => ?_)
    refine qBO (w1 := ?_) (v := ?_) (by rfl) rfl ?_ ?_
    rotate_left 2
    ·go_simp
     constructor
     ·rfl
     ·rfl
    refine hK.out _ _ ((Kd.qBc (P:=Try.prog) Try.underlying29 Try.underlying5 Try.underlying9 (Kd.qAs (Kd.qAS T1.out Bd.out) _))) (fun hHeld => ?_)
    clear hK K
    refine qAi (a' := ?_) ?_ ?_
    rotate_left
    ·show Act.put _ (some 32) _=_
     simp only [Act.put,qs1,qs2,qs3,qAR,qAT]
     rfl
    refine one_ (i:=5) (N:=some 33) #[qT,qT,qT,qT,qT,qT,qT,qT,qF,qF] rfl rfl (by kernel_rfl) (by decide) (fun K hK => ?_)
    refine Kd.qAq (Kd.int .u8) (w0:=wb) wb.heap.size (by rfl) (.tmp 28) (.tmp 32) 29 5 (.int .u8 0) 1 rfl Try.underlying29 info5 rfl (by decide) (by omega) (.slice B d.length cb) d _ [.int .u8 _] (fun _=>True) (fun _=>False) rfl rfl rfl (fun _ h=>h.elim) ?aF1 ?aO1 ?aB1 ?aS1 ?aL1 ?_
    (case aF1=>exact fun _ _=>trivial)
    (case aO1=>exact Od.out)
    (case aB1=>exact Bd.out)
    (case aS1=>exact Bd.out.size)
    (case aL1=>have:=HD.out;omega)
    intro v1 w5 hr hb hg hat
    rw [show IntKind.u8.wrap (wrap64 2)=2 from by decide +kernel] at hr
    obtain ⟨A5,c5,e5⟩:=Kd.qAZ hr
    subst e5
    have O5:=qAA.mk hr
    have B5:=qAA.mk hb
    clear hr hb hg hat
    refine hK.out _ _ ((Kd.qBc (P:=Try.prog) Try.underlying29 Try.underlying5 Try.underlying9 (Kd.qAS T1.out B5.out))) (fun hHeld => ?_)
    clear hK K
    refine qAi (a' := ?_) ?_ ?_
    rotate_left
    ·show Act.put _ (some 33) _=_
     simp only [Act.put,qs1,qs2,qs3,qAR,qAT]
     rfl
    refine one_ (i:=8) (N:=some 36) #[qT,qT,qT,qT,qT,qT,qT,qT,qT,qF] rfl rfl (by kernel_rfl) (by decide) (fun K hK => ?_)
    refine qBJ Try.func32 (by kernel_rfl) rfl #[.slice A5 (d ++ [2]).length c5,.string (strOfNums p1)] (by rfl) rfl rfl (by (try simp only [List.map_toArray,List.map_cons,List.map_nil]);first | done | rfl) ?_
    refine (PT1.out w5 A5 c5 (d ++ [2]) (by rw [HJ.out.2]) (Kd.R_reads' O5.out).2.2 (Kd.R_reads' O5.out).2.1).mono ?_
    rintro e w9 ⟨v9,rfl,hr,hb⟩
    refine ⟨_,rfl, ?_⟩
    obtain ⟨A9,c9,e9⟩:=Kd.qAZ hr
    subst e9
    have B9:=qAA.mk (qAU B5.out B5.out.size hb)
    have O9:=qAA.mk (Kd.qBg hr B5.out.size)
    clear hr hb
    refine hK.out _ _ ((Kd.qBc (P:=Try.prog) Try.underlying29 Try.underlying5 Try.underlying9 (Kd.qAS T1.out B9.out))) (fun hHeld => ?_)
    clear hK K
    refine qAi (a' := ?_) ?_ ?_
    rotate_left
    ·show Act.put _ (some 36) _=_
     simp only [Act.put,qs1,qs2,qs3,qAR,qAT]
     rfl
    refine pU 9 4 ?_
    refine qA6 (by kernel_rfl) ?_
    go_wp2
    go_roundw
    case rel=>exact ⟨2,mb.DD p0 p1 p2 2,A9,c9,rfl,rfl,⟨by decide,rfl⟩,⟨Or.inr ⟨by decide,O9.out⟩⟩,B9⟩
    case measure=>decide
   ·have HO2:=qAA.mk (show (Kd.int .u8).R 5 wr wb.heap.size (fun _=>True) (.slice B d.length cb) d by
     have ho:(Kd.int .u8).R 5 wr wb.heap.size (fun _=>True) (.slice B d.length cb) d:=by
      rcases HO.out with h | h
      ·omega
      ·exact h.2
     exact ho)
    clear HO hlt
    go_wp2
    clear z0 z1 z2
    refine qAn (n:=10) (S:=fun w'=>(convert 29 9 (.slice P2 p2.length q2)).run Try.prog w'=.ok (.string (strOfNums p2)) w') (ds:=[]) #[qF,qF,qF,qF,qF,qF,qF,qF,qF,qF] (by kernel_rfl) rfl rfl ((Kd.qBc (P:=Try.prog) Try.underlying29 Try.underlying5 Try.underlying9 (Kd.qAS T2.out (qAM HB.out)))) (fun hHeld => ?_)
    generalize hwd:wr.drew=wd at hHeld ⊢
    have Bd:=qAA.mk (hwd▸qAM HB.out)
    have Od:=qAA.mk (show (Kd.int .u8).R 5 wd wb.heap.size (fun _=>True) (.slice B d.length cb) d from hwd▸Kd.qBo HO2.out)
    clear hwd HO2 HB
    refine pU 0 28 ?_
    refine pU 1 29 ?_
    refine pU 2 30 ?_
    refine pU 3 31 ?_
    refine pU 6 34 ?_
    refine tK 7 35 hHeld ?_
    refine one_ (i:=4) (N:=some 32) #[qT,qT,qT,qT,qT,qF,qT,qT,qF,qF] rfl rfl (by kernel_rfl) (by decide) (fun K hK => ?_)
    refine qBO (w1 := ?_) (v := ?_) (by rfl) rfl ?_ ?_
    rotate_left 2
    ·go_simp
     constructor
     ·rfl
     ·rfl
    refine hK.out _ _ ((Kd.qBc (P:=Try.prog) Try.underlying29 Try.underlying5 Try.underlying9 (Kd.qAs (Kd.qAS T2.out Bd.out) _))) (fun hHeld => ?_)
    clear hK K
    refine qAi (a' := ?_) ?_ ?_
    rotate_left
    ·show Act.put _ (some 32) _=_
     simp only [Act.put,qs1,qs2,qs3,qAR,qAT]
     rfl
    refine one_ (i:=5) (N:=some 33) #[qT,qT,qT,qT,qT,qT,qT,qT,qF,qF] rfl rfl (by kernel_rfl) (by decide) (fun K hK => ?_)
    refine Kd.qAq (Kd.int .u8) (w0:=wb) wb.heap.size (by rfl) (.tmp 28) (.tmp 32) 29 5 (.int .u8 0) 1 rfl Try.underlying29 info5 rfl (by decide) (by omega) (.slice B d.length cb) d _ [.int .u8 _] (fun _=>True) (fun _=>False) rfl rfl rfl (fun _ h=>h.elim) ?aF2 ?aO2 ?aB2 ?aS2 ?aL2 ?_
    (case aF2=>exact fun _ _=>trivial)
    (case aO2=>exact Od.out)
    (case aB2=>exact Bd.out)
    (case aS2=>exact Bd.out.size)
    (case aL2=>have:=HD.out;omega)
    intro v1 w5 hr hb hg hat
    rw [show IntKind.u8.wrap (wrap64 3)=3 from by decide +kernel] at hr
    obtain ⟨A5,c5,e5⟩:=Kd.qAZ hr
    subst e5
    have O5:=qAA.mk hr
    have B5:=qAA.mk hb
    clear hr hb hg hat
    refine hK.out _ _ ((Kd.qBc (P:=Try.prog) Try.underlying29 Try.underlying5 Try.underlying9 (Kd.qAS T2.out B5.out))) (fun hHeld => ?_)
    clear hK K
    refine qAi (a' := ?_) ?_ ?_
    rotate_left
    ·show Act.put _ (some 33) _=_
     simp only [Act.put,qs1,qs2,qs3,qAR,qAT]
     rfl
    refine one_ (i:=8) (N:=some 36) #[qT,qT,qT,qT,qT,qT,qT,qT,qT,qF] rfl rfl (by kernel_rfl) (by decide) (fun K hK => ?_)
    refine qBJ Try.func32 (by kernel_rfl) rfl #[.slice A5 (d ++ [3]).length c5,.string (strOfNums p2)] (by rfl) rfl rfl (by (try simp only [List.map_toArray,List.map_cons,List.map_nil]);first | done | rfl) ?_
    refine (PT2.out w5 A5 c5 (d ++ [3]) (by rw [HJ.out.2]) (Kd.R_reads' O5.out).2.2 (Kd.R_reads' O5.out).2.1).mono ?_
    rintro e w9 ⟨v9,rfl,hr,hb⟩
    refine ⟨_,rfl, ?_⟩
    obtain ⟨A9,c9,e9⟩:=Kd.qAZ hr
    subst e9
    have B9:=qAA.mk (qAU B5.out B5.out.size hb)
    have O9:=qAA.mk (Kd.qBg hr B5.out.size)
    clear hr hb
    refine hK.out _ _ ((Kd.qBc (P:=Try.prog) Try.underlying29 Try.underlying5 Try.underlying9 (Kd.qAS T2.out B9.out))) (fun hHeld => ?_)
    clear hK K
    refine qAi (a' := ?_) ?_ ?_
    rotate_left
    ·show Act.put _ (some 36) _=_
     simp only [Act.put,qs1,qs2,qs3,qAR,qAT]
     rfl
    refine pU 9 4 ?_
    refine qA6 (by kernel_rfl) ?_
    go_wp2
    go_roundw
    case rel=>exact ⟨3,mb.DD p0 p1 p2 3,A9,c9,rfl,rfl,⟨by decide,rfl⟩,⟨Or.inr ⟨by decide,O9.out⟩⟩,B9⟩
    case measure=>decide
  ·obtain rfl:j=3:=by have:=HJ.out.1;omega
   have HO2:=qAA.mk (show (Kd.int .u8).R 5 wr wb.heap.size (fun _=>True) (.slice B d.length cb) d by
     rcases HO.out with h | h
     ·omega
     ·exact h.2)
   have HE:=qAA.mk (show d=mb.enE m0 m1 m2 by rw [HJ.out.2,EE.out])
   clear hlt HO z0 z1 z2
   by_cases hbig:65536 < d.length
   ·have i0a:decide ((d.length:Int) > 65536)=true:=decide_eq_true (by omega)
    have i0b:decide (65536 < d.length)=true:=decide_eq_true (by omega)
    have i0c:decide ((65536:Int) < (d.length:Int))=true:=decide_eq_true (by omega)
    go_wp2
    go_ret2
    exact mb.enc_bad (fun h=>by have:=h.2;rw [← HE.out] at this;omega) rfl (qAU B7.out B7.out.size HB.out)
   ·have i0a:decide ((d.length:Int) > 65536)=false:=decide_eq_false (by omega)
    have i0b:decide (65536 < d.length)=false:=decide_eq_false (by omega)
    have i0c:decide ((65536:Int) < (d.length:Int))=false:=decide_eq_false (by omega)
    go_wp2
    go_ret2
    exact mb.enc_ok ⟨HOK.out,by rw [← HE.out];omega⟩ rfl HE.out (Kd.qBg HO2.out B7.out.size) (qAU B7.out B7.out.size HB.out)
end
end Go.Proofs.Ytmehfnikecmiiaa.X
namespace Go.Proofs.Ytmehfnikecmiiaa.X
open Go.RowKit Go.Proofs.YtmehfnikecmiiaaW.PrintWords Go.Proofs.YtmehfnikecmiiaaW.PrintLast Go.Proofs.YtmehfnikecmiiaaW.PrintMore Go.Proofs.YtmehfnikecmiiaaW
section
set_option maxHeartbeats 1000000
set_option maxRecDepth 100000
open Go.Proofs.Ytmehfnikecmiiaa Go.Proofs.Ytmehfnikecmiiaa.Pl
theorem mb.eta4 {α β γ δ:Type} (p:α × β × γ × δ):p=(p.1,p.2.1,p.2.2.1,p.2.2.2):=rfl
theorem mb.numF_ok {bs:List Int} (hb:Bytes bs) {most ab a c d n a2 c2 d2:Int} (hab:ab ≠ 0) (q:mb.numF bs most ab a c d=(n,a2,c2,d2)) (h:c2=0) :
  c=0∧d2=d∧(0≤n∧n≤most)∧0≤a∧a < a2∧a2≤(bs.length:Int)∧bs.drop a.toNat=putU n ++ bs.drop a2.toNat:=by
 unfold mb.numF at q
 by_cases h1:(qAW bs a).2.2 ≠ 0
 ·rw [if_pos h1] at q
  injection q with _ q;injection q with _ q;injection q with q _
  exact (mb.flC_z (by decide) (q.trans h)).elim
 rw [if_neg h1] at q
 have h1:(qAW bs a).2.2=0:=Classical.byContradiction h1
 by_cases h2:(qAW bs a).1 > most
 ·rw [if_pos h2] at q
  injection q with _ q;injection q with _ q;injection q with q _
  exact (mb.flC_z hab (q.trans h)).elim
 rw [if_neg h2] at q
 injection q with e1 q;injection q with e2 q;injection q with e3 e4
 have h3:=qA2 bs hb a
 obtain ⟨q0,q1,q2,q3,q4⟩:=qBT bs hb a h1
 generalize qAW bs a=u at *
 subst e1;subst e2;subst e4
 refine ⟨e3.trans h,rfl,⟨h3.1,by omega⟩,q0,by omega,by omega, ?_⟩
 rw [← q4]
 conv=>lhs;rw [← List.take_append_drop (u.2.1 - a).toNat (bs.drop a.toNat)]
 rw [List.drop_drop]
 congr 2
 omega
theorem mb.txtF_ok {bs:List Int} (hb:Bytes bs) {most a c d:Int} {n:ByteArray} {a2 c2 d2:Int} (hm:0≤most) (q:mb.txtF bs most a c d=(n,a2,c2,d2)) (h:c2=0) :
  c=0∧d2=d∧(n.size:Int)≤most∧0≤a∧a < a2∧a2≤(bs.length:Int)∧bs.drop a.toNat=str n ++ bs.drop a2.toNat:=by
 unfold mb.txtF at q
 by_cases h1:(qBP bs a most).2.2=0
 ·rw [if_pos h1] at q
  injection q with e1 q;injection q with e2 q;injection q with e3 e4
  have h3:=textAt_small hb hm h1
  obtain ⟨q0,q1,q2,q3⟩:=textAt_ok hb h1
  generalize qBP bs a most=u at *
  subst e1;subst e2;subst e4
  exact ⟨e3.trans h,rfl,h3,q0,q1,q2,q3⟩
 ·rw [if_neg h1] at q
  exfalso
  by_cases h2:(qBP bs a most).2.2=13
  ·rw [if_pos h2] at q
   injection q with _ q;injection q with _ q;injection q with q _
   exact mb.flC_z (by decide) (q.trans h)
  ·rw [if_neg h2] at q
   injection q with _ q;injection q with _ q;injection q with q _
   exact mb.flC_z (by decide) (q.trans h)
def mb.FW (s:mb.RS):Prop:=(∀ x ∈ s.m0,mb.g48 x∧Siz x)∧(∀ x ∈ s.m1,mb.fm52 x)∧(∀ x ∈ s.m2,x.f0.size≤20)∧∀ i,i < s.m2.length→mb.fm56 s.m1.length s.m2 i
def mb.sb (i:Nat) (s:mb.RS):List Int:=if i=0 then (s.m0.map en).flatten else if i=1 then (s.m1.map mb.e52).flatten else (s.m2.map mb.e56).flatten
def mb.sn (i:Nat) (s:mb.RS):Nat:=if i=0 then s.m0.length else if i=1 then s.m1.length else s.m2.length
structure mb.Stp (i:Nat) (bs:List Int) (k:Nat) (s t:mb.RS):Prop where
 c:s.c=0
 d:t.d=s.d
 fw:mb.FW t
 le:s.a≤t.a
 hi:t.a≤(bs.length:Int)
 bt:mb.sb i s ++ bs.drop s.a.toNat=mb.sb i t ++ bs.drop t.a.toNat
 n:mb.sn i t=mb.sn i s+k
 k0:i ≠ 0→t.m0=s.m0
 k1:i ≠ 1→t.m1=s.m1
 k2:i ≠ 2→t.m2=s.m2
theorem mb.Stp.trans {i:Nat} {bs:List Int} {j k:Nat} {s t u:mb.RS} (h:mb.Stp i bs j s t) (g:mb.Stp i bs k t u):mb.Stp i bs (j+k) s u :=
 ⟨h.c,g.d.trans h.d,g.fw,Int.le_trans h.le g.le,g.hi,h.bt.trans g.bt,by rw [g.n,h.n];omega,fun q=>(g.k0 q).trans (h.k0 q),fun q=>(g.k1 q).trans (h.k1 q),fun q=>(g.k2 q).trans (h.k2 q)⟩
theorem mb.g48_of {x:S48} (hv:Val x) (hr:mb.Rt x):mb.g48 x:=by
 rcases mb.told1 x hv with ⟨_,_,h,_⟩ | ⟨h,_⟩
 ·exact ⟨hv,mb.okV_frm 8 x hr.1,hr.2,h⟩
 ·exact absurd hr h
theorem mb.rt_of {x:S48} (h:mb.g48 x):mb.Rt x:=by
 rcases mb.told1 x h.1 with ⟨r,_⟩ | ⟨_,r,_⟩
 ·exact r
 ·obtain ⟨K,hK⟩:=r
  obtain ⟨K2,hK2⟩:=h.2.2.2
  have e1:=hK (max K K2) (Nat.le_max_left _ _)
  have e2:=hK2 (max K K2) (Nat.le_max_right _ _)
  rw [e1] at e2
  cases e2
theorem mb.cstS_ok {bs:List Int} (hb:Bytes bs) (hl:bs.length≤140737488351232) {s:mb.RS} (hw:mb.FW s) (h:(mb.cstS bs s).c=0):mb.Stp 0 bs 1 s (mb.cstS bs s):=by
 unfold mb.cstS mb.cstF at h ⊢
 rcases hr:mb.takeS bs (qAW bs) (qCX bs) s.a with ⟨x,a2,l2⟩ | ⟨e,p⟩
 ·rw [hr] at h
  dsimp only at h ⊢
  obtain ⟨v1,v2,v3,v4,v5,v6,v7,v8⟩:=mb.takeS_ok hb hl hr
  refine ⟨h,rfl,⟨fun y hy => ?_,hw.2⟩,Int.le_of_lt v5,v6, ?_, ?_,fun q=>absurd rfl q,fun _=>rfl,fun _=>rfl⟩
  ·rcases List.mem_append.1 hy with hy | hy
   ·exact hw.1 y hy
   ·rw [show y=x by simpa using hy];exact ⟨mb.g48_of v1 v3,v2⟩
  ·unfold mb.sb
   rw [if_pos rfl,if_pos rfl]
   dsimp only
   rw [v7,List.map_append,List.flatten_append,List.append_assoc]
   simp
  ·unfold mb.sn
   rw [if_pos rfl,if_pos rfl]
   simp
 ·rw [hr] at h
  dsimp only at h
  exact (mb.flC_z (by split <;> decide) h).elim
theorem mb.funS_ok {bs:List Int} (hb:Bytes bs) {s:mb.RS} (hw:mb.FW s) (hm:s.m2=[]) (h:(mb.funS bs s).c=0):mb.Stp 1 bs 1 s (mb.funS bs s):=by
 obtain ⟨r4,t4,u4,v4,w4,x4,y4⟩:=mb.txtF_ok hb (by decide) (q:=mb.eta4 (mb.fun4 bs s)) h
 obtain ⟨r3,t3,u3,v3,w3,x3,y3⟩:=mb.numF_ok hb (by decide) (q:=mb.eta4 (mb.fun3 bs s)) r4
 have r2:¬ (mb.fun1 bs s).1 < (mb.fun0 bs s).1:=fun q=>by
  have r3:(mb.fun2 bs s).1=0:=r3
  unfold mb.fun2 at r3
  rw [if_pos q] at r3
  exact mb.flC_z (by decide) r3
 have e2:mb.fun2 bs s=((mb.fun1 bs s).2.2.1,(mb.fun1 bs s).2.2.2):=by unfold mb.fun2;rw [if_neg r2]
 have r3:(mb.fun1 bs s).2.2.1=0:=by have q:(mb.fun2 bs s).1=0:=r3;rw [e2] at q;exact q
 have t3:(mb.fun3 bs s).2.2.2=(mb.fun1 bs s).2.2.2:=by have q:(mb.fun3 bs s).2.2.2=(mb.fun2 bs s).2:=t3;rw [e2] at q;exact q
 obtain ⟨r1,t1,u1,v1,w1,x1,y1⟩:=mb.numF_ok hb (by decide) (q:=mb.eta4 (mb.fun1 bs s)) r3
 obtain ⟨r0,t0,u0,v0,w0,x0,y0⟩:=mb.numF_ok hb (by decide) (q:=mb.eta4 (mb.fun0 bs s)) r1
 refine ⟨r0,t4.trans (t3.trans (t1.trans t0)),⟨hw.1,fun y hy => ?_, ?_⟩, ?_,x4, ?_, ?_,fun _=>rfl,fun q=>absurd rfl q,fun _=>rfl⟩
 ·rcases List.mem_append.1 hy with hy | hy
  ·exact hw.2.1 y hy
  ·rw [show y=_ from List.mem_singleton.1 hy]
   exact ⟨u0,⟨by show (mb.fun0 bs s).1≤(mb.fun1 bs s).1;omega,u1.2⟩,u3,by show (mb.fun4 bs s).1.size≤4000;omega⟩
 ·show (∀ x ∈ s.m2,x.f0.size≤20)∧∀ i,i < s.m2.length→_
  rw [hm]
  exact ⟨fun x hx=>by simp at hx,fun i hi=>absurd hi (Nat.not_lt_zero i)⟩
 ·show s.a≤(mb.fun4 bs s).2.1
  omega
 ·unfold mb.sb
  rw [if_neg (by decide),if_pos rfl,if_neg (by decide),if_pos rfl]
  show _ ++ bs.drop s.a.toNat=((s.m1 ++ [_]).map mb.e52).flatten ++ bs.drop (mb.fun4 bs s).2.1.toNat
  rw [y0,y1,y3,y4,List.map_append,List.flatten_append,List.append_assoc]
  congr 1
  simp [mb.e52,X.enF]
 ·unfold mb.sn
  rw [if_neg (by decide),if_pos rfl,if_neg (by decide),if_pos rfl]
  show (s.m1 ++ [_]).length=_
  simp
theorem mb.rd56_last {l:List S56} {y:S56} (h:l[l.length - 1]?=some y) (h0:0 < l.length):qAy l ((l.length:Int) - 1)=y:=by
 unfold qAy
 rw [show ((l.length:Int) - 1).toNat=l.length - 1 by omega,List.getD_eq_getElem?_getD,h]
 rfl
theorem mb.fm_snoc {n:Nat} {l:List S56} {x:S56} (h:∀ i,i < l.length→mb.fm56 n l i) (h1:mb.isN x.f0=true) (h2:0≤x.f1∧x.f1≤(n:Int) - 1) (h3:0 < l.length→Op.bytesLess (qAy l ((l.length:Int) - 1)).f0.toList x.f0.toList=true):∀ i,i < (l ++ [x]).length→mb.fm56 n (l ++ [x]) i:=by
 intro i hi
 rw [List.length_append,List.length_singleton] at hi
 by_cases e:i < l.length
 ·intro y hy
  rw [List.getElem?_append_left e] at hy
  obtain ⟨g1,g2,g3⟩:=h i e y hy
  refine ⟨g1,g2,fun h0 z hz => ?_⟩
  rw [List.getElem?_append_left (by omega)] at hz
  exact g3 h0 z hz
 ·have hl:i=l.length:=by omega
  subst hl
  intro y hy
  rw [List.getElem?_append_right (Nat.le_refl _),Nat.sub_self] at hy
  have hy:x=y:=Option.some.inj hy
  subst hy
  refine ⟨h1,h2,fun h0 z hz => ?_⟩
  rw [List.getElem?_append_left (by omega)] at hz
  have:=h3 h0
  rwa [mb.rd56_last hz h0] at this
theorem mb.expS_ok {bs:List Int} (hb:Bytes bs) {s:mb.RS} (hw:mb.FW s) (h:(mb.expS bs s).c=0):mb.Stp 2 bs 1 s (mb.expS bs s):=by
 have h:(mb.exp3 bs s).1=0:=h
 have r3:¬ (mb.exp2 bs s).1 ≥ (s.m1.length:Int):=fun q=>by
  unfold mb.exp3 at h
  rw [if_pos q] at h
  exact mb.flC_z (by decide) h
 have e3:mb.exp3 bs s=((mb.exp2 bs s).2.2.1,(mb.exp2 bs s).2.2.2):=by unfold mb.exp3;rw [if_neg r3]
 have h:(mb.exp2 bs s).2.2.1=0:=by rw [e3] at h;exact h
 obtain ⟨r2,t2,u2,v2,w2,x2,y2⟩:=mb.numF_ok hb (by decide) (q:=mb.eta4 (mb.exp2 bs s)) h
 have r1:¬ mb.exBad (mb.exp0 bs s).1 s.m2:=fun q=>by
  have r2:(mb.exp1 bs s).1=0:=r2
  unfold mb.exp1 at r2
  rw [if_pos q] at r2
  exact mb.flC_z (by decide) r2
 have e1:mb.exp1 bs s=((mb.exp0 bs s).2.2.1,(mb.exp0 bs s).2.2.2):=by unfold mb.exp1;rw [if_neg r1]
 have r2:(mb.exp0 bs s).2.2.1=0:=by have q:(mb.exp1 bs s).1=0:=r2;rw [e1] at q;exact q
 have t2:(mb.exp2 bs s).2.2.2=(mb.exp0 bs s).2.2.2:=by have q:(mb.exp2 bs s).2.2.2=(mb.exp1 bs s).2:=t2;rw [e1] at q;exact q
 obtain ⟨r0,t0,u0,v0,w0,x0,y0⟩:=mb.txtF_ok hb (by decide) (q:=mb.eta4 (mb.exp0 bs s)) r2
 refine ⟨r0, ?_,⟨hw.1,hw.2.1,fun y hy => ?_, ?_⟩, ?_,x2, ?_, ?_,fun _=>rfl,fun _=>rfl,fun q=>absurd rfl q⟩
 ·show (mb.exp3 bs s).2=s.d
  rw [e3]
  exact t2.trans t0
 ·rcases List.mem_append.1 hy with hy | hy
  ·exact hw.2.2.1 y hy
  ·rw [show y=_ from List.mem_singleton.1 hy]
   show (mb.exp0 bs s).1.size≤20
   omega
 ·refine mb.fm_snoc hw.2.2.2 ?_ ⟨u2.1,by show (mb.exp2 bs s).1≤(s.m1.length:Int) - 1;omega⟩ ?_
  ·exact Classical.byContradiction fun q=>r1 (Or.inl q)
  ·exact fun q=>Classical.byContradiction fun p=>r1 (Or.inr ⟨q,p⟩)
 ·show s.a≤(mb.exp2 bs s).2.1
  omega
 ·unfold mb.sb
  rw [if_neg (by decide),if_neg (by decide),if_neg (by decide),if_neg (by decide)]
  show _ ++ bs.drop s.a.toNat=((s.m2 ++ [_]).map mb.e56).flatten ++ bs.drop (mb.exp2 bs s).2.1.toNat
  rw [y0,y2,List.map_append,List.flatten_append,List.append_assoc]
  congr 1
  simp [mb.e56,X.enX]
 ·unfold mb.sn
  rw [if_neg (by decide),if_neg (by decide),if_neg (by decide),if_neg (by decide)]
  show (s.m2 ++ [_]).length=_
  simp
theorem mb.one_ok {bs:List Int} (hb:Bytes bs) (hl:bs.length≤140737488351232) {i:Nat} (hi:i≤2) {s:mb.RS} (hw:mb.FW s) (hm:i=1→s.m2=[]) (h:(mb.one i bs s).c=0):mb.Stp i bs 1 s (mb.one i bs s):=by
 obtain rfl | rfl | rfl:i=0 ∨ i=1 ∨ i=2:=by omega
 ·exact mb.cstS_ok hb hl hw h
 ·exact mb.funS_ok hb hw (hm rfl) h
 ·exact mb.expS_ok hb hw h
theorem mb.secF_ok {bs:List Int} (hb:Bytes bs) (hl:bs.length≤140737488351232) {i:Nat} (hi:i≤2):∀ (k:Nat) {s:mb.RS},mb.FW s→(i=1→s.m2=[])→s.a≤(bs.length:Int)→s.c=0→(mb.secF i bs k s).c=0→mb.Stp i bs k s (mb.secF i bs k s)
 | 0,s,hw,hm,ha,hc,h=>⟨hc,rfl,hw,Int.le_refl _,ha,rfl,rfl,fun _=>rfl,fun _=>rfl,fun _=>rfl⟩
 | k+1,s,hw,hm,ha,hc,h=>by
  unfold mb.secF at h ⊢
  by_cases q:(mb.one i bs s).c ≠ 0
  ·rw [if_pos q] at h;exact absurd h q
  rw [if_neg q] at h ⊢
  have q:(mb.one i bs s).c=0:=Classical.byContradiction q
  have s1:=mb.one_ok hb hl hi hw hm q
  have s2:=mb.secF_ok hb hl hi k s1.fw (fun e=>by rw [s1.k2 (by omega)];exact hm e) s1.hi q h
  have:=s1.trans s2
  rwa [Nat.add_comm 1 k] at this
structure mb.Rnd (i:Nat) (bs:List Int) (s t:mb.RS):Prop where
 c:s.c=0
 d:t.d=s.d
 fw:mb.FW t
 hi:0≤t.a∧t.a≤(bs.length:Int)
 bt:bs.drop s.a.toNat=([(i:Int)+1] ++ txt (putU (mb.sn i t:Int) ++ mb.sb i t)) ++ bs.drop t.a.toNat
 n:(mb.sn i t:Int)≤mb.most i
 k0:i ≠ 0→t.m0=s.m0
 k1:i ≠ 1→t.m1=s.m1
 k2:i ≠ 2→t.m2=s.m2
theorem mb.round_ok {bs:List Int} (hb:Bytes bs) (hl:bs.length≤140737488351232) {i:Nat} (hi:i≤2) {s:mb.RS} (hw:mb.FW s) (hm:i=1→s.m2=[]) (hin:0≤s.a∧s.a≤(bs.length:Int)) (hs:mb.sn i s=0) (hsb:mb.sb i s=[]) (h:(mb.qBR i bs s).c=0):mb.Rnd i bs s (mb.qBR i bs s):=by
 unfold mb.qBR at h ⊢
 by_cases h1:(mb.opS i bs s).c ≠ 0
 ·rw [if_pos h1] at h;exact absurd h h1
 rw [if_neg h1] at h ⊢
 have h1:(mb.opS i bs s).c=0:=Classical.byContradiction h1
 have ho:mb.openF bs ((i:Int)+1) s.a s.c s.d=(mb.opE i bs s,(mb.opS i bs s).a,(mb.opS i bs s).c,(mb.opS i bs s).d):=rfl
 have m0:(mb.opS i bs s).m0=s.m0:=rfl
 have m1:(mb.opS i bs s).m1=s.m1:=rfl
 have m2:(mb.opS i bs s).m2=s.m2:=rfl
 generalize mb.opS i bs s=o at *
 generalize mb.opE i bs s=e at *
 rw [h1] at ho
 unfold mb.openF at ho
 by_cases h2:(bs.length:Int)≤s.a ∨ bs.getD s.a.toNat 0 ≠ (i:Int)+1
 ·rw [if_pos h2] at ho
  injection ho with _ q;injection q with _ q;injection q with q _
  exact (mb.flC_z (by decide) q).elim
 rw [if_neg h2] at ho
 have h3:s.a < (bs.length:Int):=Int.not_le.1 fun q=>h2 (Or.inl q)
 have h4:bs.getD s.a.toNat 0=(i:Int)+1:=Classical.byContradiction fun q=>h2 (Or.inr q)
 by_cases h5:(qAW bs (s.a+1)).2.2 ≠ 0 ∨ (qAW bs (s.a+1)).1 > (bs.length:Int) - (qAW bs (s.a+1)).2.1
 ·rw [if_pos h5] at ho
  injection ho with _ q;injection q with _ q;injection q with q _
  exact (mb.flC_z (by decide) q).elim
 rw [if_neg h5] at ho
 have h6:(qAW bs (s.a+1)).2.2=0:=Classical.byContradiction fun q=>h5 (Or.inl q)
 have h7:¬ (qAW bs (s.a+1)).1 > (bs.length:Int) - (qAW bs (s.a+1)).2.1:=fun q=>h5 (Or.inr q)
 obtain ⟨q0,q1,q2,q3,q4⟩:=qBT bs hb (s.a+1) h6
 have hr:=qA2 bs hb (s.a+1)
 generalize qAW bs (s.a+1)=u at *
 obtain ⟨v,nx,er⟩:=u
 dsimp only at *
 injection ho with e1 ho;injection ho with e2 ho;injection ho with e3 e4
 obtain ⟨be,hbe⟩:∃ be,be=bs.take e.toNat:=⟨_,rfl⟩
 rw [← hbe] at h ⊢
 have hel:be.length=e.toNat:=by rw [hbe,List.length_take];omega
 have hbb:Bytes be:=by rw [hbe];exact hb.take _
 have hbl:be.length≤140737488351232:=by rw [hel];omega
 have hn:mb.numF be (mb.most i) 92 o.a o.c o.d=(mb.nuN i be o,(mb.nuS i be o).a,(mb.nuS i be o).c,(mb.nuS i be o).d):=rfl
 have w0:(mb.nuS i be o).m0=s.m0:=m0
 have w1:(mb.nuS i be o).m1=s.m1:=m1
 have w2:(mb.nuS i be o).m2=s.m2:=m2
 generalize mb.nuN i be o=n at *
 generalize mb.nuS i be o=p at *
 have hfp:mb.FW p:=by
  unfold mb.FW
  rw [w0,w1,w2]
  exact hw
 have hsp:mb.sn i p=0:=by unfold mb.sn at hs ⊢;rw [w0,w1,w2];exact hs
 have hbp:mb.sb i p=[]:=by unfold mb.sb at hsb ⊢;rw [w0,w1,w2];exact hsb
 have hcF:(mb.secF i be n.toNat p).c=0∧(mb.secF i be n.toNat p).a=e:=by
  generalize mb.secF i be n.toNat p=t at *
  by_cases c1:t.c ≠ 0
  ·rw [if_pos c1] at h;exact absurd h c1
  rw [if_neg c1] at h
  by_cases c2:t.a ≠ e
  ·rw [if_pos c2] at h
   exact (mb.flC_z (by decide) h).elim
  ·exact ⟨Classical.byContradiction c1,Classical.byContradiction c2⟩
 obtain ⟨hc,hae⟩:=hcF
 rw [if_neg (fun q=>q hc),if_neg (fun q=>q hae)]
 have hpc:p.c=0:=by
  apply Classical.byContradiction
  intro q
  have:∀ (k:Nat) (s:mb.RS),s.c ≠ 0→(mb.secF i be k s).c ≠ 0:=by
   intro k
   induction k with
   | zero=>intro s hs;exact hs
   | succ k ih =>
    intro s hs
    have hone:(mb.one i be s).c ≠ 0:=by
     unfold mb.one
     split
     ·show (mb.cstF be s.a s.c s.d s.m0).2.2.1 ≠ 0
      unfold mb.cstF
      split
      ·exact hs
      ·dsimp only;rw [mb.flC_n _ hs];exact hs
     ·have hN:∀ {most ab a c d:Int},c ≠ 0→(mb.numF be most ab a c d).2.2.1 ≠ 0:=by
       intro most ab a c d hc
       unfold mb.numF
       split
       ·dsimp only;rw [mb.flC_n _ hc];exact hc
       ·split
        ·dsimp only;rw [mb.flC_n _ hc];exact hc
        ·exact hc
      have hT:∀ {most a c d:Int},c ≠ 0→(mb.txtF be most a c d).2.2.1 ≠ 0:=by
       intro most a c d hc
       unfold mb.txtF
       split
       ·exact hc
       ·split
        ·dsimp only;rw [mb.flC_n _ hc];exact hc
        ·dsimp only;rw [mb.flC_n _ hc];exact hc
      split
      ·refine hT (hN ?_)
       have h1:(mb.fun1 be s).2.2.1 ≠ 0:=hN (hN hs)
       show (mb.fun2 be s).1 ≠ 0
       unfold mb.fun2
       split
       ·dsimp only;rw [mb.flC_n _ h1];exact h1
       ·exact h1
      ·have h1:(mb.exp0 be s).2.2.1 ≠ 0:=hT hs
       have h2:(mb.exp1 be s).1 ≠ 0:=by
        unfold mb.exp1
        split
        ·dsimp only;rw [mb.flC_n _ h1];exact h1
        ·exact h1
       have h3:(mb.exp2 be s).2.2.1 ≠ 0:=hN h2
       show (mb.exp3 be s).1 ≠ 0
       unfold mb.exp3
       split
       ·dsimp only;rw [mb.flC_n _ h3];exact h3
       ·exact h3
    unfold mb.secF
    rw [if_pos hone]
    exact hone
  exact this n.toNat p q hc
 obtain ⟨r0,r1,r2,r3,r4,r5,r6⟩:=mb.numF_ok hbb (by decide) hn hpc
 have st:=mb.secF_ok hbb hbl hi n.toNat hfp (fun q=>by rw [w2];exact hm q) r5 hpc hc
 generalize mb.secF i be n.toNat p=t at *
 have hbt:=st.bt
 rw [hbp,List.nil_append,hae,show be.drop e.toNat=[] from List.drop_eq_nil_of_le (by omega),List.append_nil] at hbt
 have htn:(mb.sn i t:Int)=n:=by rw [st.n,hsp];omega
 have hd:be.drop nx.toNat=putU (mb.sn i t:Int) ++ mb.sb i t:=by
  rw [htn,e2,r6,hbt]
 have hle:((putU (mb.sn i t:Int) ++ mb.sb i t).length:Int)=v:=by
  rw [← hd,List.length_drop];omega
 refine ⟨?_, ?_,st.fw,⟨by rw [hae];omega,by rw [hae];omega⟩, ?_,by rw [htn];exact r2.2,fun q=>(st.k0 q).trans w0,fun q=>(st.k1 q).trans w1,fun q=>(st.k2 q).trans w2⟩
 ·exact e3
 ·rw [st.d,r1,← e4]
 ·have g0:bs.drop s.a.toNat=bs.getD s.a.toNat 0 :: bs.drop (s.a.toNat+1):=by
   rw [List.drop_eq_getElem_cons (by omega),List.getD_eq_getElem?_getD,List.getElem?_eq_getElem (by omega)]
   rfl
  have g1:bs.drop (s.a.toNat+1)=putU v ++ bs.drop nx.toNat:=by
   rw [← q4,show (s.a+1).toNat=s.a.toNat+1 by omega]
   conv=>lhs;rw [← List.take_append_drop (nx - (s.a+1)).toNat (bs.drop (s.a.toNat+1))]
   rw [List.drop_drop]
   congr 2
   omega
  have g2:bs.drop nx.toNat=be.drop nx.toNat ++ bs.drop e.toNat:=by
   rw [hbe,List.drop_take]
   conv=>lhs;rw [← List.take_append_drop (e.toNat - nx.toNat) (bs.drop nx.toNat)]
   rw [List.drop_drop]
   congr 2
   omega
  rw [g0,h4,g1,g2,hd,hae]
  unfold X.txt
  rw [hle]
  simp only [List.append_assoc,List.cons_append,List.nil_append]
def mb.decM (bs:List Int):Int × Int × List S48 × List S52 × List S56 :=
 if 65536 < (bs.length:Int) then (92,0,[],[],[])
 else if (bs.length:Int) < 4 ∨ bs.take 4 ≠ [83,67,77,49] then (91,0,[],[],[])
 else if (mb.qBp bs 3 0 ⟨4,0,0,[],[],[]⟩).c ≠ 0 then ((mb.qBp bs 3 0 ⟨4,0,0,[],[],[]⟩).c,(mb.qBp bs 3 0 ⟨4,0,0,[],[],[]⟩).d,[],[],[])
 else (0,0,(mb.qBp bs 3 0 ⟨4,0,0,[],[],[]⟩).m0,(mb.qBp bs 3 0 ⟨4,0,0,[],[],[]⟩).m1,(mb.qBp bs 3 0 ⟨4,0,0,[],[],[]⟩).m2)
theorem mb.rest_ok {bs:List Int} (hb:Bytes bs) (hl:bs.length≤140737488351232) (h4:4≤(bs.length:Int)) (h:(mb.qBp bs 3 0 ⟨4,0,0,[],[],[]⟩).c=0) :
  mb.FW (mb.qBp bs 3 0 ⟨4,0,0,[],[],[]⟩)∧(mb.qBp bs 3 0 ⟨4,0,0,[],[],[]⟩).m0.length≤100∧(mb.qBp bs 3 0 ⟨4,0,0,[],[],[]⟩).m1.length≤24∧(mb.qBp bs 3 0 ⟨4,0,0,[],[],[]⟩).m2.length≤24 ∧
  bs.drop 4=([1] ++ txt (lst en (mb.qBp bs 3 0 ⟨4,0,0,[],[],[]⟩).m0)) ++ (([2] ++ txt (lst mb.e52 (mb.qBp bs 3 0 ⟨4,0,0,[],[],[]⟩).m1)) ++ ([3] ++ txt (lst mb.e56 (mb.qBp bs 3 0 ⟨4,0,0,[],[],[]⟩).m2))):=by
 have st:∀ (k i:Nat) (s:mb.RS),(mb.qBp bs (k+1) i s).c=0→(mb.qBR i bs s).c=0∧mb.qBp bs (k+1) i s=mb.qBp bs k (i+1) (mb.qBR i bs s):=by
  intro k i s q
  by_cases c:(mb.qBR i bs s).c=0
  ·exact ⟨c,mb.rest_eq c⟩
  ·rw [mb.qB8 c] at q;exact absurd q c
 obtain ⟨s0,hs0⟩:∃ s0:mb.RS,s0=⟨4,0,0,[],[],[]⟩:=⟨_,rfl⟩
 rw [← hs0] at h ⊢
 obtain ⟨c1,e1⟩:=st 2 0 s0 h
 rw [e1] at h ⊢
 have R1:=mb.round_ok hb hl (i:=0) (by decide) (s:=s0) (by subst hs0;exact ⟨fun x hx=>by simp at hx,fun x hx=>by simp at hx,fun x hx=>by simp at hx,fun i hi=>absurd hi (Nat.not_lt_zero i)⟩) (fun q=>by omega) (by subst hs0;dsimp only;omega) (by subst hs0;rfl) (by subst hs0;rfl) c1
 have a1:(mb.qBR 0 bs s0).m1=[]:=(R1.k1 (by decide)).trans (by subst hs0;rfl)
 have b1:(mb.qBR 0 bs s0).m2=[]:=(R1.k2 (by decide)).trans (by subst hs0;rfl)
 generalize mb.qBR 0 bs s0=s1 at *
 obtain ⟨c2,e2⟩:=st 1 1 s1 h
 rw [e2] at h ⊢
 have R2:=mb.round_ok hb hl (i:=1) (by decide) (s:=s1) R1.fw (fun _=>b1) R1.hi (by unfold mb.sn;rw [if_neg (by decide),if_pos rfl,a1];rfl) (by unfold mb.sb;rw [if_neg (by decide),if_pos rfl,a1];rfl) c2
 have b2:(mb.qBR 1 bs s1).m2=[]:=(R2.k2 (by decide)).trans b1
 have z2:(mb.qBR 1 bs s1).m0=s1.m0:=R2.k0 (by decide)
 generalize mb.qBR 1 bs s1=s2 at *
 obtain ⟨c3,e3⟩:=st 0 2 s2 h
 rw [e3] at h ⊢
 have R3:=mb.round_ok hb hl (i:=2) (by decide) (s:=s2) R2.fw (fun q=>by omega) R2.hi (by unfold mb.sn;rw [if_neg (by decide),if_neg (by decide),b2];rfl) (by unfold mb.sb;rw [if_neg (by decide),if_neg (by decide),b2];rfl) c3
 have z3:(mb.qBR 2 bs s2).m0=s1.m0:=(R3.k0 (by decide)).trans z2
 have y3:(mb.qBR 2 bs s2).m1=s2.m1:=R3.k1 (by decide)
 generalize mb.qBR 2 bs s2=s3 at *
 unfold mb.qBp at h ⊢
 by_cases hlt:s3.a < (bs.length:Int)
 ·rw [if_pos hlt] at h
  exact (mb.flC_z (by decide) h).elim
 rw [if_neg hlt]
 have B1:=R1.bt
 have B2:=R2.bt
 have B3:=R3.bt
 have n1:=R1.n
 have n2:=R2.n
 have n3:=R3.n
 unfold mb.sn mb.sb at B1 B2 B3
 unfold mb.sn mb.most at n1 n2 n3
 simp only [if_true,if_false,show ((1:Nat)=0)=False from eq_false (by decide),show ((2:Nat)=0)=False from eq_false (by decide),show ((2:Nat)=1)=False from eq_false (by decide)] at B1 B2 B3 n1 n2 n3
 refine ⟨R3.fw,by rw [z3];omega,by rw [y3];omega,by omega, ?_⟩
 rw [show bs.drop s3.a.toNat=[] from List.drop_eq_nil_of_le (by omega),List.append_nil] at B3
 rw [z3,y3]
 have hs:s0.a.toNat=4:=by subst hs0;rfl
 rw [← hs,B1,B2,B3]
 unfold X.lst
 simp only [List.append_assoc]
 rfl
theorem mb.decM_sound {bs:List Int} (hb:Bytes bs) {p:Int} {m0:List S48} {m1:List S52} {m2:List S56} (h:mb.decM bs=(0,p,m0,m1,m2)):mb.OK m0 m1 m2∧(∀ x ∈ m0,Val x∧Siz x)∧(∀ x ∈ m2,x.f0.size≤20)∧mb.enE m0 m1 m2=bs∧p=0:=by
 unfold mb.decM at h
 by_cases h0:65536 < (bs.length:Int)
 ·rw [if_pos h0] at h;injection h with h _;cases h
 rw [if_neg h0] at h
 by_cases h1:(bs.length:Int) < 4 ∨ bs.take 4 ≠ [83,67,77,49]
 ·rw [if_pos h1] at h;injection h with h _;cases h
 rw [if_neg h1] at h
 have h4:4≤(bs.length:Int):=Int.not_lt.1 fun q=>h1 (Or.inl q)
 have hm:bs.take 4=[83,67,77,49]:=Classical.byContradiction fun q=>h1 (Or.inr q)
 by_cases h2:(mb.qBp bs 3 0 ⟨4,0,0,[],[],[]⟩).c ≠ 0
 ·rw [if_pos h2] at h;injection h with h _;exact absurd h h2
 rw [if_neg h2] at h
 obtain ⟨f0,f1,f2,f3,f4⟩:=mb.rest_ok hb (by omega) h4 (Classical.byContradiction h2)
 generalize mb.qBp bs 3 0 ⟨4,0,0,[],[],[]⟩=t at *
 injection h with _ h
 injection h with g1 h
 injection h with g2 h
 injection h with g3 g4
 subst g2;subst g3;subst g4
 have he:mb.enE t.m0 t.m1 t.m2=bs:=by
  unfold mb.enE
  rw [← f4,← hm,List.take_append_drop]
 exact ⟨⟨⟨f1,f2,f3,fun x hx=>(f0.1 x hx).1,f0.2.1,f0.2.2.2⟩,by rw [he];omega⟩,fun x hx=>⟨(f0.1 x hx).1.1,(f0.1 x hx).2⟩,f0.2.2.1,he,g1.symm⟩
end
end Go.Proofs.Ytmehfnikecmiiaa.X
namespace Go.Proofs.Ytmehfnikecmiiaa.X
open Go.RowKit Go.Proofs.YtmehfnikecmiiaaW.PrintWords Go.Proofs.YtmehfnikecmiiaaW.PrintLast Go.Proofs.YtmehfnikecmiiaaW.PrintMore Go.Proofs.YtmehfnikecmiiaaW
section
set_option maxHeartbeats 4000000
set_option maxRecDepth 100000
open Go.Proofs.Ytmehfnikecmiiaa Go.Proofs.Ytmehfnikecmiiaa.Pl
def mb.DecT (c p:Int) (m0:List S48) (m1:List S52) (m2:List S56) (w:World) (e:Ending) (w':World):Prop:=Below w.heap.size w w'∧∃ v0 v1 v2,e=.returned (.tuple #[.agg #[v0,v1,v2],.int .i64 p,.int .i64 c])∧mb.kt.R 48 w' w.heap.size (fun _=>True) v0 m0∧k52.R 52 w' w.heap.size (fun _=>True) v1 m1∧k56.R 56 w' w.heap.size (fun _=>True) v2 m2
theorem mb.dec_none {c p:Int} {w w':World} {e:Ending} (he:e=.returned (.tuple #[.agg #[.slice none 0 0,.slice none 0 0,.slice none 0 0],.int .i64 p,.int .i64 c])) (hb:Below w.heap.size w w'):mb.DecT c p [] [] [] w e w':=⟨hb,_,_,_,he,Kd.qBx _ _ _ _ _,Kd.qBx _ _ _ _ _,Kd.qBx _ _ _ _ _⟩
theorem mb.three {rb:Nat} {vs:List Value} (hl:vs.length=3) {W:World} {cur:Array Value} {e:TypeId} (hsz:cur.size=3) (hh:W.heap[rb]?=some (.cells cur e (0,0))):(W.setCells rb 0 vs).heap[rb]?=some (.cells vs.toArray e (0,0))∧W.grownBy (W.setCells rb 0 vs) (some rb):=by
 obtain ⟨cur',c1,c2,c3⟩:=qBs vs 0 W cur hh (by rw [hsz,hl];decide)
 have hc:cur'=vs.toArray:=by
  apply Array.toList_inj.1
  rw [c3,Nat.zero_add]
  have:cur.toList.drop vs.length=[]:=List.drop_eq_nil_of_le (by rw [Array.length_toList];omega)
  rw [this]
  simp
 subst hc
 obtain ⟨s1,s2,s3,s4⟩:=qBj rb vs 0 W
 exact ⟨c1,⟨s1,s2,s3,by omega,fun k hk hne=>qBi _ _ k (fun e=>hne (by rw [e]))⟩⟩
section
variable {P:Program} {ops:Array Oper} {o:Oper} {rest:List Oper} {a:Act} {Q:Exit→Act→World→Prop}
theorem mb.store_res3 {W:World} (hgd:o.guard=none) (hN:o.dst=none) (t:TypeId) (p:Tmp) (x:Operand) (ho:o.op=.store t (.tmp p) x) (hinf:(P.info? t).map (·.size)=some 3) (rb:Nat) (haddr:a.eval (.tmp p)=.pointer (some ⟨rb,0,none⟩)) (v0 v1 v2:Value) (hx:a.eval x=.agg #[v0,v1,v2]) (h1:∀ q ∈ [v0,v1,v2],q.oneCell'=true) (cur:Array Value) (e:TypeId) (hsz:cur.size=3) (hh:W.heap[rb]?=some (.cells cur e (0,0)))
  (h:∀ W1,W1.heap[rb]?=some (.cells #[v0,v1,v2] e (0,0))→W.grownBy W1 (some rb)→wpList P ops Q rest a W1):wpList P ops Q (o :: rest) a W:=by
 have hu:(Value.agg #[v0,v1,v2]).cells.toList=[v0,v1,v2]:=by simp [Value.cells]
 have hrun:(Instr.storeAt t (.pointer (some ⟨rb,0,none⟩)) (.agg #[v0,v1,v2])).run P W=.ok () (W.setCells rb 0 [v0,v1,v2]) :=
  qB4 t _ [v0,v1,v2] hh hu hinf (by rw [hsz];simp) h1
 obtain ⟨c1,c2⟩:=mb.three (vs:=[v0,v1,v2]) rfl hsz hh
 refine wpList_plain hgd fun K hK => ?_
 unfold Oper.wp execOp
 simp only [ho,haddr,hx,Sem.run_bind,Sem.run_pure,Result.andThen_ok,hrun]
 show K (a.put o.dst undef) _
 rw [hN]
 exact hK a _ (h _ c1 c2)
theorem mb.st3 {K:Act→World→Prop} {W:World} (hw:Region.wanted o (yielded ops a.tmps)=true) (hN:o.dst=none) (t:TypeId) (p:Tmp) (x:Operand) (ho:o.op=.store t (.tmp p) x) (hinf:(P.info? t).map (·.size)=some 3) (rb:Nat) (haddr:a.eval (.tmp p)=.pointer (some ⟨rb,0,none⟩)) (v0 v1 v2:Value) (hx:a.eval x=.agg #[v0,v1,v2]) (h1:∀ q ∈ [v0,v1,v2],q.oneCell'=true) (cur:Array Value) (e:TypeId) (hsz:cur.size=3) (hh:W.heap[rb]?=some (.cells cur e (0,0)))
  (h:∀ W1,W1.heap[rb]?=some (.cells #[v0,v1,v2] e (0,0))→W.grownBy W1 (some rb)→K a W1):if Region.wanted o (yielded ops a.tmps)=true then Oper.wp P o a W K Q else K (a.put none undef) W:=by
 have hu:(Value.agg #[v0,v1,v2]).cells.toList=[v0,v1,v2]:=by simp [Value.cells]
 have hrun:(Instr.storeAt t (.pointer (some ⟨rb,0,none⟩)) (.agg #[v0,v1,v2])).run P W=.ok () (W.setCells rb 0 [v0,v1,v2]) :=
  qB4 t _ [v0,v1,v2] hh hu hinf (by rw [hsz];simp) h1
 obtain ⟨c1,c2⟩:=mb.three (vs:=[v0,v1,v2]) rfl hsz hh
 refine qCH hw hN (w1:=W.setCells rb 0 [v0,v1,v2]) ?_ (h _ c1 c2)
 unfold execOp
 simp only [ho,haddr,hx,Sem.run_bind,Sem.run_pure,Result.andThen_ok,hrun]
end
theorem mb.res21 {tmps:Array Value} {w:World} {bv:Nat} (hp4:tmps[2]?=some (.pointer (some ⟨bv,0,none⟩))) {v0 v1 v2:Value} {x y:Int} (hp5:tmps[3]?=some (.int .i64 x)) (hp6:tmps[4]?=some (.int .i64 y)) (hv:w.heap[bv]?=some (.cells #[v0,v1,v2] 27 (0,0))) :
  (results Try.f21 tmps).run Try.prog w=.ok (.tuple #[.agg #[v0,v1,v2],.int .i64 x,.int .i64 y]) w:=by
 have z0:w.cell? ⟨bv,0,none⟩=some v0:=(qAB hv 0).trans rfl
 have z1:w.cell? ⟨bv,1,none⟩=some v1:=(qAB hv 1).trans rfl
 have z2:w.cell? ⟨bv,2,none⟩=some v2:=(qAB hv 2).trans rfl
 simp [results,Try.results21,hp4,hp5,hp6,asAddr,z0,z1,z2,go_sem]
theorem mb.fin3 {w w1 W1 W2:World} {rb:Nat} (h1:Below w.heap.size w w1) (hlt:w.heap.size≤rb) (hb:Below w1.heap.size w1 W1) (hg:W1.grownBy W2 (some rb)):Below w.heap.size w W2 :=
 ⟨hg.os.trans (hb.os.trans h1.os),hg.tape.trans (hb.tape.trans h1.tape),hg.output.trans (hb.output.trans h1.output),Nat.le_trans h1.size (Nat.le_trans hb.size hg.size),fun k hk=>(hg.block k (Nat.lt_of_lt_of_le hk (Nat.le_trans h1.size hb.size)) (fun e=>by have:=Option.some.inj e;omega)).trans ((hb.block k (Nat.lt_of_lt_of_le hk h1.size)).trans (h1.block k hk))⟩
theorem mb.R_fin {α:Type} {d:Kd α} {e b0:Nat} {W1 W2:World} {base rb:Nat} {ok:Nat→Prop} {v:Value} {xs:List α} (h:d.R e W1 base ok v xs) (hg:W1.grownBy W2 (some rb)) (hlt:rb < base) (hb:b0≤base):d.R e W2 b0 (fun _=>True) v xs :=
 Kd.qBd (Kd.qBg (Kd.qCh (Kd.qBv h) hg (fun k hk e=>by have:=Option.some.inj e;have:=hk.2.1;omega)) hb) (fun _ _=>trivial)
set_option maxHeartbeats 16000000 in
theorem mb.dec21 {bs:List Int} (hb:Bytes bs) (hl:bs.length≤140737488351232) {w:World} {A:Option Addr} {c:Nat} (hC:(Kd.int .u8).C w A bs.length bs) (hc:bs.length≤c) :
  Calls Try.prog 21 #[.slice A bs.length c] w (mb.DecT (mb.decM bs).1 (mb.decM bs).2.1 (mb.decM bs).2.2.1 (mb.decM bs).2.2.2.1 (mb.decM bs).2.2.2.2 w):=by
 have hu69:=Try.underlying69
 have hu27:=Try.underlying27
 have hu29:=Try.underlying29
 have HA:=qAA.mk (fun (W0 W:World) (g:Nat) (h0:Below w.heap.size w W0) (h:mb.RMS W0 W g none 0 0 ⟨4,0,0,[],[],[]⟩) (h4:4≤(bs.length:Int))=>mb.all42 hb hl h (Kd.qAS hC h0) hc rfl ⟨⟨by dsimp only;omega,h4⟩,by dsimp only;omega,by dsimp only;omega⟩ ⟨Nat.le_refl _,Nat.le_refl _,Nat.le_refl _⟩)
 unfold mb.decM
 by_cases h6:65536 < (bs.length:Int)
 ·rw [if_pos h6]
  have i1:decide ((bs.length:Int) > 65536)=true:=decide_eq_true h6
  have i3:decide (65536 < (bs.length:Int))=true:=decide_eq_true h6
  have i2:decide (65536 < bs.length)=true:=decide_eq_true (by omega)
  clear h6 hb hl hC hc
  go_enter Try.func21,Try.ntmps21
  go_wp2
  refine bodyPost_ret (mb.res21 rfl rfl rfl (by simpa using heap_alloc_new w _)) rfl ?_
  exact mb.dec_none rfl (qAH (Below.refl _ _) _)
 rw [if_neg h6]
 have k1:decide ((bs.length:Int) > 65536)=false:=decide_eq_false h6
 have k3:decide (65536 < (bs.length:Int))=false:=decide_eq_false h6
 have k2:decide (65536 < bs.length)=false:=decide_eq_false (by omega)
 clear h6
 by_cases h4:(bs.length:Int) < 4
 ·rw [if_pos (Or.inl h4)]
  have i1:decide ((bs.length:Int) < 4)=true:=decide_eq_true h4
  have i2:decide (bs.length < 4)=true:=decide_eq_true (by omega)
  clear h4 hb hl hC hc
  go_enter Try.func21,Try.ntmps21
  go_wp2
  refine bodyPost_ret (mb.res21 rfl rfl rfl (by simpa using heap_alloc_new w _)) rfl ?_
  exact mb.dec_none rfl (qAH (Below.refl _ _) _)
 have i1:decide ((bs.length:Int) < 4)=false:=decide_eq_false h4
 have i2:decide (bs.length < 4)=false:=decide_eq_false (by omega)
 have ht4:(bs.take 4).length=4:=by rw [List.length_take];omega
 have H4:=qAA.mk (show 4≤(bs.length:Int) by omega)
 obtain ⟨i0,hi0,_,_,_⟩:=info_parts (show (Try.prog.info? 5).map (fun i=>(i.zero,i.size,i.bytes))=some (some (.int .u8 0),1,1) by kernel_rfl)
 have CUT:=cut_to (P:=Try.prog) 29 5 .i64 Try.underlying29 hi0 A bs.length c 4 (by omega) (by omega) hc
 have CV:=Kd.qBc (P:=Try.prog) (c:=c) Try.underlying29 Try.underlying5 Try.underlying9 (Kd.qAs (Kd.C_take hC (m:=4) (by omega)) (.cells #[.slice none 0 0,.slice none 0 0,.slice none 0 0] 27))
 rw [ht4] at CV
 have hmg:strOfNums [83,67,77,49]=⟨#[83,67,77,49]⟩:=by rfl
 clear h4 hC hc
 by_cases hm:bs.take 4=[83,67,77,49]
 case neg =>
  rw [if_pos (Or.inr hm)]
  have hne:strOfNums (bs.take 4) ≠ (⟨#[83,67,77,49]⟩:ByteArray):=fun h=>hm (str_inj (fun z hz=>hb z (List.mem_of_mem_take hz)) (qBM (by decide) (by decide) (qBM (by decide) (by decide) (qBM (by decide) (by decide) (qBM (by decide) (by decide) Bytes.nil)))) (h.trans hmg.symm))
  generalize strOfNums (bs.take 4)=s1 at CV hne
  have j1:(s1.toList == [83,67,77,49])=false:=by simpa using fun h=>hne (toList_inj (h.trans (by rw [ByteArray.toList_eq])))
  have j2:(s1.toList != [83,67,77,49])=true:=by simpa using fun h=>hne (toList_inj (h.trans (by rw [ByteArray.toList_eq])))
  clear hm hne hb hl hmg
  go_enter Try.func21,Try.ntmps21
  go_wp2
  refine bodyPost_ret (mb.res21 rfl rfl rfl (by simpa using heap_alloc_new w _)) rfl ?_
  exact mb.dec_none rfl (qAH (Below.refl _ _) _)
 rw [hm,hmg] at CV
 rw [if_neg (by
   rintro (h | h);· simp only [decide_eq_false_iff_not] at i1;exact i1 h
   ·exact h hm)]
 clear hm hmg hb hl
 generalize hS:mb.qBp bs 3 0 ⟨4,0,0,[],[],[]⟩=s
 rw [hS] at HA
 clear hS
 by_cases hc0:s.c ≠ 0
 ·rw [if_pos hc0]
  have d1:(s.c != 0)=true:=bne_iff_ne.2 hc0
  have d2:(s.c == 0)=false:=beq_eq_false_iff_ne.2 hc0
  have d3:decide (s.c=0)=false:=decide_eq_false hc0
  clear hc0
  go_enter Try.func21,Try.ntmps21
  go_wp2_with (first | ((with_reducible refine qAr (N:=21) rfl ?_);refine qAk ?hg (N:=21) ?hd (cs:=#[.slice none 0 0,.int .i64 4,.int .i64 0,.int .i64 0,.slice none 0 0,.slice none 0 0,.slice none 0 0]) (t:=69) ?hr ?_;(case hd=>rfl);(case hg=>rfl);(case hr=>first | (go_simp;done) | (go_simp;rfl));intro g hg w3 hbox hb1;have R3:=qAA.mk (show mb.RMS (w.alloc (.cells #[.slice none 0 0,.slice none 0 0,.slice none 0 0] 27)) w3 g none 0 0 ⟨4,0,0,[],[],[]⟩ from ⟨_,_,_,hbox,Kd.qBx _ _ _ _ _,Kd.qBx _ _ _ _ _,Kd.qBx _ _ _ _ _,hb1,by rw [hg];exact Nat.le_refl _,fun k hk=>hk⟩);have X1:=qAA.mk (show (w.alloc (.cells #[.slice none 0 0,.slice none 0 0,.slice none 0 0] 27)).heap[w.heap.size]?=some (.cells #[.slice none 0 0,.slice none 0 0,.slice none 0 0] 27 (0,0)) from by simpa using heap_alloc_new w _);have B1:=qAA.mk (qAH (Below.refl w.heap.size w) (.cells #[.slice none 0 0,.slice none 0 0,.slice none 0 0] 27));have S1:=qAA.mk (show w.heap.size < (w.alloc (.cells #[.slice none 0 0,.slice none 0 0,.slice none 0 0] 27)).heap.size from qAX X1.out);clear hbox hb1 hg;generalize (w.alloc (.cells #[.slice none 0 0,.slice none 0 0,.slice none 0 0] 27))=w1 at *) | (go_at_call 42;refine (HA.out w1 _ _ B1.out R3.out H4.out).mono ?_;rintro e_ w5 ⟨rfl,B2,n2,c2,hr⟩;have R5:=qAA.mk hr;have X5:=qAA.mk (qAL X1.out hr.base);obtain ⟨u0,u1,u2,hm⟩:=hr;obtain ⟨A0,q0,e0⟩:=Kd.qAZ hm.r0;subst e0;obtain ⟨A1,q1,e1⟩:=Kd.qAZ hm.r1;subst e1;obtain ⟨A2,q2,e2⟩:=Kd.qAZ hm.r2;subst e2;have HM:=qAA.mk hm;have z2:w5.cell? ⟨g,2,none⟩=some (.int .i64 s.c):=(qAB hm.blk 2).trans rfl;have z4:w5.cell? ⟨g,4,none⟩=some (.slice A0 s.m0.length q0):=(qAB hm.blk 4).trans rfl;have z5:w5.cell? ⟨g,5,none⟩=some (.slice A1 s.m1.length q1):=(qAB hm.blk 5).trans rfl;have z6:w5.cell? ⟨g,6,none⟩=some (.slice A2 s.m2.length q2):=(qAB hm.blk 6).trans rfl;clear hm))
  clear z2 z4 z5 z6
  refine qAn (n:=12) (S:=fun w'=>w'.cell? ⟨g,3,none⟩=some (.int .i64 s.d)∧w'.cell? ⟨g,2,none⟩=some (.int .i64 s.c)) (ds:=[]) #[qF,qF,qF,qF,qF,qF,qF,qF,qF,qF,qF,qF] (by kernel_rfl) rfl rfl ⟨(qAB (show w5.drew.heap[g]?=_ from HM.out.blk) 3).trans rfl,(qAB (show w5.drew.heap[g]?=_ from HM.out.blk) 2).trans rfl⟩ (fun hHeld => ?_)
  generalize hwd:w5.drew=wd at hHeld ⊢
  have Xd:=qAA.mk (hwd▸qAJ X5.out)
  have Bd:=qAA.mk (hwd▸qAM HM.out.bel)
  have Hd:=qAA.mk (hwd▸HM.out.below (qAM (Below.refl _ _)))
  clear hwd
  refine pU 0 30 ?_
  refine pU 1 31 ?_
  refine pU 2 32 ?_
  refine pU 3 33 ?_
  refine pU 5 35 ?_
  refine pU 6 36 ?_
  refine pU 7 37 ?_
  refine tK 4 34 hHeld ?_
  refine tK 8 38 hHeld ?_
  refine one_ (i:=9) (N:=none) #[qT,qT,qT,qT,qT,qT,qT,qT,qT,qT,qF,qF] rfl rfl (by kernel_rfl) (by decide) (fun K hK => ?_)
  refine mb.st3 (by rfl) rfl 27 2 (.tmp 30) rfl (by kernel_rfl) w.heap.size rfl (.slice none 0 0) (.slice none 0 0) (.slice none 0 0) rfl ?hone _ 27 rfl Xd.out ?_
  (case hone=>exact fun q hq=>by simp at hq;subst hq;rfl)
  intro w7 hres hgr
  have X7:=qAA.mk hres
  have G7:=qAA.mk hgr
  have H7:=qAA.mk (qAg Hd.out.blk hgr (fun e=>by have:=Option.some.inj e;have:=Hd.out.ge;have:=S1.out;omega))
  clear hres hgr
  refine hK.out _ _ ⟨(qAB H7.out 3).trans rfl,(qAB H7.out 2).trans rfl⟩ (fun hHeld => ?_)
  clear hK K
  refine pU 10 3 ?_
  refine pU 11 4 ?_
  refine qA6 (by kernel_rfl) ?_
  go_wp2
  refine bodyPost_ret (mb.res21 rfl rfl rfl X7.out) rfl ?_
  exact mb.dec_none rfl (mb.fin3 B1.out (Nat.le_refl _) Bd.out G7.out)
 ·rw [if_neg hc0]
  have hc1:s.c=0:=Classical.byContradiction hc0
  have d1:(s.c != 0)=false:=by rw [hc1];rfl
  have d2:(s.c == 0)=true:=by rw [hc1];rfl
  have d3:decide (s.c=0)=true:=by rw [hc1];rfl
  clear hc0 hc1
  go_enter Try.func21,Try.ntmps21
  go_wp2_with (first | ((with_reducible refine qAr (N:=21) rfl ?_);refine qAk ?hg (N:=21) ?hd (cs:=#[.slice none 0 0,.int .i64 4,.int .i64 0,.int .i64 0,.slice none 0 0,.slice none 0 0,.slice none 0 0]) (t:=69) ?hr ?_;(case hd=>rfl);(case hg=>rfl);(case hr=>first | (go_simp;done) | (go_simp;rfl));intro g hg w3 hbox hb1;have R3:=qAA.mk (show mb.RMS (w.alloc (.cells #[.slice none 0 0,.slice none 0 0,.slice none 0 0] 27)) w3 g none 0 0 ⟨4,0,0,[],[],[]⟩ from ⟨_,_,_,hbox,Kd.qBx _ _ _ _ _,Kd.qBx _ _ _ _ _,Kd.qBx _ _ _ _ _,hb1,by rw [hg];exact Nat.le_refl _,fun k hk=>hk⟩);have X1:=qAA.mk (show (w.alloc (.cells #[.slice none 0 0,.slice none 0 0,.slice none 0 0] 27)).heap[w.heap.size]?=some (.cells #[.slice none 0 0,.slice none 0 0,.slice none 0 0] 27 (0,0)) from by simpa using heap_alloc_new w _);have B1:=qAA.mk (qAH (Below.refl w.heap.size w) (.cells #[.slice none 0 0,.slice none 0 0,.slice none 0 0] 27));have S1:=qAA.mk (show w.heap.size < (w.alloc (.cells #[.slice none 0 0,.slice none 0 0,.slice none 0 0] 27)).heap.size from qAX X1.out);clear hbox hb1 hg;generalize (w.alloc (.cells #[.slice none 0 0,.slice none 0 0,.slice none 0 0] 27))=w1 at *) | (go_at_call 42;refine (HA.out w1 _ _ B1.out R3.out H4.out).mono ?_;rintro e_ w5 ⟨rfl,B2,n2,c2,hr⟩;have R5:=qAA.mk hr;have X5:=qAA.mk (qAL X1.out hr.base);obtain ⟨u0,u1,u2,hm⟩:=hr;obtain ⟨A0,q0,e0⟩:=Kd.qAZ hm.r0;subst e0;obtain ⟨A1,q1,e1⟩:=Kd.qAZ hm.r1;subst e1;obtain ⟨A2,q2,e2⟩:=Kd.qAZ hm.r2;subst e2;have HM:=qAA.mk hm;have z2:w5.cell? ⟨g,2,none⟩=some (.int .i64 s.c):=(qAB hm.blk 2).trans rfl;have z4:w5.cell? ⟨g,4,none⟩=some (.slice A0 s.m0.length q0):=(qAB hm.blk 4).trans rfl;have z5:w5.cell? ⟨g,5,none⟩=some (.slice A1 s.m1.length q1):=(qAB hm.blk 5).trans rfl;have z6:w5.cell? ⟨g,6,none⟩=some (.slice A2 s.m2.length q2):=(qAB hm.blk 6).trans rfl;clear hm) | ((with_reducible refine qAh (p:=2) rfl ?_);refine mb.store_res3 rfl rfl 27 2 _ rfl (by kernel_rfl) w.heap.size rfl (.slice A0 s.m0.length q0) (.slice A1 s.m1.length q1) (.slice A2 s.m2.length q2) rfl (fun q hq=>by simp at hq;rcases hq with rfl | rfl | rfl <;> rfl) _ 27 rfl X5.out ?_;intro w7 hres hgr;have X7:=qAA.mk hres;have G7:=qAA.mk hgr;clear hres hgr))
  refine bodyPost_ret (mb.res21 rfl rfl rfl X7.out) rfl ?_
  exact ⟨mb.fin3 B1.out (Nat.le_refl _) HM.out.bel G7.out,_,_,_,rfl,mb.R_fin HM.out.r0 G7.out S1.out (Nat.le_of_lt S1.out),mb.R_fin HM.out.r1 G7.out S1.out (Nat.le_of_lt S1.out),mb.R_fin HM.out.r2 G7.out S1.out (Nat.le_of_lt S1.out)⟩
end
end Go.Proofs.Ytmehfnikecmiiaa.X
namespace Go.Proofs.Ytmehfnikecmiiaa.X
open Go.RowKit Go.Proofs.YtmehfnikecmiiaaW.PrintWords Go.Proofs.YtmehfnikecmiiaaW.PrintLast Go.Proofs.YtmehfnikecmiiaaW.PrintMore Go.Proofs.YtmehfnikecmiiaaW
section
set_option maxHeartbeats 1000000
set_option maxRecDepth 100000
open Go.Proofs.Ytmehfnikecmiiaa Go.Proofs.Ytmehfnikecmiiaa.Pl
theorem mb.drop_step {bs p q:List Int} {a:Int} (h0:0≤a) (h:bs.drop a.toNat=p ++ q):bs.drop (a+(p.length:Int)).toNat=q:=by
 rw [show (a+(p.length:Int)).toNat=a.toNat+p.length by omega,← List.drop_drop,h,List.drop_left]
theorem mb.drop_len {bs p q:List Int} {a:Int} (h0:0≤a) (h:bs.drop a.toNat=p ++ q) (hp:0 < p.length):a+(p.length:Int)+(q.length:Int)=(bs.length:Int):=by
 have e:=congrArg List.length h
 rw [List.length_drop,List.length_append] at e
 omega
theorem mb.numF_back {bs rest:List Int} {most ab a c d n:Int} (h0:0≤a) (n0:0≤n) (n1:n≤most) (hm:most≤1000000) (h:bs.drop a.toNat=putU n ++ rest):mb.numF bs most ab a c d=(n,a+((putU n).length:Int),c,d):=by
 unfold mb.numF
 rw [uintAt_back h0 n0 (by omega) h]
 dsimp only
 rw [if_neg (by decide),if_neg (by omega)]
theorem mb.txtF_back {bs rest:List Int} {most a c d:Int} {k:ByteArray} (h0:0≤a) (hk:(k.size:Int)≤most) (hm:most≤1000000) (h:bs.drop a.toNat=str k ++ rest):mb.txtF bs most a c d=(k,a+((str k).length:Int),c,d):=by
 have e:=textAt_back (bs:=bs) (rest:=rest) (a:=a) (most:=most) (k:=k) h0 hk (by omega) h
 unfold mb.txtF
 rw [e]
 rfl
theorem mb.cst_back {be rest:List Int} {a:Int} {x:S48} {l:List S48} {m1:List S52} {m2:List S56} (hx:Val x∧mb.Rt x) (h0:0≤a) (h:be.drop a.toNat=en x ++ rest):mb.cstS be ⟨a,0,0,l,m1,m2⟩=⟨a+((en x).length:Int),0,0,l ++ [x],m1,m2⟩:=by
 have hp:=en_pos x
 have hl:=congrArg List.length h
 rw [List.length_drop,List.length_append] at hl
 have ht:(be.take a.toNat).length=a.toNat:=by rw [List.length_take];omega
 obtain ⟨l3,hk⟩:=mb.takeS_put x hx.1 hx.2 (be.take a.toNat) rest be (by rw [← h,List.take_append_drop])
 rw [ht,show ((a.toNat:Nat):Int)=a by omega] at hk
 unfold mb.cstS mb.cstF
 dsimp only
 rw [hk]
theorem mb.fun_back {be rest:List Int} {a:Int} {x:S52} {m0:List S48} {l:List S52} {m2:List S56} (hx:mb.fm52 x) (h0:0≤a) (h:be.drop a.toNat=mb.e52 x ++ rest):mb.funS be ⟨a,0,0,m0,l,m2⟩=⟨a+((mb.e52 x).length:Int),0,0,m0,l ++ [x],m2⟩:=by
 obtain ⟨p,q,r,c⟩:=x
 obtain ⟨x0,x1,x2,x3⟩:=hx
 dsimp only at x0 x1 x2 x3
 have g0:be.drop a.toNat=putU p ++ (putU q ++ (putU r ++ (str c ++ rest))):=by
  rw [h]
  unfold mb.e52 X.enF
  simp only [List.append_assoc]
 have g1:=mb.drop_step h0 g0
 have g2:=mb.drop_step (by omega) g1
 have g3:=mb.drop_step (by omega) g2
 have k0:mb.fun0 be ⟨a,0,0,m0,l,m2⟩=(p,a+((putU p).length:Int),0,0):=mb.numF_back h0 x0.1 x0.2 (by omega) g0
 have k1:mb.fun1 be ⟨a,0,0,m0,l,m2⟩=(q,a+((putU p).length:Int)+((putU q).length:Int),0,0):=by
  unfold mb.fun1
  rw [k0]
  dsimp only
  exact mb.numF_back (by omega) (by omega) x1.2 (by omega) g1
 have k2:mb.fun2 be ⟨a,0,0,m0,l,m2⟩=(0,0):=by
  unfold mb.fun2
  rw [k1,k0]
  exact if_neg (by dsimp only;omega)
 have k3:mb.fun3 be ⟨a,0,0,m0,l,m2⟩=(r,a+((putU p).length:Int)+((putU q).length:Int)+((putU r).length:Int),0,0):=by
  unfold mb.fun3
  rw [k1,k2]
  dsimp only
  exact mb.numF_back (by omega) x2.1 x2.2 (by omega) g2
 have k4:mb.fun4 be ⟨a,0,0,m0,l,m2⟩=(c,a+((putU p).length:Int)+((putU q).length:Int)+((putU r).length:Int)+((str c).length:Int),0,0):=by
  unfold mb.fun4
  rw [k3]
  dsimp only
  exact mb.txtF_back (by omega) (by omega) (by omega) g3
 unfold mb.funS
 rw [k0,k1,k3,k4]
 have e:a+((putU p).length:Int)+((putU q).length:Int)+((putU r).length:Int)+((str c).length:Int)=a+((mb.e52 ⟨p,q,r,c⟩).length:Int):=by
  unfold mb.e52 X.enF
  simp only [List.length_append]
  omega
 rw [e]
theorem mb.exp_back {be rest:List Int} {a:Int} {x:S56} {m0:List S48} {m1:List S52} {l:List S56} (hn:mb.isN x.f0=true) (hz:x.f0.size≤20) (hf:0≤x.f1∧x.f1≤(m1.length:Int) - 1) (hm:m1.length≤24) (hu:0 < l.length→Op.bytesLess (qAy l ((l.length:Int) - 1)).f0.toList x.f0.toList=true) (h0:0≤a) (h:be.drop a.toNat=mb.e56 x ++ rest):mb.expS be ⟨a,0,0,m0,m1,l⟩=⟨a+((mb.e56 x).length:Int),0,0,m0,m1,l ++ [x]⟩:=by
 obtain ⟨s,f⟩:=x
 dsimp only at hn hz hf hu
 have g0:be.drop a.toNat=str s ++ (putU f ++ rest):=by
  rw [h]
  unfold mb.e56 X.enX
  simp only [List.append_assoc]
 have g1:=mb.drop_step h0 g0
 have hb:¬ mb.exBad s l:=by
  rintro (q | ⟨q0,q⟩)
  ·exact q hn
  ·exact q (hu q0)
 have k0:mb.exp0 be ⟨a,0,0,m0,m1,l⟩=(s,a+((str s).length:Int),0,0):=mb.txtF_back h0 (by omega) (by omega) g0
 have k1:mb.exp1 be ⟨a,0,0,m0,m1,l⟩=(0,0):=by
  unfold mb.exp1
  rw [k0]
  exact if_neg hb
 have k2:mb.exp2 be ⟨a,0,0,m0,m1,l⟩=(f,a+((str s).length:Int)+((putU f).length:Int),0,0):=by
  unfold mb.exp2
  rw [k0,k1]
  dsimp only
  exact mb.numF_back (by omega) hf.1 (by omega) (by omega) g1
 have k3:mb.exp3 be ⟨a,0,0,m0,m1,l⟩=(0,0):=by
  unfold mb.exp3
  rw [k2,k0]
  exact if_neg (by dsimp only;omega)
 unfold mb.expS
 rw [k0,k2,k3]
 have e:a+((str s).length:Int)+((putU f).length:Int)=a+((mb.e56 ⟨s,f⟩).length:Int):=by
  unfold mb.e56 X.enX
  simp only [List.length_append]
  omega
 rw [e]
section
variable {α:Type} (i:Nat) (enc:α→List Int) (mk:List α→Int→mb.RS) (Pre:List α→α→Prop)
 (step:∀ (be:List Int) (l:List α) (x:α) (a:Int) (rest:List Int),Pre l x→0≤a→be.drop a.toNat=enc x ++ rest→mb.one i be (mk l a)=mk (l ++ [x]) (a+((enc x).length:Int)))
 (hmk:∀ l a,(mk l a).a=a∧(mk l a).c=0∧(mk l a).d=0)
 (hset:∀ l a b,(⟨b,0,0,(mk l a).m0,(mk l a).m1,(mk l a).m2⟩:mb.RS)=mk l b)
include step hmk
theorem mb.sec_back (be:List Int):∀ (m l:List α) (a:Int) (rest:List Int),(∀ l1 x r,l ++ m=l1 ++ x :: r→Pre l1 x)→0≤a→be.drop a.toNat=(m.map enc).flatten ++ rest→mb.secF i be m.length (mk l a)=mk (l ++ m) (a+(((m.map enc).flatten).length:Int))
 | [],l,a,rest,hp,h0,h=>by
  rw [List.append_nil]
  show mk l a=mk l (a+(0:Nat))
  simp
 | x :: m,l,a,rest,hp,h0,h=>by
  have hx:=hp l x m rfl
  rw [List.map_cons,List.flatten_cons,List.append_assoc] at h
  have h1:=step be l x a _ hx h0 h
  have ih:=mb.sec_back be m (l ++ [x]) (a+((enc x).length:Int)) rest (by rw [List.append_assoc];exact hp) (by omega) (mb.drop_step h0 h)
  rw [List.length_cons]
  unfold mb.secF
  rw [h1,if_neg (fun q=>q (hmk _ _).2.1),ih,List.append_assoc]
  congr 1
  simp only [List.map_cons,List.flatten_cons,List.length_append]
  omega
include hset
theorem mb.round_back {bs rest:List Int} (m:List α) (hp:∀ l1 x r,m=l1 ++ x :: r→Pre l1 x) (hn:(m.length:Int)≤mb.most i) {a:Int} (h0:0≤a) (h:bs.drop a.toNat=([(i:Int)+1] ++ txt (lst enc m)) ++ rest) (hL:(lst enc m).length≤1000000) :
  mb.qBR i bs (mk [] a)=mk m (a+(([(i:Int)+1] ++ txt (lst enc m)).length:Int)):=by
 obtain ⟨b,hb⟩:∃ b,b=lst enc m:=⟨_,rfl⟩
 rw [← hb] at h hL ⊢
 have g0:bs.drop a.toNat=[(i:Int)+1] ++ (putU (b.length:Int) ++ (b ++ rest)):=by
  rw [h]
  unfold X.txt
  simp only [List.append_assoc]
 have g1:bs.drop (a+1).toNat=putU (b.length:Int) ++ (b ++ rest):=mb.drop_step h0 g0
 have hlen:=mb.drop_len h0 g0 (by simp)
 have hp1:=qA1 (b.length:Int)
 have g2:=mb.drop_step (by omega) g1
 have hu:=uintAt_back (bs:=bs) (a:=a+1) (v:=(b.length:Int)) (by omega) (by omega) (by omega) g1
 rw [List.length_append,List.length_append,show (([(i:Int)+1]:List Int).length:Int)=1 from rfl] at hlen
 have hop:mb.openF bs ((i:Int)+1) a 0 0=(a+1+((putU (b.length:Int)).length:Int)+(b.length:Int),a+1+((putU (b.length:Int)).length:Int),0,0):=by
  unfold mb.openF
  rw [hu]
  dsimp only
  have hg:bs.getD a.toNat 0=(i:Int)+1:=by
   have e:(bs.drop a.toNat)[0]?=some ((i:Int)+1):=by rw [g0];rfl
   rw [List.getElem?_drop,Nat.add_zero] at e
   rw [List.getD_eq_getElem?_getD,e]
   rfl
  have n1:¬ ((bs.length:Int)≤a ∨ bs.getD a.toNat 0 ≠ (i:Int)+1):=by
   rintro (q | q)
   ·omega
   ·exact q hg
  have n2:¬ ((0:Int) ≠ 0 ∨ (b.length:Int) > (bs.length:Int) - (a+1+((putU (b.length:Int)).length:Int))):=by
   rintro (q | q)
   ·exact q rfl
   ·omega
  rw [if_neg n1,if_neg n2]
 obtain ⟨nx,hnx⟩:∃ nx,nx=a+1+((putU (b.length:Int)).length:Int):=⟨_,rfl⟩
 rw [← hnx] at hop g2
 have m1:=hmk [] a
 have hO:mb.opS i bs (mk [] a)=mk [] nx:=by
  unfold mb.opS
  rw [m1.1,m1.2.1,m1.2.2,hop]
  exact hset [] a nx
 have hE:mb.opE i bs (mk [] a)=nx+(b.length:Int):=by
  unfold mb.opE
  rw [m1.1,m1.2.1,m1.2.2,hop]
 obtain ⟨be,hbe⟩:∃ be,be=bs.take (nx+(b.length:Int)).toNat:=⟨_,rfl⟩
 have gb:be.drop nx.toNat=putU (m.length:Int) ++ ((m.map enc).flatten ++ []):=by
  rw [hbe,List.drop_take,g2,show (nx+(b.length:Int)).toNat - nx.toNat=b.length by omega,List.take_left,hb,List.append_nil]
  rfl
 have m2:=hmk [] nx
 have hM:=mb.numF_back (bs:=be) (rest:=(m.map enc).flatten ++ []) (most:=mb.most i) (ab:=92) (a:=nx) (c:=0) (d:=0) (n:=(m.length:Int)) (by omega) (by omega) hn (by unfold mb.most;split <;> omega) gb
 have hN:mb.nuN i be (mk [] nx)=(m.length:Int):=by
  unfold mb.nuN
  rw [m2.1,m2.2.1,m2.2.2,hM]
 have hS:mb.nuS i be (mk [] nx)=mk [] (nx+((putU (m.length:Int)).length:Int)):=by
  unfold mb.nuS
  rw [m2.1,m2.2.1,m2.2.2,hM]
  exact hset [] nx _
 have hF:=mb.sec_back i enc mk Pre step hmk be m [] (nx+((putU (m.length:Int)).length:Int)) [] hp (by omega) (mb.drop_step (by omega) gb)
 rw [List.nil_append] at hF
 have hbl:(b.length:Int)=((putU (m.length:Int)).length:Int)+(((m.map enc).flatten).length:Int):=by
  rw [hb]
  unfold X.lst
  rw [List.length_append]
  omega
 unfold mb.qBR
 rw [hO,hE,← hbe,hN,hS,Int.toNat_natCast,hF,if_neg (fun q=>q (hmk _ _).2.1)]
 dsimp only
 rw [if_neg (fun q=>q (hmk _ _).2.1),if_neg (fun q=>q (by rw [(hmk _ _).1];omega))]
 congr 1
 unfold X.txt
 simp only [List.length_append,List.length_cons,List.length_nil]
 omega
end
theorem mb.isname_20 (x:ByteArray) (hx:x.size≤140737488351232):∀ (d i:Nat),i+d=x.size→∃ t,qAf.l0 (d+1) x (x.size:Int) (i:Int)=some t∧(t=true→x.size≤20):=by
 intro d
 induction d with
 | zero =>
  intro i hi
  unfold qAf.l0
  rw [if_neg (by omega)]
  split
  ·exact ⟨_,rfl,fun h=>by cases h⟩
  ·refine ⟨_,rfl,fun h => ?_⟩
   have:=of_decide_eq_true h
   omega
 | succ d ih =>
  intro i hi
  obtain ⟨t,h1,h2⟩:=ih (i+1) (by omega)
  have ei:wrap64 ((i:Int)+1)=((i+1:Nat):Int):=by unfold wrap64;omega
  unfold qAf.l0
  rw [if_pos (by omega),if_pos (by omega),if_pos (by omega),ei]
  repeat' split
  all_goals first | exact ⟨t,h1,h2⟩ | exact ⟨false,rfl,fun h=>by cases h⟩
theorem mb.isN_20 {x:ByteArray} (hx:x.size≤140737488351232) (h:mb.isN x=true):x.size≤20:=by
 obtain ⟨t,h1,h2⟩:=mb.isname_20 x hx x.size 0 (by omega)
 refine h2 ?_
 unfold mb.isN at h
 rw [show qAf.f (x.size+1) x=some t from h1] at h
 exact h
theorem mb.pre56 {n:Nat} {m l1 r:List S56} {x:S56} (h:∀ i,i < m.length→mb.fm56 n m i) (e:m=l1 ++ x :: r):mb.isN x.f0=true∧(0≤x.f1∧x.f1≤(n:Int) - 1)∧(0 < l1.length→Op.bytesLess (qAy l1 ((l1.length:Int) - 1)).f0.toList x.f0.toList=true):=by
 subst e
 obtain ⟨h1,h2,h3⟩:=h l1.length (by rw [List.length_append,List.length_cons];omega) x (by rw [List.getElem?_append_right (Nat.le_refl _),Nat.sub_self];rfl)
 refine ⟨h1,h2,fun h0 => ?_⟩
 have e:l1[l1.length - 1]?=some (l1[l1.length - 1]'(by omega)):=List.getElem?_eq_getElem (by omega)
 have:=h3 h0 _ (by rw [List.getElem?_append_left (by omega)];exact e)
 rwa [← mb.rd56_last e h0] at this
theorem mb.decM_back {m0:List S48} {m1:List S52} {m2:List S56} (h:mb.OK m0 m1 m2) (hs2:∀ x ∈ m2,x.f0.size≤140737488351232):mb.decM (mb.enE m0 m1 m2)=(0,0,m0,m1,m2):=by
 obtain ⟨hF,hl⟩:=h
 obtain ⟨c0,c1,c2,f0,f1,f2⟩:=hF
 obtain ⟨bs,hbs⟩:∃ bs,bs=mb.enE m0 m1 m2:=⟨_,rfl⟩
 have d0:bs.drop (4:Int).toNat=([((0:Nat):Int)+1] ++ txt (lst en m0)) ++ (([((1:Nat):Int)+1] ++ txt (lst mb.e52 m1)) ++ ([((2:Nat):Int)+1] ++ txt (lst mb.e56 m2))):=by rw [hbs];rfl
 have ht:bs.take 4=[83,67,77,49]:=by rw [hbs];rfl
 rw [← hbs] at hl ⊢
 have ltx:∀ p:List Int,p.length≤(txt p).length:=fun p=>by unfold X.txt;rw [List.length_append];omega
 have t0:=ltx (lst en m0)
 have t1:=ltx (lst mb.e52 m1)
 have t2:=ltx (lst mb.e56 m2)
 have hlen:=mb.drop_len (a:=4) (by omega) d0 (by simp)
 have d1:=mb.drop_step (a:=4) (by omega) d0
 have d2:=mb.drop_step (by omega) d1
 have hlen2:=hlen
 simp only [List.length_append,List.length_cons,List.length_nil] at hlen2
 have r0:=mb.round_back (a:=4) 0 en (fun l a=>⟨a,0,0,l,[],[]⟩) (fun _ x=>Val x∧mb.Rt x) (fun be l x a rest hx h0 h=>mb.cst_back hx h0 h) (fun l a=>⟨rfl,rfl,rfl⟩) (fun l a b=>rfl) m0 (fun l1 x r e=>by
  have:=f0 x (by rw [e];simp)
  exact ⟨this.1,mb.rt_of this⟩) (by show (m0.length:Int)≤100;omega) (by omega) d0 (by omega)
 have r1:=mb.round_back 1 mb.e52 (fun l a=>⟨a,0,0,m0,l,[]⟩) (fun _ x=>mb.fm52 x) (fun be l x a rest hx h0 h=>mb.fun_back hx h0 h) (fun l a=>⟨rfl,rfl,rfl⟩) (fun l a b=>rfl) m1 (fun l1 x r e=>f1 x (by rw [e];simp)) (by show (m1.length:Int)≤24;omega) (by omega) d1 (by omega)
 have r2:=mb.round_back 2 mb.e56 (fun l a=>⟨a,0,0,m0,m1,l⟩) (fun l x=>x.f0.size≤20∧mb.isN x.f0=true∧(0≤x.f1∧x.f1≤(m1.length:Int) - 1)∧(0 < l.length→Op.bytesLess (qAy l ((l.length:Int) - 1)).f0.toList x.f0.toList=true)) (fun be l x a rest hx h0 h=>mb.exp_back hx.2.1 hx.1 hx.2.2.1 c1 hx.2.2.2 h0 h) (fun l a=>⟨rfl,rfl,rfl⟩) (fun l a b=>rfl) m2 (fun l1 x r e=>by
  have p:=mb.pre56 f2 e
  exact ⟨mb.isN_20 (hs2 x (by rw [e];simp)) p.1,p⟩) (by show (m2.length:Int)≤24;omega) (by omega) (rest:=[]) (d2.trans (List.append_nil _).symm) (by omega)
 try dsimp only at r0 r1 r2
 have hR:mb.qBp bs 3 0 ⟨4,0,0,[],[],[]⟩=⟨4+(([((0:Nat):Int)+1] ++ txt (lst en m0)).length:Int)+(([((1:Nat):Int)+1] ++ txt (lst mb.e52 m1)).length:Int)+(([((2:Nat):Int)+1] ++ txt (lst mb.e56 m2)).length:Int),0,0,m0,m1,m2⟩:=by
  rw [mb.rest_eq (by rw [r0]),r0,mb.rest_eq (by rw [r1]),r1,mb.rest_eq (by rw [r2]),r2]
  unfold mb.qBp
  rw [if_neg]
  dsimp only
  simp only [List.length_append,List.length_cons,List.length_nil]
  omega
 unfold mb.decM
 have n1:¬ ((bs.length:Int) < 4 ∨ bs.take 4 ≠ [83,67,77,49]):=by
  rintro (q | q)
  ·omega
  ·exact q ht
 rw [if_neg (by omega),if_neg n1,hR]
 dsimp only
 rw [if_neg (fun q=>q rfl)]
end
end Go.Proofs.Ytmehfnikecmiiaa.X
namespace Go.Proofs.Ytmehfnikecmiiaa.X
open Go.RowKit Go.Proofs.YtmehfnikecmiiaaW.PrintWords Go.Proofs.YtmehfnikecmiiaaW.PrintLast Go.Proofs.YtmehfnikecmiiaaW.PrintMore Go.Proofs.YtmehfnikecmiiaaW
section
set_option maxHeartbeats 4000000
set_option maxRecDepth 100000
open Go.Proofs.Ytmehfnikecmiiaa Go.Proofs.Ytmehfnikecmiiaa.Pl
def mb.tf (x:S52):(Int × Int) × (Int × ByteArray):=((x.f0,x.f1),(x.f2,x.f3))
def mb.tx (x:S56):ByteArray × Int:=(x.f0,x.f1)
theorem mb.tf_inj {x y:S52} (h:mb.tf x=mb.tf y):x=y:=by
 cases x;cases y
 simp only [mb.tf,Prod.mk.injEq] at h
 obtain ⟨⟨rfl,rfl⟩,rfl,rfl⟩:=h
 rfl
theorem mb.tx_inj {x y:S56} (h:mb.tx x=mb.tx y):x=y:=by
 cases x;cases y
 simp only [mb.tx,Prod.mk.injEq] at h
 obtain ⟨rfl,rfl⟩:=h
 rfl
theorem mb.map_inj {α β:Type} {f:α→β} (hf:∀ {x y},f x=f y→x=y):∀ {l m:List α},l.map f=m.map f→l=m
 | [],[],_=>rfl
 | [],_ :: _,h=>by simp at h
 | _ :: _,[],h=>by simp at h
 | x :: l,y :: m,h=>by
  simp only [List.map_cons,List.cons.injEq] at h
  rw [hf h.1,mb.map_inj hf h.2]
theorem mb.enE_M (m0:List S48) (m1:List S52) (m2:List S56):mb.enE m0 m1 m2=enM (m0,(m1.map mb.tf,m2.map mb.tx)):=by
 unfold mb.enE X.enM
 dsimp only
 rw [lst_map,lst_map]
 rfl
theorem mb.okM {m0:List S48} {m1:List S52} {m2:List S56} (h:mb.OK m0 m1 m2) (hs2:∀ x ∈ m2,x.f0.size≤140737488351232):OkM (m0,(m1.map mb.tf,m2.map mb.tx)):=by
 obtain ⟨hF,hl⟩:=h
 have hb:∀ (p:List Int),p.length≤(txt p).length:=fun p=>by unfold X.txt;rw [List.length_append];omega
 have hl0:(lst en m0).length≤65536:=by
  have:=hb (lst en m0)
  unfold mb.enE at hl
  simp only [List.length_append] at hl
  omega
 have hl1:(lst mb.e52 m1).length≤65536:=by
  have:=hb (lst mb.e52 m1)
  unfold mb.enE at hl
  simp only [List.length_append] at hl
  omega
 have hl2:(lst mb.e56 m2).length≤65536:=by
  have:=hb (lst mb.e56 m2)
  unfold mb.enE at hl
  simp only [List.length_append] at hl
  omega
 have c0:=hF.1;have c1:=hF.2.1;have c2:=hF.2.2.1
 refine ⟨⟨⟨by dsimp only;omega,fun x hx=>⟨(hF.2.2.2.1 x hx).1,(hF.2.2.2.1 x hx).2.1⟩⟩,by dsimp only;omega⟩,⟨⟨by dsimp only;rw [List.length_map];omega,fun f hf => ?_⟩, ?_⟩,⟨by dsimp only;rw [List.length_map];omega,fun f hf => ?_⟩, ?_⟩
 ·obtain ⟨x,hx,rfl⟩:=List.mem_map.1 hf
  obtain ⟨⟨a0,a1⟩,⟨b0,b1⟩,⟨d0,d1⟩,k⟩:=hF.all52 x hx
  exact ⟨⟨⟨a0,by show x.f0 < _;omega⟩,⟨b0,by show x.f1 < _;omega⟩⟩,⟨⟨d0,by show x.f2 < _;omega⟩,by show x.f3.size < _;omega⟩⟩
 ·dsimp only
  rw [lst_map]
  exact Nat.lt_of_le_of_lt hl1 (by omega)
 ·obtain ⟨x,hx,rfl⟩:=List.mem_map.1 hf
  obtain ⟨a,b,c⟩:=hF.all56 hs2 x hx
  exact ⟨by show x.f0.size < _;omega,⟨b,by show x.f1 < _;omega⟩⟩
 ·dsimp only
  rw [lst_map]
  exact Nat.lt_of_le_of_lt hl2 (by omega)
theorem mb.begins {m0:List S48} {m1:List S52} {m2:List S56} {n0:List S48} {n1:List S52} {n2:List S56} (h:mb.OK m0 m1 m2) (hs:∀ x ∈ m2,x.f0.size≤140737488351232) (k:mb.OK n0 n1 n2) (ks:∀ x ∈ n2,x.f0.size≤140737488351232) {r s:List Int} (e:mb.enE m0 m1 m2 ++ r=mb.enE n0 n1 n2 ++ s):(m0=n0∧m1=n1∧m2=n2)∧r=s:=by
 rw [mb.enE_M,mb.enE_M] at e
 obtain ⟨e1,e2⟩:=PF.mod _ _ r s (mb.okM h hs) (mb.okM k ks) e
 simp only [Prod.mk.injEq] at e1
 exact ⟨⟨e1.1,mb.map_inj mb.tf_inj e1.2.1,mb.map_inj mb.tx_inj e1.2.2⟩,e2⟩
theorem mb.en_none:mb.enE [] [] []=[83,67,77,49,1,1,0,2,1,0,3,1,0]:=by rfl
theorem mb.ok_none:mb.OK [] [] []:=by
 refine ⟨⟨Nat.zero_le _,Nat.zero_le _,Nat.zero_le _,fun x hx=>by simp at hx,fun x hx=>by simp at hx,fun i hi=>absurd hi (Nat.not_lt_zero i)⟩, ?_⟩
 rw [mb.en_none]
 decide
theorem mb.enE_bytes {m0:List S48} {m1:List S52} {m2:List S56} (h:mb.OK m0 m1 m2) (hs2:∀ x ∈ m2,x.f0.size≤140737488351232):Bytes (mb.enE m0 m1 m2):=by
 have hF:=h.1
 have Y0:Bytes (lst en m0):=qCW (fun x hx=>en_bytes x (hF.2.2.2.1 x hx).1 (hF.2.2.2.1 x hx).2.1)
 have Y1:Bytes (lst mb.e52 m1):=qCW (fun x hx=>enF_bytes _ (hF.all52 x hx).1.1 (hF.all52 x hx).2.1.1 (hF.all52 x hx).2.2.1.1)
 have Y2:Bytes (lst mb.e56 m2):=qCW (fun x hx=>enX_bytes _ (hF.all56 hs2 x hx).2.1)
 have T:∀ {p:List Int},Bytes p→Bytes (txt p):=fun {p} hp=>(qBS _ (Int.natCast_nonneg _)).append hp
 have K:∀ (c:Int),0≤c→c≤255→Bytes [c]:=fun c a b=>qBM a b Bytes.nil
 unfold mb.enE
 exact Bytes.append (qBM (by decide) (by decide) (qBM (by decide) (by decide) (qBM (by decide) (by decide) (K 49 (by decide) (by decide))))) (((K 1 (by decide) (by decide)).append (T Y0)).append (((K 2 (by decide) (by decide)).append (T Y1)).append ((K 3 (by decide) (by decide)).append (T Y2))))
theorem mb.enc_yes {m0:List S48} {m1:List S52} {m2:List S56} {A0:Option Addr} {c0:Nat} {A1:Option Addr} {c1:Nat} {A2:Option Addr} {c2:Nat} (w:World) (h0:k48.C w A0 m0.length m0) (l0:m0.length≤c0) (h1:k52.C w A1 m1.length m1) (l1:m1.length≤c1) (h2:k56.C w A2 m2.length m2) (l2:m2.length≤c2) (hv:∀ x ∈ m0,Val x) (hs2:∀ x ∈ m2,x.f0.size≤140737488351232) (ho:mb.OK m0 m1 m2) :
  Calls Try.prog 12 #[.agg #[.slice A0 m0.length c0,.slice A1 m1.length c1,.slice A2 m2.length c2]] w fun e w'=>∃ v,e=.returned (.tuple #[v,.int .i64 0])∧(Kd.int .u8).R 5 w' w.heap.size (fun _=>True) v (mb.enE m0 m1 m2)∧Below w.heap.size w w' :=
 (mb.enc12 w h0 l0 h1 l1 h2 l2 hv hs2).mono fun e w' h=>by
  rcases h with h | h
  ·exact absurd ho h.1
  ·exact h.2
theorem mb.enc_no {m0:List S48} {m1:List S52} {m2:List S56} {A0:Option Addr} {c0:Nat} {A1:Option Addr} {c1:Nat} {A2:Option Addr} {c2:Nat} (w:World) (h0:k48.C w A0 m0.length m0) (l0:m0.length≤c0) (h1:k52.C w A1 m1.length m1) (l1:m1.length≤c1) (h2:k56.C w A2 m2.length m2) (l2:m2.length≤c2) (hv:∀ x ∈ m0,Val x) (hs2:∀ x ∈ m2,x.f0.size≤140737488351232) (ho:¬ mb.OK m0 m1 m2) :
  Calls Try.prog 12 #[.agg #[.slice A0 m0.length c0,.slice A1 m1.length c1,.slice A2 m2.length c2]] w fun e w'=>e=.returned (.tuple #[.slice none 0 0,.int .i64 90])∧Below w.heap.size w w' :=
 (mb.enc12 w h0 l0 h1 l1 h2 l2 hv hs2).mono fun e w' h=>by
  rcases h with h | h
  ·exact h.2
  ·exact absurd h.1 ho
theorem mb.shown11 (w:World):Calls Try.prog 11 #[] w fun e w'=>e=.returned (.bool true)∧Below w.heap.size w w':=by
 have hu27:=Try.underlying27
 have EN:=qAA.mk (fun (W:World)=>show Calls Try.prog 12 #[.agg #[.slice none 0 0,.slice none 0 0,.slice none 0 0]] W _ from mb.enc_yes (m0:=[]) (m1:=[]) (m2:=[]) W (Kd.C_nil k48 W) (Nat.le_refl _) (Kd.C_nil k52 W) (Nat.le_refl _) (Kd.C_nil k56 W) (Nat.le_refl _) (fun x hx=>by simp at hx) (fun x hx=>by simp at hx) mb.ok_none)
 rw [mb.en_none] at EN
 go_enter Try.func11,Try.ntmps11
 have hst:strOfNums [83,67,77,49,1,1,0,2,1,0,3,1,0]=⟨#[83,67,77,49,1,1,0,2,1,0,3,1,0]⟩:=by rfl
 go_wp2_with (first | (go_at_call 12;refine (EN.out _).mono ?_;rintro e_ w2 ⟨v0,rfl,hr,hb⟩;obtain ⟨A9,c9,e9⟩:=Kd.qAZ hr;subst e9;have R2:=Kd.qBc (P:=Try.prog) (c:=c9) Try.underlying29 Try.underlying5 Try.underlying9 (Kd.R_reads' hr).2.2;rw [hst] at R2;have R2:(convert 29 9 (.slice A9 13 c9)).run Try.prog w2=.ok (.string ⟨#[83,67,77,49,1,1,0,2,1,0,3,1,0]⟩) w2:=R2;have B2:=qAA.mk hb;clear hr hb hst))
 go_ret
 exact ⟨rfl,B2.out⟩
end
end Go.Proofs.Ytmehfnikecmiiaa.X
namespace Go.Proofs.Ytmehfnikecmiiaa.X
open Go.RowKit Go.Proofs.YtmehfnikecmiiaaW.PrintWords Go.Proofs.YtmehfnikecmiiaaW.PrintLast Go.Proofs.YtmehfnikecmiiaaW.PrintMore Go.Proofs.YtmehfnikecmiiaaW
section
set_option maxHeartbeats 4000000
set_option maxRecDepth 100000
open Go.Proofs.Ytmehfnikecmiiaa Go.Proofs.Ytmehfnikecmiiaa.Pl
theorem mb.right_yes {m0:List S48} {m1:List S52} {m2:List S56} {A0:Option Addr} {c0:Nat} {A1:Option Addr} {c1:Nat} {A2:Option Addr} {c2:Nat} (w:World) (h0:k48.C w A0 m0.length m0) (l0:m0.length≤c0) (h1:k52.C w A1 m1.length m1) (l1:m1.length≤c1) (h2:k56.C w A2 m2.length m2) (l2:m2.length≤c2) (hv:∀ x ∈ m0,Val x) (hs2:∀ x ∈ m2,x.f0.size≤140737488351232) (ho:mb.OK m0 m1 m2) :
  Calls Try.prog 23 #[.agg #[.slice A0 m0.length c0,.slice A1 m1.length c1,.slice A2 m2.length c2]] w fun e w'=>e=.returned (.bool true)∧Below w.heap.size w w':=by
 have hu27:=Try.underlying27
 have EN:=qAA.mk (fun (W:World) (hb:Below w.heap.size w W)=>mb.enc_yes W (Kd.qAS h0 hb) l0 (Kd.qAS h1 hb) l1 (Kd.qAS h2 hb) l2 hv hs2 ho)
 clear h0 l0 h1 l1 h2 l2 hv hs2 ho
 go_enter Try.func23,Try.ntmps23
 go_wp2_with (first | ((with_reducible refine qAr (N:=1) rfl ?_);refine qAk ?hg (N:=1) ?hd (cs:=#[.slice A0 m0.length c0,.slice A1 m1.length c1,.slice A2 m2.length c2]) (t:=27) ?hr ?_;(case hd=>rfl);(case hg=>rfl);(case hr=>first | (go_simp;done) | (go_simp;rfl));intro ga hg w1 hbox hb1;have O1:=qAA.mk hb1;have u0:w1.cell? ⟨ga,0,none⟩=some (.slice A0 m0.length c0):=(qAB hbox 0).trans rfl;have u1:w1.cell? ⟨ga,1,none⟩=some (.slice A1 m1.length c1):=(qAB hbox 1).trans rfl;have u2:w1.cell? ⟨ga,2,none⟩=some (.slice A2 m2.length c2):=(qAB hbox 2).trans rfl;clear hbox hb1 hg) | (go_at_call 12;refine (EN.out _ O1.out).mono ?_;rintro e_ w2 ⟨v2,rfl,hr,hb⟩;obtain ⟨X2,q2,e2⟩:=Kd.qAZ hr;subst e2;have O2:=qAA.mk (qAV O1.out hb);clear hb hr u0 u1 u2))
 go_ret
 exact ⟨rfl,O2.out⟩
theorem mb.right_no {m0:List S48} {m1:List S52} {m2:List S56} {A0:Option Addr} {c0:Nat} {A1:Option Addr} {c1:Nat} {A2:Option Addr} {c2:Nat} (w:World) (h0:k48.C w A0 m0.length m0) (l0:m0.length≤c0) (h1:k52.C w A1 m1.length m1) (l1:m1.length≤c1) (h2:k56.C w A2 m2.length m2) (l2:m2.length≤c2) (hv:∀ x ∈ m0,Val x) (hs2:∀ x ∈ m2,x.f0.size≤140737488351232) (ho:¬ mb.OK m0 m1 m2) :
  Calls Try.prog 23 #[.agg #[.slice A0 m0.length c0,.slice A1 m1.length c1,.slice A2 m2.length c2]] w fun e w'=>e=.returned (.bool false)∧Below w.heap.size w w':=by
 have hu27:=Try.underlying27
 have EN:=qAA.mk (fun (W:World) (hb:Below w.heap.size w W)=>mb.enc_no W (Kd.qAS h0 hb) l0 (Kd.qAS h1 hb) l1 (Kd.qAS h2 hb) l2 hv hs2 ho)
 clear h0 l0 h1 l1 h2 l2 hv hs2 ho
 go_enter Try.func23,Try.ntmps23
 go_wp2_with (first | ((with_reducible refine qAr (N:=1) rfl ?_);refine qAk ?hg (N:=1) ?hd (cs:=#[.slice A0 m0.length c0,.slice A1 m1.length c1,.slice A2 m2.length c2]) (t:=27) ?hr ?_;(case hd=>rfl);(case hg=>rfl);(case hr=>first | (go_simp;done) | (go_simp;rfl));intro ga hg w1 hbox hb1;have O1:=qAA.mk hb1;have u0:w1.cell? ⟨ga,0,none⟩=some (.slice A0 m0.length c0):=(qAB hbox 0).trans rfl;have u1:w1.cell? ⟨ga,1,none⟩=some (.slice A1 m1.length c1):=(qAB hbox 1).trans rfl;have u2:w1.cell? ⟨ga,2,none⟩=some (.slice A2 m2.length c2):=(qAB hbox 2).trans rfl;clear hbox hb1 hg) | (go_at_call 12;refine (EN.out _ O1.out).mono ?_;rintro e_ w2 ⟨rfl,hb⟩;have O2:=qAA.mk (qAV O1.out hb);clear hb u0 u1 u2))
 go_ret
 exact ⟨rfl,O2.out⟩
theorem mb.same_self {m0:List S48} {m1:List S52} {m2:List S56} (hv:∀ x ∈ m0,Val x∧Siz x) (hn0:m0.length≤9223372036854775000) (hn1:m1.length≤9223372036854775000) (hn2:m2.length≤9223372036854775000) (W:World) {A0:Option Addr} {c0:Nat} {A1:Option Addr} {c1:Nat} {A2:Option Addr} {c2:Nat} {B0:Option Addr} {d0:Nat} {B1:Option Addr} {d1:Nat} {B2:Option Addr} {d2:Nat}
  (h0:k48.C W A0 m0.length m0) (l0:m0.length≤c0) (h1:k52.C W A1 m1.length m1) (l1:m1.length≤c1) (h2:k56.C W A2 m2.length m2) (l2:m2.length≤c2) (g0:k48.C W B0 m0.length m0) (e0:m0.length≤d0) (g1:k52.C W B1 m1.length m1) (e1:m1.length≤d1) (g2:k56.C W B2 m2.length m2) (e2:m2.length≤d2) :
  Calls Try.prog 13 #[.agg #[.slice A0 m0.length c0,.slice A1 m1.length c1,.slice A2 m2.length c2],.agg #[.slice B0 m0.length d0,.slice B1 m1.length d1,.slice B2 m2.length d2]] W (fun e w'=>e=.returned (.bool true)∧Below W.heap.size W w'):=by
 obtain ⟨t,⟨K,hK⟩,hT⟩:=msame_ev m0 m1 m2 m0 m1 m2 hn0 hn1 hn2 hv (fun y hy=>(hv y hy).1)
 obtain rfl:t=true:=hT.2 ⟨rfl,rfl,rfl⟩
 exact qAD.calls K A0 c0 m0 A1 c1 m1 A2 c2 m2 B0 d0 m0 B1 d1 m1 B2 d2 m2 true W h0 l0 h1 l1 h2 l2 g0 e0 g1 e1 g2 e2 (hK K (Nat.le_refl _))
end
end Go.Proofs.Ytmehfnikecmiiaa.X
namespace Go.Proofs.Ytmehfnikecmiiaa.X
open Go.RowKit Go.Proofs.YtmehfnikecmiiaaW.PrintWords Go.Proofs.YtmehfnikecmiiaaW.PrintLast Go.Proofs.YtmehfnikecmiiaaW.PrintMore Go.Proofs.YtmehfnikecmiiaaW
section
variable {P:Program} {ops:Array Oper} {rest:List Oper} {o:Oper} {a:Act} {Q:Exit→Act→World→Prop}
theorem mb.qCA {W:World} (hgd:o.guard=none) (s x:Operand) (t e:TypeId) (ho:o.op=.call { callee:=.builtin .append,args:=#[s,x],argTypes:=#[t,t] })
  (ht:P.underlying t=some (.slice e)) (hinfo:(P.info? e).map (fun i=>(i.zero,i.size,i.bytes))=some (some (.int .u8 0),1,1)) {g cap base:Nat} {ok:Nat→Prop} {B:Option Addr} {xs ys zs:List Int} {c:Nat} (hz:xs ++ ys=zs)
  (hs:a.eval s=.slice (some ⟨g,0,none⟩) xs.length cap) (hx:a.eval x=.slice B ys.length c) (HR:(Kd.int .u8).R e W base ok (.slice (some ⟨g,0,none⟩) xs.length cap) xs) (HB:(Kd.int .u8).C W B ys.length ys) (hl:xs.length+ys.length≤140737488355328)
  (h:∀ A' c' w1,(Kd.int .u8).C w1 A' zs.length zs→zs.length≤c'→(Kd.int .u8).C w1 (some ⟨g,0,none⟩) xs.length xs→W.grownBy w1 (some g)→wpList P ops Q rest (a.put o.dst (.slice A' zs.length c')) w1):wpList P ops Q (o :: rest) a W:=by
 subst hz
 have HA:(Kd.int .u8).C W (some ⟨g,0,none⟩) xs.length xs:=(Kd.R_reads' HR).2.2
 have hcap:=(Kd.R_reads' HR).2.1
 obtain ⟨i0,hi,hzz⟩:=Option.map_eq_some_iff.1 hinfo
 simp only [Prod.mk.injEq] at hzz
 obtain ⟨hz0,hz1,hz2⟩:=hzz
 have RA:qA7 (Value.int .u8) (0:Int) W (some ⟨g,0,none⟩) xs.length xs:=Kd.qBm (enc:=Value.int .u8) (d:=(0:Int)) (h1:=fun _=>rfl) HA
 have RB:qA7 (Value.int .u8) (0:Int) W B ys.length ys:=Kd.qBm (enc:=Value.int .u8) (d:=(0:Int)) (h1:=fun _=>rfl) HB
 have cells:∀ {C:Option Addr} {zs:List Int},qA7 (Value.int .u8) (0:Int) W C zs.length zs→∀ b,C=some b→∀ j u,(encs (Value.int .u8) zs)[j]?=some u→W.cell? (b.add j)=some u:=by
  intro C zs HR b hb j u hu
  subst hb
  have hj:j < zs.length:=by
   rcases Nat.lt_or_ge j zs.length with h | h
   ·exact h
   ·simp [encs,List.getElem?_eq_none h] at hu
  obtain ⟨ad',h',hc⟩:=HR.2.2 (by omega)
  injection h' with h'
  subst h'
  rw [encs_get (d:=(0:Int)) zs j hj] at hu
  rw [← hu]
  exact hc j (by omega)
 cases ys with
 | nil =>
  have hr:(Builtin.append_ #[t,t] o.type #[.slice (some ⟨g,0,none⟩) xs.length cap,.slice B 0 c]).run P W=.ok (.slice (some ⟨g,0,none⟩) xs.length cap) W:=by
   refine run_append_nothing W t t o.type e i0 ht hi (some ⟨g,0,none⟩) xs.length cap hcap (.slice B 0 c) ?_
   rw [hz1]
   cases B with
   | none=>exact Src.ofNil W ht c
   | some b=>exact Src.ofSlice W ht b 0 c [] (by simp) (fun j u hu=>by simp at hu) (fun u hu=>by cases hu)
  rw [List.append_nil] at h
  refine wpList_plain hgd fun K hK => ?_
  unfold Oper.wp execOp
  simp only [List.length_nil] at hx
  simp only [ho,resolve,invoke,builtin,Sem.run_bind,Sem.run_pure,Result.andThen_ok,List.map_toArray,List.map_cons,List.map_nil,hs,hx,hr]
  exact hK _ _ (h _ cap W HA hcap HA (World.grownBy.refl W _))
 | cons y ys =>
  obtain ⟨b,hb,_⟩:=RB.2.2 (by simp)
  subst hb
  by_cases hfit:xs.length+(y :: ys).length≤cap
  ·obtain ⟨hol,hor⟩:=Kd.own_of_R HR
   rcases hor with ⟨e0,_⟩ | ⟨g2,cap2,cur,e0,hge,hblk,hnc,hmx,hcs,htk⟩
   ·cases e0
   ·injection e0 with e1 _ e2
    injection e1 with e1
    injection e1 with e1
    subst e1;subst e2
    rw [Nat.mul_one] at hcs htk
    have hen:(encs (Value.int .u8) (y :: ys)).length=(y :: ys).length:=by simp [encs]
    have hr:=run_append_room_cells (P:=P) (w:=W) t o.type e i0 ht hi g 0 xs.length cap b (y :: ys).length c (encs (Value.int .u8) (y :: ys)) (by rw [hz1,hen,Nat.mul_one]) (cells RB b rfl) (fun u hu=>by
     simp only [encs,List.mem_map] at hu
     obtain ⟨q,_,rfl⟩:=hu
     rfl) hfit (fun j hj=>by
     rw [hz1,qAB hblk,Array.getElem?_eq_getElem (by omega)]
     rfl) (fun j hj=>qAC hblk _)
    rw [hz1,Nat.mul_one,Nat.zero_add] at hr
    obtain ⟨cur',c1,c2,c3⟩:=qBs (encs (Value.int .u8) (y :: ys)) xs.length W cur hblk (by omega)
    obtain ⟨s1,s2,s3,s4⟩:=qBj g (encs (Value.int .u8) (y :: ys)) xs.length W
    rw [htk] at c3
    have hall:∀ j,j < (xs ++ y :: ys).length→(W.setCells g xs.length (encs (Value.int .u8) (y :: ys))).cell? ⟨g,j,none⟩=some (.int .u8 ((xs ++ y :: ys).getD j 0)):=by
     intro j hj
     rw [qAB c1,← Array.getElem?_toList,c3]
     have e3:encs (Value.int .u8) xs ++ encs (Value.int .u8) (y :: ys)=encs (Value.int .u8) (xs ++ y :: ys):=by simp [encs]
     rw [e3,List.getElem?_append_left (by simpa [encs] using hj),encs_get (d:=(0:Int)) _ j hj]
    have C1:(Kd.int .u8).C (W.setCells g xs.length (encs (Value.int .u8) (y :: ys))) (some ⟨g,0,none⟩) (xs ++ y :: ys).length (xs ++ y :: ys):=Kd.C_of_reads (enc:=Value.int .u8) (d:=(0:Int)) (h1:=fun _=>rfl) ⟨rfl,by rw [List.length_append];omega,fun _=>⟨_,rfl,fun j hj=>by rw [add_plain];exact hall j hj⟩⟩
    have C2:=Kd.C_take C1 (m:=xs.length) (by rw [List.length_append];omega)
    rw [List.take_left] at C2
    refine wpList_plain hgd fun K hK => ?_
    unfold Oper.wp execOp
    simp only [ho,resolve,invoke,builtin,Sem.run_bind,Sem.run_pure,Result.andThen_ok,List.map_toArray,List.map_cons,List.map_nil,hs,hx,hr]
    have hle:xs.length+(y :: ys).length=(xs ++ y :: ys).length:=by rw [List.length_append]
    rw [hle]
    exact hK _ _ (h (some ⟨g,0,none⟩) cap _ C1 (by rw [← hle];exact hfit) C2 ⟨s1,s2,s3,by omega,fun k hk hne=>qBi _ _ k (fun e=>hne (by rw [e]))⟩)
  refine wpList_append_grows W hgd s x t ho e i0 (.int .u8 0) 1 1 ht hi hz0 hz1 hz2 rfl (by decide) (some ⟨g,0,none⟩) xs.length cap (encs (Value.int .u8) xs) hs ?_ (by simp [encs]) (cells RA) b (y :: ys).length c (encs (Value.int .u8) (y :: ys)) hx (by simp [encs]) (cells RB b rfl) ?_ (by omega) (by simp only [maxLen];omega) (by omega) ?_
  ·intro e0
   cases e0
  ·intro u hu
   simp only [encs,List.mem_map] at hu
   obtain ⟨q,_,rfl⟩:=hu
   rfl
  ·intro v' w' hown hg
   have hr:(Kd.int .u8).R e w' W.heap.size (fun _=>True) v' (xs ++ y :: ys):=Kd.R_of_own (enc:=Value.int .u8) (h1:=fun _=>rfl) (by simpa [encs] using hown) (fun _ _=>trivial)
   obtain ⟨A',c',e'⟩:=Kd.qAZ hr
   subst e'
   have hq:=Kd.R_reads' hr
   exact h A' c' w' hq.2.2 hq.2.1 (Kd.qAS HA (Below.grown (Below.refl _ _) hg (Nat.le_refl _) (fun k hk=>by cases hk))) ⟨hg.os,hg.tape,hg.output,hg.size,fun k hk _=>hg.block k hk (by simp)⟩
end
end Go.Proofs.Ytmehfnikecmiiaa.X
namespace Go.Proofs.Ytmehfnikecmiiaa.X
open Go.RowKit Go.Proofs.YtmehfnikecmiiaaW.PrintWords Go.Proofs.YtmehfnikecmiiaaW.PrintLast Go.Proofs.YtmehfnikecmiiaaW.PrintMore Go.Proofs.YtmehfnikecmiiaaW
section
set_option maxHeartbeats 4000000
set_option maxRecDepth 100000
open Go.Proofs.Ytmehfnikecmiiaa Go.Proofs.Ytmehfnikecmiiaa.Pl
theorem mb.dec_more {m0:List S48} {m1:List S52} {m2:List S56} (h:mb.OK m0 m1 m2) (hs2:∀ x ∈ m2,x.f0.size≤140737488351232) {ys:List Int} (hb:Bytes (mb.enE m0 m1 m2 ++ ys)) (hy:ys ≠ []):(mb.decM (mb.enE m0 m1 m2 ++ ys)).1 ≠ 0:=by
 intro h0
 obtain ⟨cc,pp,n0,n1,n2,hd⟩:∃ cc pp n0 n1 n2,mb.decM (mb.enE m0 m1 m2 ++ ys)=(cc,pp,n0,n1,n2):=⟨_,_,_,_,_,rfl⟩
 rw [hd] at h0
 have h0:cc=0:=h0
 subst h0
 obtain ⟨k1,_,k3,k4,_⟩:=mb.decM_sound hb hd
 exact hy (mb.begins h hs2 k1 (fun x hx=>by have:=k3 x hx;omega) (r:=ys) (s:=[]) (by rw [k4,List.append_nil])).2
theorem mb.dec_less {m0:List S48} {m1:List S52} {m2:List S56} (h:mb.OK m0 m1 m2) (hs2:∀ x ∈ m2,x.f0.size≤140737488351232) {k:Nat} (hk:k < (mb.enE m0 m1 m2).length):(mb.decM ((mb.enE m0 m1 m2).take k)).1 ≠ 0:=by
 intro h0
 have hb:=(mb.enE_bytes h hs2).take k
 obtain ⟨cc,pp,n0,n1,n2,hd⟩:∃ cc pp n0 n1 n2,mb.decM ((mb.enE m0 m1 m2).take k)=(cc,pp,n0,n1,n2):=⟨_,_,_,_,_,rfl⟩
 rw [hd] at h0
 have h0:cc=0:=h0
 subst h0
 obtain ⟨k1,_,k3,k4,_⟩:=mb.decM_sound hb hd
 have e:=(mb.begins k1 (fun x hx=>by have:=k3 x hx;omega) h hs2 (r:=(mb.enE m0 m1 m2).drop k) (s:=[]) (by rw [k4,List.append_nil,List.take_append_drop])).2
 have:=congrArg List.length e
 rw [List.length_drop,List.length_nil] at this
 omega
theorem mb.qCZ {w W W2:World} {g:Nat} (h:Below w.heap.size w W) (hg:W.grownBy W2 (some g)) (hw:w.heap.size≤g):Below w.heap.size w W2 :=
 ⟨hg.os.trans h.os,hg.tape.trans h.tape,hg.output.trans h.output,Nat.le_trans h.size hg.size,fun k hk=>(hg.block k (Nat.lt_of_lt_of_le hk h.size) (fun e=>by have:=Option.some.inj e;omega)).trans (h.block k hk)⟩
theorem mb.R_off {α:Type} {d:Kd α} {e:Nat} {W1 W2:World} {base rb:Nat} {ok:Nat→Prop} {v:Value} {xs:List α} (h:d.R e W1 base ok v xs) (hg:W1.grownBy W2 (some rb)) (hlt:rb < base):d.R e W2 base (fun _=>True) v xs :=
 Kd.qBd (Kd.qCh (Kd.qBv h) hg (fun k hk e=>by have:=Option.some.inj e;have:=hk.2.1;omega)) (fun _ _=>trivial)
structure mb.BK (w W:World) (g ga gx:Nat) (x:List Int) (m0:List S48) (m1:List S52) (m2:List S56) (cs ds:Array Value) (X0 X1 X2:Option Addr):Prop where
 b:(Kd.int .u8).C W (some ⟨g,0,none⟩) x.length x
 ka:W.heap[ga]?=some (.cells cs 27 (0,0))
 kx:W.heap[gx]?=some (.cells ds 27 (0,0))
 r0:k48.C W X0 m0.length m0
 r1:k52.C W X1 m1.length m1
 r2:k56.C W X2 m2.length m2
 o:Below w.heap.size w W
theorem mb.BK.below {w W W2:World} {g ga gx:Nat} {x:List Int} {m0:List S48} {m1:List S52} {m2:List S56} {cs ds:Array Value} {X0 X1 X2:Option Addr} (h:mb.BK w W g ga gx x m0 m1 m2 cs ds X0 X1 X2) (hb:Below W.heap.size W W2):mb.BK w W2 g ga gx x m0 m1 m2 cs ds X0 X1 X2 :=
 ⟨Kd.qAS h.b hb,qAL h.ka hb,qAL h.kx hb,Kd.qAS h.r0 hb,Kd.qAS h.r1 hb,Kd.qAS h.r2 hb,qAV h.o hb⟩
set_option maxHeartbeats 16000000 in
theorem mb.back8 {m0:List S48} {m1:List S52} {m2:List S56} {A0:Option Addr} {c0:Nat} {A1:Option Addr} {c1:Nat} {A2:Option Addr} {c2:Nat} {ys:List Int} {B:Option Addr} {cb:Nat} (cut:Int) (w:World) (h0:k48.C w A0 m0.length m0) (l0:m0.length≤c0) (h1:k52.C w A1 m1.length m1) (l1:m1.length≤c1) (h2:k56.C w A2 m2.length m2) (l2:m2.length≤c2) (hv:∀ x ∈ m0,Val x) (hs2:∀ x ∈ m2,x.f0.size≤140737488351232) (hz:∀ x ∈ m0,Siz x) (hn0:m0.length≤9223372036854775000) (hn1:m1.length≤9223372036854775000) (hn2:m2.length≤9223372036854775000) (hB:(Kd.int .u8).C w B ys.length ys) (hcb:ys.length≤cb) (hyb:Bytes ys) (hyl:ys.length≤1048576) :
  Calls Try.prog 8 #[.agg #[.slice A0 m0.length c0,.slice A1 m1.length c1,.slice A2 m2.length c2],.slice B ys.length cb,.int .i64 cut] w fun e w'=>e=.returned (.bool true)∧Below w.heap.size w w':=by
 have hu27:=Try.underlying27
 have hu29:=Try.underlying29
 by_cases ho:mb.OK m0 m1 m2
 case neg =>
  have EN:=qAA.mk (fun (W:World) (hb:Below w.heap.size w W)=>mb.enc_no W (Kd.qAS h0 hb) l0 (Kd.qAS h1 hb) l1 (Kd.qAS h2 hb) l2 hv hs2 ho)
  have RG:=qAA.mk (fun (W:World) (hb:Below w.heap.size w W)=>mb.right_no W (Kd.qAS h0 hb) l0 (Kd.qAS h1 hb) l1 (Kd.qAS h2 hb) l2 hv hs2 ho)
  clear h0 l0 h1 l1 h2 l2 hv hs2 ho hz hn0 hn1 hn2 hB hcb hyb hyl
  go_enter Try.func8,Try.ntmps8
  go_wp2_with (first | ((with_reducible refine qAr (N:=3) rfl ?_);refine qAk ?hg (N:=3) ?hd (cs:=#[.slice A0 m0.length c0,.slice A1 m1.length c1,.slice A2 m2.length c2]) (t:=27) ?hr ?_;(case hd=>rfl);(case hg=>rfl);(case hr=>first | (go_simp;done) | (go_simp;rfl));intro ga hg w1 hbox hb1;have K1:=qAA.mk hbox;have O1:=qAA.mk hb1;clear hbox hb1 hg) | (go_at_call 11;refine (mb.shown11 _).mono ?_;rintro e_ w2 ⟨rfl,hb⟩;have K2:=qAA.mk (qAL K1.out hb);have O2:=qAA.mk (qAV O1.out hb);clear hb;have u0:w2.cell? ⟨ga,0,none⟩=some (.slice A0 m0.length c0):=(qAB K2.out 0).trans rfl;have u1:w2.cell? ⟨ga,1,none⟩=some (.slice A1 m1.length c1):=(qAB K2.out 1).trans rfl;have u2:w2.cell? ⟨ga,2,none⟩=some (.slice A2 m2.length c2):=(qAB K2.out 2).trans rfl) | (go_at_call 23;refine (RG.out _ O2.out).mono ?_;rintro e_ w3 ⟨rfl,hb⟩;have K3:=qAA.mk (qAL K2.out hb);have O3:=qAA.mk (qAV O2.out hb);clear hb u0 u1 u2;have u0:w3.cell? ⟨ga,0,none⟩=some (.slice A0 m0.length c0):=(qAB K3.out 0).trans rfl;have u1:w3.cell? ⟨ga,1,none⟩=some (.slice A1 m1.length c1):=(qAB K3.out 1).trans rfl;have u2:w3.cell? ⟨ga,2,none⟩=some (.slice A2 m2.length c2):=(qAB K3.out 2).trans rfl) | (go_at_call 12;refine (EN.out _ O3.out).mono ?_;rintro e_ w4 ⟨rfl,hb⟩;have O4:=qAA.mk (qAV O3.out hb);clear hb u0 u1 u2))
  go_ret
  exact ⟨rfl,O4.out⟩
 have EN:=qAA.mk (fun (W:World) (hb:Below w.heap.size w W)=>mb.enc_yes W (Kd.qAS h0 hb) l0 (Kd.qAS h1 hb) l1 (Kd.qAS h2 hb) l2 hv hs2 ho)
 have RG:=qAA.mk (fun (W:World) (hb:Below w.heap.size w W)=>mb.right_yes W (Kd.qAS h0 hb) l0 (Kd.qAS h1 hb) l1 (Kd.qAS h2 hb) l2 hv hs2 ho)
 have SM:=qAA.mk (fun (W:World) (hb:Below w.heap.size w W) (B0:Option Addr) (d0:Nat) (B1:Option Addr) (d1:Nat) (B2:Option Addr) (d2:Nat) g0 e0 g1 e1 g2 e2=>mb.same_self (A0:=B0) (c0:=d0) (A1:=B1) (c1:=d1) (A2:=B2) (c2:=d2) (fun x hx=>⟨hv x hx,hz x hx⟩) hn0 hn1 hn2 W g0 e0 g1 e1 g2 e2 (Kd.qAS h0 hb) l0 (Kd.qAS h1 hb) l1 (Kd.qAS h2 hb) l2)
 have hxb:=mb.enE_bytes ho hs2
 have hxl:=ho.2
 have hx4:0 < (mb.enE m0 m1 m2).length:=by unfold mb.enE;simp
 have hdx:=mb.decM_back ho hs2
 have hmore:=fun (hy:ys ≠ [])=>mb.dec_more ho hs2 (ys:=ys) (hxb.append hyb) hy
 have hless:=fun (k:Nat) hk=>mb.dec_less ho hs2 (k:=k) hk
 clear h0 l0 h1 l1 h2 l2 hv hs2 ho hz hn0 hn1 hn2
 generalize mb.enE m0 m1 m2=x at *
 have DX:=qAA.mk (fun (W:World) (A:Option Addr) (c:Nat) hC hc=>mb.dec21 hxb (Nat.le_trans hxl (by decide)) (w:=W) (A:=A) (c:=c) hC hc)
 rw [hdx] at DX
 dsimp only at DX
 have HB:=qAA.mk hB
 have HCB:=qAA.mk hcb
 obtain ⟨zs,hzs⟩:∃ zs,x ++ ys=zs:=⟨_,rfl⟩
 have HZS:=qAA.mk hzs
 have hzl:zs.length=x.length+ys.length:=by rw [← hzs,List.length_append]
 have HL:=qAA.mk (show x.length+ys.length≤140737488355328 by omega)
 have DZ:=qAA.mk (fun (W:World) (A:Option Addr) (c:Nat) hC hc=>mb.dec21 (bs:=zs) (by rw [← hzs];exact hxb.append hyb) (by omega) (w:=W) (A:=A) (c:=c) hC hc)
 rw [hzs] at hmore
 have HX4:=qAA.mk hx4
 obtain ⟨i0,hi0,_,_,_⟩:=info_parts (show (Try.prog.info? 5).map (fun i=>(i.zero,i.size,i.bytes))=some (some (.int .u8 0),1,1) by kernel_rfl)
 by_cases hy:ys=[]
 ·subst hy
  have hzx:x=zs:=by rw [← hzs,List.append_nil]
  subst hzx
  rw [hdx] at DZ
  dsimp only at DZ
  clear hmore
  rw [List.length_nil]
  by_cases hc0:cut < 0
  ·have t1:decide (cut ≥ 0)=false:=decide_eq_false (by omega)
   have t2:decide (0≤cut)=false:=decide_eq_false (by omega)
   clear hc0 hless hxl hxb hx4 hdx hB hcb hyb hyl hzl hzs hi0
   go_enter Try.func8,Try.ntmps8
   have tk1:=qAA.mk True.intro
   go_wp2_with (first | ((with_reducible refine qAr (N:=3) rfl ?_);refine qAk ?hg (N:=3) ?hd (cs:=#[.slice A0 m0.length c0,.slice A1 m1.length c1,.slice A2 m2.length c2]) (t:=27) ?hr ?_;(case hd=>rfl);(case hg=>rfl);(case hr=>first | (go_simp;done) | (go_simp;rfl));intro ga hg w1 hbox hb1;have K1:=qAA.mk hbox;have O1:=qAA.mk hb1;clear hbox hb1 hg) | (go_at_call 11;refine (mb.shown11 _).mono ?_;rintro e_ w2 ⟨rfl,hb⟩;have K2:=qAA.mk (qAL K1.out hb);have O2:=qAA.mk (qAV O1.out hb);clear hb;have u0:w2.cell? ⟨ga,0,none⟩=some (.slice A0 m0.length c0):=(qAB K2.out 0).trans rfl;have u1:w2.cell? ⟨ga,1,none⟩=some (.slice A1 m1.length c1):=(qAB K2.out 1).trans rfl;have u2:w2.cell? ⟨ga,2,none⟩=some (.slice A2 m2.length c2):=(qAB K2.out 2).trans rfl) | (go_at_call 23;refine (RG.out _ O2.out).mono ?_;rintro e_ w3 ⟨rfl,hb⟩;have K3:=qAA.mk (qAL K2.out hb);have O3:=qAA.mk (qAV O2.out hb);clear hb u0 u1 u2;have u0:w3.cell? ⟨ga,0,none⟩=some (.slice A0 m0.length c0):=(qAB K3.out 0).trans rfl;have u1:w3.cell? ⟨ga,1,none⟩=some (.slice A1 m1.length c1):=(qAB K3.out 1).trans rfl;have u2:w3.cell? ⟨ga,2,none⟩=some (.slice A2 m2.length c2):=(qAB K3.out 2).trans rfl) | (go_at_call 12;refine (EN.out _ O3.out).mono ?_;rintro e_ w4 ⟨v4,rfl,hr,hb⟩;obtain ⟨g,q4,e4,hgb,hgl,_⟩:=Kd.R_form hr HX4.out;subst e4;have R4:=qAA.mk hr;have HGB:=qAA.mk hgb;have HGL:=qAA.mk hgl;have HGA:=qAA.mk (show ga < g from Nat.lt_of_lt_of_le (qAX K3.out) hgb);have K4:=qAA.mk (qAL K3.out hb);have O4:=qAA.mk (qAV O3.out hb);clear hb hr hgb hgl u0 u1 u2) | (go_at_call 21;clear tk1;refine (DX.out _ _ _ (Kd.R_reads' R4.out).2.2 (Kd.R_reads' R4.out).2.1).mono ?_;rintro e_ w5 ⟨hb,v0,v1,v2,rfl,r0,r1,r2⟩;obtain ⟨X0,y0,e0⟩:=Kd.qAZ r0;subst e0;obtain ⟨X1,y1,e1⟩:=Kd.qAZ r1;subst e1;obtain ⟨X2,y2,e2⟩:=Kd.qAZ r2;subst e2;have P0:=qAA.mk r0;have P1:=qAA.mk r1;have P2:=qAA.mk r2;have Y0:=qAA.mk (Kd.R_reads' r0).2.1;have Y1:=qAA.mk (Kd.R_reads' r1).2.1;have Y2:=qAA.mk (Kd.R_reads' r2).2.1;have K5:=qAA.mk (qAL K4.out hb);have O5:=qAA.mk (qAV O4.out hb);have R5:=qAA.mk (Kd.qBZ R4.out hb);have HG5:=qAA.mk (show g < w5.heap.size from Nat.lt_of_lt_of_le HGL.out hb.size);clear hb r0 r1 r2) | ((with_reducible refine qBb (b:=.append) (xs:=#[.tmp 45,.tmp 46]) rfl ?_);refine mb.qCA rfl (.tmp 45) (.tmp 46) 29 5 rfl Try.underlying29 (by kernel_rfl) HZS.out rfl rfl (Kd.qA0 R5.out _) (Kd.qAs (Kd.qAS HB.out O5.out) _) HL.out ?_;intro Aq cq w6 hq hcq hk hg;have CQ:=qAA.mk hq;have CQL:=qAA.mk hcq;have B6:=qAA.mk (show mb.BK w w6 g ga w5.heap.size x m0 m1 m2 #[.slice A0 m0.length c0,.slice A1 m1.length c1,.slice A2 m2.length c2] #[.slice X0 m0.length y0,.slice X1 m1.length y1,.slice X2 m2.length y2] X0 X1 X2 from ⟨hk,qAg (qAK K5.out _) hg (fun e=>by have:=Option.some.inj e;have:=HGA.out;omega),qAg (qB6 w5 _) hg (fun e=>by have:=Option.some.inj e;have:=HG5.out;omega),mb.kt_C (Kd.R_reads' (mb.R_off (Kd.qA0 P0.out _) hg HGL.out)).2.2,(Kd.R_reads' (mb.R_off (Kd.qA0 P1.out _) hg HGL.out)).2.2,(Kd.R_reads' (mb.R_off (Kd.qA0 P2.out _) hg HGL.out)).2.2,mb.qCZ (qAH O5.out _) hg (Nat.le_trans O3.out.size HGB.out)⟩);clear hq hcq hk hg) | (go_at_call 21;refine (DZ.out _ _ _ CQ.out CQL.out).mono ?_;rintro e_ w7 ⟨hb,v0,v1,v2,rfl,r0,r1,r2⟩;obtain ⟨N0,s0,e0⟩:=Kd.qAZ r0;subst e0;obtain ⟨N1,s1,e1⟩:=Kd.qAZ r1;subst e1;obtain ⟨N2,s2,e2⟩:=Kd.qAZ r2;subst e2;have B7:=qAA.mk (B6.out.below (qAU hb hb.size (qAH (Below.refl w7.heap.size w7) (.cells #[.slice N0 m0.length s0,.slice N1 m1.length s1,.slice N2 m2.length s2] 27))));clear hb r0 r1 r2;have u0:(w7.alloc (.cells #[.slice N0 m0.length s0,.slice N1 m1.length s1,.slice N2 m2.length s2] 27)).cell? ⟨ga,0,none⟩=some (.slice A0 m0.length c0):=(qAB B7.out.ka 0).trans rfl;have u1:(w7.alloc (.cells #[.slice N0 m0.length s0,.slice N1 m1.length s1,.slice N2 m2.length s2] 27)).cell? ⟨ga,1,none⟩=some (.slice A1 m1.length c1):=(qAB B7.out.ka 1).trans rfl;have u2:(w7.alloc (.cells #[.slice N0 m0.length s0,.slice N1 m1.length s1,.slice N2 m2.length s2] 27)).cell? ⟨ga,2,none⟩=some (.slice A2 m2.length c2):=(qAB B7.out.ka 2).trans rfl;have z0:(w7.alloc (.cells #[.slice N0 m0.length s0,.slice N1 m1.length s1,.slice N2 m2.length s2] 27)).cell? ⟨w5.heap.size,0,none⟩=some (.slice X0 m0.length y0):=(qAB B7.out.kx 0).trans rfl;have z1:(w7.alloc (.cells #[.slice N0 m0.length s0,.slice N1 m1.length s1,.slice N2 m2.length s2] 27)).cell? ⟨w5.heap.size,1,none⟩=some (.slice X1 m1.length y1):=(qAB B7.out.kx 1).trans rfl;have z2:(w7.alloc (.cells #[.slice N0 m0.length s0,.slice N1 m1.length s1,.slice N2 m2.length s2] 27)).cell? ⟨w5.heap.size,2,none⟩=some (.slice X2 m2.length y2):=(qAB B7.out.kx 2).trans rfl) | (go_at_call 13;refine (SM.out _ B7.out.o X0 y0 X1 y1 X2 y2 B7.out.r0 Y0.out B7.out.r1 Y1.out B7.out.r2 Y2.out).mono ?_;rintro e_ w9 ⟨rfl,hb⟩;have O9:=qAA.mk (qAV B7.out.o hb);clear hb u0 u1 u2 z0 z1 z2))
   go_ret
   exact ⟨rfl,O9.out⟩
  have t1:decide (cut ≥ 0)=true:=decide_eq_true (by omega)
  have t2:decide (0≤cut)=true:=decide_eq_true (by omega)
  by_cases hc1:cut < (x.length:Int)
  case neg =>
   have t3:decide (cut < (x.length:Int))=false:=decide_eq_false hc1
   clear hc0 hc1 hless hxl hxb hx4 hdx hB hcb hyb hyl hzl hzs hi0
   go_enter Try.func8,Try.ntmps8
   have tk1:=qAA.mk True.intro
   go_wp2_with (first | ((with_reducible refine qAr (N:=3) rfl ?_);refine qAk ?hg (N:=3) ?hd (cs:=#[.slice A0 m0.length c0,.slice A1 m1.length c1,.slice A2 m2.length c2]) (t:=27) ?hr ?_;(case hd=>rfl);(case hg=>rfl);(case hr=>first | (go_simp;done) | (go_simp;rfl));intro ga hg w1 hbox hb1;have K1:=qAA.mk hbox;have O1:=qAA.mk hb1;clear hbox hb1 hg) | (go_at_call 11;refine (mb.shown11 _).mono ?_;rintro e_ w2 ⟨rfl,hb⟩;have K2:=qAA.mk (qAL K1.out hb);have O2:=qAA.mk (qAV O1.out hb);clear hb;have u0:w2.cell? ⟨ga,0,none⟩=some (.slice A0 m0.length c0):=(qAB K2.out 0).trans rfl;have u1:w2.cell? ⟨ga,1,none⟩=some (.slice A1 m1.length c1):=(qAB K2.out 1).trans rfl;have u2:w2.cell? ⟨ga,2,none⟩=some (.slice A2 m2.length c2):=(qAB K2.out 2).trans rfl) | (go_at_call 23;refine (RG.out _ O2.out).mono ?_;rintro e_ w3 ⟨rfl,hb⟩;have K3:=qAA.mk (qAL K2.out hb);have O3:=qAA.mk (qAV O2.out hb);clear hb u0 u1 u2;have u0:w3.cell? ⟨ga,0,none⟩=some (.slice A0 m0.length c0):=(qAB K3.out 0).trans rfl;have u1:w3.cell? ⟨ga,1,none⟩=some (.slice A1 m1.length c1):=(qAB K3.out 1).trans rfl;have u2:w3.cell? ⟨ga,2,none⟩=some (.slice A2 m2.length c2):=(qAB K3.out 2).trans rfl) | (go_at_call 12;refine (EN.out _ O3.out).mono ?_;rintro e_ w4 ⟨v4,rfl,hr,hb⟩;obtain ⟨g,q4,e4,hgb,hgl,_⟩:=Kd.R_form hr HX4.out;subst e4;have R4:=qAA.mk hr;have HGB:=qAA.mk hgb;have HGL:=qAA.mk hgl;have HGA:=qAA.mk (show ga < g from Nat.lt_of_lt_of_le (qAX K3.out) hgb);have K4:=qAA.mk (qAL K3.out hb);have O4:=qAA.mk (qAV O3.out hb);clear hb hr hgb hgl u0 u1 u2) | (go_at_call 21;clear tk1;refine (DX.out _ _ _ (Kd.R_reads' R4.out).2.2 (Kd.R_reads' R4.out).2.1).mono ?_;rintro e_ w5 ⟨hb,v0,v1,v2,rfl,r0,r1,r2⟩;obtain ⟨X0,y0,e0⟩:=Kd.qAZ r0;subst e0;obtain ⟨X1,y1,e1⟩:=Kd.qAZ r1;subst e1;obtain ⟨X2,y2,e2⟩:=Kd.qAZ r2;subst e2;have P0:=qAA.mk r0;have P1:=qAA.mk r1;have P2:=qAA.mk r2;have Y0:=qAA.mk (Kd.R_reads' r0).2.1;have Y1:=qAA.mk (Kd.R_reads' r1).2.1;have Y2:=qAA.mk (Kd.R_reads' r2).2.1;have K5:=qAA.mk (qAL K4.out hb);have O5:=qAA.mk (qAV O4.out hb);have R5:=qAA.mk (Kd.qBZ R4.out hb);have HG5:=qAA.mk (show g < w5.heap.size from Nat.lt_of_lt_of_le HGL.out hb.size);clear hb r0 r1 r2) | ((with_reducible refine qBb (b:=.append) (xs:=#[.tmp 45,.tmp 46]) rfl ?_);refine mb.qCA rfl (.tmp 45) (.tmp 46) 29 5 rfl Try.underlying29 (by kernel_rfl) HZS.out rfl rfl (Kd.qA0 R5.out _) (Kd.qAs (Kd.qAS HB.out O5.out) _) HL.out ?_;intro Aq cq w6 hq hcq hk hg;have CQ:=qAA.mk hq;have CQL:=qAA.mk hcq;have B6:=qAA.mk (show mb.BK w w6 g ga w5.heap.size x m0 m1 m2 #[.slice A0 m0.length c0,.slice A1 m1.length c1,.slice A2 m2.length c2] #[.slice X0 m0.length y0,.slice X1 m1.length y1,.slice X2 m2.length y2] X0 X1 X2 from ⟨hk,qAg (qAK K5.out _) hg (fun e=>by have:=Option.some.inj e;have:=HGA.out;omega),qAg (qB6 w5 _) hg (fun e=>by have:=Option.some.inj e;have:=HG5.out;omega),mb.kt_C (Kd.R_reads' (mb.R_off (Kd.qA0 P0.out _) hg HGL.out)).2.2,(Kd.R_reads' (mb.R_off (Kd.qA0 P1.out _) hg HGL.out)).2.2,(Kd.R_reads' (mb.R_off (Kd.qA0 P2.out _) hg HGL.out)).2.2,mb.qCZ (qAH O5.out _) hg (Nat.le_trans O3.out.size HGB.out)⟩);clear hq hcq hk hg) | (go_at_call 21;refine (DZ.out _ _ _ CQ.out CQL.out).mono ?_;rintro e_ w7 ⟨hb,v0,v1,v2,rfl,r0,r1,r2⟩;obtain ⟨N0,s0,e0⟩:=Kd.qAZ r0;subst e0;obtain ⟨N1,s1,e1⟩:=Kd.qAZ r1;subst e1;obtain ⟨N2,s2,e2⟩:=Kd.qAZ r2;subst e2;have B7:=qAA.mk (B6.out.below (qAU hb hb.size (qAH (Below.refl w7.heap.size w7) (.cells #[.slice N0 m0.length s0,.slice N1 m1.length s1,.slice N2 m2.length s2] 27))));clear hb r0 r1 r2;have u0:(w7.alloc (.cells #[.slice N0 m0.length s0,.slice N1 m1.length s1,.slice N2 m2.length s2] 27)).cell? ⟨ga,0,none⟩=some (.slice A0 m0.length c0):=(qAB B7.out.ka 0).trans rfl;have u1:(w7.alloc (.cells #[.slice N0 m0.length s0,.slice N1 m1.length s1,.slice N2 m2.length s2] 27)).cell? ⟨ga,1,none⟩=some (.slice A1 m1.length c1):=(qAB B7.out.ka 1).trans rfl;have u2:(w7.alloc (.cells #[.slice N0 m0.length s0,.slice N1 m1.length s1,.slice N2 m2.length s2] 27)).cell? ⟨ga,2,none⟩=some (.slice A2 m2.length c2):=(qAB B7.out.ka 2).trans rfl;have z0:(w7.alloc (.cells #[.slice N0 m0.length s0,.slice N1 m1.length s1,.slice N2 m2.length s2] 27)).cell? ⟨w5.heap.size,0,none⟩=some (.slice X0 m0.length y0):=(qAB B7.out.kx 0).trans rfl;have z1:(w7.alloc (.cells #[.slice N0 m0.length s0,.slice N1 m1.length s1,.slice N2 m2.length s2] 27)).cell? ⟨w5.heap.size,1,none⟩=some (.slice X1 m1.length y1):=(qAB B7.out.kx 1).trans rfl;have z2:(w7.alloc (.cells #[.slice N0 m0.length s0,.slice N1 m1.length s1,.slice N2 m2.length s2] 27)).cell? ⟨w5.heap.size,2,none⟩=some (.slice X2 m2.length y2):=(qAB B7.out.kx 2).trans rfl) | (go_at_call 13;refine (SM.out _ B7.out.o X0 y0 X1 y1 X2 y2 B7.out.r0 Y0.out B7.out.r1 Y1.out B7.out.r2 Y2.out).mono ?_;rintro e_ w9 ⟨rfl,hb⟩;have O9:=qAA.mk (qAV B7.out.o hb);clear hb u0 u1 u2 z0 z1 z2))
   go_ret
   exact ⟨rfl,O9.out⟩
  obtain ⟨k,rfl⟩:∃ k:Nat,cut=(k:Int):=⟨cut.toNat,by omega⟩
  have hk:k < x.length:=by omega
  have hle:=hless k hk
  obtain ⟨x3,hx3⟩:∃ x3,x3=x.take k:=⟨_,rfl⟩
  have hl3:x3.length=k:=by rw [hx3,List.length_take];omega
  subst hl3
  have HX3:=qAA.mk (show x3.length < x.length∧x.take x3.length=x3 from ⟨hk,hx3.symm⟩)
  rw [← hx3] at hle
  have D3:=qAA.mk (fun (W:World) (A:Option Addr) (c:Nat) hC hc=>mb.dec21 (bs:=x3) (by rw [hx3];exact hxb.take _) (by omega) (w:=W) (A:=A) (c:=c) hC hc)
  have t3:decide ((x3.length:Int) < (x.length:Int))=true:=decide_eq_true (by omega)
  have t4:decide (x3.length < x.length)=true:=decide_eq_true hk
  obtain ⟨c3,p3,o0,o1,o2,hd3⟩:∃ c3 p3 o0 o1 o2,mb.decM x3=(c3,p3,o0,o1,o2):=⟨_,_,_,_,_,rfl⟩
  rw [hd3] at D3 hle
  dsimp only at D3 hle
  have t5:(c3 != 0)=true:=bne_iff_ne.2 hle
  have t6:(c3 == 0)=false:=beq_eq_false_iff_ne.2 hle
  have t7:decide (c3=0)=false:=decide_eq_false hle
  have HI0:=qAA.mk hi0
  clear hc0 hc1 hk hle hx3 hd3 hless hxl hxb hx4 hdx hB hcb hyb hyl hzl hzs t1 t2
  have t1:decide ((x3.length:Int) ≥ 0)=true:=decide_eq_true (by omega)
  have t2:decide (0≤(x3.length:Int))=true:=decide_eq_true (by omega)
  go_enter Try.func8,Try.ntmps8
  have tk1:=qAA.mk True.intro
  have tk2:=qAA.mk True.intro
  go_wp2_with (first | ((with_reducible refine qAr (N:=3) rfl ?_);refine qAk ?hg (N:=3) ?hd (cs:=#[.slice A0 m0.length c0,.slice A1 m1.length c1,.slice A2 m2.length c2]) (t:=27) ?hr ?_;(case hd=>rfl);(case hg=>rfl);(case hr=>first | (go_simp;done) | (go_simp;rfl));intro ga hg w1 hbox hb1;have K1:=qAA.mk hbox;have O1:=qAA.mk hb1;clear hbox hb1 hg) | (go_at_call 11;refine (mb.shown11 _).mono ?_;rintro e_ w2 ⟨rfl,hb⟩;have K2:=qAA.mk (qAL K1.out hb);have O2:=qAA.mk (qAV O1.out hb);clear hb;have u0:w2.cell? ⟨ga,0,none⟩=some (.slice A0 m0.length c0):=(qAB K2.out 0).trans rfl;have u1:w2.cell? ⟨ga,1,none⟩=some (.slice A1 m1.length c1):=(qAB K2.out 1).trans rfl;have u2:w2.cell? ⟨ga,2,none⟩=some (.slice A2 m2.length c2):=(qAB K2.out 2).trans rfl) | (go_at_call 23;refine (RG.out _ O2.out).mono ?_;rintro e_ w3 ⟨rfl,hb⟩;have K3:=qAA.mk (qAL K2.out hb);have O3:=qAA.mk (qAV O2.out hb);clear hb u0 u1 u2;have u0:w3.cell? ⟨ga,0,none⟩=some (.slice A0 m0.length c0):=(qAB K3.out 0).trans rfl;have u1:w3.cell? ⟨ga,1,none⟩=some (.slice A1 m1.length c1):=(qAB K3.out 1).trans rfl;have u2:w3.cell? ⟨ga,2,none⟩=some (.slice A2 m2.length c2):=(qAB K3.out 2).trans rfl) | (go_at_call 12;refine (EN.out _ O3.out).mono ?_;rintro e_ w4 ⟨v4,rfl,hr,hb⟩;obtain ⟨g,q4,e4,hgb,hgl,_⟩:=Kd.R_form hr HX4.out;subst e4;have R4:=qAA.mk hr;have HGB:=qAA.mk hgb;have HGL:=qAA.mk hgl;have HGA:=qAA.mk (show ga < g from Nat.lt_of_lt_of_le (qAX K3.out) hgb);have K4:=qAA.mk (qAL K3.out hb);have O4:=qAA.mk (qAV O3.out hb);have CUT:=cut_to (P:=Try.prog) 29 5 .i64 Try.underlying29 hi0 (some ⟨g,0,none⟩) x.length q4 (x3.length:Int) (Int.natCast_nonneg _) (by have:=HX3.out.1;omega) (Kd.R_reads' R4.out).2.1;rw [Int.toNat_natCast] at CUT;clear hb hr hgb hgl u0 u1 u2) | (go_at_call 21;clear tk1;refine (DX.out _ _ _ (Kd.R_reads' R4.out).2.2 (Kd.R_reads' R4.out).2.1).mono ?_;rintro e_ w5 ⟨hb,v0,v1,v2,rfl,r0,r1,r2⟩;obtain ⟨X0,y0,e0⟩:=Kd.qAZ r0;subst e0;obtain ⟨X1,y1,e1⟩:=Kd.qAZ r1;subst e1;obtain ⟨X2,y2,e2⟩:=Kd.qAZ r2;subst e2;have P0:=qAA.mk r0;have P1:=qAA.mk r1;have P2:=qAA.mk r2;have Y0:=qAA.mk (Kd.R_reads' r0).2.1;have Y1:=qAA.mk (Kd.R_reads' r1).2.1;have Y2:=qAA.mk (Kd.R_reads' r2).2.1;have K5:=qAA.mk (qAL K4.out hb);have O5:=qAA.mk (qAV O4.out hb);have R5:=qAA.mk (Kd.qBZ R4.out hb);have HG5:=qAA.mk (show g < w5.heap.size from Nat.lt_of_lt_of_le HGL.out hb.size);clear hb r0 r1 r2) | ((with_reducible refine qBb (b:=.append) (xs:=#[.tmp 45,.tmp 46]) rfl ?_);refine mb.qCA rfl (.tmp 45) (.tmp 46) 29 5 rfl Try.underlying29 (by kernel_rfl) HZS.out rfl rfl (Kd.qA0 R5.out _) (Kd.qAs (Kd.qAS HB.out O5.out) _) HL.out ?_;intro Aq cq w6 hq hcq hk hg;have CQ:=qAA.mk hq;have CQL:=qAA.mk hcq;have B6:=qAA.mk (show mb.BK w w6 g ga w5.heap.size x m0 m1 m2 #[.slice A0 m0.length c0,.slice A1 m1.length c1,.slice A2 m2.length c2] #[.slice X0 m0.length y0,.slice X1 m1.length y1,.slice X2 m2.length y2] X0 X1 X2 from ⟨hk,qAg (qAK K5.out _) hg (fun e=>by have:=Option.some.inj e;have:=HGA.out;omega),qAg (qB6 w5 _) hg (fun e=>by have:=Option.some.inj e;have:=HG5.out;omega),mb.kt_C (Kd.R_reads' (mb.R_off (Kd.qA0 P0.out _) hg HGL.out)).2.2,(Kd.R_reads' (mb.R_off (Kd.qA0 P1.out _) hg HGL.out)).2.2,(Kd.R_reads' (mb.R_off (Kd.qA0 P2.out _) hg HGL.out)).2.2,mb.qCZ (qAH O5.out _) hg (Nat.le_trans O3.out.size HGB.out)⟩);clear hq hcq hk hg) | (go_at_call 21;clear tk2;refine (DZ.out _ _ _ CQ.out CQL.out).mono ?_;rintro e_ w7 ⟨hb,v0,v1,v2,rfl,r0,r1,r2⟩;obtain ⟨N0,s0,e0⟩:=Kd.qAZ r0;subst e0;obtain ⟨N1,s1,e1⟩:=Kd.qAZ r1;subst e1;obtain ⟨N2,s2,e2⟩:=Kd.qAZ r2;subst e2;have B7:=qAA.mk (B6.out.below (qAU hb hb.size (qAH (Below.refl w7.heap.size w7) (.cells #[.slice N0 m0.length s0,.slice N1 m1.length s1,.slice N2 m2.length s2] 27))));clear hb r0 r1 r2) | (go_at_call 21;refine (D3.out _ _ _ (by have q:=Kd.C_take B7.out.b (m:=x3.length) (by have:=HX3.out.1;omega);rw [HX3.out.2] at q;exact q) (by have:=HX3.out.1;have:=(Kd.R_reads' R4.out).2.1;omega)).mono ?_;rintro e_ w8 ⟨hb,v0,v1,v2,rfl,r0,r1,r2⟩;have B8:=qAA.mk (B7.out.below hb);clear hb r0 r1 r2;have u0:w8.cell? ⟨ga,0,none⟩=some (.slice A0 m0.length c0):=(qAB B8.out.ka 0).trans rfl;have u1:w8.cell? ⟨ga,1,none⟩=some (.slice A1 m1.length c1):=(qAB B8.out.ka 1).trans rfl;have u2:w8.cell? ⟨ga,2,none⟩=some (.slice A2 m2.length c2):=(qAB B8.out.ka 2).trans rfl;have z0:w8.cell? ⟨w5.heap.size,0,none⟩=some (.slice X0 m0.length y0):=(qAB B8.out.kx 0).trans rfl;have z1:w8.cell? ⟨w5.heap.size,1,none⟩=some (.slice X1 m1.length y1):=(qAB B8.out.kx 1).trans rfl;have z2:w8.cell? ⟨w5.heap.size,2,none⟩=some (.slice X2 m2.length y2):=(qAB B8.out.kx 2).trans rfl) | (go_at_call 13;refine (SM.out _ B8.out.o X0 y0 X1 y1 X2 y2 B8.out.r0 Y0.out B8.out.r1 Y1.out B8.out.r2 Y2.out).mono ?_;rintro e_ w9 ⟨rfl,hb⟩;have O9:=qAA.mk (qAV B8.out.o hb);clear hb u0 u1 u2 z0 z1 z2))
  go_ret
  exact ⟨rfl,O9.out⟩
 have hcc:=hmore hy
 obtain ⟨cc,pp,n0,n1,n2,hd⟩:∃ cc pp n0 n1 n2,mb.decM zs=(cc,pp,n0,n1,n2):=⟨_,_,_,_,_,rfl⟩
 rw [hd] at DZ hcc
 dsimp only at DZ hcc
 have s1:(cc == 0)=false:=beq_eq_false_iff_ne.2 hcc
 have s2:(cc != 0)=true:=bne_iff_ne.2 hcc
 have s3:decide (cc=0)=false:=decide_eq_false hcc
 have hyp:0 < ys.length:=List.length_pos_iff.2 hy
 have s4:((ys.length:Int) == 0)=false:=beq_eq_false_iff_ne.2 (by omega)
 have s5:decide ((ys.length:Int)=0)=false:=decide_eq_false (by omega)
 have s6:decide (ys.length=0)=false:=decide_eq_false (by omega)
 have s7:(ys.length == 0)=false:=beq_eq_false_iff_ne.2 (by omega)
 clear hmore hcc hd hy hyp
 by_cases hc0:cut < 0
 ·have t1:decide (cut ≥ 0)=false:=decide_eq_false (by omega)
  have t2:decide (0≤cut)=false:=decide_eq_false (by omega)
  clear hc0 hless hxl hxb hx4 hdx hB hcb hyb hyl hzl hzs hi0
  go_enter Try.func8,Try.ntmps8
  have tk1:=qAA.mk True.intro
  go_wp2_with (first | ((with_reducible refine qAr (N:=3) rfl ?_);refine qAk ?hg (N:=3) ?hd (cs:=#[.slice A0 m0.length c0,.slice A1 m1.length c1,.slice A2 m2.length c2]) (t:=27) ?hr ?_;(case hd=>rfl);(case hg=>rfl);(case hr=>first | (go_simp;done) | (go_simp;rfl));intro ga hg w1 hbox hb1;have K1:=qAA.mk hbox;have O1:=qAA.mk hb1;clear hbox hb1 hg) | (go_at_call 11;refine (mb.shown11 _).mono ?_;rintro e_ w2 ⟨rfl,hb⟩;have K2:=qAA.mk (qAL K1.out hb);have O2:=qAA.mk (qAV O1.out hb);clear hb;have u0:w2.cell? ⟨ga,0,none⟩=some (.slice A0 m0.length c0):=(qAB K2.out 0).trans rfl;have u1:w2.cell? ⟨ga,1,none⟩=some (.slice A1 m1.length c1):=(qAB K2.out 1).trans rfl;have u2:w2.cell? ⟨ga,2,none⟩=some (.slice A2 m2.length c2):=(qAB K2.out 2).trans rfl) | (go_at_call 23;refine (RG.out _ O2.out).mono ?_;rintro e_ w3 ⟨rfl,hb⟩;have K3:=qAA.mk (qAL K2.out hb);have O3:=qAA.mk (qAV O2.out hb);clear hb u0 u1 u2;have u0:w3.cell? ⟨ga,0,none⟩=some (.slice A0 m0.length c0):=(qAB K3.out 0).trans rfl;have u1:w3.cell? ⟨ga,1,none⟩=some (.slice A1 m1.length c1):=(qAB K3.out 1).trans rfl;have u2:w3.cell? ⟨ga,2,none⟩=some (.slice A2 m2.length c2):=(qAB K3.out 2).trans rfl) | (go_at_call 12;refine (EN.out _ O3.out).mono ?_;rintro e_ w4 ⟨v4,rfl,hr,hb⟩;obtain ⟨g,q4,e4,hgb,hgl,_⟩:=Kd.R_form hr HX4.out;subst e4;have R4:=qAA.mk hr;have HGB:=qAA.mk hgb;have HGL:=qAA.mk hgl;have HGA:=qAA.mk (show ga < g from Nat.lt_of_lt_of_le (qAX K3.out) hgb);have K4:=qAA.mk (qAL K3.out hb);have O4:=qAA.mk (qAV O3.out hb);clear hb hr hgb hgl u0 u1 u2) | (go_at_call 21;clear tk1;refine (DX.out _ _ _ (Kd.R_reads' R4.out).2.2 (Kd.R_reads' R4.out).2.1).mono ?_;rintro e_ w5 ⟨hb,v0,v1,v2,rfl,r0,r1,r2⟩;obtain ⟨X0,y0,e0⟩:=Kd.qAZ r0;subst e0;obtain ⟨X1,y1,e1⟩:=Kd.qAZ r1;subst e1;obtain ⟨X2,y2,e2⟩:=Kd.qAZ r2;subst e2;have P0:=qAA.mk r0;have P1:=qAA.mk r1;have P2:=qAA.mk r2;have Y0:=qAA.mk (Kd.R_reads' r0).2.1;have Y1:=qAA.mk (Kd.R_reads' r1).2.1;have Y2:=qAA.mk (Kd.R_reads' r2).2.1;have K5:=qAA.mk (qAL K4.out hb);have O5:=qAA.mk (qAV O4.out hb);have R5:=qAA.mk (Kd.qBZ R4.out hb);have HG5:=qAA.mk (show g < w5.heap.size from Nat.lt_of_lt_of_le HGL.out hb.size);clear hb r0 r1 r2) | ((with_reducible refine qBb (b:=.append) (xs:=#[.tmp 45,.tmp 46]) rfl ?_);refine mb.qCA rfl (.tmp 45) (.tmp 46) 29 5 rfl Try.underlying29 (by kernel_rfl) HZS.out rfl rfl (Kd.qA0 R5.out _) (Kd.qAs (Kd.qAS HB.out O5.out) _) HL.out ?_;intro Aq cq w6 hq hcq hk hg;have CQ:=qAA.mk hq;have CQL:=qAA.mk hcq;have B6:=qAA.mk (show mb.BK w w6 g ga w5.heap.size x m0 m1 m2 #[.slice A0 m0.length c0,.slice A1 m1.length c1,.slice A2 m2.length c2] #[.slice X0 m0.length y0,.slice X1 m1.length y1,.slice X2 m2.length y2] X0 X1 X2 from ⟨hk,qAg (qAK K5.out _) hg (fun e=>by have:=Option.some.inj e;have:=HGA.out;omega),qAg (qB6 w5 _) hg (fun e=>by have:=Option.some.inj e;have:=HG5.out;omega),mb.kt_C (Kd.R_reads' (mb.R_off (Kd.qA0 P0.out _) hg HGL.out)).2.2,(Kd.R_reads' (mb.R_off (Kd.qA0 P1.out _) hg HGL.out)).2.2,(Kd.R_reads' (mb.R_off (Kd.qA0 P2.out _) hg HGL.out)).2.2,mb.qCZ (qAH O5.out _) hg (Nat.le_trans O3.out.size HGB.out)⟩);clear hq hcq hk hg) | (go_at_call 21;refine (DZ.out _ _ _ CQ.out CQL.out).mono ?_;rintro e_ w7 ⟨hb,v0,v1,v2,rfl,r0,r1,r2⟩;obtain ⟨N0,s0,e0⟩:=Kd.qAZ r0;subst e0;obtain ⟨N1,s1,e1⟩:=Kd.qAZ r1;subst e1;obtain ⟨N2,s2,e2⟩:=Kd.qAZ r2;subst e2;have B7:=qAA.mk (B6.out.below (qAU hb hb.size (qAH (Below.refl w7.heap.size w7) (.cells #[.slice N0 n0.length s0,.slice N1 n1.length s1,.slice N2 n2.length s2] 27))));clear hb r0 r1 r2;have u0:(w7.alloc (.cells #[.slice N0 n0.length s0,.slice N1 n1.length s1,.slice N2 n2.length s2] 27)).cell? ⟨ga,0,none⟩=some (.slice A0 m0.length c0):=(qAB B7.out.ka 0).trans rfl;have u1:(w7.alloc (.cells #[.slice N0 n0.length s0,.slice N1 n1.length s1,.slice N2 n2.length s2] 27)).cell? ⟨ga,1,none⟩=some (.slice A1 m1.length c1):=(qAB B7.out.ka 1).trans rfl;have u2:(w7.alloc (.cells #[.slice N0 n0.length s0,.slice N1 n1.length s1,.slice N2 n2.length s2] 27)).cell? ⟨ga,2,none⟩=some (.slice A2 m2.length c2):=(qAB B7.out.ka 2).trans rfl;have z0:(w7.alloc (.cells #[.slice N0 n0.length s0,.slice N1 n1.length s1,.slice N2 n2.length s2] 27)).cell? ⟨w5.heap.size,0,none⟩=some (.slice X0 m0.length y0):=(qAB B7.out.kx 0).trans rfl;have z1:(w7.alloc (.cells #[.slice N0 n0.length s0,.slice N1 n1.length s1,.slice N2 n2.length s2] 27)).cell? ⟨w5.heap.size,1,none⟩=some (.slice X1 m1.length y1):=(qAB B7.out.kx 1).trans rfl;have z2:(w7.alloc (.cells #[.slice N0 n0.length s0,.slice N1 n1.length s1,.slice N2 n2.length s2] 27)).cell? ⟨w5.heap.size,2,none⟩=some (.slice X2 m2.length y2):=(qAB B7.out.kx 2).trans rfl) | (go_at_call 13;refine (SM.out _ B7.out.o X0 y0 X1 y1 X2 y2 B7.out.r0 Y0.out B7.out.r1 Y1.out B7.out.r2 Y2.out).mono ?_;rintro e_ w9 ⟨rfl,hb⟩;have O9:=qAA.mk (qAV B7.out.o hb);clear hb u0 u1 u2 z0 z1 z2))
  go_ret
  exact ⟨rfl,O9.out⟩
 have t1:decide (cut ≥ 0)=true:=decide_eq_true (by omega)
 have t2:decide (0≤cut)=true:=decide_eq_true (by omega)
 by_cases hc1:cut < (x.length:Int)
 case neg =>
  have t3:decide (cut < (x.length:Int))=false:=decide_eq_false hc1
  clear hc0 hc1 hless hxl hxb hx4 hdx hB hcb hyb hyl hzl hzs hi0
  go_enter Try.func8,Try.ntmps8
  have tk1:=qAA.mk True.intro
  go_wp2_with (first | ((with_reducible refine qAr (N:=3) rfl ?_);refine qAk ?hg (N:=3) ?hd (cs:=#[.slice A0 m0.length c0,.slice A1 m1.length c1,.slice A2 m2.length c2]) (t:=27) ?hr ?_;(case hd=>rfl);(case hg=>rfl);(case hr=>first | (go_simp;done) | (go_simp;rfl));intro ga hg w1 hbox hb1;have K1:=qAA.mk hbox;have O1:=qAA.mk hb1;clear hbox hb1 hg) | (go_at_call 11;refine (mb.shown11 _).mono ?_;rintro e_ w2 ⟨rfl,hb⟩;have K2:=qAA.mk (qAL K1.out hb);have O2:=qAA.mk (qAV O1.out hb);clear hb;have u0:w2.cell? ⟨ga,0,none⟩=some (.slice A0 m0.length c0):=(qAB K2.out 0).trans rfl;have u1:w2.cell? ⟨ga,1,none⟩=some (.slice A1 m1.length c1):=(qAB K2.out 1).trans rfl;have u2:w2.cell? ⟨ga,2,none⟩=some (.slice A2 m2.length c2):=(qAB K2.out 2).trans rfl) | (go_at_call 23;refine (RG.out _ O2.out).mono ?_;rintro e_ w3 ⟨rfl,hb⟩;have K3:=qAA.mk (qAL K2.out hb);have O3:=qAA.mk (qAV O2.out hb);clear hb u0 u1 u2;have u0:w3.cell? ⟨ga,0,none⟩=some (.slice A0 m0.length c0):=(qAB K3.out 0).trans rfl;have u1:w3.cell? ⟨ga,1,none⟩=some (.slice A1 m1.length c1):=(qAB K3.out 1).trans rfl;have u2:w3.cell? ⟨ga,2,none⟩=some (.slice A2 m2.length c2):=(qAB K3.out 2).trans rfl) | (go_at_call 12;refine (EN.out _ O3.out).mono ?_;rintro e_ w4 ⟨v4,rfl,hr,hb⟩;obtain ⟨g,q4,e4,hgb,hgl,_⟩:=Kd.R_form hr HX4.out;subst e4;have R4:=qAA.mk hr;have HGB:=qAA.mk hgb;have HGL:=qAA.mk hgl;have HGA:=qAA.mk (show ga < g from Nat.lt_of_lt_of_le (qAX K3.out) hgb);have K4:=qAA.mk (qAL K3.out hb);have O4:=qAA.mk (qAV O3.out hb);clear hb hr hgb hgl u0 u1 u2) | (go_at_call 21;clear tk1;refine (DX.out _ _ _ (Kd.R_reads' R4.out).2.2 (Kd.R_reads' R4.out).2.1).mono ?_;rintro e_ w5 ⟨hb,v0,v1,v2,rfl,r0,r1,r2⟩;obtain ⟨X0,y0,e0⟩:=Kd.qAZ r0;subst e0;obtain ⟨X1,y1,e1⟩:=Kd.qAZ r1;subst e1;obtain ⟨X2,y2,e2⟩:=Kd.qAZ r2;subst e2;have P0:=qAA.mk r0;have P1:=qAA.mk r1;have P2:=qAA.mk r2;have Y0:=qAA.mk (Kd.R_reads' r0).2.1;have Y1:=qAA.mk (Kd.R_reads' r1).2.1;have Y2:=qAA.mk (Kd.R_reads' r2).2.1;have K5:=qAA.mk (qAL K4.out hb);have O5:=qAA.mk (qAV O4.out hb);have R5:=qAA.mk (Kd.qBZ R4.out hb);have HG5:=qAA.mk (show g < w5.heap.size from Nat.lt_of_lt_of_le HGL.out hb.size);clear hb r0 r1 r2) | ((with_reducible refine qBb (b:=.append) (xs:=#[.tmp 45,.tmp 46]) rfl ?_);refine mb.qCA rfl (.tmp 45) (.tmp 46) 29 5 rfl Try.underlying29 (by kernel_rfl) HZS.out rfl rfl (Kd.qA0 R5.out _) (Kd.qAs (Kd.qAS HB.out O5.out) _) HL.out ?_;intro Aq cq w6 hq hcq hk hg;have CQ:=qAA.mk hq;have CQL:=qAA.mk hcq;have B6:=qAA.mk (show mb.BK w w6 g ga w5.heap.size x m0 m1 m2 #[.slice A0 m0.length c0,.slice A1 m1.length c1,.slice A2 m2.length c2] #[.slice X0 m0.length y0,.slice X1 m1.length y1,.slice X2 m2.length y2] X0 X1 X2 from ⟨hk,qAg (qAK K5.out _) hg (fun e=>by have:=Option.some.inj e;have:=HGA.out;omega),qAg (qB6 w5 _) hg (fun e=>by have:=Option.some.inj e;have:=HG5.out;omega),mb.kt_C (Kd.R_reads' (mb.R_off (Kd.qA0 P0.out _) hg HGL.out)).2.2,(Kd.R_reads' (mb.R_off (Kd.qA0 P1.out _) hg HGL.out)).2.2,(Kd.R_reads' (mb.R_off (Kd.qA0 P2.out _) hg HGL.out)).2.2,mb.qCZ (qAH O5.out _) hg (Nat.le_trans O3.out.size HGB.out)⟩);clear hq hcq hk hg) | (go_at_call 21;refine (DZ.out _ _ _ CQ.out CQL.out).mono ?_;rintro e_ w7 ⟨hb,v0,v1,v2,rfl,r0,r1,r2⟩;obtain ⟨N0,s0,e0⟩:=Kd.qAZ r0;subst e0;obtain ⟨N1,s1,e1⟩:=Kd.qAZ r1;subst e1;obtain ⟨N2,s2,e2⟩:=Kd.qAZ r2;subst e2;have B7:=qAA.mk (B6.out.below (qAU hb hb.size (qAH (Below.refl w7.heap.size w7) (.cells #[.slice N0 n0.length s0,.slice N1 n1.length s1,.slice N2 n2.length s2] 27))));clear hb r0 r1 r2;have u0:(w7.alloc (.cells #[.slice N0 n0.length s0,.slice N1 n1.length s1,.slice N2 n2.length s2] 27)).cell? ⟨ga,0,none⟩=some (.slice A0 m0.length c0):=(qAB B7.out.ka 0).trans rfl;have u1:(w7.alloc (.cells #[.slice N0 n0.length s0,.slice N1 n1.length s1,.slice N2 n2.length s2] 27)).cell? ⟨ga,1,none⟩=some (.slice A1 m1.length c1):=(qAB B7.out.ka 1).trans rfl;have u2:(w7.alloc (.cells #[.slice N0 n0.length s0,.slice N1 n1.length s1,.slice N2 n2.length s2] 27)).cell? ⟨ga,2,none⟩=some (.slice A2 m2.length c2):=(qAB B7.out.ka 2).trans rfl;have z0:(w7.alloc (.cells #[.slice N0 n0.length s0,.slice N1 n1.length s1,.slice N2 n2.length s2] 27)).cell? ⟨w5.heap.size,0,none⟩=some (.slice X0 m0.length y0):=(qAB B7.out.kx 0).trans rfl;have z1:(w7.alloc (.cells #[.slice N0 n0.length s0,.slice N1 n1.length s1,.slice N2 n2.length s2] 27)).cell? ⟨w5.heap.size,1,none⟩=some (.slice X1 m1.length y1):=(qAB B7.out.kx 1).trans rfl;have z2:(w7.alloc (.cells #[.slice N0 n0.length s0,.slice N1 n1.length s1,.slice N2 n2.length s2] 27)).cell? ⟨w5.heap.size,2,none⟩=some (.slice X2 m2.length y2):=(qAB B7.out.kx 2).trans rfl) | (go_at_call 13;refine (SM.out _ B7.out.o X0 y0 X1 y1 X2 y2 B7.out.r0 Y0.out B7.out.r1 Y1.out B7.out.r2 Y2.out).mono ?_;rintro e_ w9 ⟨rfl,hb⟩;have O9:=qAA.mk (qAV B7.out.o hb);clear hb u0 u1 u2 z0 z1 z2))
  go_ret
  exact ⟨rfl,O9.out⟩
 obtain ⟨k,rfl⟩:∃ k:Nat,cut=(k:Int):=⟨cut.toNat,by omega⟩
 have hk:k < x.length:=by omega
 have hle:=hless k hk
 obtain ⟨x3,hx3⟩:∃ x3,x3=x.take k:=⟨_,rfl⟩
 have hl3:x3.length=k:=by rw [hx3,List.length_take];omega
 subst hl3
 have HX3:=qAA.mk (show x3.length < x.length∧x.take x3.length=x3 from ⟨hk,hx3.symm⟩)
 rw [← hx3] at hle
 have D3:=qAA.mk (fun (W:World) (A:Option Addr) (c:Nat) hC hc=>mb.dec21 (bs:=x3) (by rw [hx3];exact hxb.take _) (by omega) (w:=W) (A:=A) (c:=c) hC hc)
 have t3:decide ((x3.length:Int) < (x.length:Int))=true:=decide_eq_true (by omega)
 have t4:decide (x3.length < x.length)=true:=decide_eq_true hk
 obtain ⟨c3,p3,o0,o1,o2,hd3⟩:∃ c3 p3 o0 o1 o2,mb.decM x3=(c3,p3,o0,o1,o2):=⟨_,_,_,_,_,rfl⟩
 rw [hd3] at D3 hle
 dsimp only at D3 hle
 have t5:(c3 != 0)=true:=bne_iff_ne.2 hle
 have t6:(c3 == 0)=false:=beq_eq_false_iff_ne.2 hle
 have t7:decide (c3=0)=false:=decide_eq_false hle
 have HI0:=qAA.mk hi0
 clear hc0 hc1 hk hle hx3 hd3 hless hxl hxb hx4 hdx hB hcb hyb hyl hzl hzs t1 t2
 have t1:decide ((x3.length:Int) ≥ 0)=true:=decide_eq_true (by omega)
 have t2:decide (0≤(x3.length:Int))=true:=decide_eq_true (by omega)
 go_enter Try.func8,Try.ntmps8
 have tk1:=qAA.mk True.intro
 have tk2:=qAA.mk True.intro
 go_wp2_with (first | ((with_reducible refine qAr (N:=3) rfl ?_);refine qAk ?hg (N:=3) ?hd (cs:=#[.slice A0 m0.length c0,.slice A1 m1.length c1,.slice A2 m2.length c2]) (t:=27) ?hr ?_;(case hd=>rfl);(case hg=>rfl);(case hr=>first | (go_simp;done) | (go_simp;rfl));intro ga hg w1 hbox hb1;have K1:=qAA.mk hbox;have O1:=qAA.mk hb1;clear hbox hb1 hg) | (go_at_call 11;refine (mb.shown11 _).mono ?_;rintro e_ w2 ⟨rfl,hb⟩;have K2:=qAA.mk (qAL K1.out hb);have O2:=qAA.mk (qAV O1.out hb);clear hb;have u0:w2.cell? ⟨ga,0,none⟩=some (.slice A0 m0.length c0):=(qAB K2.out 0).trans rfl;have u1:w2.cell? ⟨ga,1,none⟩=some (.slice A1 m1.length c1):=(qAB K2.out 1).trans rfl;have u2:w2.cell? ⟨ga,2,none⟩=some (.slice A2 m2.length c2):=(qAB K2.out 2).trans rfl) | (go_at_call 23;refine (RG.out _ O2.out).mono ?_;rintro e_ w3 ⟨rfl,hb⟩;have K3:=qAA.mk (qAL K2.out hb);have O3:=qAA.mk (qAV O2.out hb);clear hb u0 u1 u2;have u0:w3.cell? ⟨ga,0,none⟩=some (.slice A0 m0.length c0):=(qAB K3.out 0).trans rfl;have u1:w3.cell? ⟨ga,1,none⟩=some (.slice A1 m1.length c1):=(qAB K3.out 1).trans rfl;have u2:w3.cell? ⟨ga,2,none⟩=some (.slice A2 m2.length c2):=(qAB K3.out 2).trans rfl) | (go_at_call 12;refine (EN.out _ O3.out).mono ?_;rintro e_ w4 ⟨v4,rfl,hr,hb⟩;obtain ⟨g,q4,e4,hgb,hgl,_⟩:=Kd.R_form hr HX4.out;subst e4;have R4:=qAA.mk hr;have HGB:=qAA.mk hgb;have HGL:=qAA.mk hgl;have HGA:=qAA.mk (show ga < g from Nat.lt_of_lt_of_le (qAX K3.out) hgb);have K4:=qAA.mk (qAL K3.out hb);have O4:=qAA.mk (qAV O3.out hb);have CUT:=cut_to (P:=Try.prog) 29 5 .i64 Try.underlying29 hi0 (some ⟨g,0,none⟩) x.length q4 (x3.length:Int) (Int.natCast_nonneg _) (by have:=HX3.out.1;omega) (Kd.R_reads' R4.out).2.1;rw [Int.toNat_natCast] at CUT;clear hb hr hgb hgl u0 u1 u2) | (go_at_call 21;clear tk1;refine (DX.out _ _ _ (Kd.R_reads' R4.out).2.2 (Kd.R_reads' R4.out).2.1).mono ?_;rintro e_ w5 ⟨hb,v0,v1,v2,rfl,r0,r1,r2⟩;obtain ⟨X0,y0,e0⟩:=Kd.qAZ r0;subst e0;obtain ⟨X1,y1,e1⟩:=Kd.qAZ r1;subst e1;obtain ⟨X2,y2,e2⟩:=Kd.qAZ r2;subst e2;have P0:=qAA.mk r0;have P1:=qAA.mk r1;have P2:=qAA.mk r2;have Y0:=qAA.mk (Kd.R_reads' r0).2.1;have Y1:=qAA.mk (Kd.R_reads' r1).2.1;have Y2:=qAA.mk (Kd.R_reads' r2).2.1;have K5:=qAA.mk (qAL K4.out hb);have O5:=qAA.mk (qAV O4.out hb);have R5:=qAA.mk (Kd.qBZ R4.out hb);have HG5:=qAA.mk (show g < w5.heap.size from Nat.lt_of_lt_of_le HGL.out hb.size);clear hb r0 r1 r2) | ((with_reducible refine qBb (b:=.append) (xs:=#[.tmp 45,.tmp 46]) rfl ?_);refine mb.qCA rfl (.tmp 45) (.tmp 46) 29 5 rfl Try.underlying29 (by kernel_rfl) HZS.out rfl rfl (Kd.qA0 R5.out _) (Kd.qAs (Kd.qAS HB.out O5.out) _) HL.out ?_;intro Aq cq w6 hq hcq hk hg;have CQ:=qAA.mk hq;have CQL:=qAA.mk hcq;have B6:=qAA.mk (show mb.BK w w6 g ga w5.heap.size x m0 m1 m2 #[.slice A0 m0.length c0,.slice A1 m1.length c1,.slice A2 m2.length c2] #[.slice X0 m0.length y0,.slice X1 m1.length y1,.slice X2 m2.length y2] X0 X1 X2 from ⟨hk,qAg (qAK K5.out _) hg (fun e=>by have:=Option.some.inj e;have:=HGA.out;omega),qAg (qB6 w5 _) hg (fun e=>by have:=Option.some.inj e;have:=HG5.out;omega),mb.kt_C (Kd.R_reads' (mb.R_off (Kd.qA0 P0.out _) hg HGL.out)).2.2,(Kd.R_reads' (mb.R_off (Kd.qA0 P1.out _) hg HGL.out)).2.2,(Kd.R_reads' (mb.R_off (Kd.qA0 P2.out _) hg HGL.out)).2.2,mb.qCZ (qAH O5.out _) hg (Nat.le_trans O3.out.size HGB.out)⟩);clear hq hcq hk hg) | (go_at_call 21;clear tk2;refine (DZ.out _ _ _ CQ.out CQL.out).mono ?_;rintro e_ w7 ⟨hb,v0,v1,v2,rfl,r0,r1,r2⟩;obtain ⟨N0,s0,e0⟩:=Kd.qAZ r0;subst e0;obtain ⟨N1,s1,e1⟩:=Kd.qAZ r1;subst e1;obtain ⟨N2,s2,e2⟩:=Kd.qAZ r2;subst e2;have B7:=qAA.mk (B6.out.below (qAU hb hb.size (qAH (Below.refl w7.heap.size w7) (.cells #[.slice N0 n0.length s0,.slice N1 n1.length s1,.slice N2 n2.length s2] 27))));clear hb r0 r1 r2) | (go_at_call 21;refine (D3.out _ _ _ (by have q:=Kd.C_take B7.out.b (m:=x3.length) (by have:=HX3.out.1;omega);rw [HX3.out.2] at q;exact q) (by have:=HX3.out.1;have:=(Kd.R_reads' R4.out).2.1;omega)).mono ?_;rintro e_ w8 ⟨hb,v0,v1,v2,rfl,r0,r1,r2⟩;have B8:=qAA.mk (B7.out.below hb);clear hb r0 r1 r2;have u0:w8.cell? ⟨ga,0,none⟩=some (.slice A0 m0.length c0):=(qAB B8.out.ka 0).trans rfl;have u1:w8.cell? ⟨ga,1,none⟩=some (.slice A1 m1.length c1):=(qAB B8.out.ka 1).trans rfl;have u2:w8.cell? ⟨ga,2,none⟩=some (.slice A2 m2.length c2):=(qAB B8.out.ka 2).trans rfl;have z0:w8.cell? ⟨w5.heap.size,0,none⟩=some (.slice X0 m0.length y0):=(qAB B8.out.kx 0).trans rfl;have z1:w8.cell? ⟨w5.heap.size,1,none⟩=some (.slice X1 m1.length y1):=(qAB B8.out.kx 1).trans rfl;have z2:w8.cell? ⟨w5.heap.size,2,none⟩=some (.slice X2 m2.length y2):=(qAB B8.out.kx 2).trans rfl) | (go_at_call 13;refine (SM.out _ B8.out.o X0 y0 X1 y1 X2 y2 B8.out.r0 Y0.out B8.out.r1 Y1.out B8.out.r2 Y2.out).mono ?_;rintro e_ w9 ⟨rfl,hb⟩;have O9:=qAA.mk (qAV B8.out.o hb);clear hb u0 u1 u2 z0 z1 z2))
 go_ret
 exact ⟨rfl,O9.out⟩
end
end Go.Proofs.Ytmehfnikecmiiaa.X
namespace Go.Proofs.Ytmehfnikecmiiaa.X
open Go.RowKit Go.Proofs.YtmehfnikecmiiaaW.PrintWords Go.Proofs.YtmehfnikecmiiaaW.PrintLast Go.Proofs.YtmehfnikecmiiaaW.PrintMore Go.Proofs.YtmehfnikecmiiaaW
section
open Go.ChangeShapes Go.WideShapes Go.ChangeAt Go.RowKit
theorem el_int {H:Type} {enc:TypeId × Value→H} {P:Program} {w:World} {held:Bool} {spare:Nat→Bool} {k:IntKind} {e:TypeId} (he:P.underlying e=some (.int k)):∀ n cs (y:DataW H × List MemPlace),DataW.trod enc P w 0 spare held n e cs=some y→∃ x,(Kd.int k).K w x cs∧(Lit.int k x).wf=true:=fun n cs y hy=>by
 obtain ⟨s,q,_,z⟩:=DataW.trod_int he hy
 exact ⟨s,q,z⟩
end
end Go.Proofs.Ytmehfnikecmiiaa.X
