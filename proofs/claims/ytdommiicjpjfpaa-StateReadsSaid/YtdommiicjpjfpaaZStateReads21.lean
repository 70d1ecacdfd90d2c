import Derived.Test.YtdommiicjpjfpaaZStateReads3
import Derived.Test.YtdommiicjpjfpaaZStateReads20
set_option linter.unusedVariables false
set_option linter.unusedSimpArgs false
namespace Go.Proofs.Ytdommiicjpjfpaa.X
open Go.RowKit Go.Proofs.YtdommiicjpjfpaaW.PrintWords Go.Proofs.YtdommiicjpjfpaaW.PrintLast Go.Proofs.YtdommiicjpjfpaaW.PrintMore Go.Proofs.YtdommiicjpjfpaaW
attribute [local go_sem] qBE qBD qBV qBU qA6 qA5 qBJ qBI
def qCC.f (k:Nat) (f0 f1:Int) (f2:ByteArray) (f3:List S34) (f4:List ByteArray):Option (List Int × Int):=qBj.f k [] f0 f1 f2 f3 f4
set_option maxHeartbeats 8000000 in
set_option maxRecDepth 100000 in
theorem qCC.calls (k:Nat) (f0 f1:Int) (f2:ByteArray) (A3:Option Addr) (c3:Nat) (f3:List S34) (A4:Option Addr) (c4:Nat) (f4:List ByteArray) (r:List Int) (e0:Int) (w:World)
  (hr3:Kd.C k34 w A3 f3.length f3) (hc3:f3.length≤c3) (hr4:Kd.C Kd.string w A4 f4.length f4) (hc4:f4.length≤c4) (h:qCC.f k f0 f1 f2 f3 f4=some (r,e0)) :
  Calls Try.prog 47 #[.agg #[.int .i64 f0,.int .i64 f1,.string f2,.slice A3 f3.length c3,.slice A4 f4.length c4]] w fun e w'=>∃ (A:Option Addr) (c:Nat),e=.returned (.tuple #[.slice A r.length c,.int .i64 e0])∧Kd.C (Kd.int .u8) w' A r.length r∧r.length≤c∧Below w.heap.size w w':=by
 unfold qCC.f at h
 have hu25:=Try.underlying34
 have HP:=qAA.mk h
 have HR3:=qAA.mk hr3
 have HC3:=qAA.mk hc3
 have HR4:=qAA.mk hr4
 have HC4:=qAA.mk hc4
 clear h hr3 hc3 hr4 hc4
 go_enter Try.func47,Try.ntmps47
 go_wp2_with (first | ((with_reducible refine qAl (N:=1) rfl ?_);refine qAg ?hg (N:=1) ?hd (cs:=#[.int .i64 f0,.int .i64 f1,.string f2,.slice A3 f3.length c3,.slice A4 f4.length c4]) (t:=34) ?hr ?_;(case hd=>rfl);(case hg=>rfl);(case hr=>first | (go_simp;done) | (go_simp;rfl));intro gb hg w1 hbox hb1;have BK1:=qAA.mk hbox;have HB1:=qAA.mk hb1;have hz0:w1.cell? ⟨gb,0,none⟩=some (.int .i64 f0):=(qAB BK1.out 0).trans rfl;have hy0:=qAC BK1.out 0;have hz1:w1.cell? ⟨gb,1,none⟩=some (.int .i64 f1):=(qAB BK1.out 1).trans rfl;have hy1:=qAC BK1.out 1;have hz2:w1.cell? ⟨gb,2,none⟩=some (.string f2):=(qAB BK1.out 2).trans rfl;have hy2:=qAC BK1.out 2;have hz3:w1.cell? ⟨gb,3,none⟩=some (.slice A3 f3.length c3):=(qAB BK1.out 3).trans rfl;have hy3:=qAC BK1.out 3;have hz4:w1.cell? ⟨gb,4,none⟩=some (.slice A4 f4.length c4):=(qAB BK1.out 4).trans rfl;have hy4:=qAC BK1.out 4;clear hb1 hbox hg) | (go_at_call 64;refine (qBj.calls k none 0 ([]:List Int) f0 f1 f2 A3 c3 f3 A4 c4 f4 r e0 _ ?s0 (Nat.le_refl _) ?s1 HC3.out ?s2 HC4.out HP.out).mono ?_;(case s0=>exact (Kd.R_reads' (Kd.qA7 (Kd.int .u8) 5 _ w.heap.size (fun _=>True))).2.2);(case s1=>exact Kd.qAc HR3.out HB1.out);(case s2=>exact Kd.qAc HR4.out HB1.out);rintro e w2 ⟨A5,c5,rfl,hr5,hc5,hb5⟩;have HR5:=qAA.mk hr5;have HC5:=qAA.mk hc5;have HB5:=qAA.mk (qAO HB1.out hb5);clear hr5 hc5 hb5))
 go_ret2
 exact ⟨A5,c5,rfl,HR5.out,HC5.out,HB5.out⟩
end Go.Proofs.Ytdommiicjpjfpaa.X
