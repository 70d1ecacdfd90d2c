import Derived.Test.YtmehfnikecmiiaaZModuleBackUpto3
import Derived.Test.YtmehfnikecmiiaaZModuleBackUpto21
set_option linter.unusedVariables false
set_option linter.unusedSimpArgs false
namespace Go.Proofs.Ytmehfnikecmiiaa.X
open Go.RowKit Go.Proofs.YtmehfnikecmiiaaW.PrintWords Go.Proofs.YtmehfnikecmiiaaW.PrintLast Go.Proofs.YtmehfnikecmiiaaW.PrintMore Go.Proofs.YtmehfnikecmiiaaW
attribute [local go_sem] qBF qBE qBY qBX qA9 qA8 qBI qBH
def qBt.f (k:Nat) (b:List Int) (f0 f1:Int) (f2:ByteArray) (f3:List S48) (f4:List ByteArray):Option (List Int):=(qBe.f k b f0 f1 f2 f3 f4).bind fun r=>some r.1
set_option maxHeartbeats 8000000 in
set_option maxRecDepth 100000 in
theorem qBt.calls (k:Nat) (A0:Option Addr) (c0:Nat) (b:List Int) (f0 f1:Int) (f2:ByteArray) (A3:Option Addr) (c3:Nat) (f3:List S48) (A4:Option Addr) (c4:Nat) (f4:List ByteArray) (r:List Int) (w:World)
  (hr0:Kd.C (Kd.int .u8) w A0 b.length b) (hc0:b.length≤c0) (hr3:Kd.C k48 w A3 f3.length f3) (hc3:f3.length≤c3) (hr4:Kd.C Kd.string w A4 f4.length f4) (hc4:f4.length≤c4) (h:qBt.f k b f0 f1 f2 f3 f4=some r) :
  Calls Try.prog 27 #[.slice A0 b.length c0,.agg #[.int .i64 f0,.int .i64 f1,.string f2,.slice A3 f3.length c3,.slice A4 f4.length c4]] w fun e w'=>∃ (A:Option Addr) (c:Nat),e=.returned (.slice A r.length c)∧Kd.C (Kd.int .u8) w' A r.length r∧r.length≤c∧Below w.heap.size w w':=by
 unfold qBt.f at h
 have hu25:=Try.underlying48
 obtain ⟨⟨r1,e1⟩,hp,hr⟩:=Option.bind_eq_some_iff.mp h
 obtain rfl:=Option.some.inj hr
 have HP:=qAA.mk hp
 have HR0:=qAA.mk hr0
 have HC0:=qAA.mk hc0
 have HR3:=qAA.mk hr3
 have HC3:=qAA.mk hc3
 have HR4:=qAA.mk hr4
 have HC4:=qAA.mk hc4
 dsimp only
 clear h hp hr0 hc0 hr3 hc3 hr4 hc4
 go_enter Try.func27,Try.ntmps27
 go_wp2_with (first | ((with_reducible refine qAr (N:=3) rfl ?_);refine qAk ?hg (N:=3) ?hd (cs:=#[.int .i64 f0,.int .i64 f1,.string f2,.slice A3 f3.length c3,.slice A4 f4.length c4]) (t:=48) ?hr ?_;(case hd=>rfl);(case hg=>rfl);(case hr=>first | (go_simp;done) | (go_simp;rfl));intro gb hg w1 hbox hb1;have BK1:=qAA.mk hbox;have HB1:=qAA.mk hb1;have hz0:w1.cell? ⟨gb,0,none⟩=some (.int .i64 f0):=(qAB BK1.out 0).trans rfl;have hz1:w1.cell? ⟨gb,1,none⟩=some (.int .i64 f1):=(qAB BK1.out 1).trans rfl;have hz2:w1.cell? ⟨gb,2,none⟩=some (.string f2):=(qAB BK1.out 2).trans rfl;have hz3:w1.cell? ⟨gb,3,none⟩=some (.slice A3 f3.length c3):=(qAB BK1.out 3).trans rfl;have hz4:w1.cell? ⟨gb,4,none⟩=some (.slice A4 f4.length c4):=(qAB BK1.out 4).trans rfl;clear hb1 hbox hg) | (go_at_call 50;refine (qBe.calls k A0 c0 b f0 f1 f2 A3 c3 f3 A4 c4 f4 r1 e1 _ ?s0 HC0.out ?s1 HC3.out ?s2 HC4.out HP.out).mono ?_;(case s0=>exact Kd.qAS HR0.out HB1.out);(case s1=>exact Kd.qAS HR3.out HB1.out);(case s2=>exact Kd.qAS HR4.out HB1.out);rintro e w2 ⟨A5,c5,rfl,hr5,hc5,hb5⟩;have HR5:=qAA.mk hr5;have HC5:=qAA.mk hc5;have HB5:=qAA.mk (qAV HB1.out hb5);clear hr5 hc5 hb5))
 go_ret
 exact ⟨A5,c5,rfl,HR5.out,HC5.out,HB5.out⟩
end Go.Proofs.Ytmehfnikecmiiaa.X
