import Derived.Test.YtnkbobblnhaclaaZWirePutsUpto3
import Derived.Test.YtnkbobblnhaclaaZWirePutsUpto17
set_option linter.unusedVariables false
set_option linter.unusedSimpArgs false
namespace Go.Proofs.Ytnkbobblnhaclaa.X
open Go.RowKit Go.Proofs.YtnkbobblnhaclaaW.PrintWords Go.Proofs.YtnkbobblnhaclaaW.PrintLast Go.Proofs.YtnkbobblnhaclaaW.PrintMore Go.Proofs.YtnkbobblnhaclaaW
attribute [local go_sem] max2_int min2_int max_two min_two max_three min_three max_four min_four
def wire_Length.f (k:Nat) (f0 f1:Int) (f2:ByteArray) (f3:List S25) (f4:List ByteArray):Option Int:=(wire_Encode.f k f0 f1 f2 f3 f4).bind fun r=>some (r.1.length:Int)
theorem wire_Length.mono:∀ a0 a1 a2 a3 a4 k,LeO (wire_Length.f k a0 a1 a2 a3 a4) (wire_Length.f (k+1) a0 a1 a2 a3 a4):=fun a0 a1 a2 a3 a4 k=>LeO.bind (wire_Encode.mono a0 a1 a2 a3 a4 k) (fun _=>LeO.refl _)
set_option maxHeartbeats 8000000 in
set_option maxRecDepth 100000 in
theorem wire_Length.calls (k:Nat) (f0 f1:Int) (f2:ByteArray) (A3:Option Addr) (c3:Nat) (f3:List S25) (A4:Option Addr) (c4:Nat) (f4:List ByteArray) (n:Int) (w:World)
  (hr3:Kd.C k25 w A3 f3.length f3) (hc3:f3.length≤c3) (hr4:Kd.C Kd.string w A4 f4.length f4) (hc4:f4.length≤c4) (h:wire_Length.f k f0 f1 f2 f3 f4=some n) :
  Calls Try.prog 18 #[.agg #[.int .i64 f0,.int .i64 f1,.string f2,.slice A3 f3.length c3,.slice A4 f4.length c4]] w fun e w'=>e=.returned (.int .i64 n)∧Below w.heap.size w w':=by
 unfold wire_Length.f at h
 have hu25:=Try.underlying25
 obtain ⟨⟨r,e0⟩,h9,hn⟩:=Option.bind_eq_some_iff.mp h
 obtain rfl:=Option.some.inj hn
 clear hn
 have HP:=Aside0.mk h9
 have HR3:=Aside0.mk hr3
 have HC3:=Aside0.mk hc3
 have HR4:=Aside0.mk hr4
 have HC4:=Aside0.mk hc4
 clear h h9 hr3 hc3 hr4 hc4
 go_enter Try.func18,Try.ntmps18
 go_wp2_with (first | ((with_reducible refine gate_dst (N:=1) rfl ?_);refine box_event ?hg (N:=1) ?hd (cs:=#[.int .i64 f0,.int .i64 f1,.string f2,.slice A3 f3.length c3,.slice A4 f4.length c4]) (t:=25) ?hr ?_;(case hd=>rfl);(case hg=>rfl);(case hr=>first | (go_simp;done) | (go_simp;rfl));intro gb hg w1 hbox hb1;have BK1:=Aside0.mk hbox;have HB1:=Aside0.mk hb1;have hz0:w1.cell? ⟨gb,0,none⟩=some (.int .i64 f0):=(blk_cell BK1.out 0).trans rfl;have hy0:=blk_frozen BK1.out 0;have hz1:w1.cell? ⟨gb,1,none⟩=some (.int .i64 f1):=(blk_cell BK1.out 1).trans rfl;have hy1:=blk_frozen BK1.out 1;have hz2:w1.cell? ⟨gb,2,none⟩=some (.string f2):=(blk_cell BK1.out 2).trans rfl;have hy2:=blk_frozen BK1.out 2;have hz3:w1.cell? ⟨gb,3,none⟩=some (.slice A3 f3.length c3):=(blk_cell BK1.out 3).trans rfl;have hy3:=blk_frozen BK1.out 3;have hz4:w1.cell? ⟨gb,4,none⟩=some (.slice A4 f4.length c4):=(blk_cell BK1.out 4).trans rfl;have hy4:=blk_frozen BK1.out 4;clear hb1 hbox hg) | (go_at_call 10;refine (wire_Encode.calls k f0 f1 f2 A3 c3 f3 A4 c4 f4 r e0 _ ?s1 HC3.out ?s2 HC4.out HP.out).mono ?_;(case s1=>exact Kd.C_below HR3.out HB1.out);(case s2=>exact Kd.C_below HR4.out HB1.out);rintro e w2 ⟨A5,c5,rfl,hr5,hc5,hb5⟩;have HR5:=Aside0.mk hr5;have HC5:=Aside0.mk hc5;have HB5:=Aside0.mk (below_step HB1.out hb5);clear hr5 hc5 hb5))
 go_ret
 exact ⟨rfl,HB5.out⟩
end Go.Proofs.Ytnkbobblnhaclaa.X
