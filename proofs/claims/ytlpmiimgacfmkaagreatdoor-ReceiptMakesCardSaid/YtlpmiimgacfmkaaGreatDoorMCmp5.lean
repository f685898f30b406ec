/- SHA-256: the loops of a block. -/
import Derived.StillTailTactics
import Derived.Deep.CutBlock
import Derived.Lib.LazyBuf
import Derived.Lib.SliceRun
import Derived.Deep.MidRow
import Derived.Test.YtlpmiimgacfmkaaGreatDoorMBase
set_option linter.all false
namespace Go.Proofs.YtlpmiimgacfmkaaGreatDoor
open Go.Proofs.Tryz
open Go.RowKit
set_option maxRecDepth 100000
set_option maxHeartbeats 4000000
attribute [local go_sem ↓] Go.wp_at_zero Go.wp_at_succ
theorem run_index_agg {P:Program} (w:World) (t e:TypeId) (n:Nat) (cs:Array Value) (k:IntKind) (i:Nat) (v:Value) (h:P.underlying t=some (.array n e)) (hz:∀ w,(Go.sizeOf e).run P w=.ok 1 w) (ha:∀ w,(isAgg e).run P w=.ok false w) (hn:i<n) (hv:cs[i]?=some v) :
 (Instr.index t (.agg cs) (.int k (i:Int))).run P w=.ok v w:=by
 have hn':0<=(i:Int)/\(i:Int)<(n:Int):=by omega
 simp[Instr.index,run_underlying h,asIntOf,hn',go_sem,hz,ha,hv];intro h';omega
def word4 (b:Nat->Int) (t:Nat):Int :=
 bits .or .u32 (bits .or .u32 (bits .or .u32 (b (4*t) % 4294967296*16777216 % 4294967296) (b (4*t+1) % 4294967296*65536 % 4294967296)) (b (4*t+2) % 4294967296*256 % 4294967296)) (b (4*t+3) % 4294967296)
def sig0 (x:Int):Int:=bits .xor .u32 (bits .xor .u32 (rotr 7 x) (rotr 18 x)) (x / 8)
def sig1 (y:Int):Int:=bits .xor .u32 (bits .xor .u32 (rotr 17 y) (rotr 19 y)) (y / 1024)
def sched (b:Nat->Int) (t:Nat):Int :=
 if _h:t<16 then word4 b t
 else (sched b (t - 16)+sig0 (sched b (t - 15))+sched b (t - 7)+sig1 (sched b (t - 2))) % 4294967296
termination_by t
theorem sched_lo {b:Nat->Int} {t:Nat} (h:t<16):sched b t=word4 b t:=by rw[sched,dif_pos h]
theorem sched_hi {b:Nat->Int} {t:Nat} (h:¬ t<16):sched b t=(sched b (t - 16)+sig0 (sched b (t - 15))+sched b (t - 7)+sig1 (sched b (t - 2))) % 4294967296:=by rw[sched,dif_neg h]
def CmpR1 (w:World) (X:Nat) (b:Nat->Int) (n m:Nat) (i:Value) (W:World):Prop :=
 ∃ (k:Nat) (cs:Array Value),n<=k/\k<=m/\i=.int .i64 (k:Int)/\BoxN W X 309 cs/\cs.size=64/\(∀ j,j<k->cs[j]?=some (.int .u32 (sched b j)))/\Fr [X] w W
theorem words_step {cs:Array Value} {k:Nat} {b:Nat->Int} {v:Value} (hc:cs.size=64) (hk:k<64) (hv:v=.int .u32 (sched b k)) (h:∀ j,j<k->cs[j]?=some (.int .u32 (sched b j))):∀ j,j<k+1->(cs.setIfInBounds k v)[j]?=some (.int .u32 (sched b j)):=by
 intro j hj
 by_cases e:k=j
 ·subst e
  rw[Array.getElem?_setIfInBounds_self,if_pos (by omega),hv]
 ·rw[Array.getElem?_setIfInBounds_ne e]
  exact h j (by omega)
noncomputable def cmpL1:Code:=((Tryz.f144).body.bind (blockAt 2)).getD .skip
theorem cmpL1_any (KA:Act->World->Prop) (KK:Exit->Act->World->Prop) (X BB bo:Nat) (b:Nat->Int) (w:World) (cs0:Array Value) (bX:BoxN w X 309 cs0) (hcs:cs0.size=64) (hBB:BB<w.heap.size) (hne:BB≠X) (hb:∀ j,j<64->w.cell? ⟨BB,bo+j,none⟩=some (.int .u8 (b j)))
 (u0 u2 u3 u5 u6 u7 u8 u9 u10 u11 u12 u13 u14 u15 u16 u17 u18 u19 u20 u21 u22 u23 u25 u26 u27 u28 u29 u30 u31 u32 u33 u34 u35 u36 u37 u38 u39 u40 u41 u42 u43 u44 u45 u46 u47 u48 u49 u50 u51 u52 u53 u54 u55 u56 u57 u58 u59 u60 u61 u62 u63 u64 u65 u66 u67 u68 u69 u70 u71 u72 u73 u74 u75 u76 u77 u78 u79 u80 u81 u82 u83 u84 u85 u86 u87 u88 u89 u90 u91 u92 u93 u94 u95 u96 u97 u98 u99 u100 u101 u102 u103 u104 u105 u106 u107 u108 u109 u110 u111 u112 u113 u114 u115 u116 u117 u118 u119 u120 u121 u122 u123 u124 u125 u126 u127 u128 u129 u130 u131 u132 u133 u134 u135 u136 u137 u138 u139 u140 u141 u142 u143 u144 u145 u146 u147 u148 u149 u150 u151 u152 u153 u154 u155 u156 u157 u158 u159 u160 u161 u162 u163 u164 u165 u166 u167 u168 u169 u170 u171 u172 u173 u174 u175 u176 u177 u178 u179 u180 u181 u182 u183 u184 u185 u186 u187 u188 u189 u190 u191 u192 u193 u194 u195 u196 u197 u198 u199 u200 u201 u202 u203 u204 u205 u206 u207 u208 u209 u210 u211 u212 u213 u214 u215 u216 u217 u218 u219 u220 u221 u222 u223 u224 u225 u226 u227:Value) (hq:∀ (t5 t24 t25 t26 t27 t28 t29 t30 t31 t32 t33 t34 t35 t36 t37 t38 t39 t40 t41 t42 t43 t44 t45 t46 t47 t48 t49 t50 t51 t52 t53 t54 t55 t56 t57 t58 t59 t60 t61 t62 t63 t64 t65 t66:Value) (W:World),∀ cs:Array Value,BoxN W X 309 cs->cs.size=64->(∀ j,j<16->cs[j]?=some (.int .u32 (sched b j)))->Fr [X] w W->KA ⟨List.toArray (u0::.pointer (some ⟨BB,bo,none⟩)::u2::u3::.pointer (some ⟨X,0,none⟩)::t5::u6::u7::u8::u9::u10::u11::u12::u13::u14::u15::u16::u17::u18::u19::u20::u21::u22::u23::t24::t25::t26::t27::t28::t29::t30::t31::t32::t33::t34::t35::t36::t37::t38::t39::t40::t41::t42::t43::t44::t45::t46::t47::t48::t49::t50::t51::t52::t53::t54::t55::t56::t57::t58::t59::t60::t61::t62::t63::t64::t65::t66::u67::u68::u69::u70::u71::u72::u73::u74::u75::u76::u77::u78::u79::u80::u81::u82::u83::u84::u85::u86::u87::u88::u89::u90::u91::u92::u93::u94::u95::u96::u97::u98::u99::u100::u101::u102::u103::u104::u105::u106::u107::u108::u109::u110::u111::u112::u113::u114::u115::u116::u117::u118::u119::u120::u121::u122::u123::u124::u125::u126::u127::u128::u129::u130::u131::u132::u133::u134::u135::u136::u137::u138::u139::u140::u141::u142::u143::u144::u145::u146::u147::u148::u149::u150::u151::u152::u153::u154::u155::u156::u157::u158::u159::u160::u161::u162::u163::u164::u165::u166::u167::u168::u169::u170::u171::u172::u173::u174::u175::u176::u177::u178::u179::u180::u181::u182::u183::u184::u185::u186::u187::u188::u189::u190::u191::u192::u193::u194::u195::u196::u197::u198::u199::u200::u201::u202::u203::u204::u205::u206::u207::u208::u209::u210::u211::u212::u213::u214::u215::u216::u217::u218::u219::u220::u221::u222::u223::u224::u225::u226::u227::[]),[]⟩ W):Code.wp prog cmpL1 (Exit.then KA KK) ⟨List.toArray (u0::.pointer (some ⟨BB,bo,none⟩)::u2::u3::.pointer (some ⟨X,0,none⟩)::u5::u6::u7::u8::u9::u10::u11::u12::u13::u14::u15::u16::u17::u18::u19::u20::u21::u22::u23::.int .i64 0::u25::u26::u27::u28::u29::u30::u31::u32::u33::u34::u35::u36::u37::u38::u39::u40::u41::u42::u43::u44::u45::u46::u47::u48::u49::u50::u51::u52::u53::u54::u55::u56::u57::u58::u59::u60::u61::u62::u63::u64::u65::u66::u67::u68::u69::u70::u71::u72::u73::u74::u75::u76::u77::u78::u79::u80::u81::u82::u83::u84::u85::u86::u87::u88::u89::u90::u91::u92::u93::u94::u95::u96::u97::u98::u99::u100::u101::u102::u103::u104::u105::u106::u107::u108::u109::u110::u111::u112::u113::u114::u115::u116::u117::u118::u119::u120::u121::u122::u123::u124::u125::u126::u127::u128::u129::u130::u131::u132::u133::u134::u135::u136::u137::u138::u139::u140::u141::u142::u143::u144::u145::u146::u147::u148::u149::u150::u151::u152::u153::u154::u155::u156::u157::u158::u159::u160::u161::u162::u163::u164::u165::u166::u167::u168::u169::u170::u171::u172::u173::u174::u175::u176::u177::u178::u179::u180::u181::u182::u183::u184::u185::u186::u187::u188::u189::u190::u191::u192::u193::u194::u195::u196::u197::u198::u199::u200::u201::u202::u203::u204::u205::u206::u207::u208::u209::u210::u211::u212::u213::u214::u215::u216::u217::u218::u219::u220::u221::u222::u223::u224::u225::u226::u227::[]),[]⟩ w:=by
 have HQ:=Hd hq;clear hq
 conv=>arg 2;whnf
 go_wp2_with fail
 have hne':BB ∉ [X]:=by simpa using hne
 have H0:=Hd bX;clear bX
 go_loopw [24] (CmpR1 w X b 0 16) (fun i _=>16 - (intOf i).toNat)
 case atStart=>exact⟨0,cs0,by omega,by omega,rfl,H0.out,hcs,fun j hj=>absurd hj (by omega),Fq _ w⟩
 case round =>
  clear hcs;obtain⟨k,cs,hlo,hk,rfl,bX,hcs,hw,hbr⟩:=hrel
  by_cases hlt:k<16
  ·have hlt':(k:Int)<16:=by omega
   have c0:=(hbr.cell (p:=⟨BB,bo+4*k,none⟩) hBB hne').trans (hb (4*k) (by omega));have c1:=(hbr.cell (p:=⟨BB,bo+(4*k+1),none⟩) hBB hne').trans (hb (4*k+1) (by omega));have c2:=(hbr.cell (p:=⟨BB,bo+(4*k+2),none⟩) hBB hne').trans (hb (4*k+2) (by omega));have c3:=(hbr.cell (p:=⟨BB,bo+(4*k+3),none⟩) hBB hne').trans (hb (4*k+3) (by omega));have xk:wr.cell? ⟨X,k,none⟩=some cs[k]:=(bX.c k).trans (Array.getElem?_eq_getElem (by omega));have xf:=bX.f k
   go_wp2_with fail
   have q0:IntKind.i64.wrap (4*(k:Int))=4*(k:Int):=by simp only[IntKind.wrap_i64];omega
   have q1:IntKind.i64.wrap (4*(k:Int)+1)=4*(k:Int)+1:=by simp only[IntKind.wrap_i64];omega
   have q2:IntKind.i64.wrap (4*(k:Int)+2)=4*(k:Int)+2:=by simp only[IntKind.wrap_i64];omega
   have q3:IntKind.i64.wrap (4*(k:Int)+3)=4*(k:Int)+3:=by simp only[IntKind.wrap_i64];omega
   have n0:(4*(k:Int)).toNat=4*k:=by omega
   have n1:(4*(k:Int)+1).toNat=4*k+1:=by omega
   have n2:(4*(k:Int)+2).toNat=4*k+2:=by omega
   have n3:(4*(k:Int)+3).toNat=4*k+3:=by omega
   have l0:(0:Int)<=4*(k:Int):=by omega
   have l1:(0:Int)<=4*(k:Int)+1:=by omega
   have l2:(0:Int)<=4*(k:Int)+2:=by omega
   have l3:(0:Int)<=4*(k:Int)+3:=by omega
   have m0:4*(k:Int)<64:=by omega
   have m1:4*(k:Int)+1<64:=by omega
   have m2:4*(k:Int)+2<64:=by omega
   have m3:4*(k:Int)+3<64:=by omega
   have m9:(k:Int)<64:=by omega
   go_still_tail 38,(by kernel_rfl)
   go_wp2_with fail
   go_roundw
   case rel=>exact⟨k+1,_,by omega,by omega,by go_num,bX.setAt k _,by simpa using hcs,words_step hcs (by omega) (by rw[sched_lo hlt];rfl) hw,(hbr.set (p:=⟨X,k,none⟩) (by simp) _).drew⟩
   case measure=>simp[intOf];omega
  ·obtain rfl:k=16:=by omega
   have HB:=Hd bX;have HW:=Hd hw;have HF:=Hd hbr;rw[show ((16:Nat):Int)=16 from rfl]
   go_wp2_with fail
   exact HQ.out _ _ _ _ _ _ _ _ _ _ _ _ _ _ _ _ _ _ _ _ _ _ _ _ _ _ _ _ _ _ _ _ _ _ _ _ _ _ _ _ _ _ _ _ wr _ HB.out hcs HW.out HF.out
noncomputable def cmpL2:Code:=((Tryz.f144).body.bind (blockAt 7)).getD .skip
theorem cmpL2_any (KA:Act->World->Prop) (KK:Exit->Act->World->Prop) (X:Nat) (b:Nat->Int) (w:World) (cs0:Array Value) (bX:BoxN w X 309 cs0) (hcs:cs0.size=64) (hw0:∀ j,j<16->cs0[j]?=some (.int .u32 (sched b j)))
 (u0 u1 u2 u3 u5 u7 u8 u9 u10 u11 u12 u13 u14 u15 u16 u17 u18 u19 u20 u21 u22 u23 u24 u25 u26 u27 u28 u29 u30 u31 u32 u33 u34 u35 u36 u37 u38 u39 u40 u41 u42 u43 u44 u45 u46 u47 u48 u49 u50 u51 u52 u53 u54 u55 u56 u57 u58 u59 u60 u61 u62 u63 u64 u65 u66 u67 u68 u69 u70 u71 u72 u73 u74 u75 u76 u77 u78 u79 u80 u81 u82 u83 u84 u85 u86 u87 u88 u89 u90 u91 u92 u93 u94 u95 u96 u97 u98 u99 u100 u101 u102 u103 u104 u105 u106 u107 u108 u109 u110 u111 u112 u113 u114 u115 u116 u117 u118 u119 u120 u121 u122 u123 u124 u125 u126 u127 u128 u129 u130 u131 u132 u133 u134 u135 u136 u137 u138 u139 u140 u141 u142 u143 u144 u145 u146 u147 u148 u149 u150 u151 u152 u153 u154 u155 u156 u157 u158 u159 u160 u161 u162 u163 u164 u165 u166 u167 u168 u169 u170 u171 u172 u173 u174 u175 u176 u177 u178 u179 u180 u181 u182 u183 u184 u185 u186 u187 u188 u189 u190 u191 u192 u193 u194 u195 u196 u197 u198 u199 u200 u201 u202 u203 u204 u205 u206 u207 u208 u209 u210 u211 u212 u213 u214 u215 u216 u217 u218 u219 u220 u221 u222 u223 u224 u225 u226 u227:Value) (hq:∀ (t6 t7 t8 t9 t10 t67 t68 t69 t70 t71 t72 t73 t74 t75 t76 t77 t78 t79 t80 t81 t82 t83 t84 t85 t86 t87 t88 t89 t90 t91 t92 t93 t94 t95 t96 t97 t98 t99 t100 t101 t102 t103 t104 t105 t106 t107 t108 t109:Value) (W:World),∀ cs:Array Value,BoxN W X 309 cs->cs.size=64->(∀ j,j<64->cs[j]?=some (.int .u32 (sched b j)))->Fr [X] w W->KA ⟨List.toArray (u0::u1::u2::u3::.pointer (some ⟨X,0,none⟩)::u5::t6::t7::t8::t9::t10::u11::u12::u13::u14::u15::u16::u17::u18::u19::u20::u21::u22::u23::u24::u25::u26::u27::u28::u29::u30::u31::u32::u33::u34::u35::u36::u37::u38::u39::u40::u41::u42::u43::u44::u45::u46::u47::u48::u49::u50::u51::u52::u53::u54::u55::u56::u57::u58::u59::u60::u61::u62::u63::u64::u65::u66::t67::t68::t69::t70::t71::t72::t73::t74::t75::t76::t77::t78::t79::t80::t81::t82::t83::t84::t85::t86::t87::t88::t89::t90::t91::t92::t93::t94::t95::t96::t97::t98::t99::t100::t101::t102::t103::t104::t105::t106::t107::t108::t109::u110::u111::u112::u113::u114::u115::u116::u117::u118::u119::u120::u121::u122::u123::u124::u125::u126::u127::u128::u129::u130::u131::u132::u133::u134::u135::u136::u137::u138::u139::u140::u141::u142::u143::u144::u145::u146::u147::u148::u149::u150::u151::u152::u153::u154::u155::u156::u157::u158::u159::u160::u161::u162::u163::u164::u165::u166::u167::u168::u169::u170::u171::u172::u173::u174::u175::u176::u177::u178::u179::u180::u181::u182::u183::u184::u185::u186::u187::u188::u189::u190::u191::u192::u193::u194::u195::u196::u197::u198::u199::u200::u201::u202::u203::u204::u205::u206::u207::u208::u209::u210::u211::u212::u213::u214::u215::u216::u217::u218::u219::u220::u221::u222::u223::u224::u225::u226::u227::[]),[]⟩ W):Code.wp prog cmpL2 (Exit.then KA KK) ⟨List.toArray (u0::u1::u2::u3::.pointer (some ⟨X,0,none⟩)::u5::.int .i64 16::u7::u8::u9::u10::u11::u12::u13::u14::u15::u16::u17::u18::u19::u20::u21::u22::u23::u24::u25::u26::u27::u28::u29::u30::u31::u32::u33::u34::u35::u36::u37::u38::u39::u40::u41::u42::u43::u44::u45::u46::u47::u48::u49::u50::u51::u52::u53::u54::u55::u56::u57::u58::u59::u60::u61::u62::u63::u64::u65::u66::u67::u68::u69::u70::u71::u72::u73::u74::u75::u76::u77::u78::u79::u80::u81::u82::u83::u84::u85::u86::u87::u88::u89::u90::u91::u92::u93::u94::u95::u96::u97::u98::u99::u100::u101::u102::u103::u104::u105::u106::u107::u108::u109::u110::u111::u112::u113::u114::u115::u116::u117::u118::u119::u120::u121::u122::u123::u124::u125::u126::u127::u128::u129::u130::u131::u132::u133::u134::u135::u136::u137::u138::u139::u140::u141::u142::u143::u144::u145::u146::u147::u148::u149::u150::u151::u152::u153::u154::u155::u156::u157::u158::u159::u160::u161::u162::u163::u164::u165::u166::u167::u168::u169::u170::u171::u172::u173::u174::u175::u176::u177::u178::u179::u180::u181::u182::u183::u184::u185::u186::u187::u188::u189::u190::u191::u192::u193::u194::u195::u196::u197::u198::u199::u200::u201::u202::u203::u204::u205::u206::u207::u208::u209::u210::u211::u212::u213::u214::u215::u216::u217::u218::u219::u220::u221::u222::u223::u224::u225::u226::u227::[]),[]⟩ w:=by
 have HQ:=Hd hq;clear hq
 conv=>arg 2;whnf
 go_wp2_with fail
 have H0:=Hd bX;have H1:=Hd hw0;clear bX hw0
 go_loopw [6] (CmpR1 w X b 16 64) (fun i _=>64 - (intOf i).toNat)
 case atStart=>exact⟨16,cs0,by omega,by omega,rfl,H0.out,hcs,H1.out,Fq _ w⟩
 case round =>
  clear hcs;obtain⟨k,cs,hlo,hk,rfl,bX,hcs,hw,hbr⟩:=hrel
  by_cases hlt:k<64
  ·have hlt':(k:Int)<64:=by omega
   have x1:wr.cell? ⟨X,k - 15,none⟩=some (.int .u32 (sched b (k - 15))):=(bX.c _).trans (hw _ (by omega));have x2:wr.cell? ⟨X,k - 2,none⟩=some (.int .u32 (sched b (k - 2))):=(bX.c _).trans (hw _ (by omega));have x3:wr.cell? ⟨X,k - 16,none⟩=some (.int .u32 (sched b (k - 16))):=(bX.c _).trans (hw _ (by omega));have x4:wr.cell? ⟨X,k - 7,none⟩=some (.int .u32 (sched b (k - 7))):=(bX.c _).trans (hw _ (by omega));have xk:wr.cell? ⟨X,k,none⟩=some cs[k]:=(bX.c k).trans (Array.getElem?_eq_getElem (by omega));have xf:=bX.f k
   go_wp2_with fail
   have q1:IntKind.i64.wrap ((k:Int) - 15)=(k:Int) - 15:=by simp only[IntKind.wrap_i64];omega
   have q2:IntKind.i64.wrap ((k:Int) - 2)=(k:Int) - 2:=by simp only[IntKind.wrap_i64];omega
   have q3:IntKind.i64.wrap ((k:Int) - 16)=(k:Int) - 16:=by simp only[IntKind.wrap_i64];omega
   have q4:IntKind.i64.wrap ((k:Int) - 7)=(k:Int) - 7:=by simp only[IntKind.wrap_i64];omega
   have n1:((k:Int) - 15).toNat=k - 15:=by omega
   have n2:((k:Int) - 2).toNat=k - 2:=by omega
   have n3:((k:Int) - 16).toNat=k - 16:=by omega
   have n4:((k:Int) - 7).toNat=k - 7:=by omega
   have l1:(0:Int)<=(k:Int) - 15:=by omega
   have l2:(0:Int)<=(k:Int) - 2:=by omega
   have l3:(0:Int)<=(k:Int) - 16:=by omega
   have l4:(0:Int)<=(k:Int) - 7:=by omega
   have j1:(15:Int)<=(k:Int):=by omega
   have j2:(2:Int)<=(k:Int):=by omega
   have j3:(16:Int)<=(k:Int):=by omega
   have j4:(7:Int)<=(k:Int):=by omega
   have m1:(k:Int) - 15<64:=by omega
   have m2:(k:Int) - 2<64:=by omega
   have m3:(k:Int) - 16<64:=by omega
   have m4:(k:Int) - 7<64:=by omega
   go_quiet (fail)
   go_wp2_with (first | (go_at_call 182;with_reducible refine (right_7 _ _).mono ?_;rintro e w6 ⟨rfl,rfl⟩) | (go_at_call 182;with_reducible refine (right_18 _ _).mono ?_;rintro e w6 ⟨rfl,rfl⟩) | (go_at_call 182;with_reducible refine (right_17 _ _).mono ?_;rintro e w6 ⟨rfl,rfl⟩) | (go_at_call 182;with_reducible refine (right_19 _ _).mono ?_;rintro e w6 ⟨rfl,rfl⟩))
   obtain⟨W1,hW⟩:=nmd (wr.drewN nq);rw[hW];have y3:W1.cell? ⟨X,k - 16,none⟩=some (.int .u32 (sched b (k - 16))):=by rw[<-hW];exact x3
   have y4:W1.cell? ⟨X,k - 7,none⟩=some (.int .u32 (sched b (k - 7))):=by rw[<-hW];exact x4
   have yk:W1.cell? ⟨X,k,none⟩=some cs[k]:=by rw[<-hW];exact xk
   have yf:W1.frozen? ⟨X,k,none⟩=false:=by rw[<-hW];exact xf
   have bY:BoxN W1 X 309 cs:=by rw[<-hW];exact bX.drewN nq
   have hbY:Fr [X] w W1:=by rw[<-hW];exact hbr.drewN nq
   have HBY:=Hd bY;have HW:=Hd hw;have HCS:=Hd hcs;clear hW bX hbr x1 x2 x3 x4 xk xf bY hw
   go_still_tail 14,(by kernel_rfl)
   go_wp2_with fail
   go_roundw
   case rel=>exact⟨k+1,_,by omega,by omega,by go_num,HBY.out.setAt k _,by simpa using HCS.out,words_step HCS.out (by omega) (by rw[sched_hi (t:=k) (by omega)];rfl) HW.out,hbY.drew.set (p:=⟨X,k,none⟩) (by simp) _⟩
   case measure=>simp[intOf];omega
  ·obtain rfl:k=64:=by omega
   have HB:=Hd bX;have HW:=Hd hw;have HF:=Hd hbr;rw[show ((64:Nat):Int)=64 from rfl]
   go_wp2_with fail
   exact HQ.out _ _ _ _ _ _ _ _ _ _ _ _ _ _ _ _ _ _ _ _ _ _ _ _ _ _ _ _ _ _ _ _ _ _ _ _ _ _ _ _ _ _ _ _ _ _ _ _ wr _ HB.out hcs HW.out HF.out
def CmpR4 (w:World) (SB so:Nat) (t:TypeId) (cs0:Array Value) (s:Nat->Int) (x:Nat->Int) (i:Value) (W:World):Prop :=
 ∃ (k:Nat) (cs:Array Value),k<=8/\i=.int .i64 (k:Int)/\BoxN W SB t cs/\cs.size=cs0.size/\(∀ j,j<8->cs[so+j]?=some (.int .u32 (if j<k then (s j+x j) % 4294967296 else s j)))/\(∀ o,(o<so \/ so+8<=o)->cs[o]?=cs0[o]?)/\Fr [SB] w W
theorem state_step {cs:Array Value} {so k:Nat} {s x:Nat->Int} {v:Value} (hsz:so+8<=cs.size) (hk:k<8) (hv:v=.int .u32 ((s k+x k) % 4294967296)) (h:∀ j,j<8->cs[so+j]?=some (.int .u32 (if j<k then (s j+x j) % 4294967296 else s j))):∀ j,j<8->(cs.setIfInBounds (so+k) v)[so+j]?=some (.int .u32 (if j<k+1 then (s j+x j) % 4294967296 else s j)):=by
 intro j hj
 by_cases e:k=j
 ·subst e
  rw[Array.getElem?_setIfInBounds_self,if_pos (by omega),hv,if_pos (by omega)]
 ·rw[Array.getElem?_setIfInBounds_ne (by omega),h j hj]
  by_cases hjk:j<k
  ·rw[if_pos hjk,if_pos (by omega)]
  ·rw[if_neg hjk,if_neg (by omega)]
theorem state_other {cs cs0:Array Value} {so k:Nat} {v:Value} (hk:k<8) (h:∀ o,(o<so \/ so+8<=o)->cs[o]?=cs0[o]?):∀ o,(o<so \/ so+8<=o)->(cs.setIfInBounds (so+k) v)[o]?=cs0[o]?:=by
 intro o ho;rw[Array.getElem?_setIfInBounds_ne (by omega)];exact h o ho
noncomputable def cmpL4:Code:=((Tryz.f144).body.bind (blockAt 23)).getD .skip
theorem cmpL4_any (Q:Exit->Act->World->Prop) (SB so:Nat) (t:TypeId) (arr:Array Value) (s x:Nat->Int) (w:World) (cs0:Array Value) (bS:BoxN w SB t cs0) (hsz:so+8<=cs0.size) (hs:∀ j,j<8->cs0[so+j]?=some (.int .u32 (s j))) (hx:∀ j,j<8->arr[j]?=some (.int .u32 (x j)))
 (u1 u2 u3 u4 u5 u6 u7 u8 u9 u10 u11 u12 u13 u14 u15 u16 u17 u18 u19 u20 u21 u22 u23 u24 u25 u26 u27 u28 u29 u30 u31 u32 u33 u34 u35 u36 u37 u38 u39 u40 u41 u42 u43 u44 u45 u46 u47 u48 u49 u50 u51 u52 u53 u54 u55 u56 u57 u58 u59 u60 u61 u62 u63 u64 u65 u66 u67 u68 u69 u70 u71 u72 u73 u74 u75 u76 u77 u78 u79 u80 u81 u82 u83 u84 u85 u86 u87 u88 u89 u90 u91 u92 u93 u94 u95 u96 u97 u98 u99 u100 u101 u102 u103 u104 u105 u106 u107 u108 u109 u110 u111 u112 u113 u114 u115 u116 u117 u118 u119 u120 u121 u122 u123 u124 u125 u126 u127 u128 u129 u130 u131 u132 u133 u134 u135 u136 u137 u138 u139 u140 u141 u142 u143 u144 u145 u146 u147 u148 u149 u150 u151 u152 u153 u154 u155 u156 u157 u158 u159 u160 u161 u162 u163 u164 u165 u166 u167 u168 u169 u170 u171 u172 u173 u174 u175 u176 u177 u178 u179 u180 u181 u182 u183 u184 u185 u186 u187 u188 u189 u190 u191 u192 u193 u194 u195 u196 u197 u198 u199 u200 u201 u202 u203 u204 u205 u206 u207 u208 u209 u210 u211 u212 u215 u216 u217 u218 u219 u220 u221 u222 u223 u224 u225 u226 u227:Value) (hq:∀ (t22 t23 t214 t215 t216 t217 t218 t219 t220 t221 t222 t223 t224 t225 t226 t227:Value) (W:World),∀ cs:Array Value,BoxN W SB t cs->cs.size=cs0.size->(∀ j,j<8->cs[so+j]?=some (.int .u32 ((s j+x j) % 4294967296)))->(∀ o,(o<so \/ so+8<=o)->cs[o]?=cs0[o]?)->Fr [SB] w W->Q .normal ⟨List.toArray (.pointer (some ⟨SB,so,none⟩)::u1::u2::u3::u4::u5::u6::u7::u8::u9::u10::u11::u12::u13::u14::u15::u16::u17::u18::u19::u20::u21::t22::t23::u24::u25::u26::u27::u28::u29::u30::u31::u32::u33::u34::u35::u36::u37::u38::u39::u40::u41::u42::u43::u44::u45::u46::u47::u48::u49::u50::u51::u52::u53::u54::u55::u56::u57::u58::u59::u60::u61::u62::u63::u64::u65::u66::u67::u68::u69::u70::u71::u72::u73::u74::u75::u76::u77::u78::u79::u80::u81::u82::u83::u84::u85::u86::u87::u88::u89::u90::u91::u92::u93::u94::u95::u96::u97::u98::u99::u100::u101::u102::u103::u104::u105::u106::u107::u108::u109::u110::u111::u112::u113::u114::u115::u116::u117::u118::u119::u120::u121::u122::u123::u124::u125::u126::u127::u128::u129::u130::u131::u132::u133::u134::u135::u136::u137::u138::u139::u140::u141::u142::u143::u144::u145::u146::u147::u148::u149::u150::u151::u152::u153::u154::u155::u156::u157::u158::u159::u160::u161::u162::u163::u164::u165::u166::u167::u168::u169::u170::u171::u172::u173::u174::u175::u176::u177::u178::u179::u180::u181::u182::u183::u184::u185::u186::u187::u188::u189::u190::u191::u192::u193::u194::u195::u196::u197::u198::u199::u200::u201::u202::u203::u204::u205::u206::u207::u208::u209::u210::u211::u212::.agg arr::t214::t215::t216::t217::t218::t219::t220::t221::t222::t223::t224::t225::t226::t227::[]),[]⟩ W):Code.wp prog cmpL4 Q ⟨List.toArray (.pointer (some ⟨SB,so,none⟩)::u1::u2::u3::u4::u5::u6::u7::u8::u9::u10::u11::u12::u13::u14::u15::u16::u17::u18::u19::u20::u21::u22::u23::u24::u25::u26::u27::u28::u29::u30::u31::u32::u33::u34::u35::u36::u37::u38::u39::u40::u41::u42::u43::u44::u45::u46::u47::u48::u49::u50::u51::u52::u53::u54::u55::u56::u57::u58::u59::u60::u61::u62::u63::u64::u65::u66::u67::u68::u69::u70::u71::u72::u73::u74::u75::u76::u77::u78::u79::u80::u81::u82::u83::u84::u85::u86::u87::u88::u89::u90::u91::u92::u93::u94::u95::u96::u97::u98::u99::u100::u101::u102::u103::u104::u105::u106::u107::u108::u109::u110::u111::u112::u113::u114::u115::u116::u117::u118::u119::u120::u121::u122::u123::u124::u125::u126::u127::u128::u129::u130::u131::u132::u133::u134::u135::u136::u137::u138::u139::u140::u141::u142::u143::u144::u145::u146::u147::u148::u149::u150::u151::u152::u153::u154::u155::u156::u157::u158::u159::u160::u161::u162::u163::u164::u165::u166::u167::u168::u169::u170::u171::u172::u173::u174::u175::u176::u177::u178::u179::u180::u181::u182::u183::u184::u185::u186::u187::u188::u189::u190::u191::u192::u193::u194::u195::u196::u197::u198::u199::u200::u201::u202::u203::u204::u205::u206::u207::u208::u209::u210::u211::u212::.agg arr::.int .i64 0::u215::u216::u217::u218::u219::u220::u221::u222::u223::u224::u225::u226::u227::[]),[]⟩ w:=by
 have HQ:=Hd hq;clear hq
 conv=>arg 2;whnf
 go_wp2_with fail
 have H0:=Hd bS;have H1:=Hd hs;have H2:=Hd hx;clear bS hs hx
 go_loopw [214] (CmpR4 w SB so t cs0 s x) (fun i _=>8 - (intOf i).toNat)
 case atStart=>exact⟨0,cs0,by omega,rfl,H0.out,rfl,fun j hj=>by rw[if_neg (by omega)];exact H1.out j hj,fun _ _=>rfl,Fq _ w⟩
 case round =>
  obtain⟨k,cs,hk,rfl,bX,hcs,hw,ho,hbr⟩:=hrel
  by_cases hlt:k<8
  ·have hlt':(k:Int)<8:=by omega
   have hxk:=run_index_agg (P:=prog) wr 162 161 8 arr .i64 k _ (by kernel_rfl) (fun _=>by rfl) (fun _=>by rfl) hlt (H2.out k hlt);have xk:wr.cell? ⟨SB,so+k,none⟩=some (.int .u32 (s k)):=by have:=(bX.c (so+k)).trans (hw k hlt);rwa [if_neg (by omega)] at this
   have xf:=bX.f (so+k);have HCS:=Hd hcs;have HO:=Hd ho;have HW:=Hd hw;clear hcs ho hw
   go_wp2_with fail
   have m9:(k:Int)<8:=by omega
   go_still_tail 8,(by kernel_rfl)
   go_wp2_with fail
   go_roundw
   case rel=>exact⟨k+1,_,by omega,by go_num,bX.setAt (so+k) _,by simpa using HCS.out,state_step (by have:=HCS.out;omega) hlt rfl HW.out,state_other hlt HO.out,(hbr.set (p:=⟨SB,so+k,none⟩) (by simp) _).drew⟩
   case measure=>simp[intOf];omega
  ·obtain rfl:k=8:=by omega
   have HB:=Hd bX;have HW:=Hd hw;have HF:=Hd hbr;have HCS:=Hd hcs;have HO:=Hd ho;clear bX hw hbr hcs ho;rw[show ((8:Nat):Int)=8 from rfl]
   go_wp2_with fail
   exact HQ.out _ _ _ _ _ _ _ _ _ _ _ _ _ _ _ _ wr _ HB.out HCS.out (fun j hj=>by have:=HW.out j hj;rwa [if_pos hj] at this) HO.out HF.out
end Go.Proofs.YtlpmiimgacfmkaaGreatDoor
namespace Go.Proofs.YtlpmiimgacfmkaaGreatDoor
open Go.Proofs.Tryz
open Go.RowKit
set_option maxRecDepth 100000
set_option maxHeartbeats 4000000
attribute [local go_sem ↓] Go.wp_at_zero Go.wp_at_succ
def H8.at (s:H8):Nat->Int
 | 0=>s.a
 | 1=>s.b
 | 2=>s.c
 | 3=>s.d
 | 4=>s.e
 | 5=>s.f
 | 6=>s.g
 | _=>s.h
def kcL:List Int:=[0x428a2f98,0x71374491,0xb5c0fbcf,0xe9b5dba5,0x3956c25b,0x59f111f1,0x923f82a4,0xab1c5ed5,0xd807aa98,0x12835b01,0x243185be,0x550c7dc3,0x72be5d74,0x80deb1fe,0x9bdc06a7,0xc19bf174,0xe49b69c1,0xefbe4786,0x0fc19dc6,0x240ca1cc,0x2de92c6f,0x4a7484aa,0x5cb0a9dc,0x76f988da,0x983e5152,0xa831c66d,0xb00327c8,0xbf597fc7,0xc6e00bf3,0xd5a79147,0x06ca6351,0x14292967,0x27b70a85,0x2e1b2138,0x4d2c6dfc,0x53380d13,0x650a7354,0x766a0abb,0x81c2c92e,0x92722c85,0xa2bfe8a1,0xa81a664b,0xc24b8b70,0xc76c51a3,0xd192e819,0xd6990624,0xf40e3585,0x106aa070,0x19a4c116,0x1e376c08,0x2748774c,0x34b0bcb5,0x391c0cb3,0x4ed8aa4a,0x5b9cca4f,0x682e6ff3,0x748f82ee,0x78a5636f,0x84c87814,0x8cc70208,0x90befffa,0xa4506ceb,0xbef9a3f7,0xc67178f2]
def kc (j:Nat):Int:=kcL.getD j 0
def comp (s b:Nat->Int) (j:Nat):Int:=(s j+(rounds kc (sched b) 64 ⟨s 0,s 1,s 2,s 3,s 4,s 5,s 6,s 7⟩).at j) % 4294967296
def CompPost (w:World) (SB so:Nat) (t:TypeId) (cs:Array Value) (s b:Nat->Int) (e:Ending) (w':World):Prop :=
 e=.returned (.tuple #[])/\∃ cs',BoxN w' SB t cs'/\cs'.size=cs.size/\(∀ j,j<8->cs'[so+j]?=some (.int .u32 (comp s b j)))/\(∀ o,(o<so \/ so+8<=o)->cs'[o]?=cs[o]?)/\Fr [SB] w w'
theorem below_of_drewN {B n:Nat} {a w:World} (h:Below B (a.drewN n) w):Below B a w:=⟨h.os,h.tape,h.output,h.size,h.block⟩
theorem compress_any (SB so:Nat) (t:TypeId) (cs:Array Value) (BB bo:Nat) (s b:Nat->Int) (w:World) (bS:BoxN w SB t cs) (hsz:so+8<=cs.size) (hs:∀ j,j<8->cs[so+j]?=some (.int .u32 (s j)))
 (hBB:BB<w.heap.size) (hb:∀ j,j<64->w.cell? ⟨BB,bo+j,none⟩=some (.int .u8 (b j))) (hG:2<w.heap.size) (hkc:∀ j,j<64->w.cell? ⟨2,j,none⟩=some (.int .u32 (kc j))) :
 Calls prog 144 #[.pointer (some ⟨SB,so,none⟩),.pointer (some ⟨BB,bo,none⟩)] w (CompPost w SB so t cs s b):=by
 have HS:=Hd bS;have Hhs:=Hd hs;have Hhb:=Hd hb;have Hkc:=Hd hkc;have HSB:=Hd bS.lt;clear bS hs hb hkc
 go_enter func144,ntmps144
 go_upto_block 0 with fail
 refine cmpL1_any _ _ w.heap.size BB bo b _ (Array.replicate 64 (.int .u32 0)) (BoxN.new w 309 _) rfl (by simp;omega) (by omega) (fun j hj=>by
  rw[<-Hhb.out j hj];exact World.cell?_of_block (Below.heap_alloc w _ BB hBB)) _ _ _ _ _ _ _ _ _ _ _ _ _ _ _ _ _ _ _ _ _ _ _ _ _ _ _ _ _ _ _ _ _ _ _ _ _ _ _ _ _ _ _ _ _ _ _ _ _ _ _ _ _ _ _ _ _ _ _ _ _ _ _ _ _ _ _ _ _ _ _ _ _ _ _ _ _ _ _ _ _ _ _ _ _ _ _ _ _ _ _ _ _ _ _ _ _ _ _ _ _ _ _ _ _ _ _ _ _ _ _ _ _ _ _ _ _ _ _ _ _ _ _ _ _ _ _ _ _ _ _ _ _ _ _ _ _ _ _ _ _ _ _ _ _ _ _ _ _ _ _ _ _ _ _ _ _ _ _ _ _ _ _ _ _ _ _ _ _ _ _ _ _ _ _ _ _ _ _ _ _ _ _ _ _ _ _ _ _ _ _ _ _ _ _ _ _ _ _ _ _ _ _ _ _ _ _ _ _ _ _ _ _ _ _ _ _ _ _ _ _ _ _ _ _ ?_
 intro t0 t1 t2 t3 t4 t5 t6 t7 t8 t9 t10 t11 t12 t13 t14 t15 t16 t17 t18 t19 t20 t21 t22 t23 t24 t25 t26 t27 t28 t29 t30 t31 t32 t33 t34 t35 t36 t37 t38 t39 t40 t41 t42 t43 W1 cs1 b1 z1 w1 f1;have B1:=Hd b1;have Q1:=Hd w1;have F1:=Hd f1;clear b1 w1 f1
 go_upto_block 2 with fail
 refine cmpL2_any _ _ w.heap.size b _ cs1 B1.out z1 Q1.out _ _ _ _ _ _ _ _ _ _ _ _ _ _ _ _ _ _ _ _ _ _ _ _ _ _ _ _ _ _ _ _ _ _ _ _ _ _ _ _ _ _ _ _ _ _ _ _ _ _ _ _ _ _ _ _ _ _ _ _ _ _ _ _ _ _ _ _ _ _ _ _ _ _ _ _ _ _ _ _ _ _ _ _ _ _ _ _ _ _ _ _ _ _ _ _ _ _ _ _ _ _ _ _ _ _ _ _ _ _ _ _ _ _ _ _ _ _ _ _ _ _ _ _ _ _ _ _ _ _ _ _ _ _ _ _ _ _ _ _ _ _ _ _ _ _ _ _ _ _ _ _ _ _ _ _ _ _ _ _ _ _ _ _ _ _ _ _ _ _ _ _ _ _ _ _ _ _ _ _ _ _ _ _ _ _ _ _ _ _ _ _ _ _ _ _ _ _ _ _ _ _ _ _ _ _ _ _ _ _ _ _ _ _ _ _ _ _ _ _ _ _ _ _ _ _ ?_;intro t0 t1 t2 t3 t4 t5 t6 t7 t8 t9 t10 t11 t12 t13 t14 t15 t16 t17 t18 t19 t20 t21 t22 t23 t24 t25 t26 t27 t28 t29 t30 t31 t32 t33 t34 t35 t36 t37 t38 t39 t40 t41 t42 t43 t44 t45 t46 t47 W2 cs2 b2 z2 w2 f2;have B2:=Hd b2;have Q2:=Hd w2;have hf:Fr [SB] w W2:=(((Fq [] w).alloc _).trans (F1.out.then f2) (by simp)).mono (by simp);have hX:w.heap.size<W2.heap.size:=b2.lt;have F2:=Hd hf;have hne:w.heap.size≠SB:=by have:=HSB.out;omega
 have bS:BoxN W2 SB t cs:=HS.out.fr (((Fq [] w).alloc _).trans (F1.out.then f2) (by simp):Fr [] w W2) (by simp);have HS2:=Hd bS;have hG2:2<W2.heap.size:=by omega
 have e0:W2.cell? ⟨SB,so,none⟩=some (.int .u32 (s 0)):=(bS.c _).trans (Hhs.out 0 (by omega));have e1:W2.cell? ⟨SB,so+1,none⟩=some (.int .u32 (s 1)):=(bS.c _).trans (Hhs.out 1 (by omega));have e2:W2.cell? ⟨SB,so+2,none⟩=some (.int .u32 (s 2)):=(bS.c _).trans (Hhs.out 2 (by omega));have e3:W2.cell? ⟨SB,so+3,none⟩=some (.int .u32 (s 3)):=(bS.c _).trans (Hhs.out 3 (by omega));have e4:W2.cell? ⟨SB,so+4,none⟩=some (.int .u32 (s 4)):=(bS.c _).trans (Hhs.out 4 (by omega));have e5:W2.cell? ⟨SB,so+5,none⟩=some (.int .u32 (s 5)):=(bS.c _).trans (Hhs.out 5 (by omega));have e6:W2.cell? ⟨SB,so+6,none⟩=some (.int .u32 (s 6)):=(bS.c _).trans (Hhs.out 6 (by omega));have e7:W2.cell? ⟨SB,so+7,none⟩=some (.int .u32 (s 7)):=(bS.c _).trans (Hhs.out 7 (by omega))
 have hk2:∀ j,j<64->W2.cell? ⟨2,j,none⟩=some (.int .u32 (kc j)):=fun j hj=>by
  rw[<-Hkc.out j hj];exact World.cell?_of_block ((((Fq [] w).alloc _).trans (F1.out.then f2) (by simp):Fr [] w W2).block 2 hG (by simp))
 have Hk2:=Hd hk2;clear b2 w2 f2 hf bS hk2 F1 B1 Q1 z1
 go_upto_region 13 with fail
 go_quiet (fail)
 revert nq
 intro n1
 go_upto_region 14 with fail
 go_quiet (fail)
 go_upto_block 4 with fail
 refine cmpL3_any _ _ w.heap.size ⟨s 0,s 1,s 2,s 3,s 4,s 5,s 6,s 7⟩ kc (sched b) ((W2.drewN n1).drewN nq) hX hG2 (fun j hj=>(B2.out.c j).trans (Q2.out j hj)) Hk2.out _ _ _ _ _ _ _ _ _ _ _ _ _ _ _ _ _ _ _ _ _ _ _ _ _ _ _ _ _ _ _ _ _ _ _ _ _ _ _ _ _ _ _ _ _ _ _ _ _ _ _ _ _ _ _ _ _ _ _ _ _ _ _ _ _ _ _ _ _ _ _ _ _ _ _ _ _ _ _ _ _ _ _ _ _ _ _ _ _ _ _ _ _ _ _ _ _ _ _ _ _ _ _ _ _ _ _ _ _ _ _ _ _ _ _ _ _ _ _ _ _ _ _ _ _ _ _ _ _ _ _ _ _ _ _ _ _ _ _ _ _ _ _ _ _ _ _ _ _ _ _ _ _ _ _ _ _ _ _ _ _ _ _ _ _ _ _ _ _ _ _ _ _ _ _ _ _ _ _ _ _ _ _ _ _ _ _ _ _ _ _ _ _ _ _ _ _ _ _ _ _ _ _ _ _ _ _ _ _ _ _ _ _ _ _ _ _ _ ?_;intro t0 t1 t2 t3 t4 t5 t6 t7 t8 t9 t10 t11 t12 t13 t14 t15 t16 t17 t18 t19 t20 t21 t22 t23 t24 t25 t26 t27 t28 t29 t30 t31 t32 t33 t34 t35 t36 t37 t38 t39 t40 t41 t42 t43 t44 t45 t46 t47 t48 t49 t50 t51 t52 t53 t54 t55 t56 t57 t58 t59 t60 t61 t62 t63 t64 t65 W3 f3;have hf3:Fr [SB] w W3:=F2.out.then (Fr.of_below (below_of_drewN (below_of_drewN f3)));have bS3:BoxN W3 SB t cs:=HS2.out.later (below_of_drewN (below_of_drewN f3));have F3:=Hd hf3;have HS3:=Hd bS3;clear f3 hf3 bS3 e0 e1 e2 e3 e4 e5 e6 e7 F2;obtain⟨R,hR⟩:=nmd (rounds kc (sched b) 64 ⟨s 0,s 1,s 2,s 3,s 4,s 5,s 6,s 7⟩);rw[hR];have HR:=Hd hR;clear hR
 go_upto_block 6 with fail
 refine cmpL4_any _ SB so t #[.int .u32 R.a,.int .u32 R.b,.int .u32 R.c,.int .u32 R.d,.int .u32 R.e,.int .u32 R.f,.int .u32 R.g,.int .u32 R.h] s R.at _ cs HS3.out hsz Hhs.out (fun j hj=>by
  match j,hj with
  | 0,_=>rfl
  | 1,_=>rfl
  | 2,_=>rfl
  | 3,_=>rfl
  | 4,_=>rfl
  | 5,_=>rfl
  | 6,_=>rfl
  | 7,_=>rfl) _ _ _ _ _ _ _ _ _ _ _ _ _ _ _ _ _ _ _ _ _ _ _ _ _ _ _ _ _ _ _ _ _ _ _ _ _ _ _ _ _ _ _ _ _ _ _ _ _ _ _ _ _ _ _ _ _ _ _ _ _ _ _ _ _ _ _ _ _ _ _ _ _ _ _ _ _ _ _ _ _ _ _ _ _ _ _ _ _ _ _ _ _ _ _ _ _ _ _ _ _ _ _ _ _ _ _ _ _ _ _ _ _ _ _ _ _ _ _ _ _ _ _ _ _ _ _ _ _ _ _ _ _ _ _ _ _ _ _ _ _ _ _ _ _ _ _ _ _ _ _ _ _ _ _ _ _ _ _ _ _ _ _ _ _ _ _ _ _ _ _ _ _ _ _ _ _ _ _ _ _ _ _ _ _ _ _ _ _ _ _ _ _ _ _ _ _ _ _ _ _ _ _ _ _ _ _ _ _ _ _ _ _ _ _ _ _ _ _ _ _ _ _ _ _ ?_
 intro t0 t1 t2 t3 t4 t5 t6 t7 t8 t9 t10 t11 t12 t13 t14 t15 W4 cs4 b4 z4 s4 o4 f4;have B4:=Hd b4;have S4:=Hd s4;have O4:=Hd o4;have F4:=Hd f4;have Z4:=Hd z4;clear b4 s4 o4 f4 z4
 go_wp2_with fail
 go_end0
 refine⟨rfl,cs4,B4.out,Z4.out,fun j hj=>?_,O4.out,F3.out.then F4.out⟩;rw[S4.out j hj];unfold comp;rw[HR.out]
end Go.Proofs.YtlpmiimgacfmkaaGreatDoor
namespace Go.Proofs.YtlpmiimgacfmkaaGreatDoor
open Go.Proofs.Tryz
open Go.RowKit
theorem run_copy_str {P:Program} (w:World) (dT sT ty elem:TypeId) (b o dLen dCap:Nat) (t:ByteArray) (n:Nat)
 (hu:P.underlying dT=some (.slice elem)) (hz:∀ w,(Go.sizeOf elem).run P w=.ok 1 w) (hn:n=Nat.min t.size dLen)
 (hc:∀ j,j<n->(w.cell? ⟨b,o+j,none⟩).isSome=true) (hf:∀ j,j<n->w.frozen? ⟨b,o+j,none⟩=false) :
 (Builtin.copy_ #[dT,sT] ty #[.slice (some ⟨b,o,none⟩) dLen dCap,.string t]).run P w=.ok (goInt n) (w.setCells b o ((t.data.toList.take n).map fun x=>Value.int .u8 (x.toNat:Int))):=by
 have hts:t.data.toList.length=t.size:=by rw[<-Lib.size_eq]
 have hle:n<=t.size:=by rw[hn];exact Nat.min_le_left _ _
 have hl:((t.data.toList.take n).map fun x=>Value.int .u8 (x.toNat:Int)).length=n:=by rw[List.length_map,List.length_take];omega
 have hst:=run_storeCells_cells (P:=P) b o ((t.data.toList.take n).map fun x=>Value.int .u8 (x.toNat:Int)) 0 w (by rw[hl];simpa using hc) (by rw[hl];simpa using hf) (by
  intro v hv;obtain⟨x,_,rfl⟩:=List.mem_map.1 hv;rfl)
 simp[Builtin.copy_,run_underlying hu,Builtin.lenOf,Builtin.firstCells,hz,<-hn];rw[<-List.map_take,hst];rfl
section
variable {S:List Nat} {w w':World} {b:Nat} {t:TypeId} {n:Nat} {f:Nat->Value}
theorem rowIs_fr (h:w.rowIs b t n f) (hf:Fr S w w') (hb:b ∉ S):w'.rowIs b t n f:=h.of_block (hf.block b h.lt hb)
theorem Fr.setCells {a:World} (h:Fr S a w) {p:Nat} (hp:p∈S \/ a.heap.size<=p):∀ (vs:List Value) (o:Nat),Fr S a (w.setCells p o vs):=by
 intro vs
 induction vs generalizing w with
 | nil=>intro o;exact h
 | cons v r ih=>intro o;exact ih (h.set (p:=⟨p,o,none⟩) hp v) (o+1)
theorem size_setCells (w:World) (b:Nat):∀ (vs:List Value) (o:Nat),(w.setCells b o vs).heap.size=w.heap.size:=by
 intro vs
 induction vs generalizing w with
 | nil=>intro o;rfl
 | cons v r ih=>intro o;exact (ih _ _).trans (by simp[World.setCell])
end
end Go.Proofs.YtlpmiimgacfmkaaGreatDoor
