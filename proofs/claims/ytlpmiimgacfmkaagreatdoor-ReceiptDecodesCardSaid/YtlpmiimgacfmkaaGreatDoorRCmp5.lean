/- SHA-256: the loops of a block. -/
import Derived.StillTailTactics
import Derived.Test.YtlpmiimgacfmkaaGreatDoorRCmp3
import Derived.Test.YtlpmiimgacfmkaaGreatDoorRBoxes
set_option linter.all false
namespace Go.Proofs.YtlpmiimgacfmkaaGreatDoor
open Go.RowKit
set_option maxRecDepth 100000
set_option maxHeartbeats 4000000
attribute [local go_sem ↓] Go.wp_at_zero Go.wp_at_succ
theorem run_index_agg {P:Program} (w:World) (t e:TypeId) (n:Nat) (cs:Array Value) (k:IntKind) (i:Nat) (v:Value) (h:P.underlying t=some (.array n e)) (hz:∀ w,(Go.sizeOf e).run P w=.ok 1 w) (ha:∀ w,(isAgg e).run P w=.ok false w) (hn:i<n) (hv:cs[i]?=some v) :
 (Instr.index t (.agg cs) (.int k (i:Int))).run P w=.ok v w:=by
 have hn':0≤(i:Int)∧(i:Int)<(n:Int):=by omega
 simp[Instr.index,run_underlying h,asIntOf,hn',go_sem,hz,ha,hv]
 intro h'
 omega
def word4 (b:Nat→Int) (t:Nat):Int :=
 bits .or .u32 (bits .or .u32 (bits .or .u32 (b (4*t) % 4294967296*16777216 % 4294967296) (b (4*t+1) % 4294967296*65536 % 4294967296)) (b (4*t+2) % 4294967296*256 % 4294967296)) (b (4*t+3) % 4294967296)
def sig0 (x:Int):Int:=bits .xor .u32 (bits .xor .u32 (rotr 7 x) (rotr 18 x)) (x / 8)
def sig1 (y:Int):Int:=bits .xor .u32 (bits .xor .u32 (rotr 17 y) (rotr 19 y)) (y / 1024)
def sched (b:Nat→Int) (t:Nat):Int :=
 if _h:t<16 then word4 b t
 else (sched b (t - 16)+sig0 (sched b (t - 15))+sched b (t - 7)+sig1 (sched b (t - 2))) % 4294967296
termination_by t
theorem sched_lo {b:Nat→Int} {t:Nat} (h:t<16):sched b t=word4 b t:=by rw[sched,dif_pos h]
theorem sched_hi {b:Nat→Int} {t:Nat} (h:¬ t<16):sched b t=(sched b (t - 16)+sig0 (sched b (t - 15))+sched b (t - 7)+sig1 (sched b (t - 2))) % 4294967296:=by rw[sched,dif_neg h]
def CmpR1 (w:World) (X:Nat) (b:Nat→Int) (n m:Nat) (i:Value) (W:World):Prop :=
 ∃ (k:Nat) (cs:Array Value),n≤k∧k≤m∧i=.int .i64 (k:Int)∧BoxN W X 309 cs∧cs.size=64∧(∀ j,j<k→cs[j]?=some (.int .u32 (sched b j)))∧Fr [X] w W
theorem words_step {cs:Array Value} {k:Nat} {b:Nat→Int} {v:Value} (hc:cs.size=64) (hk:k<64) (hv:v=.int .u32 (sched b k)) (h:∀ j,j<k→cs[j]?=some (.int .u32 (sched b j))):∀ j,j<k+1→(cs.setIfInBounds k v)[j]?=some (.int .u32 (sched b j)):=by
 intro j hj
 by_cases e:k=j
 ·subst e
  rw[Array.getElem?_setIfInBounds_self,if_pos (by omega),hv]
 ·rw[Array.getElem?_setIfInBounds_ne e]
  exact h j (by omega)
noncomputable def cmpL1:Code:=((Tryz.f144).body.bind (blockAt 2)).getD .skip
theorem cmpL1_any (KA:Act→World→Prop) (KK:Exit→Act→World→Prop) (X BB bo:Nat) (b:Nat→Int) (w:World) (cs0:Array Value) (bX:BoxN w X 309 cs0) (hcs:cs0.size=64) (hBB:BB<w.heap.size) (hne:BB≠X) (hb:∀ j,j<64→w.cell? ⟨BB,bo+j,none⟩=some (.int .u8 (b j)))
 (u0 u2 u3 u5 u6 u7 u8 u9 u10 u11 u12 u13 u14 u15 u16 u17 u18 u19 u20 u21 u22 u23 u25 u26 u27 u28 u29 u30 u31 u32 u33 u34 u35 u36 u37 u38 u39 u40 u41 u42 u43 u44 u45 u46 u47 u48 u49 u50 u51 u52 u53 u54 u55 u56 u57 u58 u59 u60 u61 u62 u63 u64 u65 u66 u67 u68 u69 u70 u71 u72 u73 u74 u75 u76 u77 u78 u79 u80 u81 u82 u83 u84 u85 u86 u87 u88 u89 u90 u91 u92 u93 u94 u95 u96 u97 u98 u99 u100 u101 u102 u103 u104 u105 u106 u107 u108 u109 u110 u111 u112 u113 u114 u115 u116 u117 u118 u119 u120 u121 u122 u123 u124 u125 u126 u127 u128 u129 u130 u131 u132 u133 u134 u135 u136 u137 u138 u139 u140 u141 u142 u143 u144 u145 u146 u147 u148 u149 u150 u151 u152 u153 u154 u155 u156 u157 u158 u159 u160 u161 u162 u163 u164 u165 u166 u167 u168 u169 u170 u171 u172 u173 u174 u175 u176 u177 u178 u179 u180 u181 u182 u183 u184 u185 u186 u187 u188 u189 u190 u191 u192 u193 u194 u195 u196 u197 u198 u199 u200 u201 u202 u203 u204 u205 u206 u207 u208 u209 u210 u211 u212 u213 u214 u215 u216 u217 u218 u219 u220 u221 u222 u223 u224 u225 u226 u227:Value) (hq:∀ (t5 t24 t25 t26 t27 t28 t29 t30 t31 t32 t33 t34 t35 t36 t37 t38 t39 t40 t41 t42 t43 t44 t45 t46 t47 t48 t49 t50 t51 t52 t53 t54 t55 t56 t57 t58 t59 t60 t61 t62 t63 t64 t65 t66:Value) (W:World),∀ cs:Array Value,BoxN W X 309 cs→cs.size=64→(∀ j,j<16→cs[j]?=some (.int .u32 (sched b j)))→Fr [X] w W→KA ⟨List.toArray (u0::.pointer (some ⟨BB,bo,none⟩)::u2::u3::.pointer (some ⟨X,0,none⟩)::t5::u6::u7::u8::u9::u10::u11::u12::u13::u14::u15::u16::u17::u18::u19::u20::u21::u22::u23::t24::t25::t26::t27::t28::t29::t30::t31::t32::t33::t34::t35::t36::t37::t38::t39::t40::t41::t42::t43::t44::t45::t46::t47::t48::t49::t50::t51::t52::t53::t54::t55::t56::t57::t58::t59::t60::t61::t62::t63::t64::t65::t66::u67::u68::u69::u70::u71::u72::u73::u74::u75::u76::u77::u78::u79::u80::u81::u82::u83::u84::u85::u86::u87::u88::u89::u90::u91::u92::u93::u94::u95::u96::u97::u98::u99::u100::u101::u102::u103::u104::u105::u106::u107::u108::u109::u110::u111::u112::u113::u114::u115::u116::u117::u118::u119::u120::u121::u122::u123::u124::u125::u126::u127::u128::u129::u130::u131::u132::u133::u134::u135::u136::u137::u138::u139::u140::u141::u142::u143::u144::u145::u146::u147::u148::u149::u150::u151::u152::u153::u154::u155::u156::u157::u158::u159::u160::u161::u162::u163::u164::u165::u166::u167::u168::u169::u170::u171::u172::u173::u174::u175::u176::u177::u178::u179::u180::u181::u182::u183::u184::u185::u186::u187::u188::u189::u190::u191::u192::u193::u194::u195::u196::u197::u198::u199::u200::u201::u202::u203::u204::u205::u206::u207::u208::u209::u210::u211::u212::u213::u214::u215::u216::u217::u218::u219::u220::u221::u222::u223::u224::u225::u226::u227::[]),[]⟩ W):Code.wp Tryz.prog cmpL1 (Exit.then KA KK) ⟨List.toArray (u0::.pointer (some ⟨BB,bo,none⟩)::u2::u3::.pointer (some ⟨X,0,none⟩)::u5::u6::u7::u8::u9::u10::u11::u12::u13::u14::u15::u16::u17::u18::u19::u20::u21::u22::u23::.int .i64 0::u25::u26::u27::u28::u29::u30::u31::u32::u33::u34::u35::u36::u37::u38::u39::u40::u41::u42::u43::u44::u45::u46::u47::u48::u49::u50::u51::u52::u53::u54::u55::u56::u57::u58::u59::u60::u61::u62::u63::u64::u65::u66::u67::u68::u69::u70::u71::u72::u73::u74::u75::u76::u77::u78::u79::u80::u81::u82::u83::u84::u85::u86::u87::u88::u89::u90::u91::u92::u93::u94::u95::u96::u97::u98::u99::u100::u101::u102::u103::u104::u105::u106::u107::u108::u109::u110::u111::u112::u113::u114::u115::u116::u117::u118::u119::u120::u121::u122::u123::u124::u125::u126::u127::u128::u129::u130::u131::u132::u133::u134::u135::u136::u137::u138::u139::u140::u141::u142::u143::u144::u145::u146::u147::u148::u149::u150::u151::u152::u153::u154::u155::u156::u157::u158::u159::u160::u161::u162::u163::u164::u165::u166::u167::u168::u169::u170::u171::u172::u173::u174::u175::u176::u177::u178::u179::u180::u181::u182::u183::u184::u185::u186::u187::u188::u189::u190::u191::u192::u193::u194::u195::u196::u197::u198::u199::u200::u201::u202::u203::u204::u205::u206::u207::u208::u209::u210::u211::u212::u213::u214::u215::u216::u217::u218::u219::u220::u221::u222::u223::u224::u225::u226::u227::[]),[]⟩ w:=by
 have HQ:=Hd hq
 clear hq
 conv=>arg 2;whnf
 go_wp2_with fail
 have hne':BB ∉ [X]:=by simpa using hne
 have H0:=Hd bX
 clear bX
 go_loopw [24] (CmpR1 w X b 0 16) (fun i _=>16 - (intOf i).toNat)
 case atStart=>exact⟨0,cs0,by omega,by omega,rfl,H0.out,hcs,fun j hj=>absurd hj (by omega),Fr.refl _ w⟩
 case round =>
  clear hcs
  obtain⟨k,cs,hlo,hk,rfl,bX,hcs,hw,hbr⟩:=hrel
  by_cases hlt:k<16
  ·have hlt':(k:Int)<16:=by omega
   have c0:=(hbr.cell (p:=⟨BB,bo+4*k,none⟩) hBB hne').trans (hb (4*k) (by omega))
   have c1:=(hbr.cell (p:=⟨BB,bo+(4*k+1),none⟩) hBB hne').trans (hb (4*k+1) (by omega))
   have c2:=(hbr.cell (p:=⟨BB,bo+(4*k+2),none⟩) hBB hne').trans (hb (4*k+2) (by omega))
   have c3:=(hbr.cell (p:=⟨BB,bo+(4*k+3),none⟩) hBB hne').trans (hb (4*k+3) (by omega))
   have xk:wr.cell? ⟨X,k,none⟩=some cs[k]:=(bX.c k).trans (Array.getElem?_eq_getElem (by omega))
   have xf:=bX.f k
   go_wp2_with fail
   have q0:IntKind.i64.wrap (4*(k:Int))=4*(k:Int):=by simp only[IntKind.wrap_i64];omega
   have q1:IntKind.i64.wrap (4*(k:Int)+1)=4*(k:Int)+1:=by simp only[IntKind.wrap_i64];omega
   have q2:IntKind.i64.wrap (4*(k:Int)+2)=4*(k:Int)+2:=by simp only[IntKind.wrap_i64];omega
   have q3:IntKind.i64.wrap (4*(k:Int)+3)=4*(k:Int)+3:=by simp only[IntKind.wrap_i64];omega
   have n0:(4*(k:Int)).toNat=4*k:=by omega
   have n1:(4*(k:Int)+1).toNat=4*k+1:=by omega
   have n2:(4*(k:Int)+2).toNat=4*k+2:=by omega
   have n3:(4*(k:Int)+3).toNat=4*k+3:=by omega
   have l0:(0:Int)≤4*(k:Int):=by omega
   have l1:(0:Int)≤4*(k:Int)+1:=by omega
   have l2:(0:Int)≤4*(k:Int)+2:=by omega
   have l3:(0:Int)≤4*(k:Int)+3:=by omega
   have m0:4*(k:Int)<64:=by omega
   have m1:4*(k:Int)+1<64:=by omega
   have m2:4*(k:Int)+2<64:=by omega
   have m3:4*(k:Int)+3<64:=by omega
   have m9:(k:Int)<64:=by omega
   go_still_tail 38,(by kernel_rfl)
   go_wp2_with fail
   go_roundw
   case rel=>exact⟨k+1,_,by omega,by omega,by go_num,bX.setAt k _,by simpa using hcs,words_step hcs (by omega) (by rw[sched_lo hlt];rfl) hw,(hbr.set (p:=⟨X,k,none⟩) (by simp) _).drew⟩
   case measure=>simp[intOf];omega
  ·obtain rfl:k=16:=by omega
   have HB:=Hd bX
   have HW:=Hd hw
   have HF:=Hd hbr
   rw[show ((16:Nat):Int)=16 from rfl]
   go_wp2_with fail
   exact HQ.out _ _ _ _ _ _ _ _ _ _ _ _ _ _ _ _ _ _ _ _ _ _ _ _ _ _ _ _ _ _ _ _ _ _ _ _ _ _ _ _ _ _ _ _ wr _ HB.out hcs HW.out HF.out
noncomputable def cmpL2:Code:=((Tryz.f144).body.bind (blockAt 7)).getD .skip
theorem cmpL2_any (KA:Act→World→Prop) (KK:Exit→Act→World→Prop) (X:Nat) (b:Nat→Int) (w:World) (cs0:Array Value) (bX:BoxN w X 309 cs0) (hcs:cs0.size=64) (hw0:∀ j,j<16→cs0[j]?=some (.int .u32 (sched b j)))
 (u0 u1 u2 u3 u5 u7 u8 u9 u10 u11 u12 u13 u14 u15 u16 u17 u18 u19 u20 u21 u22 u23 u24 u25 u26 u27 u28 u29 u30 u31 u32 u33 u34 u35 u36 u37 u38 u39 u40 u41 u42 u43 u44 u45 u46 u47 u48 u49 u50 u51 u52 u53 u54 u55 u56 u57 u58 u59 u60 u61 u62 u63 u64 u65 u66 u67 u68 u69 u70 u71 u72 u73 u74 u75 u76 u77 u78 u79 u80 u81 u82 u83 u84 u85 u86 u87 u88 u89 u90 u91 u92 u93 u94 u95 u96 u97 u98 u99 u100 u101 u102 u103 u104 u105 u106 u107 u108 u109 u110 u111 u112 u113 u114 u115 u116 u117 u118 u119 u120 u121 u122 u123 u124 u125 u126 u127 u128 u129 u130 u131 u132 u133 u134 u135 u136 u137 u138 u139 u140 u141 u142 u143 u144 u145 u146 u147 u148 u149 u150 u151 u152 u153 u154 u155 u156 u157 u158 u159 u160 u161 u162 u163 u164 u165 u166 u167 u168 u169 u170 u171 u172 u173 u174 u175 u176 u177 u178 u179 u180 u181 u182 u183 u184 u185 u186 u187 u188 u189 u190 u191 u192 u193 u194 u195 u196 u197 u198 u199 u200 u201 u202 u203 u204 u205 u206 u207 u208 u209 u210 u211 u212 u213 u214 u215 u216 u217 u218 u219 u220 u221 u222 u223 u224 u225 u226 u227:Value) (hq:∀ (t6 t7 t8 t9 t10 t67 t68 t69 t70 t71 t72 t73 t74 t75 t76 t77 t78 t79 t80 t81 t82 t83 t84 t85 t86 t87 t88 t89 t90 t91 t92 t93 t94 t95 t96 t97 t98 t99 t100 t101 t102 t103 t104 t105 t106 t107 t108 t109:Value) (W:World),∀ cs:Array Value,BoxN W X 309 cs→cs.size=64→(∀ j,j<64→cs[j]?=some (.int .u32 (sched b j)))→Fr [X] w W→KA ⟨List.toArray (u0::u1::u2::u3::.pointer (some ⟨X,0,none⟩)::u5::t6::t7::t8::t9::t10::u11::u12::u13::u14::u15::u16::u17::u18::u19::u20::u21::u22::u23::u24::u25::u26::u27::u28::u29::u30::u31::u32::u33::u34::u35::u36::u37::u38::u39::u40::u41::u42::u43::u44::u45::u46::u47::u48::u49::u50::u51::u52::u53::u54::u55::u56::u57::u58::u59::u60::u61::u62::u63::u64::u65::u66::t67::t68::t69::t70::t71::t72::t73::t74::t75::t76::t77::t78::t79::t80::t81::t82::t83::t84::t85::t86::t87::t88::t89::t90::t91::t92::t93::t94::t95::t96::t97::t98::t99::t100::t101::t102::t103::t104::t105::t106::t107::t108::t109::u110::u111::u112::u113::u114::u115::u116::u117::u118::u119::u120::u121::u122::u123::u124::u125::u126::u127::u128::u129::u130::u131::u132::u133::u134::u135::u136::u137::u138::u139::u140::u141::u142::u143::u144::u145::u146::u147::u148::u149::u150::u151::u152::u153::u154::u155::u156::u157::u158::u159::u160::u161::u162::u163::u164::u165::u166::u167::u168::u169::u170::u171::u172::u173::u174::u175::u176::u177::u178::u179::u180::u181::u182::u183::u184::u185::u186::u187::u188::u189::u190::u191::u192::u193::u194::u195::u196::u197::u198::u199::u200::u201::u202::u203::u204::u205::u206::u207::u208::u209::u210::u211::u212::u213::u214::u215::u216::u217::u218::u219::u220::u221::u222::u223::u224::u225::u226::u227::[]),[]⟩ W):Code.wp Tryz.prog cmpL2 (Exit.then KA KK) ⟨List.toArray (u0::u1::u2::u3::.pointer (some ⟨X,0,none⟩)::u5::.int .i64 16::u7::u8::u9::u10::u11::u12::u13::u14::u15::u16::u17::u18::u19::u20::u21::u22::u23::u24::u25::u26::u27::u28::u29::u30::u31::u32::u33::u34::u35::u36::u37::u38::u39::u40::u41::u42::u43::u44::u45::u46::u47::u48::u49::u50::u51::u52::u53::u54::u55::u56::u57::u58::u59::u60::u61::u62::u63::u64::u65::u66::u67::u68::u69::u70::u71::u72::u73::u74::u75::u76::u77::u78::u79::u80::u81::u82::u83::u84::u85::u86::u87::u88::u89::u90::u91::u92::u93::u94::u95::u96::u97::u98::u99::u100::u101::u102::u103::u104::u105::u106::u107::u108::u109::u110::u111::u112::u113::u114::u115::u116::u117::u118::u119::u120::u121::u122::u123::u124::u125::u126::u127::u128::u129::u130::u131::u132::u133::u134::u135::u136::u137::u138::u139::u140::u141::u142::u143::u144::u145::u146::u147::u148::u149::u150::u151::u152::u153::u154::u155::u156::u157::u158::u159::u160::u161::u162::u163::u164::u165::u166::u167::u168::u169::u170::u171::u172::u173::u174::u175::u176::u177::u178::u179::u180::u181::u182::u183::u184::u185::u186::u187::u188::u189::u190::u191::u192::u193::u194::u195::u196::u197::u198::u199::u200::u201::u202::u203::u204::u205::u206::u207::u208::u209::u210::u211::u212::u213::u214::u215::u216::u217::u218::u219::u220::u221::u222::u223::u224::u225::u226::u227::[]),[]⟩ w:=by
 have HQ:=Hd hq
 clear hq
 conv=>arg 2;whnf
 go_wp2_with fail
 have H0:=Hd bX
 have H1:=Hd hw0
 clear bX hw0
 go_loopw [6] (CmpR1 w X b 16 64) (fun i _=>64 - (intOf i).toNat)
 case atStart=>exact⟨16,cs0,by omega,by omega,rfl,H0.out,hcs,H1.out,Fr.refl _ w⟩
 case round =>
  clear hcs
  obtain⟨k,cs,hlo,hk,rfl,bX,hcs,hw,hbr⟩:=hrel
  by_cases hlt:k<64
  ·have hlt':(k:Int)<64:=by omega
   have x1:wr.cell? ⟨X,k - 15,none⟩=some (.int .u32 (sched b (k - 15))):=(bX.c _).trans (hw _ (by omega))
   have x2:wr.cell? ⟨X,k - 2,none⟩=some (.int .u32 (sched b (k - 2))):=(bX.c _).trans (hw _ (by omega))
   have x3:wr.cell? ⟨X,k - 16,none⟩=some (.int .u32 (sched b (k - 16))):=(bX.c _).trans (hw _ (by omega))
   have x4:wr.cell? ⟨X,k - 7,none⟩=some (.int .u32 (sched b (k - 7))):=(bX.c _).trans (hw _ (by omega))
   have xk:wr.cell? ⟨X,k,none⟩=some cs[k]:=(bX.c k).trans (Array.getElem?_eq_getElem (by omega))
   have xf:=bX.f k
   go_wp2_with fail
   have q1:IntKind.i64.wrap ((k:Int) - 15)=(k:Int) - 15:=by simp only[IntKind.wrap_i64];omega
   have q2:IntKind.i64.wrap ((k:Int) - 2)=(k:Int) - 2:=by simp only[IntKind.wrap_i64];omega
   have q3:IntKind.i64.wrap ((k:Int) - 16)=(k:Int) - 16:=by simp only[IntKind.wrap_i64];omega
   have q4:IntKind.i64.wrap ((k:Int) - 7)=(k:Int) - 7:=by simp only[IntKind.wrap_i64];omega
   have n1:((k:Int) - 15).toNat=k - 15:=by omega
   have n2:((k:Int) - 2).toNat=k - 2:=by omega
   have n3:((k:Int) - 16).toNat=k - 16:=by omega
   have n4:((k:Int) - 7).toNat=k - 7:=by omega
   have l1:(0:Int)≤(k:Int) - 15:=by omega
   have l2:(0:Int)≤(k:Int) - 2:=by omega
   have l3:(0:Int)≤(k:Int) - 16:=by omega
   have l4:(0:Int)≤(k:Int) - 7:=by omega
   have j1:(15:Int)≤(k:Int):=by omega
   have j2:(2:Int)≤(k:Int):=by omega
   have j3:(16:Int)≤(k:Int):=by omega
   have j4:(7:Int)≤(k:Int):=by omega
   have m1:(k:Int) - 15<64:=by omega
   have m2:(k:Int) - 2<64:=by omega
   have m3:(k:Int) - 16<64:=by omega
   have m4:(k:Int) - 7<64:=by omega
   go_quiet (fail)
   go_wp2_with (first | (go_at_call 182;with_reducible refine (right_7 _ _).mono ?_;rintro e w6 ⟨rfl,rfl⟩) | (go_at_call 182;with_reducible refine (right_18 _ _).mono ?_;rintro e w6 ⟨rfl,rfl⟩) | (go_at_call 182;with_reducible refine (right_17 _ _).mono ?_;rintro e w6 ⟨rfl,rfl⟩) | (go_at_call 182;with_reducible refine (right_19 _ _).mono ?_;rintro e w6 ⟨rfl,rfl⟩))
   obtain⟨W1,hW⟩:=nmd (wr.drewN nq)
   rw[hW]
   have y3:W1.cell? ⟨X,k - 16,none⟩=some (.int .u32 (sched b (k - 16))):=by rw[←hW];exact x3
   have y4:W1.cell? ⟨X,k - 7,none⟩=some (.int .u32 (sched b (k - 7))):=by rw[←hW];exact x4
   have yk:W1.cell? ⟨X,k,none⟩=some cs[k]:=by rw[←hW];exact xk
   have yf:W1.frozen? ⟨X,k,none⟩=false:=by rw[←hW];exact xf
   have bY:BoxN W1 X 309 cs:=by rw[←hW];exact bX.drewN nq
   have hbY:Fr [X] w W1:=by rw[←hW];exact hbr.drewN nq
   have HBY:=Hd bY
   have HW:=Hd hw
   have HCS:=Hd hcs
   clear hW bX hbr x1 x2 x3 x4 xk xf bY hw
   go_still_tail 14,(by kernel_rfl)
   go_wp2_with fail
   go_roundw
   case rel=>exact⟨k+1,_,by omega,by omega,by go_num,HBY.out.setAt k _,by simpa using HCS.out,words_step HCS.out (by omega) (by rw[sched_hi (t:=k) (by omega)];rfl) HW.out,hbY.drew.set (p:=⟨X,k,none⟩) (by simp) _⟩
   case measure=>simp[intOf];omega
  ·obtain rfl:k=64:=by omega
   have HB:=Hd bX
   have HW:=Hd hw
   have HF:=Hd hbr
   rw[show ((64:Nat):Int)=64 from rfl]
   go_wp2_with fail
   exact HQ.out _ _ _ _ _ _ _ _ _ _ _ _ _ _ _ _ _ _ _ _ _ _ _ _ _ _ _ _ _ _ _ _ _ _ _ _ _ _ _ _ _ _ _ _ _ _ _ _ wr _ HB.out hcs HW.out HF.out
def CmpR4 (w:World) (SB so:Nat) (t:TypeId) (cs0:Array Value) (s:Nat→Int) (x:Nat→Int) (i:Value) (W:World):Prop :=
 ∃ (k:Nat) (cs:Array Value),k≤8∧i=.int .i64 (k:Int)∧BoxN W SB t cs∧cs.size=cs0.size∧(∀ j,j<8→cs[so+j]?=some (.int .u32 (if j<k then (s j+x j) % 4294967296 else s j)))∧(∀ o,(o<so ∨ so+8≤o)→cs[o]?=cs0[o]?)∧Fr [SB] w W
theorem state_step {cs:Array Value} {so k:Nat} {s x:Nat→Int} {v:Value} (hsz:so+8≤cs.size) (hk:k<8) (hv:v=.int .u32 ((s k+x k) % 4294967296)) (h:∀ j,j<8→cs[so+j]?=some (.int .u32 (if j<k then (s j+x j) % 4294967296 else s j))):∀ j,j<8→(cs.setIfInBounds (so+k) v)[so+j]?=some (.int .u32 (if j<k+1 then (s j+x j) % 4294967296 else s j)):=by
 intro j hj
 by_cases e:k=j
 ·subst e
  rw[Array.getElem?_setIfInBounds_self,if_pos (by omega),hv,if_pos (by omega)]
 ·rw[Array.getElem?_setIfInBounds_ne (by omega),h j hj]
  by_cases hjk:j<k
  ·rw[if_pos hjk,if_pos (by omega)]
  ·rw[if_neg hjk,if_neg (by omega)]
theorem state_other {cs cs0:Array Value} {so k:Nat} {v:Value} (hk:k<8) (h:∀ o,(o<so ∨ so+8≤o)→cs[o]?=cs0[o]?):∀ o,(o<so ∨ so+8≤o)→(cs.setIfInBounds (so+k) v)[o]?=cs0[o]?:=by
 intro o ho
 rw[Array.getElem?_setIfInBounds_ne (by omega)]
 exact h o ho
noncomputable def cmpL4:Code:=((Tryz.f144).body.bind (blockAt 23)).getD .skip
theorem cmpL4_any (Q:Exit→Act→World→Prop) (SB so:Nat) (t:TypeId) (arr:Array Value) (s x:Nat→Int) (w:World) (cs0:Array Value) (bS:BoxN w SB t cs0) (hsz:so+8≤cs0.size) (hs:∀ j,j<8→cs0[so+j]?=some (.int .u32 (s j))) (hx:∀ j,j<8→arr[j]?=some (.int .u32 (x j)))
 (u1 u2 u3 u4 u5 u6 u7 u8 u9 u10 u11 u12 u13 u14 u15 u16 u17 u18 u19 u20 u21 u22 u23 u24 u25 u26 u27 u28 u29 u30 u31 u32 u33 u34 u35 u36 u37 u38 u39 u40 u41 u42 u43 u44 u45 u46 u47 u48 u49 u50 u51 u52 u53 u54 u55 u56 u57 u58 u59 u60 u61 u62 u63 u64 u65 u66 u67 u68 u69 u70 u71 u72 u73 u74 u75 u76 u77 u78 u79 u80 u81 u82 u83 u84 u85 u86 u87 u88 u89 u90 u91 u92 u93 u94 u95 u96 u97 u98 u99 u100 u101 u102 u103 u104 u105 u106 u107 u108 u109 u110 u111 u112 u113 u114 u115 u116 u117 u118 u119 u120 u121 u122 u123 u124 u125 u126 u127 u128 u129 u130 u131 u132 u133 u134 u135 u136 u137 u138 u139 u140 u141 u142 u143 u144 u145 u146 u147 u148 u149 u150 u151 u152 u153 u154 u155 u156 u157 u158 u159 u160 u161 u162 u163 u164 u165 u166 u167 u168 u169 u170 u171 u172 u173 u174 u175 u176 u177 u178 u179 u180 u181 u182 u183 u184 u185 u186 u187 u188 u189 u190 u191 u192 u193 u194 u195 u196 u197 u198 u199 u200 u201 u202 u203 u204 u205 u206 u207 u208 u209 u210 u211 u212 u215 u216 u217 u218 u219 u220 u221 u222 u223 u224 u225 u226 u227:Value) (hq:∀ (t22 t23 t214 t215 t216 t217 t218 t219 t220 t221 t222 t223 t224 t225 t226 t227:Value) (W:World),∀ cs:Array Value,BoxN W SB t cs→cs.size=cs0.size→(∀ j,j<8→cs[so+j]?=some (.int .u32 ((s j+x j) % 4294967296)))→(∀ o,(o<so ∨ so+8≤o)→cs[o]?=cs0[o]?)→Fr [SB] w W→Q .normal ⟨List.toArray (.pointer (some ⟨SB,so,none⟩)::u1::u2::u3::u4::u5::u6::u7::u8::u9::u10::u11::u12::u13::u14::u15::u16::u17::u18::u19::u20::u21::t22::t23::u24::u25::u26::u27::u28::u29::u30::u31::u32::u33::u34::u35::u36::u37::u38::u39::u40::u41::u42::u43::u44::u45::u46::u47::u48::u49::u50::u51::u52::u53::u54::u55::u56::u57::u58::u59::u60::u61::u62::u63::u64::u65::u66::u67::u68::u69::u70::u71::u72::u73::u74::u75::u76::u77::u78::u79::u80::u81::u82::u83::u84::u85::u86::u87::u88::u89::u90::u91::u92::u93::u94::u95::u96::u97::u98::u99::u100::u101::u102::u103::u104::u105::u106::u107::u108::u109::u110::u111::u112::u113::u114::u115::u116::u117::u118::u119::u120::u121::u122::u123::u124::u125::u126::u127::u128::u129::u130::u131::u132::u133::u134::u135::u136::u137::u138::u139::u140::u141::u142::u143::u144::u145::u146::u147::u148::u149::u150::u151::u152::u153::u154::u155::u156::u157::u158::u159::u160::u161::u162::u163::u164::u165::u166::u167::u168::u169::u170::u171::u172::u173::u174::u175::u176::u177::u178::u179::u180::u181::u182::u183::u184::u185::u186::u187::u188::u189::u190::u191::u192::u193::u194::u195::u196::u197::u198::u199::u200::u201::u202::u203::u204::u205::u206::u207::u208::u209::u210::u211::u212::.agg arr::t214::t215::t216::t217::t218::t219::t220::t221::t222::t223::t224::t225::t226::t227::[]),[]⟩ W):Code.wp Tryz.prog cmpL4 Q ⟨List.toArray (.pointer (some ⟨SB,so,none⟩)::u1::u2::u3::u4::u5::u6::u7::u8::u9::u10::u11::u12::u13::u14::u15::u16::u17::u18::u19::u20::u21::u22::u23::u24::u25::u26::u27::u28::u29::u30::u31::u32::u33::u34::u35::u36::u37::u38::u39::u40::u41::u42::u43::u44::u45::u46::u47::u48::u49::u50::u51::u52::u53::u54::u55::u56::u57::u58::u59::u60::u61::u62::u63::u64::u65::u66::u67::u68::u69::u70::u71::u72::u73::u74::u75::u76::u77::u78::u79::u80::u81::u82::u83::u84::u85::u86::u87::u88::u89::u90::u91::u92::u93::u94::u95::u96::u97::u98::u99::u100::u101::u102::u103::u104::u105::u106::u107::u108::u109::u110::u111::u112::u113::u114::u115::u116::u117::u118::u119::u120::u121::u122::u123::u124::u125::u126::u127::u128::u129::u130::u131::u132::u133::u134::u135::u136::u137::u138::u139::u140::u141::u142::u143::u144::u145::u146::u147::u148::u149::u150::u151::u152::u153::u154::u155::u156::u157::u158::u159::u160::u161::u162::u163::u164::u165::u166::u167::u168::u169::u170::u171::u172::u173::u174::u175::u176::u177::u178::u179::u180::u181::u182::u183::u184::u185::u186::u187::u188::u189::u190::u191::u192::u193::u194::u195::u196::u197::u198::u199::u200::u201::u202::u203::u204::u205::u206::u207::u208::u209::u210::u211::u212::.agg arr::.int .i64 0::u215::u216::u217::u218::u219::u220::u221::u222::u223::u224::u225::u226::u227::[]),[]⟩ w:=by
 have HQ:=Hd hq
 clear hq
 conv=>arg 2;whnf
 go_wp2_with fail
 have H0:=Hd bS
 have H1:=Hd hs
 have H2:=Hd hx
 clear bS hs hx
 go_loopw [214] (CmpR4 w SB so t cs0 s x) (fun i _=>8 - (intOf i).toNat)
 case atStart=>exact⟨0,cs0,by omega,rfl,H0.out,rfl,fun j hj=>by rw[if_neg (by omega)];exact H1.out j hj,fun _ _=>rfl,Fr.refl _ w⟩
 case round =>
  obtain⟨k,cs,hk,rfl,bX,hcs,hw,ho,hbr⟩:=hrel
  by_cases hlt:k<8
  ·have hlt':(k:Int)<8:=by omega
   have hxk:=run_index_agg (P:=Tryz.prog) wr 162 161 8 arr .i64 k _ (by kernel_rfl) (fun _=>by rfl) (fun _=>by rfl) hlt (H2.out k hlt)
   have xk:wr.cell? ⟨SB,so+k,none⟩=some (.int .u32 (s k)):=by have:=(bX.c (so+k)).trans (hw k hlt);rwa [if_neg (by omega)] at this
   have xf:=bX.f (so+k)
   have HCS:=Hd hcs
   have HO:=Hd ho
   have HW:=Hd hw
   clear hcs ho hw
   go_wp2_with fail
   have m9:(k:Int)<8:=by omega
   go_still_tail 8,(by kernel_rfl)
   go_wp2_with fail
   go_roundw
   case rel=>exact⟨k+1,_,by omega,by go_num,bX.setAt (so+k) _,by simpa using HCS.out,state_step (by have:=HCS.out;omega) hlt rfl HW.out,state_other hlt HO.out,(hbr.set (p:=⟨SB,so+k,none⟩) (by simp) _).drew⟩
   case measure=>simp[intOf];omega
  ·obtain rfl:k=8:=by omega
   have HB:=Hd bX
   have HW:=Hd hw
   have HF:=Hd hbr
   have HCS:=Hd hcs
   have HO:=Hd ho
   clear bX hw hbr hcs ho
   rw[show ((8:Nat):Int)=8 from rfl]
   go_wp2_with fail
   exact HQ.out _ _ _ _ _ _ _ _ _ _ _ _ _ _ _ _ wr _ HB.out HCS.out (fun j hj=>by have:=HW.out j hj;rwa [if_pos hj] at this) HO.out HF.out
end Go.Proofs.YtlpmiimgacfmkaaGreatDoor
