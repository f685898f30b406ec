/- SHA-256: the rounds. -/
import Derived.Deep.DrawnRows
import Derived.Deep.RegionHeld3
import Derived.BigQuiet
import Derived.Test.YtlpmiimgacfmkaaGreatDoorRRot
import Derived.Test.YtlpmiimgacfmkaaGreatDoorRBoxes
set_option linter.all false
namespace Go.Proofs.YtlpmiimgacfmkaaGreatDoor
open Go.RowKit
set_option maxRecDepth 100000
set_option maxHeartbeats 4000000
attribute [local go_sem ↓] Go.wp_at_zero Go.wp_at_succ
def headReg:Code→Option Nat
 | .region k _ _=>some k
 | .seq a _=>headReg a
 | .block _ c=>headReg c
 | .scope c=>headReg c
 | .loop c=>headReg c
 | _=>none
def fromReg (n:Nat):Code→Option Code
 | .seq a b=>if headReg a=some n then some (.seq a b) else match fromReg n b with
  | some c=>some c
  | none=>fromReg n a
 | .block _ c=>fromReg n c
 | .scope c=>fromReg n c
 | .loop c=>fromReg n c
 | _=>none
end Go.Proofs.YtlpmiimgacfmkaaGreatDoor
namespace Go.Proofs.YtlpmiimgacfmkaaGreatDoor
open Go.RowKit
set_option maxRecDepth 100000
set_option maxHeartbeats 4000000
attribute [local go_sem ↓] Go.wp_at_zero Go.wp_at_succ
def blockAt (n:Nat):Code→Option Code
 | .seq a b=>match blockAt n a with
  | some c=>some c
  | none=>blockAt n b
 | .block i c=>if headReg c=some n then some (.block i c) else blockAt n c
 | .scope c=>blockAt n c
 | .loop c=>blockAt n c
 | _=>none
noncomputable def cmpL3:Code:=((Tryz.f144).body.bind (blockAt 16)).getD .skip
structure H8 where
 a:Int
 b:Int
 c:Int
 d:Int
 e:Int
 f:Int
 g:Int
 h:Int
def sumP (s:H8) (g x:Int):Int :=
 (s.h+bits .xor .u32 (bits .xor .u32 (rotr 6 s.e) (rotr 11 s.e)) (rotr 25 s.e)+bits .xor .u32 (bits .and .u32 s.e s.f) (bits .and .u32 (bits .xor .u32 (if IntKind.u32.signed=true then -1 else IntKind.u32.max) s.e) s.g)+g+x) % 4294967296
def sumQ (s:H8):Int :=
 (bits .xor .u32 (bits .xor .u32 (rotr 2 s.a) (rotr 13 s.a)) (rotr 22 s.a)+bits .xor .u32 (bits .xor .u32 (bits .and .u32 s.a s.b) (bits .and .u32 s.a s.c)) (bits .and .u32 s.b s.c)) % 4294967296
def rnd (g x:Int) (s:H8):H8:=⟨(sumP s g x+sumQ s) % 4294967296,s.a,s.b,s.c,(s.d+sumP s g x) % 4294967296,s.e,s.f,s.g⟩
def rounds (g x:Nat→Int):Nat→H8→H8
 | 0,s=>s
 | k+1,s=>rnd (g k) (x k) (rounds g x k s)
def CmpR3 (w:World) (g x:Nat→Int) (s0:H8) (i v1 v2 v3 v4 v5 v6 v7 v8:Value) (W:World):Prop :=
 ∃ (k:Nat) (s:H8),k≤64∧i=.int .i64 (k:Int)∧s=rounds g x k s0∧v1=.int .u32 s.a∧v2=.int .u32 s.b∧v3=.int .u32 s.c∧v4=.int .u32 s.d∧v5=.int .u32 s.e∧v6=.int .u32 s.f∧v7=.int .u32 s.g∧v8=.int .u32 s.h∧Below w.heap.size w W
theorem cmpL3_any (KA:Act→World→Prop) (KK:Exit→Act→World→Prop) (X:Nat) (s0:H8) (g x:Nat→Int) (w:World) (hX:X<w.heap.size) (hG:2<w.heap.size) (hx:∀ j,j<64→w.cell? ⟨X,j,none⟩=some (.int .u32 (x j))) (hg:∀ j,j<64→w.cell? ⟨2,j,none⟩=some (.int .u32 (g j)))
 (u0 u1 u2 u3 u5 u6 u7 u8 u9 u10 u19 u20 u21 u22 u23 u24 u25 u26 u27 u28 u29 u30 u31 u32 u33 u34 u35 u36 u37 u38 u39 u40 u41 u42 u43 u44 u45 u46 u47 u48 u49 u50 u51 u52 u53 u54 u55 u56 u57 u58 u59 u60 u61 u62 u63 u64 u65 u66 u67 u68 u69 u70 u71 u72 u73 u74 u75 u76 u77 u78 u79 u80 u81 u82 u83 u84 u85 u86 u87 u88 u89 u90 u91 u92 u93 u94 u95 u96 u97 u98 u99 u100 u101 u102 u103 u104 u105 u106 u107 u108 u109 u110 u111 u112 u113 u114 u115 u116 u117 u118 u119 u120 u121 u122 u123 u124 u125 u126 u127 u128 u129 u130 u131 u132 u133 u134 u135 u136 u137 u138 u139 u140 u141 u143 u144 u145 u146 u147 u148 u149 u150 u151 u152 u153 u154 u155 u156 u157 u158 u159 u160 u161 u162 u163 u164 u165 u166 u167 u168 u169 u170 u171 u172 u173 u174 u175 u176 u177 u178 u179 u180 u181 u182 u183 u184 u185 u186 u187 u188 u189 u190 u191 u192 u193 u194 u195 u196 u197 u198 u199 u200 u201 u202 u203 u204 u205 u206 u207 u208 u209 u210 u211 u212 u213 u214 u215 u216 u217 u218 u219 u220 u221 u222 u223 u224 u225 u226 u227:Value) (hq:∀ (t19 t20 t21 t142 t143 t144 t145 t146 t147 t148 t149 t150 t151 t152 t153 t154 t155 t156 t157 t158 t159 t160 t161 t162 t163 t164 t165 t166 t167 t168 t169 t170 t171 t172 t173 t174 t175 t176 t177 t178 t179 t180 t181 t182 t183 t184 t185 t186 t187 t188 t189 t190 t191 t192 t193 t194 t195 t196 t197 t198 t199 t200 t201 t202 t203 t204:Value) (W:World),Below w.heap.size w W→KA ⟨List.toArray (u0::u1::u2::u3::.pointer (some ⟨X,0,none⟩)::u5::u6::u7::u8::u9::u10::.int .u32 (rounds g x 64 s0).a::.int .u32 (rounds g x 64 s0).b::.int .u32 (rounds g x 64 s0).c::.int .u32 (rounds g x 64 s0).d::.int .u32 (rounds g x 64 s0).e::.int .u32 (rounds g x 64 s0).f::.int .u32 (rounds g x 64 s0).g::.int .u32 (rounds g x 64 s0).h::t19::t20::t21::u22::u23::u24::u25::u26::u27::u28::u29::u30::u31::u32::u33::u34::u35::u36::u37::u38::u39::u40::u41::u42::u43::u44::u45::u46::u47::u48::u49::u50::u51::u52::u53::u54::u55::u56::u57::u58::u59::u60::u61::u62::u63::u64::u65::u66::u67::u68::u69::u70::u71::u72::u73::u74::u75::u76::u77::u78::u79::u80::u81::u82::u83::u84::u85::u86::u87::u88::u89::u90::u91::u92::u93::u94::u95::u96::u97::u98::u99::u100::u101::u102::u103::u104::u105::u106::u107::u108::u109::u110::u111::u112::u113::u114::u115::u116::u117::u118::u119::u120::u121::u122::u123::u124::u125::u126::u127::u128::u129::u130::u131::u132::u133::u134::u135::u136::u137::u138::u139::u140::u141::t142::t143::t144::t145::t146::t147::t148::t149::t150::t151::t152::t153::t154::t155::t156::t157::t158::t159::t160::t161::t162::t163::t164::t165::t166::t167::t168::t169::t170::t171::t172::t173::t174::t175::t176::t177::t178::t179::t180::t181::t182::t183::t184::t185::t186::t187::t188::t189::t190::t191::t192::t193::t194::t195::t196::t197::t198::t199::t200::t201::t202::t203::t204::u205::u206::u207::u208::u209::u210::u211::u212::u213::u214::u215::u216::u217::u218::u219::u220::u221::u222::u223::u224::u225::u226::u227::[]),[]⟩ W):Code.wp Tryz.prog cmpL3 (Exit.then KA KK) ⟨List.toArray (u0::u1::u2::u3::.pointer (some ⟨X,0,none⟩)::u5::u6::u7::u8::u9::u10::.int .u32 s0.a::.int .u32 s0.b::.int .u32 s0.c::.int .u32 s0.d::.int .u32 s0.e::.int .u32 s0.f::.int .u32 s0.g::.int .u32 s0.h::u19::u20::u21::u22::u23::u24::u25::u26::u27::u28::u29::u30::u31::u32::u33::u34::u35::u36::u37::u38::u39::u40::u41::u42::u43::u44::u45::u46::u47::u48::u49::u50::u51::u52::u53::u54::u55::u56::u57::u58::u59::u60::u61::u62::u63::u64::u65::u66::u67::u68::u69::u70::u71::u72::u73::u74::u75::u76::u77::u78::u79::u80::u81::u82::u83::u84::u85::u86::u87::u88::u89::u90::u91::u92::u93::u94::u95::u96::u97::u98::u99::u100::u101::u102::u103::u104::u105::u106::u107::u108::u109::u110::u111::u112::u113::u114::u115::u116::u117::u118::u119::u120::u121::u122::u123::u124::u125::u126::u127::u128::u129::u130::u131::u132::u133::u134::u135::u136::u137::u138::u139::u140::u141::.int .i64 0::u143::u144::u145::u146::u147::u148::u149::u150::u151::u152::u153::u154::u155::u156::u157::u158::u159::u160::u161::u162::u163::u164::u165::u166::u167::u168::u169::u170::u171::u172::u173::u174::u175::u176::u177::u178::u179::u180::u181::u182::u183::u184::u185::u186::u187::u188::u189::u190::u191::u192::u193::u194::u195::u196::u197::u198::u199::u200::u201::u202::u203::u204::u205::u206::u207::u208::u209::u210::u211::u212::u213::u214::u215::u216::u217::u218::u219::u220::u221::u222::u223::u224::u225::u226::u227::[]),[]⟩ w:=by
 conv=>arg 2;whnf
 go_wp2_with fail
 go_loopw [142,11,12,13,14,15,16,17,18] (CmpR3 w g x s0) (fun i _ _ _ _ _ _ _ _ _=>64 - (intOf i).toNat)
 case atStart=>exact⟨0,s0,by omega,rfl,rfl,rfl,rfl,rfl,rfl,rfl,rfl,rfl,rfl,Below.refl _ w⟩
 case round =>
  obtain⟨k,s,hk,rfl,hs,rfl,rfl,rfl,rfl,rfl,rfl,rfl,rfl,hbr⟩:=hrel
  have HS:=Hd hs
  clear hs
  by_cases hlt:k<64
  ·have hlt':(k:Int)<64:=by omega
   have xk:=(hbr.cell (p:=⟨X,k,none⟩) hX).trans (hx k hlt)
   have xg:=(hbr.cell (p:=⟨2,k,none⟩) hG).trans (hg k hlt)
   go_wp2_with fail
   go_quiet (first | (go_at_call 182;with_reducible exact Calls.quiet_of_same (right_6 _ _)) | (go_at_call 182;with_reducible exact Calls.quiet_of_same (right_11 _ _)) | (go_at_call 182;with_reducible exact Calls.quiet_of_same (right_25 _ _)))
   go_wp2_with (first | (go_at_call 182;with_reducible refine (right_2 _ _).mono ?_;rintro e w6 ⟨rfl,rfl⟩) | (go_at_call 182;with_reducible refine (right_13 _ _).mono ?_;rintro e w6 ⟨rfl,rfl⟩) | (go_at_call 182;with_reducible refine (right_22 _ _).mono ?_;rintro e w6 ⟨rfl,rfl⟩))
   go_roundw
   case rel=>exact⟨k+1,rnd (g k) (x k) s,by omega,by go_num,by rw[HS.out];rfl,rfl,rfl,rfl,rfl,rfl,rfl,rfl,rfl,below_drewN hbr _⟩
   case measure=>simp[intOf];omega
  ·obtain rfl:k=64:=by omega
   obtain rfl:=HS.out
   go_wp2_with fail
end Go.Proofs.YtlpmiimgacfmkaaGreatDoor
