/- Part of the proof. -/
import Derived.Test.YtlpmiimgacfmkaaGreatDoorRVy7
set_option linter.all false
set_option maxHeartbeats 16000000
set_option maxRecDepth 100000
namespace Go.Proofs.YtlpmiimgacfmkaaGreatDoor
open Go.Proofs.Tryz
open Go.RowKit Go.Shelf
theorem xb{P:Program}{c:Code}{Q:Exit->Act->World->Prop}{a:Act}{w:World}(R:Act->World->Prop)(h:c.wp P (Exit.then R (λ_ _ _=>False)) a w)(hk:∀a' w',R a' w'->Q .normal a' w'):c.wp P Q a w:=wp_mono h λe a w h=>by cases e <;> first|exact hk _ _ h|exact h.elim
theorem sS{w:World}{e:TypeId}{size n c k:Nat}{A:Option Addr}{xs:List Value}(h:Own w e size A n c xs)(hk:k∈eV A):∃cur z,w.heap[k]?=some (.cells cur e z):=by
 rcases h.2 with⟨hv,_⟩|⟨g,cap,cur,hv,_,hg,_⟩
 ·injection hv with hv;subst hv;simp[eV]at hk
 ·injection hv with hv
  subst hv;simp only[eV,Option.map_some,Option.toList_some,gI]at hk;subst hk;exact⟨_,_,hg⟩
section
variable {v0 v1:Value} {w0 X Y Z:World} {CB ni nk ic kc ni' nk' ic' kc':Nat} {IA KA IA' KA':Option Addr} {xs ks xs' ks':List Value} {S:List Nat}
theorem VIg.frT(h:VIg v0 v1 w0 X CB ni nk ic kc IA KA xs ks)(hf:Fr S X Y)(hn:NoT [3,89,64] X S)(hS:∀k∈S,w0.heap.size<=k):VIg v0 v1 w0 Y CB ni nk ic kc IA KA xs ks :=
 ⟨h.box.frT hf hn (by simp),h.io.frT hf hn (by simp),h.ko.frT hf hn (by simp),h.d,h.e,h.hi,h.hk,h.fr.trans hf (λk hk=>.inr (hS k hk))⟩
theorem VIg.put2(h:VIg v0 v1 w0 X CB ni nk ic kc IA KA xs ks)(f1:Fr (eV IA++eV KA) X Y)(hio:Own Y 3 1 IA' ni' ic' xs')(hko:Own Y 89 4 KA' nk' kc' ks')(hA:∀k∈eV IA',k∈eV IA \/ X.heap.size<=k)(hB:∀k∈eV KA',k∈eV KA \/ X.heap.size<=k)(f2:Fr [CB] Y Z)
 (hb:BoxN Z CB 64 #[v0,v1,.slice IA' ni' ic',.slice KA' nk' kc',.slice none 0 0,.slice none 0 0]):VIg v0 v1 w0 Z CB ni' nk' ic' kc' IA' KA' xs' ks':=by
 have hc:=h.box.lt;have hs:=h.fr.size
 have hCI:CB ∉ eV IA':=λhm=>by
  rcases hA CB hm with h1|h1
  ·exact h.d.1 h1
  ·omega
 have hCK:CB ∉ eV KA':=λhm=>by
  rcases hB CB hm with h1|h1
  ·exact h.d.2.1 h1
  ·omega
 refine⟨hb,hio.fr f2 (by intro k hk;simp only[gI];rintro rfl;exact hCI hk),hko.fr f2 (by intro k hk;simp only[gI];rintro rfl;exact hCK hk),⟨hCI,hCK,h.d.2.2⟩,λk hk hm=>?_,λk hk=>?_,λk hk=>?_,?_⟩
 ·obtain⟨c1,z1,e1⟩:=sS hio hk
  obtain⟨c2,z2,e2⟩:=sS hko hm;rw[e1]at e2
  cases e2
 ·rcases hA k hk with h1|h1
  ·exact h.hi k h1
  ·omega
 ·rcases hB k hk with h1|h1
  ·exact h.hk k h1
  ·omega
 ·exact(h.fr.trans f1 (λk hk=>.inr ((List.mem_append.1 hk).elim (h.hi k) (h.hk k)))).trans f2 (λk hk=>.inr (by simp at hk;subst hk;exact h.d.2.2))
end
def C25(CB PB XN:Nat)(c1 c2 c3:Array Value)(W:World):Prop:=BoxN W CB 64 c1/\BoxN W PB 53 c2/\BoxN W XN 91 c3
theorem C25.frT{CB PB XN:Nat}{c1 c2 c3:Array Value}{X Y:World}{S:List Nat}(h:C25 CB PB XN c1 c2 c3 X)(hf:Fr S X Y)(hn:NoT [64,53,91] X S):C25 CB PB XN c1 c2 c3 Y:=⟨h.1.frT hf hn (by simp),h.2.1.frT hf hn (by simp),h.2.2.frT hf hn (by simp)⟩
theorem xT{κ α:Type}[DecidableEq κ]{es:List (κ × α)}(hnd:(es.map Prod.fst).Nodup){e:κ × α}(he:e∈es):iM es e.1=some e.2:=by
 obtain⟨l1,l2,rfl⟩:=List.append_of_mem he;rw[List.map_append,List.map_cons]at hnd;rw[kD (λy hy=>(List.nodup_append.1 hnd).2.2 y.1 (List.mem_map.2 ⟨y,hy,rfl⟩) e.1 (by simp)),jG,if_pos rfl]
structure LNg(w W:World)(c ma ri:Nat)(v0 v1 v2 v3:Value)(LA NA:Option Addr)(lc nc:Nat)(s:LS)(es l:List (ON × CH)):Prop where
 box:BoxN W c 64 #[v0,v1,v2,v3,.slice LA s.lks.length lc,.slice none 0 0]
 own:Own W 98 7 LA s.lks.length lc (s.lks.flatMap LK.cs)
 on:Own W 31 5 NA l.length nc (l.flatMap λe=>e.1.cs)
 mm:MM 31 fg lG W ma es
 rg:RgM fg lG W ri ma es l
 d:c<w.heap.size/\w.heap.size<=ma/\ma<ri
 la:∀q∈eV LA,ma<q/\q<ri
 nb:∀q∈eV NA,ri<q
 fr:Fr [c] w W
theorem LNg.put{w X X1 Y1 Y:World}{c ma ri lc nc nc':Nat}{v0 v1 v2 v3:Value}{LA NA NA':Option Addr}{s:LS}{es l:List (ON × CH)}{e:ON × CH}(h:LNg w X c ma ri v0 v1 v2 v3 LA NA lc nc s es l)(h1:Fr [ri] X X1)(hr:RgM fg lG X1 ri ma es (l++[e]))(h2:Fr [] X1 Y1)(hf:Fr (eV NA) Y1 Y)
 (ho:Own Y 31 5 NA' (l.length+1) nc' ((l.flatMap λe=>e.1.cs)++e.1.cs)) (hA:∀q∈eV NA',q∈eV NA \/ Y1.heap.size<=q):LNg w Y c ma ri v0 v1 v2 v3 LA NA' lc nc' s es (l++[e]):=by
 have hd:=h.d;have hy:=hr.lt.1;have hs:=h2.size;have hno:∀q,q<=ri->q ∉ eV NA:=λq hq hm=>by have:=h.nb q hm;omega
 have f:∀q,q<ri->q ∉ [ri]:=λq hq=>by simp;omega
 refine⟨((h.box.fr h1 (f _ (by omega))).fr h2 (by simp)).fr hf (hno _ (by omega)),((h.own.fr h1 (λq hq=>f _ (h.la q hq).2)).fr h2 (by simp)).fr hf (λq hq=>hno _ (by have:=h.la q hq;omega)),?_,((h.mm.fr h1 (f _ (by omega))).fr0 h2).fr hf (hno _ (by omega)),(hr.fr h2 (by simp) (by simp)).fr hf (hno _ (by omega)) (hno _ (by omega)),hd,h.la,λq hq=>?_,?_⟩
 ·rw[gG,List.flatMap_append]
  simpa using ho
 ·rcases hA q hq with h3|h3
  ·exact h.nb q h3
  ·omega
 ·exact((h.fr.trans h1 (λq hq=>.inr (by simp at hq;omega))).trans h2 (by simp)).trans hf (λq hq=>.inr (by have:=h.nb q hq;omega))
noncomputable def EH:Code:=((Tryz.f23).body.bind (ls 31)).getD .skip
theorem EI(nm:ON)(P m:Nat)(ps:List PF)(as_:List AG)(ys:List AX)(w w4 w5 w8:World)(CB ib ic kc g4 o4 lq c' pl:Nat)(bv:UInt8)(KA:Option Addr)(hm12:lq+1<=12)
 (hN:BoxN w4 (w.heap.size+1+1) 64 #[.int .u8 0,.int .i64 0,.slice none 0 0,.slice none 0 0,.slice none 0 0,.slice none 0 0]/\BoxN w4 (w.heap.size+1+1+1) 64 #[.int .u8 0,.int .i64 0,.slice none 0 0,.slice none 0 0,.slice none 0 0,.slice none 0 0]/\Fr [] w w4)
 (hpl:ps.length=lq+1) (hal:as_.length=lq+1) (hwf:∀a∈as_,mN a=true/\a.r.length<=10/\a.w.length<=10) (h5:Fr [] w4 w5) (hCB:w5.heap.size=CB) (hvr:(i6 as_ (ps.map PF.i) as_.length=none->ju nm P (ps.map PF.i) as_=.error 10)/\∀s,i6 as_ (ps.map PF.i) as_.length=some s->ju nm P (ps.map PF.i) as_=if(List.range (as_.length - 1)).all (λi=>decide (i∈s.used))=true then .ok (bv,s)else .error 33)
 (hla:(ps.map PF.i).getLastD 0=pl) (hya:ys.map AX.a=as_) (hv8:VIg (.int .u8 (bv.toNat:Int)) (.int .i64 (pl:Int)) w5 w8 CB (lq+1) (lq+1) ic kc (some ⟨ib,0,none⟩) KA (jX (ps.map PF.i)) (as_.flatMap lo)) (hact8:ActO w8 (some ⟨g4,o4,none⟩) (lq+1) c' ys)
 (u0 u1 u2 u3 u5 u7 u10 u11 u12 u13 u15 u16 u17 u18 u19 u20 u21 u22 u23 u24 u25 u26 u27 u28 u29 u30 u31 u32 u33 u34 u35 u36 u37 u38 u39 u40 u41 u42 u43 u44 u45 u46 u47 u48 u49 u50 u51 u52 u53 u54 u55 u56 u57 u58 u59 u60 u61 u62 u63 u64 u65 u66 u67 u68 u69 u70 u71 u72 u73 u74 u75 u76 u77 u78 u79 u80 u81 u82 u83 u84 u85 u86 u87 u88 u89 u90 u91 u92 u93 u94 u95 u96 u97 u98 u99 u100 u101 u102 u103 u104 u105 u106 u107 u108 u109 u110 u111 u112 u113 u114 u115 u116 u117 u118 u119 u120 u121 u122 u123 u124 u125 u126 u127 u128 u129 u130 u131 u132 u133 u134 u135 u136 u137 u138 u139 u140 u141 u142 u143 u144 u145 u146 u147 u148 u149 u150 u151 u152 u153 u154 u155 u156 u157 u158 u159 u160 u161 u162 u163 u164 u165 u166 u167 u168 u169 u170 u171 u172 u173 u174 u175 u176 u177 u178 u179 u180 u181 u182 u183 u184 u185 u186 u187 u188 u189 u190 u191 u192 u193 u194 u195 u196 u197 u198 u199 u200 u201 u202 u203 u204 u205 u206 u207 u208 u209 u210 u211 u212 u213 u214 u215 u216 u217 u218 u219 u220 u221 u222 u223 u224 u225 u226 u227 u228 u229 u230 u231 u232 u233 u234 u235 u236 u237 u238 u239 u240 u241 u242 u243 u244 u245 u246 u247 u248 u249 u250 u251 u252 u253 u254 u255 u256 u257 u258 u259 u260 u261 u262 u263 u264 u265 u266 u267 u268 u269 u270 u271 u272 u273 u274 u275 u276 u277 u278 u279 u280 u281 u282 u283 u284 u285 u286 u287 u288 u289 u290 u291 u292 u293 u294 u295 u296 u297 u298 u299 u300 u301:Value) :
 Code.wp prog EH (bodyPost prog Tryz.f23 (kH nm P (ps.map PF.i) as_ w)) ⟨List.toArray (u0::u1::u2::u3::.pointer (some ⟨w.heap.size+1+1,0,none⟩)::u5::.pointer (some ⟨w.heap.size+1+1+1,0,none⟩)::u7::.pointer (some ⟨CB,0,none⟩)::.slice (some ⟨g4,o4,none⟩) (lq+1) c'::u10::u11::u12::u13::.int .i64 (lq:Int)::u15::u16::u17::u18::u19::u20::u21::u22::u23::u24::u25::u26::u27::u28::u29::u30::u31::u32::u33::u34::u35::u36::u37::u38::u39::u40::u41::u42::u43::u44::u45::u46::u47::u48::u49::u50::u51::u52::u53::u54::u55::u56::u57::u58::u59::u60::u61::u62::u63::u64::u65::u66::u67::u68::u69::u70::u71::u72::u73::u74::u75::u76::u77::u78::u79::u80::u81::u82::u83::u84::u85::u86::u87::u88::u89::u90::u91::u92::u93::u94::u95::u96::u97::u98::u99::u100::u101::u102::u103::u104::u105::u106::u107::u108::u109::u110::u111::u112::u113::u114::u115::u116::u117::u118::u119::u120::u121::u122::u123::u124::u125::u126::u127::u128::u129::u130::u131::u132::u133::u134::u135::u136::u137::u138::u139::u140::u141::u142::u143::u144::u145::u146::u147::u148::u149::u150::u151::u152::u153::u154::u155::u156::u157::u158::u159::u160::u161::u162::u163::u164::u165::u166::u167::u168::u169::u170::u171::u172::u173::u174::u175::u176::u177::u178::u179::u180::u181::u182::u183::u184::u185::u186::u187::u188::u189::u190::u191::u192::u193::u194::u195::u196::u197::u198::u199::u200::u201::u202::u203::u204::u205::u206::u207::u208::u209::u210::u211::u212::u213::u214::u215::u216::u217::u218::u219::u220::u221::u222::u223::u224::u225::u226::u227::u228::u229::u230::u231::u232::u233::u234::u235::u236::u237::u238::u239::u240::u241::u242::u243::u244::u245::u246::u247::u248::u249::u250::u251::u252::u253::u254::u255::u256::u257::u258::u259::u260::u261::u262::u263::u264::u265::u266::u267::u268::u269::u270::u271::u272::u273::u274::u275::u276::u277::u278::u279::u280::u281::u282::u283::u284::u285::u286::u287::u288::u289::u290::u291::u292::u293::u294::u295::u296::u297::u298::u299::u300::u301::[]),[]⟩ w8:=by
 conv=>arg 2;whnf
 have HN:=Hd (An True.intro hN);have HP:=Hd (An True.intro (An hpl (An hal (An hwf True.intro))));have H5:=Hd h5;have HCB:=Hd hCB;have HVR:=Hd hvr;have HLA:=Hd hla;have HA:=Hd (An hact8 True.intro);have HTL:=Hd (An True.intro (An hya True.intro));clear hN hpl hal hwf h5 hCB hvr hla hya;obtain⟨q0,hq0⟩:=eR ((.int .u8 (bv.toNat:Int):Value));obtain⟨q1,hq1⟩:=eR ((.int .i64 (pl:Int):Value));obtain⟨v2,hv2⟩:=eR (Value.slice (some ⟨ib,0,none⟩) (lq+1) ic);obtain⟨v3,hv3⟩:=eR (Value.slice KA (lq+1) kc);have HQ01:=Hd (An hq0 (An hq1 (An hv2 hv3)));rw[hq0,hq1]at hv8;have HVV:=Hd hv8;have hb8:=hv8.box;rw[hv2,hv3]at hb8
 have hST:∀W,Fr [CB] w8 W->ActO W (some ⟨g4,o4,none⟩) (lq+1) c' ys/\Cs W ib (jX (ps.map PF.i)):=λW hW=>by
  have hnt:NoT (91::sy) w8 [CB]:=NoT.box hb8 (by decide);have hib:ib≠CB:=by have:=hv8.d.1;simpa [eV,eq_comm]using this
  obtain⟨g',hg',hcs⟩:=Cs.of_own hv8.io (by omega)
  injection hg' with hg'
  injection hg' with hg'
  subst hg';exact⟨⟨hact8.own.frT hW hnt (by simp),λy hy=>(hact8.each y hy).frT hW (hnt.sub (λt ht=>List.mem_cons_of_mem _ ht)),hact8.len⟩,hcs.fr hW (by simpa using hib)⟩
 have HST:=Hd hST;have HF8:=Hd (H5.out.then hv8.fr);have hmk:=AD w8 (lq+1) (by omega);rw[show ((lq+1:Nat):Int)=(lq:Int)+1 from by omega]at hmk;obtain⟨w9,hw9,n9,f9⟩:=kS w8 (nD (lq+1) []) 4;have hz9:w9.heap.size=w8.heap.size+1:=by rw[<-hw9];simp
 rw[hw9]at hmk;have hmk2:=gm w9 149;obtain⟨w10,hw10⟩:=eR (w9.alloc (.map #[] 0));have hm10:MapIs prog 31 w10 w9.heap.size []:=by rw[<-hw10];exact MapIs.new w9
 have f10:Fr [] w9 w10:=by rw[<-hw10];exact(Fq [] w9).alloc _
 rw[hw10]at hmk2;have HL0:Hid (LVg w8 w10 CB w8.heap.size w9.heap.size (lq+1) q0 q1 v2 v3 none 0 xH):=Hd ⟨hb8.fr (f9.then f10) (by simp),Own.nil _ _ _,n9.fr f10 (by simp),⟨[],MM.nil hm10,λn=>rfl,by simp⟩,⟨hb8.lt,fV _,by omega⟩,by simp[eV],(f9.then f10).mono (by simp)⟩;clear hq0 hq1 hv2 hv3 hv8 hb8 hact8 hST hw9 hw10 n9 f9 hz9 hm10 f10
 go_upto_region 33 with fail
 clear hmk hmk2;obtain⟨ub,hub⟩:=eR (w8.heap.size);obtain⟨ma,hma⟩:=eR (w9.heap.size);rw[hub,hma]at HL0 ⊢;have HUB:=Hd hub;clear hub hma
 go_wp2_with fail
 go_loopw [19] (λt W=>∃(i lc:Nat) (LA:Option Addr) (s:LS),i<=lq+1/\t=.int .i64 (i:Int)/\LVg w8 W CB ub ma (lq+1) q0 q1 v2 v3 LA lc s/\i6 as_ (ps.map PF.i) i=some s) (λt _=>lq+1 - (intOf t).toNat)
 case atStart=>exact⟨0,0,none,xH,Nat.zero_le _,rfl,HL0.out,rfl⟩
 case round =>
  clear HL0;obtain⟨i,lc,LA,s,hi,rfl,hli,hrun⟩:=hrel;have HLI:=Hd hli;have HRUN:=Hd hrun;clear hli hrun
  by_cases hlt:i<lq+1
  ·have hltd:decide ((i:Int)<(lq:Int)+1)=true:=by simp;omega
   have hlt3:(i:Int)<(lq:Int)+1:=by omega
   obtain⟨y,hy⟩:∃x,ys[i]?=some x:=⟨_,gx (by rw[HA.out.1.len];exact hlt)⟩;have hyi:as_[i]?=some y.a:=by rw[<-HTL.out.2.1,List.getElem?_map,hy];rfl
   obtain⟨hwfy,hr10,hw10⟩:=HP.out.2.2.2.1 y.a (iu hyi);obtain⟨RA,hRA⟩:=eR (y.A);obtain⟨rc,hrc⟩:=eR (y.c);obtain⟨nr,hnr⟩:=eR (y.a.r.length)
   have hz4:∀W,Fr [CB] w8 W->W.cell? ⟨g4,o4+i*6+4,none⟩=some (.slice RA nr rc):=λW hW=>by
    obtain⟨g',o',he,_,hc⟩:=fo jV (HST.out W hW).1.own.row (by omega)
    injection he with he
    injection he with he1 he2
    subst he1 he2;have h:=hc i y hy 4 (by omega);unfold AX.cs at h;rw[hRA,hrc,hnr]at h;exact h
   have HYI:=Hd (An hyi (An hwfy (An (λW (hW:Fr [CB] w8 W)=>(HST.out W hW).1.each y (iu hy)) (An hr10 (An hRA hnr)))));have HZ4:=Hd hz4;rw[hnr]at hr10;clear hy hyi hwfy hw10 hRA hrc hnr hz4
   go_wp2_with fail
   go_loopw [20] (λt W=>∃(j lc:Nat) (LA:Option Addr) (s2:LS),j<=nr/\t=.int .i64 (j:Int)/\LVg w8 W CB ub ma (lq+1) q0 q1 v2 v3 LA lc s2/\j7 as_ (ps.map PF.i) i (y.a.r.take j) s=some s2) (λt _=>nr - (intOf t).toNat)
   case atStart=>exact⟨0,lc,LA,s,Nat.zero_le _,rfl,HLI.out,rfl⟩
   case round =>
    clear HLI;obtain⟨k,lc,LA,s2,hk,rfl,hli,hrr⟩:=hrel;have HLI:=Hd hli;have HRR:=Hd hrr;have z4:=HZ4.out wr hli.fr;have hwi:IntKind.i64.wrap (i:Int)=(i:Int):=by simp[IntKind.wrap,IntKind.bits,IntKind.signed];omega
    clear hli hrr
    by_cases hkt:k<nr
    ·have hktd:decide ((k:Int)<(nr:Int))=true:=by simp;omega
     have hkt3:(k:Int)<(nr:Int):=by omega
     have hyok:=HYI.out.2.2.1 wr HLI.out.fr;have hrow:Row wr wr.heap.size 7 RA nr (y.a.r.flatMap CH.cs):=by have h:=hyok.chr;unfold Chs Rd at h;rw[HYI.out.2.2.2.2.1,HYI.out.2.2.2.2.2]at h;exact h
     obtain⟨bb,bo,rfl,kG,hcl⟩:=fo ip hrow (by omega);obtain⟨x,hx⟩:∃x,y.a.r[k]?=some x:=⟨_,gx (by rw[HYI.out.2.2.2.2.2];exact hkt)⟩;obtain⟨hxn,hxv⟩:=tp HYI.out.2.1 x (iu hx);have hcx:=hcl k x hx;have HX:=Hd (An hx (An hxn hxv));obtain⟨ek,hek⟩:=eR (x.n.kind);obtain⟨enu,henu⟩:=eR (x.n.number);obtain⟨exx,hexx⟩:=eR (x.n.index);obtain⟨eab,heab⟩:=eR (x.a);obtain⟨eso,heso,_,_⟩:=eT x.n.owner;obtain⟨est,hest,_,_⟩:=eT x.n.text;obtain⟨esv,hesv,_,_⟩:=eT x.v;have hen:fg x.n=.agg #[.int .i64 ek,.string eso,.int .i64 enu,.int .i64 exx,.string est]:=by unfold fg;rw[hek,henu,hexx,heso,hest]
     have hcv:lG x=.agg #[.int .i64 ek,.string eso,.int .i64 enu,.int .i64 exx,.string est,.string esv,.bool eab]:=by unfold lG CH.cs;rw[hek,henu,hexx,heso,hest,hesv,heab]
     have HEN:=Hd (An hen hcv);unfold CH.cs at hcx;rw[hek,henu,hexx,heso,hest,hesv,heab]at hcx;obtain⟨y0,y1,y2,y3,y4,y5,y6⟩:=AR hcx;have hwk:IntKind.i64.wrap (k:Int)=(k:Int):=by simp[IntKind.wrap,IntKind.bits,IntKind.signed];omega
     obtain⟨D0,hD0,hz0,n0,f0⟩:=il wr #[.int .i64 ek,.string eso,.int .i64 enu,.int .i64 exx,.string est,.string esv,.bool eab] 95 wr.heap.size;have hmaD:=HLI.out.young;obtain⟨am,ham⟩:=eR (s2.asm x.n);obtain⟨sr,hsr⟩:=eR (gM as_ i x.n)
     have herr:(oO sr am && !decide (pB sr am=x))=true->ju nm P (ps.map PF.i) as_=.error 10:=λh=>by
      have hst:=px HRR.out hx;rw[lm,hsr,ham,if_pos h]at hst
      have hnn:i6 as_ (ps.map PF.i) (lq+1)=none:=by
       refine py (i:=i+1) (by omega) ?_;rw[i6,HRUN.out,HYI.out.1];exact tm (j:=k+1) hst
      exact HVR.out.1 (by rw[HP.out.2.2.1];exact hnn)
     have HERR:=Hd herr;have HSA:=Hd (An hsr ham);clear hcx hcl hrow hyok hx hxn hxv hek henu hexx heab heso hest hesv hen hcv hz0 herr hsr ham
     go_upto_region 41 with fail
     try rw[hD0]
     clear y0 y1 y2 y3 y4 y5 y6 kG hD0 hwk z4;have hDA:wr.heap.size ∉ eV LA:=λhm=>Nat.lt_irrefl _ (HLI.out.own.lt _ hm);obtain⟨D,hD⟩:=eR (wr.heap.size);rw[hD]at n0 hmaD hDA ⊢;have HL0:=Hd (HLI.out.fr0 f0);have HD0:=Hd (An n0 (An hmaD hDA));clear n0 f0 hmaD hDA hD;have hwi1:IntKind.i64.wrap ((i:Int) - 1)=(i:Int) - 1:=by simp[IntKind.wrap,IntKind.bits,IntKind.signed];omega
     go_wp2_with fail
     clear hwi1
     go_loopw [22,23] (λf t W=>∃(mm:Nat) (kk fv:Int),mm<=i/\kk+1=mm/\f=.int .i64 fv/\t=.int .i64 kk/\BoxN W D 95 #[.int .i64 ek,.string eso,.int .i64 enu,.int .i64 exx,.string est,.string esv,.bool eab]/\((fv=-1/\gM as_ mm x.n=sr/\LVg w8 W CB ub ma (lq+1) q0 q1 v2 v3 LA lc s2) \/ (mm<i/\0<=fv/\fv=pC (ps.map PF.i) sr/\sr=some (mm,x)/\LVg w8 W CB ub ma (lq+1) q0 q1 v2 v3 LA lc ⟨mm::s2.used,s2.asm,s2.lks⟩))) (λf t _=>if intOf f<0 then(intOf t+1).toNat else 0)
     case atStart=>exact⟨i,(i:Int) - 1,-1,fV _,by omega,rfl,rfl,HD0.out.1,.inl ⟨rfl,HSA.out.1,HL0.out⟩⟩
     case round =>
      obtain⟨mm,kk,fv,hmi,hkk,rfl,rfl,hDb,hor⟩:=hrel;have HDB:=Hd hDb;have HOR:=Hd hor;clear hDb hor
      go_upto_region 42 with fail
      go_cut [200]from 195 to 200 (λs W=>s=.bool (decide (0<=kk) && decide (fv<0))/\wr=W)
      case first =>
       by_cases h0:0<=kk
       ·have hd:decide (0<=kk)=true:=decide_eq_true h0
        go_wp2_with fail
        go_meet
        exact⟨by rw[hd,Bool.true_and],rfl⟩
       ·have hd:decide (0<=kk)=false:=decide_eq_false h0
        go_wp2_with fail
        go_meet
        exact⟨by rw[hd,Bool.false_and],rfl⟩
      obtain⟨rfl,rfl⟩:=hcut;obtain⟨cb,hcb⟩:=eR ((decide (0<=kk) && decide (fv<0)));rw[hcb]
      cases cb with
      | true =>
       rw[Bool.and_eq_true,decide_eq_true_eq,decide_eq_true_eq]at hcb;obtain⟨q,rfl⟩:∃q,mm=q+1:=⟨mm - 1,by omega⟩;obtain rfl:kk=(q:Int):=by omega
       obtain⟨hfv,hsm,hl⟩:=HOR.out.resolve_right (λh=>by omega);subst hfv;have HLQ:=Hd (An hl (An HDB.out hsm));clear hl hsm HOR hcb;obtain⟨yq,hyq⟩:∃y,ys[q]?=some y:=⟨_,gx (by rw[HA.out.1.len];omega)⟩;have hqa:as_[q]?=some yq.a:=by rw[<-HTL.out.2.1,List.getElem?_map,hyq];rfl
       have hwq:=HP.out.2.2.2.1 yq.a (iu hqa);obtain⟨zt,hzt⟩:=eR (yq.a.k.rnd);obtain⟨zp,hzp⟩:=eR (yq.a.k.phase);obtain⟨zx,hzx⟩:=eR (yq.a.k.idx);obtain⟨zr,hzr⟩:=eR (yq.a.r.length);obtain⟨zw,hzw⟩:=eR (yq.a.w.length);obtain⟨zs,hzs⟩:=eR (yq.sl);obtain⟨zA,hzA⟩:=eR (yq.A);obtain⟨zB,hzB⟩:=eR (yq.B);obtain⟨zc,hzc⟩:=eR (yq.c);obtain⟨zd,hzd⟩:=eR (yq.d);have hval:yq.a.val yq.sl yq.A yq.c yq.B yq.d=.agg #[.int .i64 zt,.int .i64 zp,.int .i64 zx,.string zs,.slice zA zr zc,.slice zB zw zd]:=by unfold AG.val;rw[hzt,hzp,hzx,hzr,hzw,hzs,hzA,hzB,hzc,hzd]
       obtain⟨ck,cso,cnu,cxx,cst,csv,cab,isq,hTP,hW2⟩:=rU (nA yq.a.w x.n);have hST4:=λ(W:World) (hW:Fr [] wr W)=>HST.out W (HLQ.out.1.fr0 hW).fr
       have HLW:Hid (∀W,Fr [] wr W->Calls prog 67 #[.agg #[.int .i64 zt,.int .i64 zp,.int .i64 zx,.string zs,.slice zA zr zc,.slice zB zw zd],.agg #[.int .i64 ek,.string eso,.int .i64 enu,.int .i64 exx,.string est]] W (fm W (.tuple #[.agg #[.int .i64 ck,.string cso,.int .i64 cnu,.int .i64 cxx,.string cst,.string csv,.bool cab],.bool isq]))):=Hd (λW hW=>by
        have h:=vO yq.a yq.sl yq.A yq.B yq.c yq.d x.n W (((hST4 W hW).1.each yq (iu hyq)).chw) HX.out.2.1 (λx hx=>(kE hwq.1 x hx).1) (by have:=hwq.2.2;omega);rw[hval,HEN.out.1,hTP]at h;exact h)
       have HSS:=Hd (λ(W:World) (hW:Fr [] wr W)=>(show W.cell? ⟨g4,o4+q*6,none⟩=some (.int .i64 zt)/\W.cell? ⟨g4,o4+q*6+1,none⟩=some (.int .i64 zp)/\W.cell? ⟨g4,o4+q*6+2,none⟩=some (.int .i64 zx)/\W.cell? ⟨g4,o4+q*6+3,none⟩=some (.string zs)/\W.cell? ⟨g4,o4+q*6+4,none⟩=some (.slice zA zr zc)/\W.cell? ⟨g4,o4+q*6+5,none⟩=some (.slice zB zw zd)/\W.cell? ⟨D,0,none⟩=some (.int .i64 ek)/\W.cell? ⟨D,1,none⟩=some (.string eso)/\W.cell? ⟨D,2,none⟩=some (.int .i64 enu)/\W.cell? ⟨D,3,none⟩=some (.int .i64 exx)/\W.cell? ⟨D,4,none⟩=some (.string est)from by
        obtain⟨g',o',he,_,hc⟩:=fo jV (hST4 W hW).1.own.row (by omega)
        injection he with he
        injection he with he1 he2
        subst he1 he2;have h:=hc q yq hyq;unfold AX.cs at h;rw[hzt,hzp,hzx,hzr,hzw,hzs,hzA,hzB,hzc,hzd]at h;have hd:=HLQ.out.2.1.fr hW (by simp);exact⟨h 0 (by omega),h 1 (by omega),h 2 (by omega),h 3 (by omega),h 4 (by omega),h 5 (by omega),hd.c 0,hd.c 1,hd.c 2,hd.c 3,hd.c 4⟩))
       have HW2:=Hd (An hqa (An hwq hW2))
       have hzcc:∀z,nA yq.a.w x.n=some z->lG z=.agg #[.int .i64 ck,.string cso,.int .i64 cnu,.int .i64 cxx,.string cst,.string csv,.bool cab]:=λz hz=>by
        rw[hz]at hTP;exact Option.some.inj (congrArg (λa:Array Value=>a[0]?) (Value.tuple.inj hTP))
       have HZC:=Hd hzcc;clear hzcc hyq hqa hwq hzt hzp hzx hzr hzw hzs hzA hzB hzc hzd hval hTP hW2 hST4;have hq0:decide ((0:Int)<=(q:Int))=true:=by simp
       have hq1:(0:Int)<=(q:Int):=by omega
       have hq3:(q:Int)<(lq:Int)+1:=by omega
       have hwq:IntKind.i64.wrap (q:Int)=(q:Int):=by simp[IntKind.wrap,IntKind.bits,IntKind.signed];omega
       have hwq1:IntKind.i64.wrap ((q:Int) - 1)=(q:Int) - 1:=by simp[IntKind.wrap,IntKind.bits,IntKind.signed];omega
       go_upto_region 44 with fail
       have hC:Fr [] wr wr.drew:=(Fq _ wr).drew;refine jk (a:=?vq) (λa' W'=>∃D2,a'={ tmps:=((((((((((((Act.tmps ?vq).setIfInBounds 204 (.slice (some ⟨g4,o4,none⟩) (lq+1) c')).setIfInBounds 205 (.int .i64 (q:Int))).setIfInBounds 206 (.pointer (some ⟨g4,o4+q*6,none⟩))).setIfInBounds 207 (.agg #[.int .i64 zt,.int .i64 zp,.int .i64 zx,.string zs,.slice zA zr zc,.slice zB zw zd])).setIfInBounds 208 (.pointer (some ⟨D,0,none⟩))).setIfInBounds 209 (.agg #[.int .i64 ek,.string eso,.int .i64 enu,.int .i64 exx,.string est])).setIfInBounds 210 (.tuple #[.agg #[.int .i64 ck,.string cso,.int .i64 cnu,.int .i64 cxx,.string cst,.string csv,.bool cab],.bool isq])).setIfInBounds 203 (.tuple #[.agg #[.int .i64 ck,.string cso,.int .i64 cnu,.int .i64 cxx,.string cst,.string csv,.bool cab],.bool isq])).setIfInBounds 211 (.agg #[.int .i64 ck,.string cso,.int .i64 cnu,.int .i64 cxx,.string cst,.string csv,.bool cab])).setIfInBounds 212 (.bool isq)).setIfInBounds 24 (.pointer (some ⟨D2,0,none⟩))).setIfInBounds 25 (.bool isq),defers:=[] }/\BoxN W' D2 95 #[.int .i64 ck,.string cso,.int .i64 cnu,.int .i64 cxx,.string cst,.string csv,.bool cab]/\Fr [] wr W'/\wr.heap.size<=D2) ?_ ?_
       ·refine eZ (λW=>Fr [] wr W) 12 (by kernel_rfl) ?_ (by decide)
        show fb 0 ..
        iterate 6 (refine gB rfl ?_;try simp only[qq])
        refine gO (i:=6) (j:=10) (by kernel_rfl) (by decide) (by decide) rfl rfl (λK hK=>?_) (λK hK=>?_)
        ·rw[if_pos (by rfl)]
         go_simp
         go_at_call 67
         (with_reducible refine(HLW.out _ hC).mono ?_);rintro e E1 ⟨rfl,hf⟩;have hC1:=hC.then hf;refine hK _ _ hC1 ?_;clear hK K hC hf
         try simp only[qq]
         have hC:=hC1
         show fb 7 ..
         iterate 3 (refine gB rfl ?_;try simp only[qq])
         refine hO (i:=10) rfl λK hK=>?_;go_simp
         obtain⟨E2,hE2⟩:=eR (E1.alloc (.cells #[.int .i64 0,.string ⟨#[]⟩,.int .i64 0,.int .i64 0,.string ⟨#[]⟩,.string ⟨#[]⟩,.bool false] 95));have n2:BoxN E2 E1.heap.size 95 #[.int .i64 0,.string ⟨#[]⟩,.int .i64 0,.int .i64 0,.string ⟨#[]⟩,.string ⟨#[]⟩,.bool false]:=by rw[<-hE2];exact BoxN.new E1 _ _
         have hC2:Fr [] wr E2:=by rw[<-hE2];exact hC1.alloc _
         have hD:wr.heap.size<=E1.heap.size:=hC1.size;rw[hE2];refine hK _ _ hC2 ?_;clear hK K hE2 hC hC1
         try simp only[qq]
         have hC:=hC2;obtain⟨u0,u1,u2,u3,u4,u5,u6⟩:=n2.m7;have v0:=n2.f 0;have v1:=n2.f 1;have v2:=n2.f 2;have v3:=n2.f 3;have v4:=n2.f 4;have v5:=n2.f 5;have v6:=n2.f 6;refine hO (i:=11) rfl λK hK=>?_;go_simp
         obtain⟨E3,hW2,n3,f3⟩:=AP (E2) (E1.heap.size) n2 (.int .i64 ck) (.string cso) (.int .i64 cnu) (.int .i64 cxx) (.string cst) (.string csv) (.bool cab);rw[hW2];clear hW2;have hC3:Fr [] wr E3:=hC2.trans f3 (by simp <;> omega);refine hK _ _ hC3 ?_;clear hK K u0 u1 u2 u3 u4 u5 u6 v0 v1 v2 v3 v4 v5 v6
         try simp only[qq]
         refine eW ⟨by kernel_rfl,?_⟩;simp only[qG,qH]
         go_wp2_with fail
         exact⟨_,rfl,n3,hC3,hD⟩
        ·rw[if_pos (by rfl)]
         go_simp
         obtain⟨E1,hE1,n1,hC1⟩:=sf wr #[.int .i64 0,.string ⟨#[]⟩,.int .i64 0,.int .i64 0,.string ⟨#[]⟩,.string ⟨#[]⟩,.bool false] 95;rw[hE1];refine hK _ _ hC1 ?_;clear hK K hE1 hC
         try simp only[qq]
         refine hO (i:=6) rfl λK hK=>?_;go_simp
         go_at_call 67
         (with_reducible refine(HLW.out _ hC1).mono ?_);rintro e E2 ⟨rfl,hf⟩;have hC2:=hC1.then hf;have n2:=n1.fr hf (by simp);have hD:wr.heap.size<=wr.heap.size:=fV _;refine hK _ _ hC2 ?_;clear hK K hC1 hf n1
         try simp only[qq]
         have hC:=hC2
         show fb 7 ..
         iterate 3 (refine gB rfl ?_;try simp only[qq])
         have hC:=hC2;obtain⟨u0,u1,u2,u3,u4,u5,u6⟩:=n2.m7;have v0:=n2.f 0;have v1:=n2.f 1;have v2:=n2.f 2;have v3:=n2.f 3;have v4:=n2.f 4;have v5:=n2.f 5;have v6:=n2.f 6;refine hO (i:=11) rfl λK hK=>?_;go_simp
         obtain⟨E3,hW2,n3,f3⟩:=AP (E2) (wr.heap.size) n2 (.int .i64 ck) (.string cso) (.int .i64 cnu) (.int .i64 cxx) (.string cst) (.string csv) (.bool cab);rw[hW2];clear hW2;have hC3:Fr [] wr E3:=hC2.trans f3 (by simp <;> omega);refine hK _ _ hC3 ?_;clear hK K u0 u1 u2 u3 u4 u5 u6 v0 v1 v2 v3 v4 v5 v6
         try simp only[qq]
         refine eW ⟨by kernel_rfl,?_⟩;simp only[qG,qH]
         go_wp2_with fail
         exact⟨_,rfl,n3,hC3,hD⟩
       rintro a' wx ⟨D2,rfl,hDb,hfx,hDs⟩;simp only[qA,qB,qC];have HWX:=Hd (An (HLQ.out.1.fr0 hfx) (An (HLQ.out.2.1.fr hfx (by simp)) hDb));clear hfx hDs HLW HSS hC
       cases isq with
       | false =>
        have hsq:gM as_ (q+1) x.n=gM as_ q x.n:=by
         rcases HW2.out.2.2 with⟨_,h2⟩|⟨h1,_⟩
         ·exact Cv (by rw[HW2.out.1];exact h2)
         ·cases h1
        have HSQ:=Hd (hsq.symm.trans HLQ.out.2.2);clear hDb hsq
        go_wp2_with fail
        go_roundw
        case rel=>exact⟨q,(q:Int) - 1,-1,by omega,by omega,rfl,rfl,HWX.out.2.1,.inl ⟨rfl,HSQ.out,HWX.out.1⟩⟩
        case measure=>simp[intOf]
       | true =>
        obtain⟨z,hz⟩:∃z,nA yq.a.w x.n=some z:=by
         rcases HW2.out.2.2 with⟨h1,_⟩|⟨_,z,h2,_⟩
         ·cases h1
         ·exact⟨z,h2⟩
        have hsq:sr=some (q,z):=HLQ.out.2.2.symm.trans (Cw (by rw[HW2.out.1];exact hz));have hzm:=kE HW2.out.2.1.1 z (List.mem_of_find?_eq_some hz);have hzc:=HZC.out z hz;obtain⟨bq,hbq⟩:=eR (decide (z=x))
        have hne:∀X,(binOp .neq 95 (.agg #[.int .i64 ck,.string cso,.int .i64 cnu,.int .i64 cxx,.string cst,.string csv,.bool cab]) (.agg #[.int .i64 ek,.string eso,.int .i64 enu,.int .i64 exx,.string est,.string esv,.bool eab])).run prog X=.ok (.bool (!bq)) X:=λX=>by
         have h:=pz hzm.1 HX.out.2.1 (by have:=hzm.2;omega) (by have:=HX.out.2.2;omega) X;rw[hbq,HEN.out.2,hzc]at h;exact h
        have hDx:=HWX.out.2.1;obtain⟨p0,p1,p2,p3,p4,p5,p6⟩:=hDb.m7;obtain⟨d0,d1,d2,d3,d4,d5,d6⟩:=hDx.m7;have HBQ:=Hd (An hbq hsq);clear hDb hDx hz hsq hzm hzc hbq
        cases bq with
        | false =>
         have hres:=HERR.out (by rw[HBQ.out.2];simp[oO,pB,of_decide_eq_false HBQ.out.1]);have HFE:=Hd (HF8.out.trans HWX.out.1.fr (λq hq=>.inr (by have h1:=H5.out.size;have h2:=HCB.out;simp at hq;omega)));have hb4:=HN.out.2.1.fr HFE.out (by simp);have hb6:=HN.out.2.2.1.fr HFE.out (by simp);obtain⟨tn0,tn1,tn2,tn3,tn4,tn5⟩:=hb6.m6;obtain⟨t0,t1,t2,t3,t4,t5⟩:=hb4.m6;have tf0:=hb4.f 0;have tf1:=hb4.f 1;have tf2:=hb4.f 2;have tf3:=hb4.f 3;have tf4:=hb4.f 4;have tf5:=hb4.f 5
         go_wp2_with fail
         obtain⟨u2,hW2,hb2,g2⟩:=qN (wx) (w.heap.size+1+1) hb4 (.int .u8 0) (.int .i64 0) (.slice none 0 0) (.slice none 0 0) (.slice none 0 0) (.slice none 0 0);rw[hW2];clear hW2;clear t0 t1 t2 t3 t4 t5 tf0 tf1 tf2 tf3 tf4 tf5 tn0 tn1 tn2 tn3 tn4 tn5;obtain⟨t0,t1,t2,t3,t4,t5⟩:=hb2.m6
         try simp only[Exit.inBlock,Exit.then]
         refine bodyPost_ret (v:=.tuple #[iU,.int .i64 10]) (by simp[results,results23,iU,go_sem,t0,t1,t2,t3,t4,t5]) rfl ?_;unfold kH;rw[hres]
         exact⟨rfl,(HN.out.2.2.2.then HFE.out).trans g2 (by simp;omega)⟩
        | true =>
         have hsx:sr=some (q,x):=by rw[HBQ.out.2,of_decide_eq_true HBQ.out.1]
         obtain⟨qi,hqi⟩:∃v,(ps.map PF.i)[q]?=some v:=⟨_,gx (by rw[List.length_map,HP.out.2.1];omega)⟩;have hfq:(qi:Int)=pC (ps.map PF.i) sr:=by rw[hsx];show (qi:Int)=(((ps.map PF.i).getD q 0:Nat):Int);rw[List.getD_eq_getElem?_getD,hqi];rfl
         have HSX:=Hd (An hsx hfq);have i0:wx.cell? ⟨ib,q,none⟩=some (.int .i64 (qi:Int)):=(HST.out _ HWX.out.1.fr).2.2 q _ (by unfold jX;rw[List.getElem?_map,hqi];rfl);have c2:wx.cell? ⟨CB,2,none⟩=some (.slice (some ⟨ib,0,none⟩) (lq+1) ic):=by rw[HQ01.out.2.2.1];exact HWX.out.1.box.c 2
         have u0:wx.cell? ⟨ub,q,none⟩=some (.bool (decide (q∈s2.used))):=(HWX.out.1.us.c q).trans (yz (by omega));have uf:=HWX.out.1.us.f q;obtain⟨hpu,hpf⟩:=HWX.out.1.putU (k:=q) (by omega);obtain⟨wy,hwy⟩:=eR (wx.setCell ⟨ub,q,none⟩ (.bool true));rw[hwy]at hpu hpf;have HPU:=Hd (An hpu (HWX.out.2.1.fr hpf (by have h1:=HD0.out.2.1;have h2:=hpu.d;simp;omega)));clear hpu hpf hsx hfq hqi
         go_wp2_with fail
         try rw[hwy]
         go_roundw
         case rel=>exact⟨q,(q:Int) - 1,(qi:Int),by omega,by omega,rfl,rfl,HPU.out.2,.inr ⟨by omega,by omega,HSX.out.2,HSX.out.1,HPU.out.1⟩⟩
         case measure=>simp[intOf,show ¬((qi:Int)<0)from by omega]
      | false =>
       have hcb2:¬(0<=kk/\fv<0):=λh=>by rw[decide_eq_true h.1,decide_eq_true h.2]at hcb;cases hcb
       clear hcb
       go_upto_if 228 with fail
       go_cut [26,27]from 228 to 246 (λ_ _ W=>fv=pC (ps.map PF.i) sr/\(oO sr am && !decide (pB sr am=x))=false/\LVg w8 W CB ub ma (lq+1) q0 q1 v2 v3 LA lc ⟨(sB (ps.map PF.i) i s2 sr x).used,(sB (ps.map PF.i) i s2 sr x).asm,s2.lks⟩/\BoxN W D 95 #[.int .i64 ek,.string eso,.int .i64 enu,.int .i64 exx,.string est,.string esv,.bool eab])
       case first =>
        rcases HOR.out with⟨hfv,hsm,hl⟩|⟨hmi2,hfv,hff,hss,hl⟩
        ·subst hfv
         obtain rfl:mm=0:=by omega
         have HLQ:=Hd (An hl (An HDB.out hsm));clear hl hsm HOR;have hsr0:sr=none:=by rw[<-HLQ.out.2.2];rfl
         subst hsr0;obtain⟨ya,hya⟩:=eR (am.getD xK);have hlk:=AE HLQ.out.1 x.n HX.out.2.1;rw[HSA.out.2,HEN.out.1,hya]at hlk;obtain⟨ak,aso,anu,axx,ast,asv,aab,hyc⟩:=jH ya;unfold lG at hlk;rw[hyc]at hlk;have HYC:=Hd (An hya hyc);have hdq:=HLQ.out.2.1;obtain⟨d0,d1,d2,d3,d4,d5,d6⟩:=hdq.m7;clear hya hyc hdq
         go_upto_region 51 with fail
         obtain⟨D3,hD3,hz3,n3,f3⟩:=il wr #[.int .i64 ak,.string aso,.int .i64 anu,.int .i64 axx,.string ast,.string asv,.bool aab] 95 wr.heap.size
         try rw[hD3]
         obtain⟨RB,hRB⟩:=eR (wr.heap.size);rw[hRB]at n3 ⊢;have HL3:=Hd (HLQ.out.1.fr0 f3);have hd3:=HLQ.out.2.1.fr f3 (by simp);have HD3:=Hd (An hd3 n3);obtain⟨D5,hput,f5,hL5⟩:=HL3.out.putA x HX.out.2.1 HX.out.2.2;rw[HEN.out.1,HEN.out.2]at hput;have HD5:=Hd (An hL5 (hd3.fr f5 (by have:=HD0.out.2.1;simp;omega)));clear d0 d1 d2 d3 d4 d5 d6 hlk hD3 hz3 hRB f3 f5 hL5;obtain⟨d0,d1,d2,d3,d4,d5,d6⟩:=hd3.m7
         cases am with
         | none =>
          clear hd3 n3
          go_wp2_with fail
          go_meet
          exact⟨rfl,by simp[oO],HD5.out.1,HD5.out.2⟩
         | some z =>
          obtain rfl:z=ya:=HYC.out.1;obtain⟨e1,e2⟩:=HL3.out.asm_ok HSA.out.2;obtain⟨bq,hbq⟩:=eR (decide (z=x))
          have hne:∀X,(binOp .neq 95 (.agg #[.int .i64 ak,.string aso,.int .i64 anu,.int .i64 axx,.string ast,.string asv,.bool aab]) (.agg #[.int .i64 ek,.string eso,.int .i64 enu,.int .i64 exx,.string est,.string esv,.bool eab])).run prog X=.ok (.bool (!bq)) X:=λX=>by
           have h:=pz (by rw[e1];exact HX.out.2.1) HX.out.2.1 (by omega) (by have:=HX.out.2.2;omega) X (a:=z) (b:=x);rw[hbq,HEN.out.2]at h;unfold lG at h;rw[HYC.out.2]at h;exact h
          obtain⟨q0,q1,q2,q3,q4,q5,q6⟩:=n3.m7;have HBQ:=Hd hbq;clear e1 e2 hbq hd3 n3
          cases bq with
          | true =>
           go_wp2_with fail
           go_meet
           exact⟨rfl,by simp[oO,pB,of_decide_eq_true HBQ.out],HD5.out.1,HD5.out.2⟩
          | false =>
           have hres:=HERR.out (by simp[oO,pB,of_decide_eq_false HBQ.out]);have HFE:=Hd (HF8.out.trans HL3.out.fr (λq hq=>.inr (by have h1:=H5.out.size;have h2:=HCB.out;simp at hq;omega)));clear hput;have hb4:=HN.out.2.1.fr HFE.out (by simp);have hb6:=HN.out.2.2.1.fr HFE.out (by simp);obtain⟨tn0,tn1,tn2,tn3,tn4,tn5⟩:=hb6.m6;obtain⟨t0,t1,t2,t3,t4,t5⟩:=hb4.m6;have tf0:=hb4.f 0;have tf1:=hb4.f 1;have tf2:=hb4.f 2;have tf3:=hb4.f 3;have tf4:=hb4.f 4;have tf5:=hb4.f 5
           go_wp2_with fail
           obtain⟨u2,hW2,hb2,g2⟩:=qN (D3) (w.heap.size+1+1) hb4 (.int .u8 0) (.int .i64 0) (.slice none 0 0) (.slice none 0 0) (.slice none 0 0) (.slice none 0 0);rw[hW2];clear hW2;clear t0 t1 t2 t3 t4 t5 tf0 tf1 tf2 tf3 tf4 tf5 tn0 tn1 tn2 tn3 tn4 tn5;obtain⟨t0,t1,t2,t3,t4,t5⟩:=hb2.m6
           try simp only[Exit.inBlock,Exit.then]
           refine bodyPost_ret (v:=.tuple #[iU,.int .i64 10]) (by simp[results,results23,iU,go_sem,t0,t1,t2,t3,t4,t5]) rfl ?_;unfold kH;rw[hres];exact⟨rfl,(HN.out.2.2.2.then HFE.out).trans g2 (by simp;omega)⟩
        ·have HLQ:=Hd (An hl (An HDB.out (An hff hss)))
         have hfd:decide ((fv:Int)<0)=false:=by simp;omega
         have hfd2:¬(fv:Int)<0:=by omega
         clear hl hff hss
         go_wp2_with fail
         go_meet
         exact⟨HLQ.out.2.2.1,by rw[HLQ.out.2.2.2];simp[oO,pB],by rw[HLQ.out.2.2.2];exact HLQ.out.1,HLQ.out.2.1⟩
       obtain⟨hfv,hgb,hlW,hdW⟩:=hcut;obtain⟨X2,hX2⟩:=eR (wc);rw[hX2]at hlW hdW ⊢;clear hX2 HDB HOR hcb2;obtain⟨idi,hidi⟩:∃v,(ps.map PF.i)[i]?=some v:=⟨_,gx (by rw[List.length_map,HP.out.2.1];exact hlt)⟩;have hst:=px HRR.out HX.out.1;rw[lm,HSA.out.1,HSA.out.2,if_neg (by rw[hgb];simp),List.getD_eq_getElem?_getD,hidi,<-hfv]at hst;have HST3:=Hd hst;have hib0:=(HST.out w8 (Fq _ _)).2.1;have hcN:CB ∉ eV LA:=λhm=>by have h1:=hlW.la CB hm;have h2:=hlW.d;omega
       have hiN:ib ∉ eV LA:=λhm=>by have h1:=hlW.la ib hm;have h2:=hlW.d;omega
       have hDN:D ∉ eV LA:=λhm=>by
        have:=NoT.own (ts:=[95]) hlW.own (by decide) D hm _ _ _ hdW;simp at this
       have HW:=Hd (An hlW (An hdW (An hcN (An hiN hDN))));have hii:(jX (ps.map PF.i))[i]?=some (.int .i64 (idi:Int)):=by unfold jX;rw[List.getElem?_map,hidi];rfl
       have HSS:=Hd (λ(W:World) (hW:Fr (eV LA) X2 W)=>(show W.cell? ⟨CB,4,none⟩=some (.slice LA s2.lks.length lc)/\W.cell? ⟨CB,2,none⟩=some (.slice (some ⟨ib,0,none⟩) (lq+1) ic)/\W.cell? ⟨ib,i,none⟩=some (.int .i64 (idi:Int))/\W.cell? ⟨D,0,none⟩=some (.int .i64 ek)/\W.cell? ⟨D,1,none⟩=some (.string eso)/\W.cell? ⟨D,2,none⟩=some (.int .i64 enu)/\W.cell? ⟨D,3,none⟩=some (.int .i64 exx)/\W.cell? ⟨D,4,none⟩=some (.string est)from by
        have hb:=hlW.box.fr hW hcN;have hd:=hdW.fr hW hDN;have hi:=((HST.out X2 hlW.fr).2.fr hW hiN).2 i _ hii;have hc2:=hb.c 2;rw[<-HQ01.out.2.2.1]at hc2;exact⟨hb.c 4,hc2,hi,hd.c 0,hd.c 1,hd.c 2,hd.c 3,hd.c 4⟩))
       have hC:Fr (eV LA) X2 X2.drew:=(Fq _ X2).drew;clear hst hfv hib0 hcN hiN hDN hlW hdW hii hidi hgb
       go_upto_region 54 with fail
       refine xb (a:=?vl) (λa' W'=>∃(T1:Value) (LA2:Option Addr) (lc2:Nat),a'={ tmps:=((((((((((((((Act.tmps ?vl).setIfInBounds 247 (.pointer (some ⟨CB,4,none⟩))).setIfInBounds 248 (.slice LA s2.lks.length lc)).setIfInBounds 249 (.int .i64 (fv))).setIfInBounds 250 (.pointer (some ⟨CB,2,none⟩))).setIfInBounds 251 (.slice (some ⟨ib,0,none⟩) (lq+1) ic)).setIfInBounds 252 (.int .i64 (i:Int))).setIfInBounds 253 (.pointer (some ⟨ib,i,none⟩))).setIfInBounds 254 (.int .i64 (idi:Int))).setIfInBounds 255 (.pointer (some ⟨D,0,none⟩))).setIfInBounds 256 (.agg #[.int .i64 ek,.string eso,.int .i64 enu,.int .i64 exx,.string est])).setIfInBounds 257 (.agg #[.int .i64 (fv),.int .i64 (idi:Int),.int .i64 ek,.string eso,.int .i64 enu,.int .i64 exx,.string est])).setIfInBounds 258 (T1)).setIfInBounds 259 (.slice LA2 (s2.lks.length+1) lc2)).setIfInBounds 260 (.pointer (some ⟨CB,4,none⟩)),defers:=[] }/\LVg w8 W' CB ub ma (lq+1) q0 q1 v2 v3 LA2 lc2 ⟨(sB (ps.map PF.i) i s2 sr x).used,(sB (ps.map PF.i) i s2 sr x).asm,s2.lks++[⟨fv,idi,x.n⟩]⟩) ?_ ?_
       ·refine eZ (λW=>Fr (eV LA) X2 W) 13 (by kernel_rfl) ?_ (by decide)
        show fb 0 ..
        iterate 11 (refine gB rfl ?_;try simp only[qq])
        refine hO (i:=11) rfl λK hK=>?_;go_simp
        obtain⟨G1,hG1,n1,hC1⟩:=sf X2 #[.int .i64 (fv),.int .i64 (idi:Int),.int .i64 ek,.string eso,.int .i64 enu,.int .i64 exx,.string est] 98;rw[hG1];refine hK _ _ (hC1.mono (by simp)) ?_;clear hK K hG1 hC
        try simp only[qq]
        refine hO (i:=12) rfl λK hK=>?_;obtain⟨ii,hii,iz0,iz1,iz2⟩:=mB;have hO2:=HW.out.1.own.fr hC1 (by simp);have hlkc:=vT (f:=fv) (t:=idi) HEN.out.1
        have hlen:s2.lks.length<=1000:=by
         have h1:=mi (λa ha=>(HP.out.2.2.2.1 a ha).2.1) HRUN.out;have h2:=oP _ _ _ _ _ _ HRR.out;have h3:(y.a.r.take k).length<=10:=by rw[List.length_take];omega
         omega
        refine gF (.tmp 248) (.tmp 258) 61 rfl 98 ii _ 7 72 underlying61 hii iz0 iz1 iz2 rfl (by decide) LA s2.lks.length lc (s2.lks.flatMap LK.cs) rfl hO2 ⟨X2.heap.size,0,none⟩ 1 1 (⟨fv,idi,x.n⟩:LK).cs rfl rfl (λj u hu=>by rw[hlkc]at hu;rw[fx,n1.c j];simpa using hu) (wL _) (by unfold maxLen;omega) (by omega) ?_;intro LA2 lc2 G2 ho2 hf2 hA2;have hC:Fr (eV LA) X2 G2:=(hC1.mono (by simp)).then hf2;refine hK _ _ hC ?_;clear hK K
        try simp only[qq]
        refine eW ⟨by kernel_rfl,?_⟩;simp only[qG,qH];have hb2:=HW.out.1.box.fr hC HW.out.2.2.1;have p0:=hb2.k4;have p1:=hb2.f 4;have hA3:∀q∈eV LA2,q∈eV LA \/ X2.heap.size<=q:=λq hq=>(hA2 q hq).imp id λh=>Nat.le_trans hC1.size h;clear hC1 n1 hf2 hA2 HSS iz0 iz1 iz2 hii hO2 hlkc hlen
        go_wp2_with fail
        have n3:=hb2.setAt 4 (.slice LA2 (s2.lks.length+1) lc2);have f3:Fr [CB] G2 (G2.setCell ⟨CB,4,none⟩ (.slice LA2 (s2.lks.length+1) lc2)):=(Fq [CB] G2).st _;have hfin:=HW.out.1.putL ⟨fv,idi,x.n⟩ hC ho2 hA3 f3 n3;exact⟨_,LA2,lc2,⟨rfl,rfl,rfl⟩,hfin⟩
       rintro a' wl ⟨T1,LA2,lc2,rfl,hl9⟩;simp only[qA,qB,qC];have HL9:=Hd hl9;clear hl9 HSS hC
       go_wp2_with fail
       go_roundw
       case rel=>exact⟨k+1,lc2,LA2,_,by omega,by go_num,HL9.out,HST3.out⟩
       case measure=>simp[intOf];omega
    ·obtain rfl:k=nr:=by omega
     have hra:i6 as_ (ps.map PF.i) (i+1)=some s2:=by
      have h:=HRR.out;rw[List.take_of_length_le (by rw[HYI.out.2.2.2.2.2];exact fV _)]at h;rw[i6,HRUN.out,HYI.out.1];exact h
     have HRA:=Hd hra;clear hra hkt hwi
     go_wp2_with fail
     go_roundw
     case rel=>exact⟨i+1,lc,LA,s2,by omega,by go_num,HLI.out,HRA.out⟩
     case measure=>simp[intOf];omega
  ·obtain rfl:i=lq+1:=by omega
   rw[show ((lq+1:Nat):Int)=(lq:Int)+1 from by omega];have HVS:Hid (ju nm P (ps.map PF.i) as_=if(List.range lq).all (λi=>decide (i∈s.used))=true then .ok (bv,s)else .error 33):=Hd (by rw[HVR.out.2 s (by rw[HP.out.2.2.1];exact HRUN.out),HP.out.2.2.1,show lq+1 - 1=lq from by omega]);clear hlt;have HFA:=Hd (HF8.out.trans HLI.out.fr (λq hq=>.inr (by have h1:=H5.out.size;have h2:=HCB.out;simp at hq;omega)))
   go_wp2_with fail
   go_loopw [28] (λt W=>wr=W/\∃(j:Nat),j<=lq/\t=.int .i64 (j:Int)/\∀k,k<j->k∈s.used) (λt _=>lq - (intOf t).toNat)
   case atStart=>exact⟨rfl,0,Nat.zero_le _,rfl,λk hk=>absurd hk (by omega)⟩
   case round =>
    obtain⟨hwr,j,hj,rfl,hus⟩:=hrel;subst hwr;have HUS:=Hd hus;clear hus
    by_cases hlt:j<lq
    ·have hltd:decide ((j:Int)<(lq:Int))=true:=by simp;omega
     have hlt3:(j:Int)<(lq:Int):=by omega
     have hlt4:(j:Int)<(lq:Int)+1:=by omega
     have hwj:IntKind.i64.wrap (j:Int)=(j:Int):=by simp[IntKind.wrap,IntKind.bits,IntKind.signed];omega
     obtain⟨bu,hbu⟩:=eR (decide (j∈s.used));have u0:wr.cell? ⟨ub,j,none⟩=some (.bool bu):=by rw[<-hbu];exact(HLI.out.us.c j).trans (yz (by omega))
     cases bu with
     | true =>
      have HJU:=Hd (of_decide_eq_true hbu);clear hbu
      go_wp2_with fail
      go_roundw
      case rel=>exact⟨trivial,j+1,by omega,by go_num,λq hq=>(Nat.lt_or_eq_of_le (Nat.le_of_lt_succ hq)).elim (HUS.out q) (λh=>by rw[h];exact HJU.out)⟩
      case measure=>simp[intOf];omega
     | false =>
      have hju:=of_decide_eq_false hbu
      have hres:ju nm P (ps.map PF.i) as_=.error 33:=by
       rw[HVS.out,if_neg];intro h;exact hju (of_decide_eq_true (List.all_eq_true.1 h j (List.mem_range.2 hlt)))
      clear hju hbu;have hb4:=HN.out.2.1.fr HFA.out (by simp);have hb6:=HN.out.2.2.1.fr HFA.out (by simp);obtain⟨tn0,tn1,tn2,tn3,tn4,tn5⟩:=hb6.m6;obtain⟨t0,t1,t2,t3,t4,t5⟩:=hb4.m6;have tf0:=hb4.f 0;have tf1:=hb4.f 1;have tf2:=hb4.f 2;have tf3:=hb4.f 3;have tf4:=hb4.f 4;have tf5:=hb4.f 5
      go_wp2_with fail
      obtain⟨u2,hW2,hb2,g2⟩:=qN (wr) (w.heap.size+1+1) hb4 (.int .u8 0) (.int .i64 0) (.slice none 0 0) (.slice none 0 0) (.slice none 0 0) (.slice none 0 0);rw[hW2];clear hW2;clear t0 t1 t2 t3 t4 t5 tf0 tf1 tf2 tf3 tf4 tf5 tn0 tn1 tn2 tn3 tn4 tn5;obtain⟨t0,t1,t2,t3,t4,t5⟩:=hb2.m6
      try simp only[Exit.inBlock,Exit.then]
      refine bodyPost_ret (v:=.tuple #[iU,.int .i64 33]) (by simp[results,results23,iU,go_sem,t0,t1,t2,t3,t4,t5]) rfl ?_;unfold kH;rw[hres];exact⟨rfl,(HN.out.2.2.2.then HFA.out).trans g2 (by simp;omega)⟩
    ·obtain rfl:j=lq:=by omega
     have hres:ju nm P (ps.map PF.i) as_=.ok (bv,s):=by
      rw[HVS.out,if_pos];exact List.all_eq_true.2 λk hk=>decide_eq_true (HUS.out k (List.mem_range.1 hk))
     have HRES:=Hd hres;clear hres HUS HVS hlt;obtain⟨es,hmm,hgm,hkm⟩:=HLI.out.am;obtain⟨V0,hrg,hf0,hR0⟩:=rT (P:=prog) (q:=fg) (f:=lG) (t:=149) underlying149 (by obtain⟨es0,clock,h1,h2,_,h4⟩:=hmm.map;exact⟨es0,clock,h1,h2,h4⟩);have hel:=uv HRUN.out (λa ha=>(HP.out.2.2.2.1 a ha).2.1) hgm hmm.nd
     have hel2:es.length<=1000:=by
      have h1:=HP.out.2.2.1;omega
     have HES:=Hd (An hmm.nd (An hgm (An hkm hel2)));have hla:∀q∈eV LA,q<wr.heap.size:=HLI.out.own.lt;have hyg:=HLI.out.young;obtain⟨ri,hri⟩:=eR (wr.heap.size);rw[hri]at hrg hR0 hla hyg
     have HG0:Hid (LNg w8 V0 CB ma ri q0 q1 v2 v3 LA none lc 0 s es []):=by
      have h:=HLI.out.fr0 hf0;have hd:=h.d;exact Hd ⟨h.box,h.own,Own.nil _ _ _,hmm.fr0 hf0,hR0,⟨hd.1,by omega,hyg⟩,λq hq=>⟨h.la q hq,hla q hq⟩,by simp[eV],h.fr⟩
     clear hmm hgm hkm hf0 hR0 hel hel2 hla hyg hri
     go_wp2_with fail
     clear hrg
     go_loopw [29] (λt W=>∃(nc:Nat) (NA:Option Addr) (l:List (ON × CH)),t=.slice NA l.length nc/\LNg w8 W CB ma ri q0 q1 v2 v3 LA NA lc nc s es l) (λ_ W=>yy W ri ma)
     case atStart=>exact⟨0,none,[],rfl,HG0.out⟩
     case round =>
      obtain⟨nc,NA,l,rfl,hrl⟩:=hrel
      rename World=>wq
      have HG:=Hd hrl;clear hrl
      rcases HG.out.rg.step (P:=prog)with⟨hperm,hnx⟩|⟨e,W1,hee,hnx,hen,hf1,hr1⟩
      ·have HPM:=Hd hperm
       clear hperm;have hnm:(l.map Prod.fst).Nodup:=(HPM.out.map Prod.fst).nodup_iff.1 HES.out.1
       have hokn:∀x∈l.map Prod.fst,eX x=0:=λx hx=>by
        obtain⟨e,he,rfl⟩:=List.mem_map.1 hx;exact(HES.out.2.2.1 e (HPM.out.symm.subset he)).2.2
       have hln:l.length<=1000:=by have h1:=HPM.out.length_eq;have h2:=HES.out.2.2.2;omega
       have hso:=DP nc l.length NA (l.map Prod.fst) wq (by simp) (by rw[List.flatMap_map];exact HG.out.on.rd) hokn hnm (by omega);have HSO:=Hd hso;clear hso hnm
       go_upto_region 66 with(go_at_call 68;(with_reducible refine HSO.out.mono ?_);rintro e X1 ⟨SA,sc,ns,rfl,hrs,hps,hpw,hfs,hys,hyl⟩;have HS:=Hd (An hrs (An hps (An hpw (An hfs (An hys hyl)))));clear hrs hps hpw hfs hys hyl)
       clear hnx HSO
       have hmem:∀n∈ns,∃e∈es,e.1=n:=λn hn=>by
        obtain⟨e,he,h⟩:=List.mem_map.1 (HS.out.2.1.mem_iff.1 hn);exact⟨e,HPM.out.symm.subset he,h⟩
       have hget:∀e∈es,(s.asm e.1).getD xK=e.2:=λe he=>by rw[<-HES.out.2.1,xT HES.out.1 he];rfl
       obtain⟨zs,hzs⟩:=eR ((ns.map λn=>(s.asm n).getD xK))
       have hasm:kP s.asm zs:=by
        refine CA HES.out.2.1 HES.out.2.2.1 HES.out.1 HPM.out ?_ ?_
        ·rw[<-hzs]
         refine(HS.out.2.1.map _).trans ?_;rw[List.map_map];exact List.Perm.of_eq (List.map_congr_left λe he=>hget e (HPM.out.symm.subset he))
        ·rw[<-hzs,List.pairwise_map]
         refine List.Pairwise.imp_of_mem (fun {a b} ha hb hab=>?_) HS.out.2.2.1;obtain⟨e1,he1,rfl⟩:=hmem a ha;obtain⟨e2,he2,rfl⟩:=hmem b hb;rw[hget e1 he1,hget e2 he2,(HES.out.2.2.1 e1 he1).1,(HES.out.2.2.1 e2 he2).1];exact hab
       have hnl:ns.length=l.length:=by rw[HS.out.2.1.length_eq,List.length_map]
       have hzl:zs.length=l.length:=by rw[<-hzs,List.length_map,hnl]
       have hlk:∀(k:Nat) (nk:ON),ns[k]?=some nk->∃z,zs[k]?=some z/\∀W,MM 31 fg lG W ma es->(Instr.lookup 149 (.map (some ma)) (fg nk) false).run prog W=.ok (lG z) W:=λk nk hk=>by
        obtain⟨e,he,rfl⟩:=hmem nk (iu hk);refine⟨e.2,by rw[<-hzs,List.getElem?_map,hk];exact congrArg some (hget e he),λW hW=>?_⟩;obtain⟨kl,hkl⟩:=fU (HES.out.2.2.1 e he).2.2;have h:=hW.look0 ir iA underlying149 e.1 hkl (rQ W);rw[xT HES.out.1 he]at h;exact h
       have hX:CB<X1.heap.size/\ma<X1.heap.size/\(∀q∈eV LA,q<X1.heap.size/\q≠CB)/\(∀q∈eV SA,q<X1.heap.size/\q≠CB):=by
        have h1:=HS.out.2.2.2.1.size;have h2:=HG.out.box.lt;have h3:=HG.out.rg.lt;have h4:=HG.out.d;refine⟨by omega,by omega,λq hq=>⟨by have:=HG.out.la q hq;omega,by have:=HG.out.la q hq;omega⟩,λq hq=>⟨?_,by have:=HS.out.2.2.2.2.1 q hq;omega⟩⟩;exact HS.out.2.2.2.2.2 q hq
       have HX1:=Hd (An hasm (An hnl (An hzl (An hlk hX))));have HB1:Hid (BoxN X1 CB 64 #[q0,q1,v2,v3,.slice LA s.lks.length lc,.slice none 0 0]):=Hd (HG.out.box.fr HS.out.2.2.2.1 (by simp));have HM1:=Hd (HG.out.mm.fr0 HS.out.2.2.2.1);clear hmem hget hzs hasm hnl hzl hlk hX hokn
       go_wp2_with fail
       go_loopw [31] (λt W=>∃(k ac:Nat) (AA:Option Addr),k<=l.length/\t=.int .i64 (k:Int)/\BoxN W CB 64 #[q0,q1,v2,v3,.slice LA s.lks.length lc,.slice AA k ac]/\Own W 95 7 AA k ac ((zs.take k).flatMap CH.cs)/\(∀q∈eV AA,X1.heap.size<=q)/\Fr [CB] X1 W) (λt _=>l.length - (intOf t).toNat)
       case atStart=>exact⟨0,0,none,Nat.zero_le _,rfl,HB1.out,Own.nil _ _ _,by simp[eV],Fq _ _⟩
       case round =>
        obtain⟨k,ac,AA,hk,rfl,hbz,hoz,hyz,hfz⟩:=hrel;have HZ:=Hd (An hbz (An hoz (An hyz hfz)));clear hbz hoz hyz hfz
        rename World=>wz
        by_cases hkt:k<l.length
        ·have hktd:decide ((k:Int)<(l.length:Int))=true:=by simp;omega
         have hkt3:(k:Int)<(l.length:Int):=by omega
         have hwk:IntKind.i64.wrap (k:Int)=(k:Int):=by simp[IntKind.wrap,IntKind.bits,IntKind.signed];omega
         obtain⟨nk,hnk⟩:∃n,ns[k]?=some n:=⟨_,gx (by rw[HX1.out.2.1];exact hkt)⟩;obtain⟨z,hz,hlz⟩:=HX1.out.2.2.2.1 k nk hnk;obtain⟨sb,so2,hSA,hsb,hcS⟩:=fo me HS.out.1 (by omega);subst hSA;have hcn:=hcS k nk hnk;obtain⟨ak,aso,anu,axx,ast,hcs⟩:∃(a:Int) (b:ByteArray) (c d:Int) (f:ByteArray),nk.cs=[.int .i64 a,.string b,.int .i64 c,.int .i64 d,.string f]:=⟨_,_,_,_,_,rfl⟩;have hke:fg nk=.agg #[.int .i64 ak,.string aso,.int .i64 anu,.int .i64 axx,.string ast]:=by show Value.agg nk.cs.toArray=_;rw[hcs]
         obtain⟨ck,cso,cnu,cxx,cst,csv,cab,hzc⟩:=jH z;rw[hke]at hlz;unfold lG at hlz;rw[hzc]at hlz;rw[hcs]at hcn;have hd:=HX1.out.2.2.2.2;have hcA:CB ∉ eV AA:=λhm=>by have:=HZ.out.2.2.1 CB hm;omega
         have hmA:ma ∉ eV AA:=λhm=>by have:=HZ.out.2.2.1 ma hm;omega
         have hsA:sb ∉ eV AA/\sb≠CB:=⟨λhm=>by have:=HZ.out.2.2.1 sb hm;omega,(hd.2.2.2 sb (by simp[eV])).2⟩;have hmC:ma≠CB:=by have:=HG.out.d;omega
         have HSS:=Hd (λ(W:World) (hW:Fr (eV AA) wz W)=>(show W.cell? ⟨CB,5,none⟩=some (.slice AA k ac)/\W.cell? ⟨sb,so2+k*5,none⟩=some (.int .i64 ak)/\W.cell? ⟨sb,so2+k*5+1,none⟩=some (.string aso)/\W.cell? ⟨sb,so2+k*5+2,none⟩=some (.int .i64 anu)/\W.cell? ⟨sb,so2+k*5+3,none⟩=some (.int .i64 axx)/\W.cell? ⟨sb,so2+k*5+4,none⟩=some (.string ast)/\(Instr.lookup 149 (.map (some ma)) (.agg #[.int .i64 ak,.string aso,.int .i64 anu,.int .i64 axx,.string ast]) false).run prog W=.ok (.agg #[.int .i64 ck,.string cso,.int .i64 cnu,.int .i64 cxx,.string cst,.string csv,.bool cab]) W from by
          have hc:∀o,o<5->W.cell? ⟨sb,so2+k*5+o,none⟩=wz.cell? ⟨sb,so2+k*5+o,none⟩:=λo _=>hW.cell (Nat.lt_of_lt_of_le hsb HZ.out.2.2.2.size) hsA.1;have hc2:∀o,o<5->wz.cell? ⟨sb,so2+k*5+o,none⟩=X1.cell? ⟨sb,so2+k*5+o,none⟩:=λo _=>HZ.out.2.2.2.cell hsb (by simpa using hsA.2);have hc3:∀o,o<5->W.cell? ⟨sb,so2+k*5+o,none⟩=_:=λo ho=>((hc o ho).trans (hc2 o ho)).trans (hcn o ho);exact⟨(HZ.out.1.fr hW hcA).c 5,hc3 0 (by omega),hc3 1 (by omega),hc3 2 (by omega),hc3 3 (by omega),hc3 4 (by omega),hlz W ((HM1.out.fr HZ.out.2.2.2 (by simpa using hmC)).fr hW hmA)⟩))
         have HZC:=Hd (An hz (An hzc hcA));have hC:Fr (eV AA) wz wz.drew:=(Fq _ wz).drew;clear hnk hz hlz hsb hcS hcn hcs hke hzc hd hcA hmA hsA hmC
         go_upto_region 69 with fail
         refine xb (a:=?vz) (λa' W'=>∃(T1:Value) (A2:Option Addr) (ac2:Nat),a'={ tmps:=(((((((((((Act.tmps ?vz).setIfInBounds 290 (.pointer (some ⟨CB,5,none⟩))).setIfInBounds 291 (.slice AA k ac)).setIfInBounds 292 (.map (some ma))).setIfInBounds 293 (.slice (some ⟨sb,so2,none⟩) l.length sc)).setIfInBounds 294 (.int .i64 (k:Int))).setIfInBounds 295 (.pointer (some ⟨sb,so2+k*5,none⟩))).setIfInBounds 296 (.agg #[.int .i64 ak,.string aso,.int .i64 anu,.int .i64 axx,.string ast])).setIfInBounds 297 (.agg #[.int .i64 ck,.string cso,.int .i64 cnu,.int .i64 cxx,.string cst,.string csv,.bool cab])).setIfInBounds 298 (T1)).setIfInBounds 299 (.slice A2 (k+1) ac2)).setIfInBounds 300 (.pointer (some ⟨CB,5,none⟩)),defers:=[] }/\BoxN W' CB 64 #[q0,q1,v2,v3,.slice LA s.lks.length lc,.slice A2 (k+1) ac2]/\Own W' 95 7 A2 (k+1) ac2 ((zs.take k).flatMap CH.cs++z.cs)/\(∀q∈eV A2,X1.heap.size<=q)/\Fr [CB] X1 W') ?_ ?_
         ·refine eZ (λW=>Fr (eV AA) wz W) 10 (by kernel_rfl) ?_ (by decide)
          show fb 0 ..
          iterate 8 (refine gB rfl ?_;try simp only[qq])
          refine hO (i:=8) rfl λK hK=>?_;go_simp
          obtain⟨G1,hG1,n1,hC1⟩:=sf wz #[.int .i64 ck,.string cso,.int .i64 cnu,.int .i64 cxx,.string cst,.string csv,.bool cab] 95;rw[hG1];refine hK _ _ (hC1.mono (by simp)) ?_;clear hK K hG1 hC
          try simp only[qq]
          refine hO (i:=9) rfl λK hK=>?_;obtain⟨ii,hii,iz0,iz1,iz2⟩:=oK;have hO2:=HZ.out.2.1.fr hC1 (by simp);refine gF (.tmp 291) (.tmp 298) 62 rfl 95 ii _ 7 80 underlying62 hii iz0 iz1 iz2 rfl (by decide) AA k ac ((zs.take k).flatMap CH.cs) rfl hO2 ⟨wz.heap.size,0,none⟩ 1 1 z.cs rfl rfl (λj u hu=>by rw[HZC.out.2.1]at hu;rw[fx,n1.c j];simpa using hu) (xM _) (by unfold maxLen;omega) (by omega) ?_;intro A2 ac2 G2 ho2 hf2 hA2;have hC:Fr (eV AA) wz G2:=(hC1.mono (by simp)).then hf2;refine hK _ _ hC ?_;clear hK K
          try simp only[qq]
          refine eW ⟨by kernel_rfl,?_⟩;simp only[qG,qH];have hb2:=HZ.out.1.fr hC HZC.out.2.2;have p0:=hb2.k5;have p1:=hb2.f 5
          have hyA:∀q∈eV A2,X1.heap.size<=q:=λq hq=>by
           rcases hA2 q hq with h|h
           ·exact HZ.out.2.2.1 q h
           ·exact Nat.le_trans HZ.out.2.2.2.size (Nat.le_trans hC1.size h)
          clear hC1 n1 hf2 hA2 HSS iz0 iz1 iz2 hii hO2
          go_wp2_with fail
          have f3:Fr [CB] G2 (G2.setCell ⟨CB,5,none⟩ (.slice A2 (k+1) ac2)):=(Fq [CB] G2).st _;exact⟨_,A2,ac2,rfl,hb2.setAt 5 _,ho2.fr f3 (λq hq hm=>by have h1:=hyA q hq;have h2:=HX1.out.2.2.2.2.1;simp at hm;omega),hyA,(HZ.out.2.2.2.trans hC (λq hq=>.inr (HZ.out.2.2.1 q hq))).then f3⟩
         rintro a' wn ⟨T1,A2,ac2,rfl,hbn,hon,hyn,hfn⟩;simp only[qA,qB,qC];have HN9:=Hd (An hbn (An hon (An hyn hfn)));clear hbn hon hyn hfn HSS hC
         go_wp2_with fail
         go_roundw
         case rel=>exact⟨k+1,ac2,A2,by omega,by go_num,HN9.out.1,by rw[mj HZC.out.1,List.flatMap_append];simpa using HN9.out.2.1,HN9.out.2.2.1,HN9.out.2.2.2⟩
         case measure=>simp[intOf];omega
        ·have hkl:k=l.length:=by omega
         subst hkl;obtain⟨h0,h1,h2,h3⟩:=HQ01.out;subst h0;subst h1;subst h2;subst h3;have hbz:=HZ.out.1;have hcF:Fr [CB] w8 wz:=(HG.out.fr.trans HS.out.2.2.2.1 (by simp)).then HZ.out.2.2.2;have hwF:Fr [] w4 wz:=HF8.out.trans hcF (λq hq=>.inr (by have h1:=H5.out.size;have h2:=HCB.out;simp at hq;omega));have hc4:=HN.out.2.1.fr hwF (by simp);have HC4:=Hd (An hc4 (An hcF hwF));obtain⟨b0,b1,b2,b3,b4,b5⟩:=hbz.m6;obtain⟨y0,y1,y2,y3,y4,y5⟩:=hc4.m6;have v0:=hc4.f 0;have v1:=hc4.f 1;have v2:=hc4.f 2;have v3:=hc4.f 3;have v4:=hc4.f 4;have v5:=hc4.f 5;clear hbz hc4 hcF hwF hkt
         go_wp2_with fail
         obtain⟨wB,hW2,nB,fB⟩:=qN (wz) (w.heap.size+1+1) HC4.out.1 (.int .u8 (bv.toNat:Int)) (.int .i64 (pl:Int)) (.slice (some ⟨ib,0,none⟩) (j+1) ic) (.slice KA (j+1) kc) (.slice LA s.lks.length lc) (.slice AA l.length ac);rw[hW2];clear hW2;obtain⟨t0,t1,t2,t3,t4,t5⟩:=nB.m6;refine bodyPost_ret (v:=.tuple #[.agg #[.int .u8 (bv.toNat:Int),.int .i64 (pl:Int),.slice (some ⟨ib,0,none⟩) (j+1) ic,.slice KA (j+1) kc,.slice LA s.lks.length lc,.slice AA l.length ac],.int .i64 0]) (by simp[results,results23,go_sem,t0,t1,t2,t3,t4,t5]) rfl ?_;unfold kH;rw[HRES.out];have hv:=HVV.out;have hrs:w.heap.size+1+1<w5.heap.size:=Nat.lt_of_lt_of_le HN.out.2.1.lt H5.out.size;have h85:w5.heap.size<=w8.heap.size:=hv.fr.size;have hpi:(ps.map PF.i).length=j+1:=by rw[List.length_map,HP.out.2.1]
         have hzz:zs.take l.length=zs:=List.take_of_length_le (by rw[HX1.out.2.2.1];exact fV _);have hGd:=HG.out.d;have hX1w:w8.heap.size<=X1.heap.size:=Nat.le_trans HG.out.fr.size HS.out.2.2.2.1.size;refine⟨_,rfl,⟨some ⟨ib,0,none⟩,KA,LA,AA,ic,kc,lc,ac,zs,?_,?_,?_,?_,?_,HX1.out.1⟩,(HN.out.2.2.2.then HC4.out.2.2).trans fB (λq hq=>.inr (by simp at hq;omega))⟩
         ·rw[hpi,HP.out.2.2.1,HLA.out,HX1.out.2.2.1]
         ·rw[hpi];exact(hv.io.rd.fr HC4.out.2.1 (by intro q hq;simp only[gI];rintro rfl;exact hv.d.1 hq)).fr fB (by intro q hq;have:=hv.hi q hq;simp;omega)
         ·rw[HP.out.2.2.1];exact(hv.ko.rd.fr HC4.out.2.1 (by intro q hq;simp only[gI];rintro rfl;exact hv.d.2.1 hq)).fr fB (by intro q hq;have:=hv.hk q hq;simp;omega)
         ·exact((HG.out.own.rd.fr0 HS.out.2.2.2.1).fr HZ.out.2.2.2 (by intro q hq;have:=HX1.out.2.2.2.2.2.2.1 q hq;simpa using this.2)).fr fB (by intro q hq;have:=HG.out.la q hq;simp;omega)
         ·have h:=HZ.out.2.1.rd
          rw[hzz]at h;rw[HX1.out.2.2.1];exact h.fr fB (by intro q hq;have:=HZ.out.2.2.1 q hq;simp;omega)
      ·obtain⟨ak,aso,anu,axx,ast,hcs⟩:∃(a:Int) (b:ByteArray) (c d:Int) (f:ByteArray),e.1.cs=[.int .i64 a,.string b,.int .i64 c,.int .i64 d,.string f]:=⟨_,_,_,_,_,rfl⟩
       have hke:fg e.1=.agg #[.int .i64 ak,.string aso,.int .i64 anu,.int .i64 axx,.string ast]:=by show Value.agg e.1.cs.toArray=_;rw[hcs]
       obtain⟨cv,hcv⟩:=eR (lG e.2);rw[hke,hcv]at hnx hen;have hon:=(HG.out.on.fr hf1 (λq hq hm=>by have:=HG.out.nb q hq;simp at hm;omega));have HE:=Hd (An hf1 (An hr1 hcs));have hln:l.length<=1000:=by have h1:=HG.out.rg.left;have h2:=HES.out.2.2.2;omega
       obtain⟨U0,hU0,hz0,n0,f0⟩:=il W1 #[.int .i64 ak,.string aso,.int .i64 anu,.int .i64 axx,.string ast] 31 W1.heap.size;have HON:=Hd (An (hon.fr f0 (by simp)) f0);clear hke hcv hf1 hr1 hcs hon hz0 hee f0
       go_upto_region 64 with fail
       try rw[hU0]
       clear hnx hen hU0;obtain⟨z0,z1,z2,z3,z4⟩:=n0.m5;clear n0;obtain⟨ii,hii,iz0,iz1,iz2⟩:=oY
       go_wp2_with (at_builtin;(with_reducible refine fp (w:=U0) rfl (.tmp 278) (.tmp 280) 101 rfl 31 ii _ 5 56 underlying101 hii iz0 iz1 iz2 rfl (by decide) NA l.length nc (l.flatMap λe=>e.1.cs) rfl HON.out.1 1 1 [.int .i64 ak,.string aso,.int .i64 anu,.int .i64 axx,.string ast] 31 rfl rfl (by simp[Value.oneCell']) (by unfold maxLen;omega) (by omega) ?_);intro NA2 nc2 U1 ho hf hs;have H8:=Hd (An ho (An hf hs));clear ho hf hs)
       go_roundw
       case rel =>
        have h8:=H8.out.1;rw[<-HE.out.2.2]at h8;exact⟨nc2,NA2,l++[e],by rw[gG];rfl,HG.out.put HE.out.1 HE.out.2.1 HON.out.2 H8.out.2.1 h8 H8.out.2.2⟩
       case measure =>
        have h8:=H8.out.1;rw[<-HE.out.2.2]at h8;have h1:=(HG.out.put HE.out.1 HE.out.2.1 HON.out.2 H8.out.2.1 h8 H8.out.2.2).rg.left;have h2:=HG.out.rg.left;rw[gG,List.length_singleton]at h1;omega
end Go.Proofs.YtlpmiimgacfmkaaGreatDoor
