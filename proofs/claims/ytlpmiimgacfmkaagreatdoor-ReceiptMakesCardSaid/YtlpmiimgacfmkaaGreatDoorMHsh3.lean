/- SHA-256: the end of (Hash).Sum. -/
import Derived.Deep.CutBlock
import Derived.Test.YtlpmiimgacfmkaaGreatDoorMOkk
set_option linter.all false
namespace Go.Proofs.YtlpmiimgacfmkaaGreatDoor
open Go.Proofs.Tryz
open Go.RowKit
set_option maxRecDepth 100000
set_option maxHeartbeats 4000000
theorem results_cell_mid {P:Program} {fn:Func} {p:Tmp} {ty:TypeId} {tmps:Array Value} {w:World} {b o:Nat} {cs:List Value} {d:TypeDesc} (h:fn.results=#[.cell p ty]) (hp:tmps.getD p undef=.pointer (some ⟨b,o,none⟩)) (hc:w.rangeAt b o cs) (hu:P.underlying ty=some d) (hd:d.isRow=true) (hi:(P.info? ty).map (·.size)=some cs.length) :
 (results fn tmps).run P w=.ok (.agg cs.toArray) w:=by
 have hp':tmps[p]?.getD undef=.pointer (some ⟨b,o,none⟩):=by rw[<-Array.getD_eq_getD_getElem?];exact hp
 simp only[results,h];simp[Sem.run_bind,Result.andThen,hp',asAddr,run_loadVar_mid w b o ty cs d hc hu hd hi]
def dCells (d:Nm):List Value:=d.map fun c=>Value.int .u8 (c.toNat:Int)
def encD (d:Nm):Value:=.agg (dCells d).toArray
def dig (s:Nat->Int):Nm:=(List.range 32).map fun j=>UInt8.ofNat (s (j / 4) / 2 ^ (24 - 8*(j % 4)) % 256).toNat
def lenB (n:Int) (j:Nat):Int:=n / 2 ^ (8*(63 - j)) % 256
theorem dig_cell (s:Nat->Int) {j:Nat} (hj:j<32):(dCells (dig s))[j]?=some (.int .u8 (s (j / 4) / 2 ^ (24 - 8*(j % 4)) % 256)):=by
 unfold dCells dig;rw[List.getElem?_map,List.getElem?_map,List.getElem?_range hj];simp only[Option.map_some]
 congr 2
 generalize s (j / 4) / 2 ^ (24 - 8*(j % 4))=x;rw[UInt8.toNat_ofNat'];omega
theorem dig_len (s:Nat->Int):(dCells (dig s)).length=32:=by simp[dCells,dig]
def dcell (s:Nat->Int) (j:Nat):Value:=.int .u8 (s (j / 4) / 2 ^ (24 - 8*(j % 4)) % 256)
def SumR2 (W0:World) (D:Nat) (s:Nat->Int) (i:Value) (W:World):Prop :=
 ∃ k:Nat,k<=8/\i=.int .i64 (k:Int)/\W.rowIs D 57 32 (fun j=>if j<4*k then dcell s j else .int .u8 0)/\Fr [D] W0 W
def SumR1 (W0:World) (Q:Nat) (bl:Nat->Int) (n:Int) (i:Value) (W:World):Prop :=
 ∃ k:Nat,k<=8/\i=.int .i64 (k:Int)/\W.rowIs Q 163 64 (fun j=>.int .u8 (if 64 - k<=j then lenB n j else bl j))/\Fr [Q] W0 W
def st8L (s:Nat->Int):List Value:=[.int .u32 (s 0),.int .u32 (s 1),.int .u32 (s 2),.int .u32 (s 3),.int .u32 (s 4),.int .u32 (s 5),.int .u32 (s 6),.int .u32 (s 7)]
theorem row_range8 {W:World} {P:Nat} {s:Nat->Int} (h:W.rowIs P 162 8 (fun j=>.int .u32 (s j))):W.rangeAt P 0 (st8L s):=by
 intro j v hv;have hj:j<8:=(lgs.1 hv).1;rw[Nat.zero_add,h.cell hj,<-hv]
 match j,hj with
 | 0,_=>rfl
 | 1,_=>rfl
 | 2,_=>rfl
 | 3,_=>rfl
 | 4,_=>rfl
 | 5,_=>rfl
 | 6,_=>rfl
 | 7,_=>rfl
theorem dcell_step (s:Nat->Int) (k j:Nat) :
 (if j=4*k+3 then Value.int .u8 (s k % 256) else if j=4*k+2 then Value.int .u8 (s k / 256 % 256) else if j=4*k+1 then Value.int .u8 (s k / 65536 % 256) else if j=4*k then Value.int .u8 (s k / 16777216 % 256) else if j<4*k then dcell s j else .int .u8 0)=if j<4*(k+1) then dcell s j else .int .u8 0:=by
 by_cases h3:j=4*k+3
 ·subst h3
  rw[if_pos rfl,if_pos (by omega)];unfold dcell;rw[show (4*k+3) / 4=k by omega,show (4*k+3) % 4=3 by omega];simp
 ·rw[if_neg h3]
  by_cases h2:j=4*k+2
  ·subst h2
   rw[if_pos rfl,if_pos (by omega)];unfold dcell;rw[show (4*k+2) / 4=k by omega,show (4*k+2) % 4=2 by omega,show (2:Int) ^ (24 - 8*2)=256 by decide]
  ·rw[if_neg h2]
   by_cases h1:j=4*k+1
   ·subst h1
    rw[if_pos rfl,if_pos (by omega)];unfold dcell;rw[show (4*k+1) / 4=k by omega,show (4*k+1) % 4=1 by omega,show (2:Int) ^ (24 - 8*1)=65536 by decide]
   ·rw[if_neg h1]
    by_cases h0:j=4*k
    ·subst h0
     rw[if_pos rfl,if_pos (by omega)];unfold dcell;rw[show 4*k / 4=k by omega,show 4*k % 4=0 by omega,show (2:Int) ^ (24 - 8*0)=16777216 by decide]
    ·rw[if_neg h0]
     by_cases hl:j<4*k
     ·rw[if_pos hl,if_pos (by omega)]
     ·rw[if_neg hl,if_neg (by omega)]
theorem rowIs_whole {w:World} {b:Nat} {t:TypeId} {n:Nat} {f g:Nat->Value} (h:w.rowIs b t n f) {vs:List Value} (hl:vs.length=n) (hv:∀ j,j<n->vs[j]?=some (g j)):(w.setCells b 0 vs).rowIs b t n g :=
 (rowIs_setCells _ _ _ _ h).congr fun j hj=>by rw[if_pos (by omega),Nat.sub_zero,hv j hj];rfl
theorem there_row {w:World} {b:Nat} {t:TypeId} {n k:Nat} {f:Nat->Value} (h:w.rowIs b t n f) (hk:k<=n):w.there b 0 k:=fun j hj=>⟨by rw[h.cell (by omega)];rfl,h.frozen _⟩
noncomputable def sum12:Code:=((Tryz.f80).body.bind (blockAt 13)).getD .skip
noncomputable def sum17:Code:=match (Tryz.f80).body.bind (fromReg 12) with
 | some (.seq _ b)=>b
 | _=>.skip
def SumPost (w0:World) (d:Nm) (e:Ending) (w':World):Prop:=e=.returned (encD d)/\Fr [] w0 w'
theorem sum17_any (w0 wr:World) (R P Q:Nat) (s bl2 s2:Nat->Int) (fR:Nat->Value) (hok:Ok wr) (hP:wr.rowIs P 162 8 (fun j=>.int .u32 (s j))) (hQ:wr.rowIs Q 163 64 (fun j=>.int .u8 (bl2 j))) (hR:wr.rowIs R 57 32 fR)
 (hPR:P≠R) (gP:w0.heap.size<=P) (gR:w0.heap.size<=R) (hF:Fr [] w0 wr) (hs2:comp s bl2=s2)
 (u0 u1 u5 u6 u7 u8 u9 u10 u11 u12 u13 u14 u15 u16 u17 u18 u19 u20 u21 u22 u23 u24 u25 u26 u27 u28 u29 u30 u31 u32 u33 u34 u35 u36 u37 u38 u39 u40 u41 u42 u43 u44 u45 u46 u47 u48 u49 u50 u51 u52 u53 u54 u55 u56 u57 u58 u59 u60 u61 u62 u63 u64 u65 u66 u67 u68 u69 u70 u71 u72 u73 u74 u75 u76 u77 u78 u79 u80 u81 u82 u83 u84 u85 u86 u87 u88 u89 u90 u91 u92 u93:Value):Code.wp prog sum17 (bodyPost prog Tryz.f80 (SumPost w0 (dig s2))) ⟨List.toArray (u0::u1::.pointer (some ⟨R,0,none⟩)::.pointer (some ⟨P,0,none⟩)::.pointer (some ⟨Q,0,none⟩)::u5::u6::u7::u8::u9::u10::u11::u12::u13::u14::u15::u16::u17::u18::u19::u20::u21::u22::u23::u24::u25::u26::u27::u28::u29::u30::u31::u32::u33::u34::u35::u36::u37::u38::u39::u40::u41::u42::u43::u44::u45::u46::u47::u48::u49::u50::u51::u52::u53::u54::u55::u56::u57::u58::u59::u60::u61::u62::u63::u64::u65::u66::u67::u68::u69::u70::u71::u72::u73::u74::u75::u76::u77::u78::u79::u80::u81::u82::u83::u84::u85::u86::u87::u88::u89::u90::u91::u92::u93::[]),[]⟩ wr:=by
 have HP2:=Hd hP;have HQ3:=Hd hQ;have HR2:=Hd hR;have HOK2:=Hd hok;have HF2:=Hd hF;have HS2:=Hd hs2;clear hP hQ hR hok hF hs2
 conv=>arg 2;whnf
 go_wp2_with (first
  | (go_at_call 144;refine (compress_two P Q _ _ wr HOK2.out HP2.out HQ3.out).mono ?_;rintro e W3 ⟨rfl,hp3,hf3⟩;rw[HS2.out] at hp3;have HP3:=Hd hp3;have hr3:=rowIs_fr HR2.out hf3 (by simpa using fun e=>hPR e.symm);have hf3':=HF2.out.trans hf3 (by simpa using gP);have HR3:=Hd hr3;have HF3:=Hd hf3';clear hp3 hr3 hf3 hf3')
  | (with_reducible refine wpList_load_mid rfl 162 (.tmp 3) rfl P 0 rfl _ _ (row_range8 (HP3.out.alloc _)) rfl rfl rfl ?_))
 obtain⟨W4,hW4⟩:=nmd (W3.alloc (.cells z32 57))
 have hd4:W4.rowIs W3.heap.size 57 32 (fun _=>.int .u8 0):=by
  rw[<-hW4];refine World.rowIs_alloc W3 _ _ _ (fun i hi=>?_);have hi':i<32:=hi
  rcases i with _ | _ | _ | _ | _ | _ | _ | _ | _ | _ | _ | _ | _ | _ | _ | _ | _ | _ | _ | _ | _ | _ | _ | _ | _ | _ | _ | _ | _ | _ | _ | _ | i
  all_goals first | rfl | omega
 have hr4:W4.rowIs R 57 32 fR:=by rw[<-hW4];exact HR3.out.alloc _
 have hf4:Fr [] w0 W4:=by rw[<-hW4];exact HF3.out.alloc _
 have hDR:W3.heap.size≠R:=by have:=HR3.out.lt;omega
 have hDg:w0.heap.size<=W3.heap.size:=HF3.out.size;rw[hW4];clear hW4;generalize W3.heap.size=D at hd4 hDR hDg ⊢;have HD4:=Hd hd4;have HR4:=Hd hr4;have HF4:=Hd hf4;have HD:=Hd hDg;have HDR:=Hd hDR;clear hd4 hr4 hf4 hDg hDR
 go_loopw [62] (SumR2 W4 D s2) (fun i _=>8 - (intOf i).toNat)
 case atStart=>exact⟨0,by omega,rfl,HD4.out.congr (fun j hj=>by rw[if_neg (by omega)]),Fq _ _⟩
 case round =>
  obtain⟨k,hk,rfl,hd,hf⟩:=hrel
  by_cases hlt:k<8
  ·have hlt':(k:Int)<8:=by omega
   have hxk:=run_index_agg (P:=prog) wr 162 161 8 (st8L s2).toArray .i64 k (.int .u32 (s2 k)) (by kernel_rfl) (fun _=>by rfl) (fun _=>by rfl) hlt (by
    match k,hlt with
    | 0,_=>rfl
    | 1,_=>rfl
    | 2,_=>rfl
    | 3,_=>rfl
    | 4,_=>rfl
    | 5,_=>rfl
    | 6,_=>rfl
    | 7,_=>rfl)
   have x0:wr.cell? ⟨D,4*k,none⟩=some _:=hd.cell (by omega);have x1:wr.cell? ⟨D,4*k+1,none⟩=some _:=hd.cell (by omega);have x2:wr.cell? ⟨D,4*k+2,none⟩=some _:=hd.cell (by omega);have x3:wr.cell? ⟨D,4*k+3,none⟩=some _:=hd.cell (by omega);have f0:=hd.frozen (4*k);have f1:=hd.frozen (4*k+1);have f2:=hd.frozen (4*k+2);have f3:=hd.frozen (4*k+3);have HDD:=Hd hd;have HFF:=Hd hf;clear hd hf
   go_wp2_with fail
   refine⟨⟨k+1,by omega,by go_num,(((HDD.out.set _ _).set _ _).set _ _).set _ _ |>.congr (fun j hj=>?_),(((HFF.out.set (p:=⟨D,4*k,none⟩) (by simp) _).set (p:=⟨D,4*k+1,none⟩) (by simp) _).set (p:=⟨D,4*k+2,none⟩) (by simp) _).set (p:=⟨D,4*k+3,none⟩) (by simp) _⟩,by simp[intOf];omega⟩;exact dcell_step s2 k j
  ·obtain rfl:k=8:=by omega
   have hdd:wr.rowIs D 57 32 (fun j=>dcell s2 j):=hd.congr (fun j hj=>by rw[if_pos (by omega)])
   have hdr:wr.rangeAt D 0 (dCells (dig s2)):=by
    intro j v hv;have hj:j<32:=by have:=(lgs.1 hv).1;rwa [dig_len] at this
    rw[Nat.zero_add,hdd.cell hj,<-hv,dig_cell s2 hj];rfl
   have hrr:=rowIs_fr HR4.out hf (by simpa using fun e=>HDR.out e.symm);have hth:=there_row hrr (nlr 32);have hst:=run_storeCells_cells (P:=prog) R 0 (dCells (dig s2)) 0 wr (by rw[dig_len];exact fun j hj=>(hth j hj).1) (by rw[dig_len];exact fun j hj=>(hth j hj).2) (by intro v hv;obtain⟨x,_,rfl⟩:=List.mem_map.1 hv;rfl);simp only[Nat.add_zero] at hst;have hw:=rowIs_whole hrr (dig_len s2) (g:=fun j=>dcell s2 j) (fun j hj=>dig_cell s2 hj);have hfin:Fr [] w0 (wr.setCells R 0 (dCells (dig s2))):=(HF4.out.trans hf (by simpa using HD.out)).setCells (.inr gR) _ _;have hlen:=dig_len s2;have HDRR:=Hd hdr;have HW:=Hd hw;have HFIN:=Hd hfin;clear hd hf hdd hdr hrr hth hw hfin;rw[show ((8:Nat):Int)=8 from rfl]
   go_wp2_with ((with_reducible refine wpList_load_mid rfl 57 (.tmp 8) rfl D 0 rfl _ _ HDRR.out rfl rfl rfl ?_))
   refine bodyPost_ret (v:=encD (dig s2)) (results_cell_mid (d:=.array 32 5) (p:=2) (ty:=57) (b:=R) (o:=0) rfl rfl ?_ (by kernel_rfl) rfl (by rw[hlen];rfl)) rfl ⟨rfl,HFIN.out⟩;intro j v hv;have hj:j<32:=by have:=(lgs.1 hv).1;rwa [hlen] at this
   rw[Nat.zero_add,HW.out.cell hj,<-hv,dig_cell s2 hj];rfl
theorem sum12_any (KA:Act->World->Prop) (w0 W:World) (R P Q:Nat) (n:Int) (s bl:Nat->Int) (fR:Nat->Value) (hok:Ok W) (hP:W.rowIs P 162 8 (fun j=>.int .u32 (s j))) (hQ:W.rowIs Q 163 64 (fun j=>.int .u8 (bl j))) (hR:W.rowIs R 57 32 fR)
 (hPQ:P≠Q) (hPR:P≠R) (hQR:Q≠R) (h0:6<=w0.heap.size) (gP:w0.heap.size<=P) (gQ:w0.heap.size<=Q) (gR:w0.heap.size<=R) (hF:Fr [] w0 W) (hn:0<=n) (hn2:n<18446744073709551616) (bl2 s2:Nat->Int) (hb2:(fun j=>if 56<=j then lenB n j else bl j)=bl2) (hs2:comp s bl2=s2)
 (hk:∀ (a:Act) (w:World),Code.wp prog sum17 (bodyPost prog Tryz.f80 (SumPost w0 (dig s2))) a w->KA a w)
 (u0 u1 u5 u7 u8 u9 u10 u11 u12 u13 u14 u15 u16 u17 u18 u19 u20 u21 u22 u23 u24 u25 u26 u27 u28 u29 u30 u31 u32 u33 u34 u35 u36 u37 u38 u39 u40 u41 u42 u43 u44 u45 u46 u47 u49 u50 u51 u52 u53 u54 u55 u56 u57 u58 u59 u60 u61 u62 u63 u64 u65 u66 u67 u68 u69 u70 u71 u72 u73 u74 u75 u76 u77 u78 u79 u80 u81 u82 u83 u84 u85 u86 u87 u88 u89 u90 u91 u92 u93:Value):Code.wp prog sum12 (Exit.then KA (bodyPost prog Tryz.f80 (SumPost w0 (dig s2)))) ⟨List.toArray (u0::u1::.pointer (some ⟨R,0,none⟩)::.pointer (some ⟨P,0,none⟩)::.pointer (some ⟨Q,0,none⟩)::u5::.int .u64 n::u7::u8::u9::u10::u11::u12::u13::u14::u15::u16::u17::u18::u19::u20::u21::u22::u23::u24::u25::u26::u27::u28::u29::u30::u31::u32::u33::u34::u35::u36::u37::u38::u39::u40::u41::u42::u43::u44::u45::u46::u47::.int .i64 0::u49::u50::u51::u52::u53::u54::u55::u56::u57::u58::u59::u60::u61::u62::u63::u64::u65::u66::u67::u68::u69::u70::u71::u72::u73::u74::u75::u76::u77::u78::u79::u80::u81::u82::u83::u84::u85::u86::u87::u88::u89::u90::u91::u92::u93::[]),[]⟩ W:=by
 have HK:=Hd hk;have HP:=Hd hP;have HQ:=Hd hQ;have HR:=Hd hR;have HOK:=Hd hok;have HF:=Hd hF;have HB2:=Hd hb2;have HS2:=Hd hs2;clear hk hb2 hs2 hP hQ hR hok hF
 conv=>arg 2;whnf
 go_wp2_with fail
 go_loopw [48] (SumR1 W Q bl n) (fun i _=>8 - (intOf i).toNat)
 case atStart=>exact⟨0,by omega,rfl,HQ.out.congr (fun j hj=>by rw[if_neg (by omega)]),Fq _ _⟩
 case round =>
  obtain⟨k,hk,rfl,hq,hf⟩:=hrel
  by_cases hlt:k<8
  ·have hlt':(k:Int)<8:=by omega
   have xk:wr.cell? ⟨Q,63 - k,none⟩=some _:=hq.cell (by omega);have xf:=hq.frozen (63 - k);have HQ2:=Hd hq;have HF2:=Hd hf;clear hq hf
   go_wp2_with fail
   refine⟨⟨k+1,by omega,by go_num,(HQ2.out.set (63 - k) _).congr (fun j hj=>?_),HF2.out.set (p:=⟨Q,63 - k,none⟩) (by simp) _⟩,by simp[intOf];omega⟩
   by_cases hj2:j=63 - k
   ·rw[if_pos hj2,if_pos (by omega)]
    unfold lenB;rw[show 63 - j=k by omega]
   ·rw[if_neg hj2]
    by_cases hj3:64 - k<=j
    ·rw[if_pos hj3,if_pos (by omega)]
    ·rw[if_neg hj3,if_neg (by omega)]
  ·obtain rfl:k=8:=by omega
   have hq2:wr.rowIs Q 163 64 (fun j=>.int .u8 (if 56<=j then lenB n j else bl j)):=hq;have hp2:=rowIs_fr HP.out hf (by simpa using hPQ);have hr2:=rowIs_fr HR.out hf (by simpa using fun e=>hQR e.symm);have hok2:=HOK.out.fr1 hf (by omega);have hf2:Fr [] w0 wr:=HF.out.trans hf (by simpa using gQ);have hq3:wr.rowIs Q 163 64 (fun j=>.int .u8 (bl2 j)):=by rw[<-HB2.out];exact hq2
   rw[show ((8:Nat):Int)=8 from rfl];have h:=fun (z0 z1 z5 z6 z7 z8 z9 z10 z11 z12 z13 z14 z15 z16 z17 z18 z19 z20 z21 z22 z23 z24 z25 z26 z27 z28 z29 z30 z31 z32 z33 z34 z35 z36 z37 z38 z39 z40 z41 z42 z43 z44 z45 z46 z47 z48 z49 z50 z51 z52 z53 z54 z55 z56 z57 z58 z59 z60 z61 z62 z63 z64 z65 z66 z67 z68 z69 z70 z71 z72 z73 z74 z75 z76 z77 z78 z79 z80 z81 z82 z83 z84 z85 z86 z87 z88 z89 z90 z91 z92 z93:Value)=>sum17_any w0 wr R P Q s bl2 s2 fR hok2 hp2 hq3 hr2 hPR gP gR hf2 HS2.out z0 z1 z5 z6 z7 z8 z9 z10 z11 z12 z13 z14 z15 z16 z17 z18 z19 z20 z21 z22 z23 z24 z25 z26 z27 z28 z29 z30 z31 z32 z33 z34 z35 z36 z37 z38 z39 z40 z41 z42 z43 z44 z45 z46 z47 z48 z49 z50 z51 z52 z53 z54 z55 z56 z57 z58 z59 z60 z61 z62 z63 z64 z65 z66 z67 z68 z69 z70 z71 z72 z73 z74 z75 z76 z77 z78 z79 z80 z81 z82 z83 z84 z85 z86 z87 z88 z89 z90 z91 z92 z93;have H:=Hd h;clear hq hf hq2 hp2 hr2 hok2 hf2 hq3 h
   go_wp2_with fail
   refine HK.out _ _ ?_;exact H.out _ _ _ _ _ _ _ _ _ _ _ _ _ _ _ _ _ _ _ _ _ _ _ _ _ _ _ _ _ _ _ _ _ _ _ _ _ _ _ _ _ _ _ _ _ _ _ _ _ _ _ _ _ _ _ _ _ _ _ _ _ _ _ _ _ _ _ _ _ _ _ _ _ _ _ _ _ _ _ _ _ _ _ _ _ _ _ _ _ _ _
end Go.Proofs.YtlpmiimgacfmkaaGreatDoor
