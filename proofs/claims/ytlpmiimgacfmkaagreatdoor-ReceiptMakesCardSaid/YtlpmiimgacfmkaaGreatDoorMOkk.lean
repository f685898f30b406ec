/- What the worlds of a call bear of the program's variables. -/
import Derived.Lib.LaidTab
import Derived.Lib.ItoaNum
import Derived.WalkSmall
import Derived.StillTailTactics
import Derived.Deep.Cut
import Derived.Test.YtlpmiimgacfmkaaGreatDoorMCmp5
set_option linter.all false
namespace Go.Proofs.YtlpmiimgacfmkaaGreatDoor
open Go.Proofs.Tryz
open Go.RowKit
def ivL:List Int:=[0x6a09e667,0xbb67ae85,0x3c6ef372,0xa54ff53a,0x510e527f,0x9b05688c,0x1f83d9ab,0x5be0cd19]
def iv (j:Nat):Int:=ivL.getD j 0
structure Usage where
 word:List UInt8
 owner:Bool
 number:Bool
 index:Bool
 text:Bool
 most:Int
def Usage.cells (u:Usage):List Value:=[encN u.word,.bool u.owner,.bool u.number,.bool u.index,.bool u.text,.int .i64 u.most]
def usN:Usage:=⟨[],false,false,false,false,0⟩
def usL:List Usage:=[usN,⟨[112,114,111,99,101,115,115],true,false,false,false,0⟩,⟨[114,101,103,105,115,116,101,114,115],true,false,false,false,0⟩,
 ⟨[112,97,103,101],true,false,true,false,63⟩,⟨[116,97,98,108,101],true,false,false,false,0⟩,⟨[99,111,117,110,116,101,114],true,false,false,false,0⟩,
 ⟨[112,101,110,100,105,110,103],true,false,false,false,0⟩,⟨[110,111,100,101],true,true,false,false,0⟩,⟨[98,108,111,99,107],true,true,true,false,63⟩,
 ⟨[101,110,116,114,121],true,true,false,true,0⟩,⟨[108,105,115,116,105,110,103],true,true,false,false,0⟩,⟨[112,105,112,101],true,true,false,false,0⟩,
 ⟨[108,111,99,107],true,true,false,false,0⟩,⟨[116,101,114,109,105,110,97,108],false,true,false,false,0⟩,⟨[97,99,99,111,117,110,116],false,false,false,true,0⟩,
 ⟨[99,108,111,99,107],false,false,false,false,0⟩,⟨[112,111,114,116],false,true,false,false,0⟩,⟨[98,111,120],false,false,false,true,0⟩,
 ⟨[111,117,116],true,true,true,false,1073741824⟩,⟨[115,104,101,108,108],true,false,false,false,0⟩,⟨[101,112,111,99,104],false,false,false,false,0⟩]
def us (k:Nat):Usage:=usL.getD k usN
structure Ok (w:World):Prop where
 low:6<=w.heap.size
 kcs:∀ j,j<64->w.cell? ⟨2,j,none⟩=some (.int .u32 (kc j))
 ivs:∀ j,j<8->w.cell? ⟨1,j,none⟩=some (.int .u32 (iv j))
 uss:∀ k,k<21->∀ j v,(us k).cells[j]?=some v->w.cell? ⟨0,k*6+j,none⟩=some v
theorem Ok.fr {S:List Nat} {w w':World} (h:Ok w) (hf:Fr S w w') (hS:∀ k∈S,6<=k):Ok w':=by
 have hl:=h.low;have hb:Below 6 w w':=hf.below hS hl;exact⟨Nat.le_trans hl hf.size,fun j hj=>(hb.cell (p:=⟨_,j,none⟩) (by simp)).trans (h.kcs j hj),fun j hj=>(hb.cell (p:=⟨_,j,none⟩) (by simp)).trans (h.ivs j hj),fun k hk j v hv=>(hb.cell (p:=⟨_,k*6+j,none⟩) (by simp)).trans (h.uss k hk j v hv)⟩
theorem Ok.fr0 {w w':World} (h:Ok w) (hf:Fr [] w w'):Ok w':=h.fr hf (by simp)
theorem Ok.fr1 {w w':World} {b:Nat} (h:Ok w) (hf:Fr [b] w w') (hb:6<=b):Ok w':=h.fr hf (by simpa using hb)
theorem Ok.drew {w:World} (h:Ok w):Ok w.drew:=h.fr0 (Fq [] w).drew
structure HS where
 len:Nat
 st:Nat->Int
 rest:Nat->Int
def hcell (h:HS) (i:Nat):Value:=if i=0 then .int .i64 (h.len:Int) else if i<9 then .int .u32 (h.st (i - 1)) else .int .u8 (h.rest (i - 9))
def HashAt (w:World) (b:Nat) (h:HS):Prop:=w.rowIs b 165 73 (hcell h)
def hn (h:HS) (l:List UInt8):Nat:=min l.length (64 - h.len % 64)
def hrest (h:HS) (l:List UInt8) (j:Nat):Int:=if h.len % 64<=j/\j<h.len % 64+hn h l then ((l.getD (j - h.len % 64) 0).toNat:Int) else h.rest j
def hchunk (h:HS) (l:List UInt8):HS:=⟨h.len+hn h l,if h.len % 64+hn h l=64 then comp h.st (hrest h l) else h.st,hrest h l⟩
def hwrite (h:HS) (l:List UInt8):HS:=if _e:l.length=0 then h else hwrite (hchunk h l) (l.drop (hn h l))
termination_by l.length
decreasing_by
 have h1:hn h l=min l.length (64 - h.len % 64):=rfl;rw[List.length_drop];omega
theorem hwrite_nil (h:HS):hwrite h []=h:=by rw[hwrite];simp
theorem hwrite_step {h:HS} {l:List UInt8} (hl:l.length≠0):hwrite h l=hwrite (hchunk h l) (l.drop (hn h l)):=by rw[hwrite,dif_neg hl]
theorem hn_bounds (h:HS) (l:List UInt8):hn h l<=l.length/\hn h l<=64 - h.len % 64/\(l.length≠0->0<hn h l)/\h.len % 64<64:=by
 have h1:hn h l=min l.length (64 - h.len % 64):=rfl;omega
theorem compress_hash (b:Nat) (h:HS) (w:World) (hok:Ok w) (hH:HashAt w b h) :
 Calls prog 144 #[.pointer (some ⟨b,1,none⟩),.pointer (some ⟨b,9,none⟩)] w fun e w'=>e=.returned (.tuple #[])/\HashAt w' b ⟨h.len,comp h.st h.rest,h.rest⟩/\Fr [b] w w':=by
 obtain⟨cs,hc,hn,hf⟩:=hH;have hlt:b<w.heap.size:=BoxN.lt hc
 refine (compress_any b 1 165 cs b 9 h.st h.rest w hc (by omega) (fun j hj=>by rw[hf (1+j) (by omega)];unfold hcell;rw[if_neg (by omega),if_pos (by omega)];congr 3;omega) hlt
  (fun j hj=>by rw[BoxN.c hc (9+j),hf (9+j) (by omega)];unfold hcell;rw[if_neg (by omega),if_neg (by omega)];congr 3;omega) (by have:=hok.low;omega) hok.kcs).mono ?_
 rintro e w' ⟨he,cs',hB,hs,hst,ho,hfr⟩;refine⟨he,⟨cs',hB,by omega,fun i hi=>?_⟩,hfr⟩;unfold hcell
 by_cases h0:i=0
 ·rw[if_pos h0,ho i (by omega),hf i hi];unfold hcell;rw[if_pos h0]
 ·rw[if_neg h0]
  by_cases h9:i<9
  ·rw[if_pos h9]
   have:=hst (i - 1) (by omega)
   rwa [show 1+(i - 1)=i by omega] at this
  ·rw[if_neg h9,ho i (by omega),hf i hi];unfold hcell;rw[if_neg h0,if_neg h9]
theorem compress_two (p q:Nat) (s bl:Nat->Int) (w:World) (hok:Ok w) (hp:w.rowIs p 162 8 (fun j=>.int .u32 (s j))) (hq:w.rowIs q 163 64 (fun j=>.int .u8 (bl j))) :
 Calls prog 144 #[.pointer (some ⟨p,0,none⟩),.pointer (some ⟨q,0,none⟩)] w fun e w'=>e=.returned (.tuple #[])/\w'.rowIs p 162 8 (fun j=>.int .u32 (comp s bl j))/\Fr [p] w w':=by
 obtain⟨cs,hc,hn,hf⟩:=hp;refine (compress_any p 0 162 cs q 0 s bl w hc (by omega) (fun j hj=>by rw[Nat.zero_add,hf j hj]) hq.lt (fun j hj=>by rw[Nat.zero_add];exact hq.cell hj) (by have:=hok.low;omega) hok.kcs).mono ?_;rintro e w' ⟨he,cs',hB,hs,hst,ho,hfr⟩;exact⟨he,⟨cs',hB,by omega,fun i hi=>by have:=hst i hi;rwa [Nat.zero_add] at this⟩,hfr⟩
theorem hash_copy {w:World} {b m n:Nat} {h:HS} {s:ByteArray} {l:List UInt8} (hH:HashAt w b h) (hl:s.data.toList=l) (hm:m=h.len % 64) (hnn:n=hn h l):HashAt (w.setCells b (9+m) ((s.data.toList.take n).map fun x=>Value.int .u8 (x.toNat:Int))) b ⟨h.len,h.st,hrest h l⟩:=by
 have hb:=hn_bounds h l;subst hl hm hnn;have hlen:(s.data.toList.take (hn h s.data.toList)).length=hn h s.data.toList:=by rw[List.length_take];omega
 refine (rowIs_setCells _ _ _ _ hH).congr fun i hi=>?_;simp only[List.length_map,hlen]
 by_cases h1:9+h.len % 64<=i/\i<9+h.len % 64+hn h s.data.toList
 ·rw[if_pos h1]
  unfold hcell;rw[if_neg (by omega),if_neg (by omega)];simp only;unfold hrest;rw[if_pos (by omega),List.getElem?_map,List.getElem?_take_of_lt (by omega),lge (by omega)];simp only[Option.map_some,Option.getD_some];rw[List.getD_eq_getElem?_getD,lge (by omega)];simp only[Option.getD_some]
  congr 4
  omega
 ·rw[if_neg h1]
  unfold hcell
  by_cases h0:i=0
  ·rw[if_pos h0,if_pos h0]
  ·rw[if_neg h0,if_neg h0]
   by_cases h9:i<9
   ·rw[if_pos h9,if_pos h9]
   ·rw[if_neg h9,if_neg h9]
    simp only;unfold hrest;rw[if_neg (by omega)]
theorem hash_len {w:World} {b:Nat} {h:HS} (k:Nat) (hH:HashAt w b h):HashAt (w.setCell ⟨b,0,none⟩ (.int .i64 (k:Int))) b ⟨k,h.st,h.rest⟩ :=
 (World.rowIs.set hH 0 _).congr fun i hi=>by
  unfold hcell
  by_cases h0:i=0
  ·rw[if_pos h0,if_pos h0]
  ·rw[if_neg h0,if_neg h0,if_neg h0]
set_option maxRecDepth 100000
set_option maxHeartbeats 4000000
def HR (w:World) (b:Nat) (target:HS) (v:Value) (W:World):Prop :=
 ∃ (h:HS) (l:List UInt8),v=encN l/\HashAt W b h/\hwrite h l=target/\Fr [b] w W/\h.len+l.length<=1152921504606846976
def WritePost (w:World) (b:Nat) (h0:HS) (l:List UInt8) (e:Ending) (w':World):Prop :=
 e=.returned (.int .i64 0)/\HashAt w' b (if l.length=0 then h0 else hwrite ⟨0,iv,h0.rest⟩ l)/\Fr [b] w w'
def strLen:Value->Nat | .string s=>s.size | _=>0
theorem str_of (l:List UInt8):∃ s:ByteArray,encN l=.string s/\s.data.toList=l/\s.size=l.length:=⟨_,rfl,rfl,by simp[<-ByteArray.size_data]⟩
theorem extract_drop {s:ByteArray} {l:List UInt8} {n:Nat} (hl:s.data.toList=l) (hz:s.size=l.length):(s.extract n s.size).data.toList=l.drop n:=by
 subst hl;rw[ByteArray.data_extract,Array.toList_extract];rw[List.extract_eq_take_drop,hz];exact List.take_of_length_le (by rw[List.length_drop];exact nlr _)
theorem extract_size {s:ByteArray} {l:List UInt8} {n:Nat} (hl:s.data.toList=l) (hz:s.size=l.length):(s.extract n s.size).size=l.length - n:=by
 rw[Lib.size_eq,extract_drop hl hz,List.length_drop]
theorem Write_any (b:Nat) (l:List UInt8) (h0:HS) (w:World) (hok:Ok w) (hb:6<=b) (hl:l.length<=1152921504606846976) (hH:HashAt w b h0) (h00:h0.len=0) :
 Calls prog 79 #[.pointer (some ⟨b,0,none⟩),encN l] w (WritePost w b h0 l):=by
 have c0:w.cell? ⟨b,0,none⟩=some (.int .i64 0):=by have:=hH.cell (i:=0) (by omega);rw[this];simp[hcell,h00]
 obtain⟨s,hs,hsl,hsz⟩:=str_of l;rw[hs];have HHs:=Hd hs;have Hsl:=Hd hsl;have hz0:s.size<=1152921504606846976:=by omega
 have Hsz:=Hd hsz;obtain⟨TG,hTG⟩:=nmd ((if l.length=0 then h0 else hwrite ⟨0,iv,h0.rest⟩ l));unfold WritePost;rw[hTG];have HTG:=Hd hTG;clear hs hsl hsz hTG
 by_cases hl0:s.size=0
 ·have hgt:¬ (0:Int)<s.size:=by omega
  have hs1:HashAt w b h0:=hH;have HS1:=Hd hs1;have hF1:Fr [b] w w:=Fq _ _;have HF1:=Hd hF1
  have hT:hwrite h0 l=TG:=by
   have hnil:l=[]:=List.eq_nil_of_length_eq_zero (by have:=Hsz.out;omega);rw[<-HTG.out,if_pos (by have:=Hsz.out;omega),hnil,hwrite_nil]
  have HT:=Hd hT;clear hs1 hF1 hT
  go_enter func79,ntmps79
  go_wp2_with fail
  clear c0
  go_loopw [1] (HR w b TG) (fun v _=>strLen v)
  case atStart=>exact⟨_,s.data.toList,rfl,HS1.out,by rw[Hsl.out];exact HT.out,HF1.out,by have:=Hsz.out;rw[Hsl.out];first | omega | (simp only;omega)⟩
  case round =>
   obtain⟨h,l1,rfl,hA,hT,hF,hlen⟩:=hrel;obtain⟨s1,hs1,hl1,hz1⟩:=str_of l1;rw[hs1];obtain⟨m,hm⟩:=nmd (h.len % 64);obtain⟨n,hn1⟩:=nmd (hn h l1);have hbn:=hn_bounds h l1;rw[hm,hn1] at hbn;obtain⟨b1,b2,b3,b4⟩:=hbn;have c0:wr.cell? ⟨b,0,none⟩=some (.int .i64 (h.len:Int)):=by have:=hA.cell (i:=0) (by omega);exact this
   have Hs1:=Hd hs1;have Hl1:=Hd hl1;have Hz1:=Hd hz1;have HA:=Hd hA;have HT1:=Hd hT;have HF:=Hd hF;have Hm:=Hd hm;have Hn:=Hd hn1;have hz2:s1.size<=1152921504606846976:=by omega
   have hl2:h.len<=1152921504606846976:=by omega
   have hmm:(h.len:Int) % 64=(m:Int):=by omega
   clear hs1 hl1 hz1 hA hT hF hm hn1
   by_cases hpos:0<s1.size
   ·have hpos':(0:Int)<s1.size:=by omega
    have hns:n<=s1.size:=by have:=Hz1.out;omega
    have hn0:0<n:=b3 (by have:=Hz1.out;omega);have hnmin:n=Nat.min s1.size (64 - m):=by rw[<-Hn.out,Hz1.out];unfold hn;rw[Hm.out]
    have HN:=Hd hnmin;have hm64:(m:Int)<=64:=by omega
    have hm0:(0:Int)<=(m:Int):=by omega
    clear b3 hnmin
    go_upto_region 7 with fail
    rw[hmm];have hcc:∀ j,j<n->(wr.cell? ⟨b,9+m+j,none⟩).isSome=true:=fun j hj=>by rw[HA.out.cell (by omega)];rfl
    have hff:∀ j,j<n->wr.frozen? ⟨b,9+m+j,none⟩=false:=fun j hj=>HA.out.frozen _;have HCC:=Hd hcc;have HFF:=Hd hff;clear hcc hff;have hcp:=run_copy_str (P:=prog) wr 49 9 3 5 b (9+m) (64 - m) (64 - m) s1 n (by kernel_rfl) (fun _=>by rfl) HN.out HCC.out HFF.out;obtain⟨W2,hW2⟩:=nmd (wr.setCells b (9+m) ((s1.data.toList.take n).map fun x=>Value.int .u8 (x.toNat:Int)));have hA2:HashAt W2 b ⟨h.len,h.st,hrest h l1⟩:=by rw[<-hW2];exact hash_copy HA.out Hl1.out Hm.out.symm Hn.out.symm
    have hF2:Fr [b] w W2:=by rw[<-hW2];exact HF.out.setCells (by simp) _ _
    rw[hW2] at hcp;clear hW2;have c2:W2.cell? ⟨b,0,none⟩=some (.int .i64 (h.len:Int)):=by have:=hA2.cell (i:=0) (by omega);rw[this];rfl
    have f2:=hA2.frozen 0;have HA2:=Hd hA2;have HF2:=Hd hF2;clear hA2 hF2
    go_upto_region 8 with fail
    have hni:(n:Int)<=s1.size:=by omega
    have hn0':(0:Int)<=(n:Int):=by omega
    have hlb:h.len+n<=1152921504606846976:=by omega
    clear hcp
    by_cases hfull:m+n=64
    ·have hf1:((m:Int)+(n:Int) == 64)=true:=by simp;omega
     go_upto_region 11 with fail
     obtain⟨W3,hW3⟩:=nmd (W2.setCell ⟨b,0,none⟩ (.int .i64 ((h.len:Int)+(n:Int))))
     have hA3:HashAt W3 b ⟨h.len+n,h.st,hrest h l1⟩:=by
      rw[<-hW3,show (h.len:Int)+(n:Int)=((h.len+n:Nat):Int) by omega];exact hash_len (h.len+n) HA2.out
     have hF3:Fr [b] w W3:=by rw[<-hW3];exact HF2.out.set (p:=⟨b,0,none⟩) (by simp) _
     rw[hW3];have HA3:=Hd hA3;have HF3:=Hd hF3;have hok3:Ok W3.drew:=(hok.fr1 hF3 hb).drew;have HOK3:=Hd hok3;clear hW3 hA3 hF3 hok3 c2 f2 c0
     go_still_tail 6,(by kernel_rfl)
     go_wp2_with ((go_at_call 144;refine (compress_hash b _ _ HOK3.out HA3.out).mono ?_;rintro e W4 ⟨rfl,hA4,hF4⟩;have HA4:=Hd hA4;have HF4:=Hd hF4;clear hA4 hF4))
     refine⟨⟨_,(s1.extract n s1.size).data.toList,rfl,HA4.out,?_,HF3.out.drew.then HF4.out,?_⟩,?_⟩
     ·have h1:=HT1.out
      rw[hwrite_step (by have:=Hz1.out;omega),Hn.out] at h1;rw[extract_drop Hl1.out Hz1.out];rw[<-h1];unfold hchunk;rw[Hm.out,Hn.out,if_pos hfull]
     ·rw[extract_drop Hl1.out Hz1.out]
      simp only[List.length_drop];omega
     ·simp only[strLen]
      rw[extract_size Hl1.out Hz1.out];have:=Hz1.out;omega
    ·have hf1:((m:Int)+(n:Int) == 64)=false:=by simp;omega
     go_wp2_with fail
     refine⟨⟨⟨h.len+n,h.st,hrest h l1⟩,(s1.extract n s1.size).data.toList,rfl,?_,?_,HF2.out.set (p:=⟨b,0,none⟩) (by simp) _,?_⟩,?_⟩
     ·rw[show (h.len:Int)+(n:Int)=((h.len+n:Nat):Int) by omega]
      exact hash_len (h.len+n) HA2.out
     ·have h1:=HT1.out
      rw[hwrite_step (by have:=Hz1.out;omega),Hn.out] at h1;rw[extract_drop Hl1.out Hz1.out];rw[<-h1];unfold hchunk;rw[Hm.out,Hn.out,if_neg hfull]
     ·rw[extract_drop Hl1.out Hz1.out]
      simp only[List.length_drop];omega
     ·simp only[strLen]
      rw[extract_size Hl1.out Hz1.out];have:=Hz1.out;omega
   ·have hzz:s1.size=0:=by omega
    obtain rfl:l1=[]:=List.eq_nil_of_length_eq_zero (by rw[<-Hz1.out];exact hzz);have hgt1:¬ (0:Int)<s1.size:=by omega
    clear b3
    go_wp2_with fail
    go_ret
    have h1:=HT1.out;rw[hwrite_nil] at h1;subst h1;exact⟨rfl,HA.out,HF.out⟩
 ·have hgt:(0:Int)<s.size:=by omega
  have hir:w.rangeAt 1 0 (ivL.map (Value.int .u32)):=by
   intro j v hv;have hj:j<8:=by have:=(lgs.1 hv).1;simpa [ivL] using this
   rw[Nat.zero_add,hok.ivs j hj,<-hv,List.getElem?_map];unfold iv;rw[lge (by simpa [ivL] using hj)];simp[List.getD,lge (show j<ivL.length by simpa [ivL] using hj)]
  have hth:w.there b 1 8:=fun j hj=>⟨by rw[hH.cell (by omega)];rfl,hH.frozen _⟩;have hst:=run_storeCells_cells (P:=prog) b 1 (ivL.map (Value.int .u32)) 0 w (fun j hj=>(hth j hj).1) (fun j hj=>(hth j hj).2) (by intro v hv;obtain⟨x,_,rfl⟩:=List.mem_map.1 hv;rfl);simp only[Nat.add_zero] at hst;have HIR:=Hd hir;have hiv8:ivL.length=8:=rfl
  have hs1:HashAt (w.setCells b 1 (ivL.map (Value.int .u32))) b ⟨0,iv,h0.rest⟩:=by
   refine (rowIs_setCells _ _ _ _ hH).congr fun i hi=>?_;simp only[List.length_map,hiv8];unfold hcell
   by_cases h1:1<=i/\i<1+8
   ·rw[if_pos h1,if_neg (by omega),if_pos (by omega),List.getElem?_map,lge (show i - 1<ivL.length by omega)]
    simp only[Option.map_some,Option.getD_some];unfold iv;rw[List.getD_eq_getElem?_getD,lge (show i - 1<ivL.length by omega)];rfl
   ·rw[if_neg h1]
    by_cases h2:i=0
    ·rw[if_pos h2,if_pos h2,h00]
    ·rw[if_neg h2,if_neg h2,if_neg (by omega),if_neg (by omega)]
  have HS1:=Hd hs1;have hF1:Fr [b] w (w.setCells b 1 (ivL.map (Value.int .u32))):=(Fq [b] w).setCells (by simp) _ _;have HF1:=Hd hF1;have hT:hwrite ⟨0,iv,h0.rest⟩ l=TG:=by rw[<-HTG.out,if_neg (by have:=Hsz.out;omega)]
  have HT:=Hd hT;clear hir hth hs1 hF1 hT
  go_enter func79,ntmps79
  go_wp2_with (first | (with_reducible refine wpList_load_mid rfl 162 (.global 1) rfl 1 0 rfl _ _ HIR.out rfl rfl rfl ?_))
  clear hst c0
  go_loopw [1] (HR w b TG) (fun v _=>strLen v)
  case atStart=>exact⟨_,s.data.toList,rfl,HS1.out,by rw[Hsl.out];exact HT.out,HF1.out,by have:=Hsz.out;rw[Hsl.out];first | omega | (simp only;omega)⟩
  case round =>
   obtain⟨h,l1,rfl,hA,hT,hF,hlen⟩:=hrel;obtain⟨s1,hs1,hl1,hz1⟩:=str_of l1;rw[hs1];obtain⟨m,hm⟩:=nmd (h.len % 64);obtain⟨n,hn1⟩:=nmd (hn h l1);have hbn:=hn_bounds h l1;rw[hm,hn1] at hbn;obtain⟨b1,b2,b3,b4⟩:=hbn;have c0:wr.cell? ⟨b,0,none⟩=some (.int .i64 (h.len:Int)):=by have:=hA.cell (i:=0) (by omega);exact this
   have Hs1:=Hd hs1;have Hl1:=Hd hl1;have Hz1:=Hd hz1;have HA:=Hd hA;have HT1:=Hd hT;have HF:=Hd hF;have Hm:=Hd hm;have Hn:=Hd hn1;have hz2:s1.size<=1152921504606846976:=by omega
   have hl2:h.len<=1152921504606846976:=by omega
   have hmm:(h.len:Int) % 64=(m:Int):=by omega
   clear hs1 hl1 hz1 hA hT hF hm hn1
   by_cases hpos:0<s1.size
   ·have hpos':(0:Int)<s1.size:=by omega
    have hns:n<=s1.size:=by have:=Hz1.out;omega
    have hn0:0<n:=b3 (by have:=Hz1.out;omega);have hnmin:n=Nat.min s1.size (64 - m):=by rw[<-Hn.out,Hz1.out];unfold hn;rw[Hm.out]
    have HN:=Hd hnmin;have hm64:(m:Int)<=64:=by omega
    have hm0:(0:Int)<=(m:Int):=by omega
    clear b3 hnmin
    go_upto_region 7 with fail
    rw[hmm];have hcc:∀ j,j<n->(wr.cell? ⟨b,9+m+j,none⟩).isSome=true:=fun j hj=>by rw[HA.out.cell (by omega)];rfl
    have hff:∀ j,j<n->wr.frozen? ⟨b,9+m+j,none⟩=false:=fun j hj=>HA.out.frozen _;have HCC:=Hd hcc;have HFF:=Hd hff;clear hcc hff;have hcp:=run_copy_str (P:=prog) wr 49 9 3 5 b (9+m) (64 - m) (64 - m) s1 n (by kernel_rfl) (fun _=>by rfl) HN.out HCC.out HFF.out;obtain⟨W2,hW2⟩:=nmd (wr.setCells b (9+m) ((s1.data.toList.take n).map fun x=>Value.int .u8 (x.toNat:Int)));have hA2:HashAt W2 b ⟨h.len,h.st,hrest h l1⟩:=by rw[<-hW2];exact hash_copy HA.out Hl1.out Hm.out.symm Hn.out.symm
    have hF2:Fr [b] w W2:=by rw[<-hW2];exact HF.out.setCells (by simp) _ _
    rw[hW2] at hcp;clear hW2;have c2:W2.cell? ⟨b,0,none⟩=some (.int .i64 (h.len:Int)):=by have:=hA2.cell (i:=0) (by omega);rw[this];rfl
    have f2:=hA2.frozen 0;have HA2:=Hd hA2;have HF2:=Hd hF2;clear hA2 hF2
    go_upto_region 8 with fail
    have hni:(n:Int)<=s1.size:=by omega
    have hn0':(0:Int)<=(n:Int):=by omega
    have hlb:h.len+n<=1152921504606846976:=by omega
    clear hcp
    by_cases hfull:m+n=64
    ·have hf1:((m:Int)+(n:Int) == 64)=true:=by simp;omega
     go_upto_region 11 with fail
     obtain⟨W3,hW3⟩:=nmd (W2.setCell ⟨b,0,none⟩ (.int .i64 ((h.len:Int)+(n:Int))))
     have hA3:HashAt W3 b ⟨h.len+n,h.st,hrest h l1⟩:=by
      rw[<-hW3,show (h.len:Int)+(n:Int)=((h.len+n:Nat):Int) by omega];exact hash_len (h.len+n) HA2.out
     have hF3:Fr [b] w W3:=by rw[<-hW3];exact HF2.out.set (p:=⟨b,0,none⟩) (by simp) _
     rw[hW3];have HA3:=Hd hA3;have HF3:=Hd hF3;have hok3:Ok W3.drew:=(hok.fr1 hF3 hb).drew;have HOK3:=Hd hok3;clear hW3 hA3 hF3 hok3 c2 f2 c0
     go_still_tail 6,(by kernel_rfl)
     go_wp2_with ((go_at_call 144;refine (compress_hash b _ _ HOK3.out HA3.out).mono ?_;rintro e W4 ⟨rfl,hA4,hF4⟩;have HA4:=Hd hA4;have HF4:=Hd hF4;clear hA4 hF4))
     refine⟨⟨_,(s1.extract n s1.size).data.toList,rfl,HA4.out,?_,HF3.out.drew.then HF4.out,?_⟩,?_⟩
     ·have h1:=HT1.out
      rw[hwrite_step (by have:=Hz1.out;omega),Hn.out] at h1;rw[extract_drop Hl1.out Hz1.out];rw[<-h1];unfold hchunk;rw[Hm.out,Hn.out,if_pos hfull]
     ·rw[extract_drop Hl1.out Hz1.out]
      simp only[List.length_drop];omega
     ·simp only[strLen]
      rw[extract_size Hl1.out Hz1.out];have:=Hz1.out;omega
    ·have hf1:((m:Int)+(n:Int) == 64)=false:=by simp;omega
     go_wp2_with fail
     refine⟨⟨⟨h.len+n,h.st,hrest h l1⟩,(s1.extract n s1.size).data.toList,rfl,?_,?_,HF2.out.set (p:=⟨b,0,none⟩) (by simp) _,?_⟩,?_⟩
     ·rw[show (h.len:Int)+(n:Int)=((h.len+n:Nat):Int) by omega]
      exact hash_len (h.len+n) HA2.out
     ·have h1:=HT1.out
      rw[hwrite_step (by have:=Hz1.out;omega),Hn.out] at h1;rw[extract_drop Hl1.out Hz1.out];rw[<-h1];unfold hchunk;rw[Hm.out,Hn.out,if_neg hfull]
     ·rw[extract_drop Hl1.out Hz1.out]
      simp only[List.length_drop];omega
     ·simp only[strLen]
      rw[extract_size Hl1.out Hz1.out];have:=Hz1.out;omega
   ·have hzz:s1.size=0:=by omega
    obtain rfl:l1=[]:=List.eq_nil_of_length_eq_zero (by rw[<-Hz1.out];exact hzz);have hgt1:¬ (0:Int)<s1.size:=by omega
    clear b3
    go_wp2_with fail
    go_ret
    have h1:=HT1.out;rw[hwrite_nil] at h1;subst h1;exact⟨rfl,HA.out,HF.out⟩
end Go.Proofs.YtlpmiimgacfmkaaGreatDoor
