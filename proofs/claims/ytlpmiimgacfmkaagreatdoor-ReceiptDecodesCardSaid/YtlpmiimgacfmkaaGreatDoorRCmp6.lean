/- SHA-256: a block. -/
import Derived.Deep.CutBlock
import Derived.Lib.LaidTab
import Derived.Lib.ItoaNum
import Derived.WalkSmall
import Derived.StillTailTactics
import Derived.Deep.Cut
import Derived.Test.YtlpmiimgacfmkaaGreatDoorRCmp5
import Derived.Test.YtlpmiimgacfmkaaGreatDoorRBoxes
set_option linter.all false
namespace Go.Proofs.YtlpmiimgacfmkaaGreatDoor
open Go.RowKit
set_option maxRecDepth 100000
set_option maxHeartbeats 4000000
attribute [local go_sem ↓] Go.wp_at_zero Go.wp_at_succ
def H8.at (s:H8):Nat→Int
 | 0=>s.a
 | 1=>s.b
 | 2=>s.c
 | 3=>s.d
 | 4=>s.e
 | 5=>s.f
 | 6=>s.g
 | _=>s.h
def kcL:List Int:=[0x428a2f98,0x71374491,0xb5c0fbcf,0xe9b5dba5,0x3956c25b,0x59f111f1,0x923f82a4,0xab1c5ed5,0xd807aa98,0x12835b01,0x243185be,0x550c7dc3,0x72be5d74,0x80deb1fe,0x9bdc06a7,0xc19bf174,0xe49b69c1,0xefbe4786,0x0fc19dc6,0x240ca1cc,0x2de92c6f,0x4a7484aa,0x5cb0a9dc,0x76f988da,0x983e5152,0xa831c66d,0xb00327c8,0xbf597fc7,0xc6e00bf3,0xd5a79147,0x06ca6351,0x14292967,0x27b70a85,0x2e1b2138,0x4d2c6dfc,0x53380d13,0x650a7354,0x766a0abb,0x81c2c92e,0x92722c85,0xa2bfe8a1,0xa81a664b,0xc24b8b70,0xc76c51a3,0xd192e819,0xd6990624,0xf40e3585,0x106aa070,0x19a4c116,0x1e376c08,0x2748774c,0x34b0bcb5,0x391c0cb3,0x4ed8aa4a,0x5b9cca4f,0x682e6ff3,0x748f82ee,0x78a5636f,0x84c87814,0x8cc70208,0x90befffa,0xa4506ceb,0xbef9a3f7,0xc67178f2]
def kc (j:Nat):Int:=kcL.getD j 0
def comp (s b:Nat→Int) (j:Nat):Int:=(s j+(rounds kc (sched b) 64 ⟨s 0,s 1,s 2,s 3,s 4,s 5,s 6,s 7⟩).at j) % 4294967296
def CompPost (w:World) (SB so:Nat) (t:TypeId) (cs:Array Value) (s b:Nat→Int) (e:Ending) (w':World):Prop :=
 e=.returned (.tuple #[])∧∃ cs',BoxN w' SB t cs'∧cs'.size=cs.size∧(∀ j,j<8→cs'[so+j]?=some (.int .u32 (comp s b j)))∧(∀ o,(o<so ∨ so+8≤o)→cs'[o]?=cs[o]?)∧Fr [SB] w w'
theorem below_of_drewN {B n:Nat} {a w:World} (h:Below B (a.drewN n) w):Below B a w:=⟨h.os,h.tape,h.output,h.size,h.block⟩
theorem compress_any (SB so:Nat) (t:TypeId) (cs:Array Value) (BB bo:Nat) (s b:Nat→Int) (w:World) (bS:BoxN w SB t cs) (hsz:so+8≤cs.size) (hs:∀ j,j<8→cs[so+j]?=some (.int .u32 (s j)))
 (hBB:BB<w.heap.size) (hb:∀ j,j<64→w.cell? ⟨BB,bo+j,none⟩=some (.int .u8 (b j))) (hG:2<w.heap.size) (hkc:∀ j,j<64→w.cell? ⟨2,j,none⟩=some (.int .u32 (kc j))) :
 Calls Tryz.prog 144 #[.pointer (some ⟨SB,so,none⟩),.pointer (some ⟨BB,bo,none⟩)] w (CompPost w SB so t cs s b):=by
 have HS:=Hd bS
 have Hhs:=Hd hs
 have Hhb:=Hd hb
 have Hkc:=Hd hkc
 have HSB:=Hd bS.lt
 clear bS hs hb hkc
 go_enter Tryz.func144,Tryz.ntmps144
 go_upto_block 0 with fail
 refine cmpL1_any _ _ w.heap.size BB bo b _ (Array.replicate 64 (.int .u32 0)) (BoxN.new w 309 _) rfl (by simp;omega) (by omega) (fun j hj=>by
  rw[←Hhb.out j hj]
  exact World.cell?_of_block (Below.heap_alloc w _ BB hBB)) _ _ _ _ _ _ _ _ _ _ _ _ _ _ _ _ _ _ _ _ _ _ _ _ _ _ _ _ _ _ _ _ _ _ _ _ _ _ _ _ _ _ _ _ _ _ _ _ _ _ _ _ _ _ _ _ _ _ _ _ _ _ _ _ _ _ _ _ _ _ _ _ _ _ _ _ _ _ _ _ _ _ _ _ _ _ _ _ _ _ _ _ _ _ _ _ _ _ _ _ _ _ _ _ _ _ _ _ _ _ _ _ _ _ _ _ _ _ _ _ _ _ _ _ _ _ _ _ _ _ _ _ _ _ _ _ _ _ _ _ _ _ _ _ _ _ _ _ _ _ _ _ _ _ _ _ _ _ _ _ _ _ _ _ _ _ _ _ _ _ _ _ _ _ _ _ _ _ _ _ _ _ _ _ _ _ _ _ _ _ _ _ _ _ _ _ _ _ _ _ _ _ _ _ _ _ _ _ _ _ _ _ _ _ _ _ _ _ _ _ _ _ _ _ _ ?_
 intro t0 t1 t2 t3 t4 t5 t6 t7 t8 t9 t10 t11 t12 t13 t14 t15 t16 t17 t18 t19 t20 t21 t22 t23 t24 t25 t26 t27 t28 t29 t30 t31 t32 t33 t34 t35 t36 t37 t38 t39 t40 t41 t42 t43 W1 cs1 b1 z1 w1 f1
 have B1:=Hd b1
 have Q1:=Hd w1
 have F1:=Hd f1
 clear b1 w1 f1
 go_upto_block 2 with fail
 refine cmpL2_any _ _ w.heap.size b _ cs1 B1.out z1 Q1.out _ _ _ _ _ _ _ _ _ _ _ _ _ _ _ _ _ _ _ _ _ _ _ _ _ _ _ _ _ _ _ _ _ _ _ _ _ _ _ _ _ _ _ _ _ _ _ _ _ _ _ _ _ _ _ _ _ _ _ _ _ _ _ _ _ _ _ _ _ _ _ _ _ _ _ _ _ _ _ _ _ _ _ _ _ _ _ _ _ _ _ _ _ _ _ _ _ _ _ _ _ _ _ _ _ _ _ _ _ _ _ _ _ _ _ _ _ _ _ _ _ _ _ _ _ _ _ _ _ _ _ _ _ _ _ _ _ _ _ _ _ _ _ _ _ _ _ _ _ _ _ _ _ _ _ _ _ _ _ _ _ _ _ _ _ _ _ _ _ _ _ _ _ _ _ _ _ _ _ _ _ _ _ _ _ _ _ _ _ _ _ _ _ _ _ _ _ _ _ _ _ _ _ _ _ _ _ _ _ _ _ _ _ _ _ _ _ _ _ _ _ _ _ _ _ _ ?_
 intro t0 t1 t2 t3 t4 t5 t6 t7 t8 t9 t10 t11 t12 t13 t14 t15 t16 t17 t18 t19 t20 t21 t22 t23 t24 t25 t26 t27 t28 t29 t30 t31 t32 t33 t34 t35 t36 t37 t38 t39 t40 t41 t42 t43 t44 t45 t46 t47 W2 cs2 b2 z2 w2 f2
 have B2:=Hd b2
 have Q2:=Hd w2
 have hf:Fr [SB] w W2:=(((Fr.refl [] w).alloc _).trans (F1.out.then f2) (by simp)).mono (by simp)
 have hX:w.heap.size<W2.heap.size:=b2.lt
 have F2:=Hd hf
 have hne:w.heap.size≠SB:=by have:=HSB.out;omega
 have bS:BoxN W2 SB t cs:=HS.out.fr (((Fr.refl [] w).alloc _).trans (F1.out.then f2) (by simp):Fr [] w W2) (by simp)
 have HS2:=Hd bS
 have hG2:2<W2.heap.size:=by omega
 have e0:W2.cell? ⟨SB,so,none⟩=some (.int .u32 (s 0)):=(bS.c _).trans (Hhs.out 0 (by omega))
 have e1:W2.cell? ⟨SB,so+1,none⟩=some (.int .u32 (s 1)):=(bS.c _).trans (Hhs.out 1 (by omega))
 have e2:W2.cell? ⟨SB,so+2,none⟩=some (.int .u32 (s 2)):=(bS.c _).trans (Hhs.out 2 (by omega))
 have e3:W2.cell? ⟨SB,so+3,none⟩=some (.int .u32 (s 3)):=(bS.c _).trans (Hhs.out 3 (by omega))
 have e4:W2.cell? ⟨SB,so+4,none⟩=some (.int .u32 (s 4)):=(bS.c _).trans (Hhs.out 4 (by omega))
 have e5:W2.cell? ⟨SB,so+5,none⟩=some (.int .u32 (s 5)):=(bS.c _).trans (Hhs.out 5 (by omega))
 have e6:W2.cell? ⟨SB,so+6,none⟩=some (.int .u32 (s 6)):=(bS.c _).trans (Hhs.out 6 (by omega))
 have e7:W2.cell? ⟨SB,so+7,none⟩=some (.int .u32 (s 7)):=(bS.c _).trans (Hhs.out 7 (by omega))
 have hk2:∀ j,j<64→W2.cell? ⟨2,j,none⟩=some (.int .u32 (kc j)):=fun j hj=>by
  rw[←Hkc.out j hj]
  exact World.cell?_of_block ((((Fr.refl [] w).alloc _).trans (F1.out.then f2) (by simp):Fr [] w W2).block 2 hG (by simp))
 have Hk2:=Hd hk2
 clear b2 w2 f2 hf bS hk2 F1 B1 Q1 z1
 go_upto_region 13 with fail
 go_quiet (fail)
 revert nq
 intro n1
 go_upto_region 14 with fail
 go_quiet (fail)
 go_upto_block 4 with fail
 refine cmpL3_any _ _ w.heap.size ⟨s 0,s 1,s 2,s 3,s 4,s 5,s 6,s 7⟩ kc (sched b) ((W2.drewN n1).drewN nq) hX hG2 (fun j hj=>(B2.out.c j).trans (Q2.out j hj)) Hk2.out _ _ _ _ _ _ _ _ _ _ _ _ _ _ _ _ _ _ _ _ _ _ _ _ _ _ _ _ _ _ _ _ _ _ _ _ _ _ _ _ _ _ _ _ _ _ _ _ _ _ _ _ _ _ _ _ _ _ _ _ _ _ _ _ _ _ _ _ _ _ _ _ _ _ _ _ _ _ _ _ _ _ _ _ _ _ _ _ _ _ _ _ _ _ _ _ _ _ _ _ _ _ _ _ _ _ _ _ _ _ _ _ _ _ _ _ _ _ _ _ _ _ _ _ _ _ _ _ _ _ _ _ _ _ _ _ _ _ _ _ _ _ _ _ _ _ _ _ _ _ _ _ _ _ _ _ _ _ _ _ _ _ _ _ _ _ _ _ _ _ _ _ _ _ _ _ _ _ _ _ _ _ _ _ _ _ _ _ _ _ _ _ _ _ _ _ _ _ _ _ _ _ _ _ _ _ _ _ _ _ _ _ _ _ _ _ _ _ ?_
 intro t0 t1 t2 t3 t4 t5 t6 t7 t8 t9 t10 t11 t12 t13 t14 t15 t16 t17 t18 t19 t20 t21 t22 t23 t24 t25 t26 t27 t28 t29 t30 t31 t32 t33 t34 t35 t36 t37 t38 t39 t40 t41 t42 t43 t44 t45 t46 t47 t48 t49 t50 t51 t52 t53 t54 t55 t56 t57 t58 t59 t60 t61 t62 t63 t64 t65 W3 f3
 have hf3:Fr [SB] w W3:=F2.out.then (Fr.of_below (below_of_drewN (below_of_drewN f3)))
 have bS3:BoxN W3 SB t cs:=HS2.out.later (below_of_drewN (below_of_drewN f3))
 have F3:=Hd hf3
 have HS3:=Hd bS3
 clear f3 hf3 bS3 e0 e1 e2 e3 e4 e5 e6 e7 F2
 obtain⟨R,hR⟩:=nmd (rounds kc (sched b) 64 ⟨s 0,s 1,s 2,s 3,s 4,s 5,s 6,s 7⟩)
 rw[hR]
 have HR:=Hd hR
 clear hR
 go_upto_block 6 with fail
 refine cmpL4_any _ SB so t #[.int .u32 R.a,.int .u32 R.b,.int .u32 R.c,.int .u32 R.d,.int .u32 R.e,.int .u32 R.f,.int .u32 R.g,.int .u32 R.h] s R.at _ cs HS3.out hsz Hhs.out (fun j hj=>by
  match j,hj with
  | 0,_=>rfl
  | 1,_=>rfl
  | 2,_=>rfl
  | 3,_=>rfl
  | 4,_=>rfl
  | 5,_=>rfl
  | 6,_=>rfl
  | 7,_=>rfl) _ _ _ _ _ _ _ _ _ _ _ _ _ _ _ _ _ _ _ _ _ _ _ _ _ _ _ _ _ _ _ _ _ _ _ _ _ _ _ _ _ _ _ _ _ _ _ _ _ _ _ _ _ _ _ _ _ _ _ _ _ _ _ _ _ _ _ _ _ _ _ _ _ _ _ _ _ _ _ _ _ _ _ _ _ _ _ _ _ _ _ _ _ _ _ _ _ _ _ _ _ _ _ _ _ _ _ _ _ _ _ _ _ _ _ _ _ _ _ _ _ _ _ _ _ _ _ _ _ _ _ _ _ _ _ _ _ _ _ _ _ _ _ _ _ _ _ _ _ _ _ _ _ _ _ _ _ _ _ _ _ _ _ _ _ _ _ _ _ _ _ _ _ _ _ _ _ _ _ _ _ _ _ _ _ _ _ _ _ _ _ _ _ _ _ _ _ _ _ _ _ _ _ _ _ _ _ _ _ _ _ _ _ _ _ _ _ _ _ _ _ _ _ _ _ ?_
 intro t0 t1 t2 t3 t4 t5 t6 t7 t8 t9 t10 t11 t12 t13 t14 t15 W4 cs4 b4 z4 s4 o4 f4
 have B4:=Hd b4
 have S4:=Hd s4
 have O4:=Hd o4
 have F4:=Hd f4
 have Z4:=Hd z4
 clear b4 s4 o4 f4 z4
 go_wp2_with fail
 go_end0
 refine⟨rfl,cs4,B4.out,Z4.out,fun j hj=>?_,O4.out,F3.out.then F4.out⟩
 rw[S4.out j hj]
 unfold comp
 rw[HR.out]
end Go.Proofs.YtlpmiimgacfmkaaGreatDoor
namespace Go.Proofs.YtlpmiimgacfmkaaGreatDoor
open Go.RowKit
def ivL:List Int:=[0x6a09e667,0xbb67ae85,0x3c6ef372,0xa54ff53a,0x510e527f,0x9b05688c,0x1f83d9ab,0x5be0cd19]
def iv (j:Nat):Int:=ivL.getD j 0
structure Usage where
 word:List UInt8
 owner:Bool
 number:Bool
 index:Bool
 text:Bool
 most:Int
def Usage.cells (u:Usage):List Value:=[encN u.word,.bool u.owner,.bool u.number,.bool u.index,.bool u.text,.int .i64 u.most]
def usN:Usage:=⟨[],false,false,false,false,0⟩
def usL:List Usage:=[usN,⟨[112,114,111,99,101,115,115],true,false,false,false,0⟩,⟨[114,101,103,105,115,116,101,114,115],true,false,false,false,0⟩,
 ⟨[112,97,103,101],true,false,true,false,63⟩,⟨[116,97,98,108,101],true,false,false,false,0⟩,⟨[99,111,117,110,116,101,114],true,false,false,false,0⟩,
 ⟨[112,101,110,100,105,110,103],true,false,false,false,0⟩,⟨[110,111,100,101],true,true,false,false,0⟩,⟨[98,108,111,99,107],true,true,true,false,63⟩,
 ⟨[101,110,116,114,121],true,true,false,true,0⟩,⟨[108,105,115,116,105,110,103],true,true,false,false,0⟩,⟨[112,105,112,101],true,true,false,false,0⟩,
 ⟨[108,111,99,107],true,true,false,false,0⟩,⟨[116,101,114,109,105,110,97,108],false,true,false,false,0⟩,⟨[97,99,99,111,117,110,116],false,false,false,true,0⟩,
 ⟨[99,108,111,99,107],false,false,false,false,0⟩,⟨[112,111,114,116],false,true,false,false,0⟩,⟨[98,111,120],false,false,false,true,0⟩,
 ⟨[111,117,116],true,true,true,false,1073741824⟩,⟨[115,104,101,108,108],true,false,false,false,0⟩,⟨[101,112,111,99,104],false,false,false,false,0⟩]
def us (k:Nat):Usage:=usL.getD k usN
structure Ok (w:World):Prop where
 low:6≤w.heap.size
 kcs:∀ j,j<64→w.cell? ⟨2,j,none⟩=some (.int .u32 (kc j))
 ivs:∀ j,j<8→w.cell? ⟨1,j,none⟩=some (.int .u32 (iv j))
 uss:∀ k,k<21→∀ j v,(us k).cells[j]?=some v→w.cell? ⟨0,k*6+j,none⟩=some v
theorem Ok.fr {S:List Nat} {w w':World} (h:Ok w) (hf:Fr S w w') (hS:∀ k∈S,6≤k):Ok w':=by
 have hl:=h.low
 have hb:Below 6 w w':=hf.below hS hl
 exact⟨Nat.le_trans hl hf.size,fun j hj=>(hb.cell (p:=⟨_,j,none⟩) (by simp)).trans (h.kcs j hj),fun j hj=>(hb.cell (p:=⟨_,j,none⟩) (by simp)).trans (h.ivs j hj),fun k hk j v hv=>(hb.cell (p:=⟨_,k*6+j,none⟩) (by simp)).trans (h.uss k hk j v hv)⟩
theorem Ok.fr0 {w w':World} (h:Ok w) (hf:Fr [] w w'):Ok w':=h.fr hf (by simp)
theorem Ok.fr1 {w w':World} {b:Nat} (h:Ok w) (hf:Fr [b] w w') (hb:6≤b):Ok w':=h.fr hf (by simpa using hb)
theorem Ok.drew {w:World} (h:Ok w):Ok w.drew:=h.fr0 (Fr.refl [] w).drew
theorem Ok.drewN {w:World} (h:Ok w) (n:Nat):Ok (w.drewN n):=h.fr0 ((Fr.refl [] w).drewN n)
structure HS where
 len:Nat
 st:Nat→Int
 rest:Nat→Int
def hcell (h:HS) (i:Nat):Value:=if i=0 then .int .i64 (h.len:Int) else if i<9 then .int .u32 (h.st (i - 1)) else .int .u8 (h.rest (i - 9))
def HashAt (w:World) (b:Nat) (h:HS):Prop:=w.rowIs b 165 73 (hcell h)
def hn (h:HS) (l:List UInt8):Nat:=min l.length (64 - h.len % 64)
def hrest (h:HS) (l:List UInt8) (j:Nat):Int:=if h.len % 64≤j∧j<h.len % 64+hn h l then ((l.getD (j - h.len % 64) 0).toNat:Int) else h.rest j
def hchunk (h:HS) (l:List UInt8):HS:=⟨h.len+hn h l,if h.len % 64+hn h l=64 then comp h.st (hrest h l) else h.st,hrest h l⟩
def hwrite (h:HS) (l:List UInt8):HS:=if _e:l.length=0 then h else hwrite (hchunk h l) (l.drop (hn h l))
termination_by l.length
decreasing_by
 have h1:hn h l=min l.length (64 - h.len % 64):=rfl
 rw[List.length_drop]
 omega
theorem hwrite_nil (h:HS):hwrite h []=h:=by rw[hwrite];simp
theorem hwrite_step {h:HS} {l:List UInt8} (hl:l.length≠0):hwrite h l=hwrite (hchunk h l) (l.drop (hn h l)):=by rw[hwrite,dif_neg hl]
theorem hn_bounds (h:HS) (l:List UInt8):hn h l≤l.length∧hn h l≤64 - h.len % 64∧(l.length≠0→0<hn h l)∧h.len % 64<64:=by
 have h1:hn h l=min l.length (64 - h.len % 64):=rfl
 omega
theorem compress_hash (b:Nat) (h:HS) (w:World) (hok:Ok w) (hH:HashAt w b h) :
 Calls Tryz.prog 144 #[.pointer (some ⟨b,1,none⟩),.pointer (some ⟨b,9,none⟩)] w fun e w'=>e=.returned (.tuple #[])∧HashAt w' b ⟨h.len,comp h.st h.rest,h.rest⟩∧Fr [b] w w':=by
 obtain⟨cs,hc,hn,hf⟩:=hH
 have hlt:b<w.heap.size:=BoxN.lt hc
 refine (compress_any b 1 165 cs b 9 h.st h.rest w hc (by omega) (fun j hj=>by rw[hf (1+j) (by omega)];unfold hcell;rw[if_neg (by omega),if_pos (by omega)];congr 3;omega) hlt
  (fun j hj=>by rw[BoxN.c hc (9+j),hf (9+j) (by omega)];unfold hcell;rw[if_neg (by omega),if_neg (by omega)];congr 3;omega) (by have:=hok.low;omega) hok.kcs).mono ?_
 rintro e w' ⟨he,cs',hB,hs,hst,ho,hfr⟩
 refine⟨he,⟨cs',hB,by omega,fun i hi=>?_⟩,hfr⟩
 unfold hcell
 by_cases h0:i=0
 ·rw[if_pos h0,ho i (by omega),hf i hi];unfold hcell;rw[if_pos h0]
 ·rw[if_neg h0]
  by_cases h9:i<9
  ·rw[if_pos h9]
   have:=hst (i - 1) (by omega)
   rwa [show 1+(i - 1)=i by omega] at this
  ·rw[if_neg h9,ho i (by omega),hf i hi];unfold hcell;rw[if_neg h0,if_neg h9]
theorem compress_two (p q:Nat) (s bl:Nat→Int) (w:World) (hok:Ok w) (hp:w.rowIs p 162 8 (fun j=>.int .u32 (s j))) (hq:w.rowIs q 163 64 (fun j=>.int .u8 (bl j))) :
 Calls Tryz.prog 144 #[.pointer (some ⟨p,0,none⟩),.pointer (some ⟨q,0,none⟩)] w fun e w'=>e=.returned (.tuple #[])∧w'.rowIs p 162 8 (fun j=>.int .u32 (comp s bl j))∧Fr [p] w w':=by
 obtain⟨cs,hc,hn,hf⟩:=hp
 refine (compress_any p 0 162 cs q 0 s bl w hc (by omega) (fun j hj=>by rw[Nat.zero_add,hf j hj]) hq.lt (fun j hj=>by rw[Nat.zero_add];exact hq.cell hj) (by have:=hok.low;omega) hok.kcs).mono ?_
 rintro e w' ⟨he,cs',hB,hs,hst,ho,hfr⟩
 exact⟨he,⟨cs',hB,by omega,fun i hi=>by have:=hst i hi;rwa [Nat.zero_add] at this⟩,hfr⟩
theorem hash_copy {w:World} {b m n:Nat} {h:HS} {s:ByteArray} {l:List UInt8} (hH:HashAt w b h) (hl:s.data.toList=l) (hm:m=h.len % 64) (hnn:n=hn h l):HashAt (w.setCells b (9+m) ((s.data.toList.take n).map fun x=>Value.int .u8 (x.toNat:Int))) b ⟨h.len,h.st,hrest h l⟩:=by
 have hb:=hn_bounds h l
 subst hl hm hnn
 have hlen:(s.data.toList.take (hn h s.data.toList)).length=hn h s.data.toList:=by rw[List.length_take];omega
 refine (rowIs_setCells _ _ _ _ hH).congr fun i hi=>?_
 simp only[List.length_map,hlen]
 by_cases h1:9+h.len % 64≤i∧i<9+h.len % 64+hn h s.data.toList
 ·rw[if_pos h1]
  unfold hcell
  rw[if_neg (by omega),if_neg (by omega)]
  simp only
  unfold hrest
  rw[if_pos (by omega),List.getElem?_map,List.getElem?_take_of_lt (by omega),List.getElem?_eq_getElem (by omega)]
  simp only[Option.map_some,Option.getD_some]
  rw[List.getD_eq_getElem?_getD,List.getElem?_eq_getElem (by omega)]
  simp only[Option.getD_some]
  congr 4
  omega
 ·rw[if_neg h1]
  unfold hcell
  by_cases h0:i=0
  ·rw[if_pos h0,if_pos h0]
  ·rw[if_neg h0,if_neg h0]
   by_cases h9:i<9
   ·rw[if_pos h9,if_pos h9]
   ·rw[if_neg h9,if_neg h9]
    simp only
    unfold hrest
    rw[if_neg (by omega)]
theorem hash_len {w:World} {b:Nat} {h:HS} (k:Nat) (hH:HashAt w b h):HashAt (w.setCell ⟨b,0,none⟩ (.int .i64 (k:Int))) b ⟨k,h.st,h.rest⟩ :=
 (World.rowIs.set hH 0 _).congr fun i hi=>by
  unfold hcell
  by_cases h0:i=0
  ·rw[if_pos h0,if_pos h0]
  ·rw[if_neg h0,if_neg h0,if_neg h0]
set_option maxRecDepth 100000
set_option maxHeartbeats 4000000
def HR (w:World) (b:Nat) (target:HS) (v:Value) (W:World):Prop :=
 ∃ (h:HS) (l:List UInt8),v=encN l∧HashAt W b h∧hwrite h l=target∧Fr [b] w W∧h.len+l.length≤1152921504606846976
def WritePost (w:World) (b:Nat) (h0:HS) (l:List UInt8) (e:Ending) (w':World):Prop :=
 e=.returned (.int .i64 0)∧HashAt w' b (if l.length=0 then h0 else hwrite ⟨0,iv,h0.rest⟩ l)∧Fr [b] w w'
def strLen:Value→Nat | .string s=>s.size | _=>0
theorem str_of (l:List UInt8):∃ s:ByteArray,encN l=.string s∧s.data.toList=l∧s.size=l.length:=⟨_,rfl,rfl,by simp[←ByteArray.size_data]⟩
theorem extract_drop {s:ByteArray} {l:List UInt8} {n:Nat} (hl:s.data.toList=l) (hz:s.size=l.length):(s.extract n s.size).data.toList=l.drop n:=by
 subst hl
 rw[ByteArray.data_extract,Array.toList_extract]
 rw[List.extract_eq_take_drop,hz]
 exact List.take_of_length_le (by rw[List.length_drop];exact Nat.le_refl _)
theorem extract_size {s:ByteArray} {l:List UInt8} {n:Nat} (hl:s.data.toList=l) (hz:s.size=l.length):(s.extract n s.size).size=l.length - n:=by
 rw[Lib.size_eq,extract_drop hl hz,List.length_drop]
theorem Write_any (b:Nat) (l:List UInt8) (h0:HS) (w:World) (hok:Ok w) (hb:6≤b) (hl:l.length≤1152921504606846976) (hH:HashAt w b h0) (h00:h0.len=0) :
 Calls Tryz.prog 79 #[.pointer (some ⟨b,0,none⟩),encN l] w (WritePost w b h0 l):=by
 have c0:w.cell? ⟨b,0,none⟩=some (.int .i64 0):=by have:=hH.cell (i:=0) (by omega);rw[this];simp[hcell,h00]
 obtain⟨s,hs,hsl,hsz⟩:=str_of l
 rw[hs]
 have HHs:=Hd hs
 have Hsl:=Hd hsl
 have hz0:s.size≤1152921504606846976:=by omega
 have Hsz:=Hd hsz
 obtain⟨TG,hTG⟩:=nmd ((if l.length=0 then h0 else hwrite ⟨0,iv,h0.rest⟩ l))
 unfold WritePost
 rw[hTG]
 have HTG:=Hd hTG
 clear hs hsl hsz hTG
 by_cases hl0:s.size=0
 ·have hgt:¬ (0:Int)<s.size:=by omega
  have hs1:HashAt w b h0:=hH
  have HS1:=Hd hs1
  have hF1:Fr [b] w w:=Fr.refl _ _
  have HF1:=Hd hF1
  have hT:hwrite h0 l=TG:=by
   have hnil:l=[]:=List.eq_nil_of_length_eq_zero (by have:=Hsz.out;omega)
   rw[←HTG.out,if_pos (by have:=Hsz.out;omega),hnil,hwrite_nil]
  have HT:=Hd hT
  clear hs1 hF1 hT
  go_enter Tryz.func79,Tryz.ntmps79
  go_wp2_with fail
  clear c0
  go_loopw [1] (HR w b TG) (fun v _=>strLen v)
  case atStart=>exact⟨_,s.data.toList,rfl,HS1.out,by rw[Hsl.out];exact HT.out,HF1.out,by have:=Hsz.out;rw[Hsl.out];first | omega | (simp only;omega)⟩
  case round =>
   obtain⟨h,l1,rfl,hA,hT,hF,hlen⟩:=hrel
   obtain⟨s1,hs1,hl1,hz1⟩:=str_of l1
   rw[hs1]
   obtain⟨m,hm⟩:=nmd (h.len % 64)
   obtain⟨n,hn1⟩:=nmd (hn h l1)
   have hbn:=hn_bounds h l1
   rw[hm,hn1] at hbn
   obtain⟨b1,b2,b3,b4⟩:=hbn
   have c0:wr.cell? ⟨b,0,none⟩=some (.int .i64 (h.len:Int)):=by have:=hA.cell (i:=0) (by omega);exact this
   have Hs1:=Hd hs1
   have Hl1:=Hd hl1
   have Hz1:=Hd hz1
   have HA:=Hd hA
   have HT1:=Hd hT
   have HF:=Hd hF
   have Hm:=Hd hm
   have Hn:=Hd hn1
   have hz2:s1.size≤1152921504606846976:=by omega
   have hl2:h.len≤1152921504606846976:=by omega
   have hmm:(h.len:Int) % 64=(m:Int):=by omega
   clear hs1 hl1 hz1 hA hT hF hm hn1
   by_cases hpos:0<s1.size
   ·have hpos':(0:Int)<s1.size:=by omega
    have hns:n≤s1.size:=by have:=Hz1.out;omega
    have hn0:0<n:=b3 (by have:=Hz1.out;omega)
    have hnmin:n=Nat.min s1.size (64 - m):=by rw[←Hn.out,Hz1.out];unfold hn;rw[Hm.out]
    have HN:=Hd hnmin
    have hm64:(m:Int)≤64:=by omega
    have hm0:(0:Int)≤(m:Int):=by omega
    clear b3 hnmin
    go_upto_region 7 with fail
    rw[hmm]
    have hcc:∀ j,j<n→(wr.cell? ⟨b,9+m+j,none⟩).isSome=true:=fun j hj=>by rw[HA.out.cell (by omega)];rfl
    have hff:∀ j,j<n→wr.frozen? ⟨b,9+m+j,none⟩=false:=fun j hj=>HA.out.frozen _
    have HCC:=Hd hcc
    have HFF:=Hd hff
    clear hcc hff
    have hcp:=run_copy_str (P:=Tryz.prog) wr 49 9 3 5 b (9+m) (64 - m) (64 - m) s1 n (by kernel_rfl) (fun _=>by rfl) HN.out HCC.out HFF.out
    obtain⟨W2,hW2⟩:=nmd (wr.setCells b (9+m) ((s1.data.toList.take n).map fun x=>Value.int .u8 (x.toNat:Int)))
    have hA2:HashAt W2 b ⟨h.len,h.st,hrest h l1⟩:=by rw[←hW2];exact hash_copy HA.out Hl1.out Hm.out.symm Hn.out.symm
    have hF2:Fr [b] w W2:=by rw[←hW2];exact HF.out.setCells (by simp) _ _
    rw[hW2] at hcp
    clear hW2
    have c2:W2.cell? ⟨b,0,none⟩=some (.int .i64 (h.len:Int)):=by have:=hA2.cell (i:=0) (by omega);rw[this];rfl
    have f2:=hA2.frozen 0
    have HA2:=Hd hA2
    have HF2:=Hd hF2
    clear hA2 hF2
    go_upto_region 8 with fail
    have hni:(n:Int)≤s1.size:=by omega
    have hn0':(0:Int)≤(n:Int):=by omega
    have hlb:h.len+n≤1152921504606846976:=by omega
    clear hcp
    by_cases hfull:m+n=64
    ·have hf1:((m:Int)+(n:Int) == 64)=true:=by simp;omega
     go_upto_region 11 with fail
     obtain⟨W3,hW3⟩:=nmd (W2.setCell ⟨b,0,none⟩ (.int .i64 ((h.len:Int)+(n:Int))))
     have hA3:HashAt W3 b ⟨h.len+n,h.st,hrest h l1⟩:=by
      rw[←hW3,show (h.len:Int)+(n:Int)=((h.len+n:Nat):Int) by omega]
      exact hash_len (h.len+n) HA2.out
     have hF3:Fr [b] w W3:=by rw[←hW3];exact HF2.out.set (p:=⟨b,0,none⟩) (by simp) _
     rw[hW3]
     have HA3:=Hd hA3
     have HF3:=Hd hF3
     have hok3:Ok W3.drew:=(hok.fr1 hF3 hb).drew
     have HOK3:=Hd hok3
     clear hW3 hA3 hF3 hok3 c2 f2 c0
     go_still_tail 6,(by kernel_rfl)
     go_wp2_with ((go_at_call 144;refine (compress_hash b _ _ HOK3.out HA3.out).mono ?_;rintro e W4 ⟨rfl,hA4,hF4⟩;have HA4:=Hd hA4;have HF4:=Hd hF4;clear hA4 hF4))
     refine⟨⟨_,(s1.extract n s1.size).data.toList,rfl,HA4.out,?_,HF3.out.drew.then HF4.out,?_⟩,?_⟩
     ·have h1:=HT1.out
      rw[hwrite_step (by have:=Hz1.out;omega),Hn.out] at h1
      rw[extract_drop Hl1.out Hz1.out]
      rw[←h1]
      unfold hchunk
      rw[Hm.out,Hn.out,if_pos hfull]
     ·rw[extract_drop Hl1.out Hz1.out]
      simp only[List.length_drop]
      omega
     ·simp only[strLen]
      rw[extract_size Hl1.out Hz1.out]
      have:=Hz1.out
      omega
    ·have hf1:((m:Int)+(n:Int) == 64)=false:=by simp;omega
     go_wp2_with fail
     refine⟨⟨⟨h.len+n,h.st,hrest h l1⟩,(s1.extract n s1.size).data.toList,rfl,?_,?_,HF2.out.set (p:=⟨b,0,none⟩) (by simp) _,?_⟩,?_⟩
     ·rw[show (h.len:Int)+(n:Int)=((h.len+n:Nat):Int) by omega]
      exact hash_len (h.len+n) HA2.out
     ·have h1:=HT1.out
      rw[hwrite_step (by have:=Hz1.out;omega),Hn.out] at h1
      rw[extract_drop Hl1.out Hz1.out]
      rw[←h1]
      unfold hchunk
      rw[Hm.out,Hn.out,if_neg hfull]
     ·rw[extract_drop Hl1.out Hz1.out]
      simp only[List.length_drop]
      omega
     ·simp only[strLen]
      rw[extract_size Hl1.out Hz1.out]
      have:=Hz1.out
      omega
   ·have hzz:s1.size=0:=by omega
    obtain rfl:l1=[]:=List.eq_nil_of_length_eq_zero (by rw[←Hz1.out];exact hzz)
    have hgt1:¬ (0:Int)<s1.size:=by omega
    clear b3
    go_wp2_with fail
    go_ret
    have h1:=HT1.out
    rw[hwrite_nil] at h1
    subst h1
    exact⟨rfl,HA.out,HF.out⟩
 ·have hgt:(0:Int)<s.size:=by omega
  have hir:w.rangeAt 1 0 (ivL.map (Value.int .u32)):=by
   intro j v hv
   have hj:j<8:=by have:=(List.getElem?_eq_some_iff.1 hv).1;simpa [ivL] using this
   rw[Nat.zero_add,hok.ivs j hj,←hv,List.getElem?_map]
   unfold iv
   rw[List.getElem?_eq_getElem (by simpa [ivL] using hj)]
   simp[List.getD,List.getElem?_eq_getElem (show j<ivL.length by simpa [ivL] using hj)]
  have hth:w.there b 1 8:=fun j hj=>⟨by rw[hH.cell (by omega)];rfl,hH.frozen _⟩
  have hst:=run_storeCells_cells (P:=Tryz.prog) b 1 (ivL.map (Value.int .u32)) 0 w (fun j hj=>(hth j hj).1) (fun j hj=>(hth j hj).2) (by intro v hv;obtain⟨x,_,rfl⟩:=List.mem_map.1 hv;rfl)
  simp only[Nat.add_zero] at hst
  have HIR:=Hd hir
  have hiv8:ivL.length=8:=rfl
  have hs1:HashAt (w.setCells b 1 (ivL.map (Value.int .u32))) b ⟨0,iv,h0.rest⟩:=by
   refine (rowIs_setCells _ _ _ _ hH).congr fun i hi=>?_
   simp only[List.length_map,hiv8]
   unfold hcell
   by_cases h1:1≤i∧i<1+8
   ·rw[if_pos h1,if_neg (by omega),if_pos (by omega),List.getElem?_map,List.getElem?_eq_getElem (show i - 1<ivL.length by omega)]
    simp only[Option.map_some,Option.getD_some]
    unfold iv
    rw[List.getD_eq_getElem?_getD,List.getElem?_eq_getElem (show i - 1<ivL.length by omega)]
    rfl
   ·rw[if_neg h1]
    by_cases h2:i=0
    ·rw[if_pos h2,if_pos h2,h00]
    ·rw[if_neg h2,if_neg h2,if_neg (by omega),if_neg (by omega)]
  have HS1:=Hd hs1
  have hF1:Fr [b] w (w.setCells b 1 (ivL.map (Value.int .u32))):=(Fr.refl [b] w).setCells (by simp) _ _
  have HF1:=Hd hF1
  have hT:hwrite ⟨0,iv,h0.rest⟩ l=TG:=by rw[←HTG.out,if_neg (by have:=Hsz.out;omega)]
  have HT:=Hd hT
  clear hir hth hs1 hF1 hT
  go_enter Tryz.func79,Tryz.ntmps79
  go_wp2_with (first | (with_reducible refine wpList_load_mid rfl 162 (.global 1) rfl 1 0 rfl _ _ HIR.out rfl rfl rfl ?_))
  clear hst c0
  go_loopw [1] (HR w b TG) (fun v _=>strLen v)
  case atStart=>exact⟨_,s.data.toList,rfl,HS1.out,by rw[Hsl.out];exact HT.out,HF1.out,by have:=Hsz.out;rw[Hsl.out];first | omega | (simp only;omega)⟩
  case round =>
   obtain⟨h,l1,rfl,hA,hT,hF,hlen⟩:=hrel
   obtain⟨s1,hs1,hl1,hz1⟩:=str_of l1
   rw[hs1]
   obtain⟨m,hm⟩:=nmd (h.len % 64)
   obtain⟨n,hn1⟩:=nmd (hn h l1)
   have hbn:=hn_bounds h l1
   rw[hm,hn1] at hbn
   obtain⟨b1,b2,b3,b4⟩:=hbn
   have c0:wr.cell? ⟨b,0,none⟩=some (.int .i64 (h.len:Int)):=by have:=hA.cell (i:=0) (by omega);exact this
   have Hs1:=Hd hs1
   have Hl1:=Hd hl1
   have Hz1:=Hd hz1
   have HA:=Hd hA
   have HT1:=Hd hT
   have HF:=Hd hF
   have Hm:=Hd hm
   have Hn:=Hd hn1
   have hz2:s1.size≤1152921504606846976:=by omega
   have hl2:h.len≤1152921504606846976:=by omega
   have hmm:(h.len:Int) % 64=(m:Int):=by omega
   clear hs1 hl1 hz1 hA hT hF hm hn1
   by_cases hpos:0<s1.size
   ·have hpos':(0:Int)<s1.size:=by omega
    have hns:n≤s1.size:=by have:=Hz1.out;omega
    have hn0:0<n:=b3 (by have:=Hz1.out;omega)
    have hnmin:n=Nat.min s1.size (64 - m):=by rw[←Hn.out,Hz1.out];unfold hn;rw[Hm.out]
    have HN:=Hd hnmin
    have hm64:(m:Int)≤64:=by omega
    have hm0:(0:Int)≤(m:Int):=by omega
    clear b3 hnmin
    go_upto_region 7 with fail
    rw[hmm]
    have hcc:∀ j,j<n→(wr.cell? ⟨b,9+m+j,none⟩).isSome=true:=fun j hj=>by rw[HA.out.cell (by omega)];rfl
    have hff:∀ j,j<n→wr.frozen? ⟨b,9+m+j,none⟩=false:=fun j hj=>HA.out.frozen _
    have HCC:=Hd hcc
    have HFF:=Hd hff
    clear hcc hff
    have hcp:=run_copy_str (P:=Tryz.prog) wr 49 9 3 5 b (9+m) (64 - m) (64 - m) s1 n (by kernel_rfl) (fun _=>by rfl) HN.out HCC.out HFF.out
    obtain⟨W2,hW2⟩:=nmd (wr.setCells b (9+m) ((s1.data.toList.take n).map fun x=>Value.int .u8 (x.toNat:Int)))
    have hA2:HashAt W2 b ⟨h.len,h.st,hrest h l1⟩:=by rw[←hW2];exact hash_copy HA.out Hl1.out Hm.out.symm Hn.out.symm
    have hF2:Fr [b] w W2:=by rw[←hW2];exact HF.out.setCells (by simp) _ _
    rw[hW2] at hcp
    clear hW2
    have c2:W2.cell? ⟨b,0,none⟩=some (.int .i64 (h.len:Int)):=by have:=hA2.cell (i:=0) (by omega);rw[this];rfl
    have f2:=hA2.frozen 0
    have HA2:=Hd hA2
    have HF2:=Hd hF2
    clear hA2 hF2
    go_upto_region 8 with fail
    have hni:(n:Int)≤s1.size:=by omega
    have hn0':(0:Int)≤(n:Int):=by omega
    have hlb:h.len+n≤1152921504606846976:=by omega
    clear hcp
    by_cases hfull:m+n=64
    ·have hf1:((m:Int)+(n:Int) == 64)=true:=by simp;omega
     go_upto_region 11 with fail
     obtain⟨W3,hW3⟩:=nmd (W2.setCell ⟨b,0,none⟩ (.int .i64 ((h.len:Int)+(n:Int))))
     have hA3:HashAt W3 b ⟨h.len+n,h.st,hrest h l1⟩:=by
      rw[←hW3,show (h.len:Int)+(n:Int)=((h.len+n:Nat):Int) by omega]
      exact hash_len (h.len+n) HA2.out
     have hF3:Fr [b] w W3:=by rw[←hW3];exact HF2.out.set (p:=⟨b,0,none⟩) (by simp) _
     rw[hW3]
     have HA3:=Hd hA3
     have HF3:=Hd hF3
     have hok3:Ok W3.drew:=(hok.fr1 hF3 hb).drew
     have HOK3:=Hd hok3
     clear hW3 hA3 hF3 hok3 c2 f2 c0
     go_still_tail 6,(by kernel_rfl)
     go_wp2_with ((go_at_call 144;refine (compress_hash b _ _ HOK3.out HA3.out).mono ?_;rintro e W4 ⟨rfl,hA4,hF4⟩;have HA4:=Hd hA4;have HF4:=Hd hF4;clear hA4 hF4))
     refine⟨⟨_,(s1.extract n s1.size).data.toList,rfl,HA4.out,?_,HF3.out.drew.then HF4.out,?_⟩,?_⟩
     ·have h1:=HT1.out
      rw[hwrite_step (by have:=Hz1.out;omega),Hn.out] at h1
      rw[extract_drop Hl1.out Hz1.out]
      rw[←h1]
      unfold hchunk
      rw[Hm.out,Hn.out,if_pos hfull]
     ·rw[extract_drop Hl1.out Hz1.out]
      simp only[List.length_drop]
      omega
     ·simp only[strLen]
      rw[extract_size Hl1.out Hz1.out]
      have:=Hz1.out
      omega
    ·have hf1:((m:Int)+(n:Int) == 64)=false:=by simp;omega
     go_wp2_with fail
     refine⟨⟨⟨h.len+n,h.st,hrest h l1⟩,(s1.extract n s1.size).data.toList,rfl,?_,?_,HF2.out.set (p:=⟨b,0,none⟩) (by simp) _,?_⟩,?_⟩
     ·rw[show (h.len:Int)+(n:Int)=((h.len+n:Nat):Int) by omega]
      exact hash_len (h.len+n) HA2.out
     ·have h1:=HT1.out
      rw[hwrite_step (by have:=Hz1.out;omega),Hn.out] at h1
      rw[extract_drop Hl1.out Hz1.out]
      rw[←h1]
      unfold hchunk
      rw[Hm.out,Hn.out,if_neg hfull]
     ·rw[extract_drop Hl1.out Hz1.out]
      simp only[List.length_drop]
      omega
     ·simp only[strLen]
      rw[extract_size Hl1.out Hz1.out]
      have:=Hz1.out
      omega
   ·have hzz:s1.size=0:=by omega
    obtain rfl:l1=[]:=List.eq_nil_of_length_eq_zero (by rw[←Hz1.out];exact hzz)
    have hgt1:¬ (0:Int)<s1.size:=by omega
    clear b3
    go_wp2_with fail
    go_ret
    have h1:=HT1.out
    rw[hwrite_nil] at h1
    subst h1
    exact⟨rfl,HA.out,HF.out⟩
theorem results_cell_mid {P:Program} {fn:Func} {p:Tmp} {ty:TypeId} {tmps:Array Value} {w:World} {b o:Nat} {cs:List Value} {d:TypeDesc} (h:fn.results=#[.cell p ty]) (hp:tmps.getD p undef=.pointer (some ⟨b,o,none⟩)) (hc:w.rangeAt b o cs) (hu:P.underlying ty=some d) (hd:d.isRow=true) (hi:(P.info? ty).map (·.size)=some cs.length) :
 (results fn tmps).run P w=.ok (.agg cs.toArray) w:=by
 have hp':tmps[p]?.getD undef=.pointer (some ⟨b,o,none⟩):=by rw[←Array.getD_eq_getD_getElem?];exact hp
 simp only[results,h]
 simp[Sem.run_bind,Result.andThen,hp',asAddr,run_loadVar_mid w b o ty cs d hc hu hd hi]
def dCells (d:Nm):List Value:=d.map fun c=>Value.int .u8 (c.toNat:Int)
def encD (d:Nm):Value:=.agg (dCells d).toArray
def dig (s:Nat→Int):Nm:=(List.range 32).map fun j=>UInt8.ofNat (s (j / 4) / 2 ^ (24 - 8*(j % 4)) % 256).toNat
def lenB (n:Int) (j:Nat):Int:=n / 2 ^ (8*(63 - j)) % 256
theorem dig_cell (s:Nat→Int) {j:Nat} (hj:j<32):(dCells (dig s))[j]?=some (.int .u8 (s (j / 4) / 2 ^ (24 - 8*(j % 4)) % 256)):=by
 unfold dCells dig
 rw[List.getElem?_map,List.getElem?_map,List.getElem?_range hj]
 simp only[Option.map_some]
 congr 2
 generalize s (j / 4) / 2 ^ (24 - 8*(j % 4))=x
 rw[UInt8.toNat_ofNat']
 omega
theorem dig_len (s:Nat→Int):(dCells (dig s)).length=32:=by simp[dCells,dig]
def dcell (s:Nat→Int) (j:Nat):Value:=.int .u8 (s (j / 4) / 2 ^ (24 - 8*(j % 4)) % 256)
def SumR2 (W0:World) (D:Nat) (s:Nat→Int) (i:Value) (W:World):Prop :=
 ∃ k:Nat,k≤8∧i=.int .i64 (k:Int)∧W.rowIs D 57 32 (fun j=>if j<4*k then dcell s j else .int .u8 0)∧Fr [D] W0 W
def SumR1 (W0:World) (Q:Nat) (bl:Nat→Int) (n:Int) (i:Value) (W:World):Prop :=
 ∃ k:Nat,k≤8∧i=.int .i64 (k:Int)∧W.rowIs Q 163 64 (fun j=>.int .u8 (if 64 - k≤j then lenB n j else bl j))∧Fr [Q] W0 W
def st8L (s:Nat→Int):List Value:=[.int .u32 (s 0),.int .u32 (s 1),.int .u32 (s 2),.int .u32 (s 3),.int .u32 (s 4),.int .u32 (s 5),.int .u32 (s 6),.int .u32 (s 7)]
theorem row_range8 {W:World} {P:Nat} {s:Nat→Int} (h:W.rowIs P 162 8 (fun j=>.int .u32 (s j))):W.rangeAt P 0 (st8L s):=by
 intro j v hv
 have hj:j<8:=(List.getElem?_eq_some_iff.1 hv).1
 rw[Nat.zero_add,h.cell hj,←hv]
 match j,hj with
 | 0,_=>rfl
 | 1,_=>rfl
 | 2,_=>rfl
 | 3,_=>rfl
 | 4,_=>rfl
 | 5,_=>rfl
 | 6,_=>rfl
 | 7,_=>rfl
theorem dcell_step (s:Nat→Int) (k j:Nat) :
 (if j=4*k+3 then Value.int .u8 (s k % 256) else if j=4*k+2 then Value.int .u8 (s k / 256 % 256) else if j=4*k+1 then Value.int .u8 (s k / 65536 % 256) else if j=4*k then Value.int .u8 (s k / 16777216 % 256) else if j<4*k then dcell s j else .int .u8 0)=if j<4*(k+1) then dcell s j else .int .u8 0:=by
 by_cases h3:j=4*k+3
 ·subst h3
  rw[if_pos rfl,if_pos (by omega)]
  unfold dcell
  rw[show (4*k+3) / 4=k by omega,show (4*k+3) % 4=3 by omega]
  simp
 ·rw[if_neg h3]
  by_cases h2:j=4*k+2
  ·subst h2
   rw[if_pos rfl,if_pos (by omega)]
   unfold dcell
   rw[show (4*k+2) / 4=k by omega,show (4*k+2) % 4=2 by omega,show (2:Int) ^ (24 - 8*2)=256 by decide]
  ·rw[if_neg h2]
   by_cases h1:j=4*k+1
   ·subst h1
    rw[if_pos rfl,if_pos (by omega)]
    unfold dcell
    rw[show (4*k+1) / 4=k by omega,show (4*k+1) % 4=1 by omega,show (2:Int) ^ (24 - 8*1)=65536 by decide]
   ·rw[if_neg h1]
    by_cases h0:j=4*k
    ·subst h0
     rw[if_pos rfl,if_pos (by omega)]
     unfold dcell
     rw[show 4*k / 4=k by omega,show 4*k % 4=0 by omega,show (2:Int) ^ (24 - 8*0)=16777216 by decide]
    ·rw[if_neg h0]
     by_cases hl:j<4*k
     ·rw[if_pos hl,if_pos (by omega)]
     ·rw[if_neg hl,if_neg (by omega)]
theorem rowIs_whole {w:World} {b:Nat} {t:TypeId} {n:Nat} {f g:Nat→Value} (h:w.rowIs b t n f) {vs:List Value} (hl:vs.length=n) (hv:∀ j,j<n→vs[j]?=some (g j)):(w.setCells b 0 vs).rowIs b t n g :=
 (rowIs_setCells _ _ _ _ h).congr fun j hj=>by rw[if_pos (by omega),Nat.sub_zero,hv j hj];rfl
theorem there_row {w:World} {b:Nat} {t:TypeId} {n k:Nat} {f:Nat→Value} (h:w.rowIs b t n f) (hk:k≤n):w.there b 0 k:=fun j hj=>⟨by rw[h.cell (by omega)];rfl,h.frozen _⟩
noncomputable def sum12:Code:=((Tryz.f80).body.bind (blockAt 13)).getD .skip
noncomputable def sum17:Code:=match (Tryz.f80).body.bind (fromReg 12) with
 | some (.seq _ b)=>b
 | _=>.skip
def SumPost (w0:World) (d:Nm) (e:Ending) (w':World):Prop:=e=.returned (encD d)∧Fr [] w0 w'
theorem sum17_any (w0 wr:World) (R P Q:Nat) (s bl2 s2:Nat→Int) (fR:Nat→Value) (hok:Ok wr) (hP:wr.rowIs P 162 8 (fun j=>.int .u32 (s j))) (hQ:wr.rowIs Q 163 64 (fun j=>.int .u8 (bl2 j))) (hR:wr.rowIs R 57 32 fR)
 (hPR:P≠R) (gP:w0.heap.size≤P) (gR:w0.heap.size≤R) (hF:Fr [] w0 wr) (hs2:comp s bl2=s2)
 (u0 u1 u5 u6 u7 u8 u9 u10 u11 u12 u13 u14 u15 u16 u17 u18 u19 u20 u21 u22 u23 u24 u25 u26 u27 u28 u29 u30 u31 u32 u33 u34 u35 u36 u37 u38 u39 u40 u41 u42 u43 u44 u45 u46 u47 u48 u49 u50 u51 u52 u53 u54 u55 u56 u57 u58 u59 u60 u61 u62 u63 u64 u65 u66 u67 u68 u69 u70 u71 u72 u73 u74 u75 u76 u77 u78 u79 u80 u81 u82 u83 u84 u85 u86 u87 u88 u89 u90 u91 u92 u93:Value):Code.wp Tryz.prog sum17 (bodyPost Tryz.prog Tryz.f80 (SumPost w0 (dig s2))) ⟨List.toArray (u0::u1::.pointer (some ⟨R,0,none⟩)::.pointer (some ⟨P,0,none⟩)::.pointer (some ⟨Q,0,none⟩)::u5::u6::u7::u8::u9::u10::u11::u12::u13::u14::u15::u16::u17::u18::u19::u20::u21::u22::u23::u24::u25::u26::u27::u28::u29::u30::u31::u32::u33::u34::u35::u36::u37::u38::u39::u40::u41::u42::u43::u44::u45::u46::u47::u48::u49::u50::u51::u52::u53::u54::u55::u56::u57::u58::u59::u60::u61::u62::u63::u64::u65::u66::u67::u68::u69::u70::u71::u72::u73::u74::u75::u76::u77::u78::u79::u80::u81::u82::u83::u84::u85::u86::u87::u88::u89::u90::u91::u92::u93::[]),[]⟩ wr:=by
 have HP2:=Hd hP
 have HQ3:=Hd hQ
 have HR2:=Hd hR
 have HOK2:=Hd hok
 have HF2:=Hd hF
 have HS2:=Hd hs2
 clear hP hQ hR hok hF hs2
 conv=>arg 2;whnf
 go_wp2_with (first
  | (go_at_call 144;refine (compress_two P Q _ _ wr HOK2.out HP2.out HQ3.out).mono ?_;rintro e W3 ⟨rfl,hp3,hf3⟩;rw[HS2.out] at hp3;have HP3:=Hd hp3;have hr3:=rowIs_fr HR2.out hf3 (by simpa using fun e=>hPR e.symm);have hf3':=HF2.out.trans hf3 (by simpa using gP);have HR3:=Hd hr3;have HF3:=Hd hf3';clear hp3 hr3 hf3 hf3')
  | (with_reducible refine wpList_load_mid rfl 162 (.tmp 3) rfl P 0 rfl _ _ (row_range8 (HP3.out.alloc _)) rfl rfl rfl ?_))
 obtain⟨W4,hW4⟩:=nmd (W3.alloc (.cells z32 57))
 have hd4:W4.rowIs W3.heap.size 57 32 (fun _=>.int .u8 0):=by
  rw[←hW4]
  refine World.rowIs_alloc W3 _ _ _ (fun i hi=>?_)
  have hi':i<32:=hi
  rcases i with _ | _ | _ | _ | _ | _ | _ | _ | _ | _ | _ | _ | _ | _ | _ | _ | _ | _ | _ | _ | _ | _ | _ | _ | _ | _ | _ | _ | _ | _ | _ | _ | i
  all_goals first | rfl | omega
 have hr4:W4.rowIs R 57 32 fR:=by rw[←hW4];exact HR3.out.alloc _
 have hf4:Fr [] w0 W4:=by rw[←hW4];exact HF3.out.alloc _
 have hDR:W3.heap.size≠R:=by have:=HR3.out.lt;omega
 have hDg:w0.heap.size≤W3.heap.size:=HF3.out.size
 rw[hW4]
 clear hW4
 generalize W3.heap.size=D at hd4 hDR hDg ⊢
 have HD4:=Hd hd4
 have HR4:=Hd hr4
 have HF4:=Hd hf4
 have HD:=Hd hDg
 have HDR:=Hd hDR
 clear hd4 hr4 hf4 hDg hDR
 go_loopw [62] (SumR2 W4 D s2) (fun i _=>8 - (intOf i).toNat)
 case atStart=>exact⟨0,by omega,rfl,HD4.out.congr (fun j hj=>by rw[if_neg (by omega)]),Fr.refl _ _⟩
 case round =>
  obtain⟨k,hk,rfl,hd,hf⟩:=hrel
  by_cases hlt:k<8
  ·have hlt':(k:Int)<8:=by omega
   have hxk:=run_index_agg (P:=Tryz.prog) wr 162 161 8 (st8L s2).toArray .i64 k (.int .u32 (s2 k)) (by kernel_rfl) (fun _=>by rfl) (fun _=>by rfl) hlt (by
    match k,hlt with
    | 0,_=>rfl
    | 1,_=>rfl
    | 2,_=>rfl
    | 3,_=>rfl
    | 4,_=>rfl
    | 5,_=>rfl
    | 6,_=>rfl
    | 7,_=>rfl)
   have x0:wr.cell? ⟨D,4*k,none⟩=some _:=hd.cell (by omega)
   have x1:wr.cell? ⟨D,4*k+1,none⟩=some _:=hd.cell (by omega)
   have x2:wr.cell? ⟨D,4*k+2,none⟩=some _:=hd.cell (by omega)
   have x3:wr.cell? ⟨D,4*k+3,none⟩=some _:=hd.cell (by omega)
   have f0:=hd.frozen (4*k)
   have f1:=hd.frozen (4*k+1)
   have f2:=hd.frozen (4*k+2)
   have f3:=hd.frozen (4*k+3)
   have HDD:=Hd hd
   have HFF:=Hd hf
   clear hd hf
   go_wp2_with fail
   refine⟨⟨k+1,by omega,by go_num,(((HDD.out.set _ _).set _ _).set _ _).set _ _ |>.congr (fun j hj=>?_),(((HFF.out.set (p:=⟨D,4*k,none⟩) (by simp) _).set (p:=⟨D,4*k+1,none⟩) (by simp) _).set (p:=⟨D,4*k+2,none⟩) (by simp) _).set (p:=⟨D,4*k+3,none⟩) (by simp) _⟩,by simp[intOf];omega⟩
   exact dcell_step s2 k j
  ·obtain rfl:k=8:=by omega
   have hdd:wr.rowIs D 57 32 (fun j=>dcell s2 j):=hd.congr (fun j hj=>by rw[if_pos (by omega)])
   have hdr:wr.rangeAt D 0 (dCells (dig s2)):=by
    intro j v hv
    have hj:j<32:=by have:=(List.getElem?_eq_some_iff.1 hv).1;rwa [dig_len] at this
    rw[Nat.zero_add,hdd.cell hj,←hv,dig_cell s2 hj]
    rfl
   have hrr:=rowIs_fr HR4.out hf (by simpa using fun e=>HDR.out e.symm)
   have hth:=there_row hrr (Nat.le_refl 32)
   have hst:=run_storeCells_cells (P:=Tryz.prog) R 0 (dCells (dig s2)) 0 wr (by rw[dig_len];exact fun j hj=>(hth j hj).1) (by rw[dig_len];exact fun j hj=>(hth j hj).2) (by intro v hv;obtain⟨x,_,rfl⟩:=List.mem_map.1 hv;rfl)
   simp only[Nat.add_zero] at hst
   have hw:=rowIs_whole hrr (dig_len s2) (g:=fun j=>dcell s2 j) (fun j hj=>dig_cell s2 hj)
   have hfin:Fr [] w0 (wr.setCells R 0 (dCells (dig s2))):=(HF4.out.trans hf (by simpa using HD.out)).setCells (.inr gR) _ _
   have hlen:=dig_len s2
   have HDRR:=Hd hdr
   have HW:=Hd hw
   have HFIN:=Hd hfin
   clear hd hf hdd hdr hrr hth hw hfin
   rw[show ((8:Nat):Int)=8 from rfl]
   go_wp2_with ((with_reducible refine wpList_load_mid rfl 57 (.tmp 8) rfl D 0 rfl _ _ HDRR.out rfl rfl rfl ?_))
   refine bodyPost_ret (v:=encD (dig s2)) (results_cell_mid (d:=.array 32 5) (p:=2) (ty:=57) (b:=R) (o:=0) rfl rfl ?_ (by kernel_rfl) rfl (by rw[hlen];rfl)) rfl ⟨rfl,HFIN.out⟩
   intro j v hv
   have hj:j<32:=by have:=(List.getElem?_eq_some_iff.1 hv).1;rwa [hlen] at this
   rw[Nat.zero_add,HW.out.cell hj,←hv,dig_cell s2 hj]
   rfl
theorem sum12_any (KA:Act→World→Prop) (w0 W:World) (R P Q:Nat) (n:Int) (s bl:Nat→Int) (fR:Nat→Value) (hok:Ok W) (hP:W.rowIs P 162 8 (fun j=>.int .u32 (s j))) (hQ:W.rowIs Q 163 64 (fun j=>.int .u8 (bl j))) (hR:W.rowIs R 57 32 fR)
 (hPQ:P≠Q) (hPR:P≠R) (hQR:Q≠R) (h0:6≤w0.heap.size) (gP:w0.heap.size≤P) (gQ:w0.heap.size≤Q) (gR:w0.heap.size≤R) (hF:Fr [] w0 W) (hn:0≤n) (hn2:n<18446744073709551616) (bl2 s2:Nat→Int) (hb2:(fun j=>if 56≤j then lenB n j else bl j)=bl2) (hs2:comp s bl2=s2)
 (hk:∀ (a:Act) (w:World),Code.wp Tryz.prog sum17 (bodyPost Tryz.prog Tryz.f80 (SumPost w0 (dig s2))) a w→KA a w)
 (u0 u1 u5 u7 u8 u9 u10 u11 u12 u13 u14 u15 u16 u17 u18 u19 u20 u21 u22 u23 u24 u25 u26 u27 u28 u29 u30 u31 u32 u33 u34 u35 u36 u37 u38 u39 u40 u41 u42 u43 u44 u45 u46 u47 u49 u50 u51 u52 u53 u54 u55 u56 u57 u58 u59 u60 u61 u62 u63 u64 u65 u66 u67 u68 u69 u70 u71 u72 u73 u74 u75 u76 u77 u78 u79 u80 u81 u82 u83 u84 u85 u86 u87 u88 u89 u90 u91 u92 u93:Value):Code.wp Tryz.prog sum12 (Exit.then KA (bodyPost Tryz.prog Tryz.f80 (SumPost w0 (dig s2)))) ⟨List.toArray (u0::u1::.pointer (some ⟨R,0,none⟩)::.pointer (some ⟨P,0,none⟩)::.pointer (some ⟨Q,0,none⟩)::u5::.int .u64 n::u7::u8::u9::u10::u11::u12::u13::u14::u15::u16::u17::u18::u19::u20::u21::u22::u23::u24::u25::u26::u27::u28::u29::u30::u31::u32::u33::u34::u35::u36::u37::u38::u39::u40::u41::u42::u43::u44::u45::u46::u47::.int .i64 0::u49::u50::u51::u52::u53::u54::u55::u56::u57::u58::u59::u60::u61::u62::u63::u64::u65::u66::u67::u68::u69::u70::u71::u72::u73::u74::u75::u76::u77::u78::u79::u80::u81::u82::u83::u84::u85::u86::u87::u88::u89::u90::u91::u92::u93::[]),[]⟩ W:=by
 have HK:=Hd hk
 have HP:=Hd hP
 have HQ:=Hd hQ
 have HR:=Hd hR
 have HOK:=Hd hok
 have HF:=Hd hF
 have HB2:=Hd hb2
 have HS2:=Hd hs2
 clear hk hb2 hs2 hP hQ hR hok hF
 conv=>arg 2;whnf
 go_wp2_with fail
 go_loopw [48] (SumR1 W Q bl n) (fun i _=>8 - (intOf i).toNat)
 case atStart=>exact⟨0,by omega,rfl,HQ.out.congr (fun j hj=>by rw[if_neg (by omega)]),Fr.refl _ _⟩
 case round =>
  obtain⟨k,hk,rfl,hq,hf⟩:=hrel
  by_cases hlt:k<8
  ·have hlt':(k:Int)<8:=by omega
   have xk:wr.cell? ⟨Q,63 - k,none⟩=some _:=hq.cell (by omega)
   have xf:=hq.frozen (63 - k)
   have HQ2:=Hd hq
   have HF2:=Hd hf
   clear hq hf
   go_wp2_with fail
   refine⟨⟨k+1,by omega,by go_num,(HQ2.out.set (63 - k) _).congr (fun j hj=>?_),HF2.out.set (p:=⟨Q,63 - k,none⟩) (by simp) _⟩,by simp[intOf];omega⟩
   by_cases hj2:j=63 - k
   ·rw[if_pos hj2,if_pos (by omega)]
    unfold lenB
    rw[show 63 - j=k by omega]
   ·rw[if_neg hj2]
    by_cases hj3:64 - k≤j
    ·rw[if_pos hj3,if_pos (by omega)]
    ·rw[if_neg hj3,if_neg (by omega)]
  ·obtain rfl:k=8:=by omega
   have hq2:wr.rowIs Q 163 64 (fun j=>.int .u8 (if 56≤j then lenB n j else bl j)):=hq
   have hp2:=rowIs_fr HP.out hf (by simpa using hPQ)
   have hr2:=rowIs_fr HR.out hf (by simpa using fun e=>hQR e.symm)
   have hok2:=HOK.out.fr1 hf (by omega)
   have hf2:Fr [] w0 wr:=HF.out.trans hf (by simpa using gQ)
   have hq3:wr.rowIs Q 163 64 (fun j=>.int .u8 (bl2 j)):=by rw[←HB2.out];exact hq2
   rw[show ((8:Nat):Int)=8 from rfl]
   have h:=fun (z0 z1 z5 z6 z7 z8 z9 z10 z11 z12 z13 z14 z15 z16 z17 z18 z19 z20 z21 z22 z23 z24 z25 z26 z27 z28 z29 z30 z31 z32 z33 z34 z35 z36 z37 z38 z39 z40 z41 z42 z43 z44 z45 z46 z47 z48 z49 z50 z51 z52 z53 z54 z55 z56 z57 z58 z59 z60 z61 z62 z63 z64 z65 z66 z67 z68 z69 z70 z71 z72 z73 z74 z75 z76 z77 z78 z79 z80 z81 z82 z83 z84 z85 z86 z87 z88 z89 z90 z91 z92 z93:Value)=>sum17_any w0 wr R P Q s bl2 s2 fR hok2 hp2 hq3 hr2 hPR gP gR hf2 HS2.out z0 z1 z5 z6 z7 z8 z9 z10 z11 z12 z13 z14 z15 z16 z17 z18 z19 z20 z21 z22 z23 z24 z25 z26 z27 z28 z29 z30 z31 z32 z33 z34 z35 z36 z37 z38 z39 z40 z41 z42 z43 z44 z45 z46 z47 z48 z49 z50 z51 z52 z53 z54 z55 z56 z57 z58 z59 z60 z61 z62 z63 z64 z65 z66 z67 z68 z69 z70 z71 z72 z73 z74 z75 z76 z77 z78 z79 z80 z81 z82 z83 z84 z85 z86 z87 z88 z89 z90 z91 z92 z93
   have H:=Hd h
   clear hq hf hq2 hp2 hr2 hok2 hf2 hq3 h
   go_wp2_with fail
   refine HK.out _ _ ?_
   exact H.out _ _ _ _ _ _ _ _ _ _ _ _ _ _ _ _ _ _ _ _ _ _ _ _ _ _ _ _ _ _ _ _ _ _ _ _ _ _ _ _ _ _ _ _ _ _ _ _ _ _ _ _ _ _ _ _ _ _ _ _ _ _ _ _ _ _ _ _ _ _ _ _ _ _ _ _ _ _ _ _ _ _ _ _ _ _ _ _ _ _ _
end Go.Proofs.YtlpmiimgacfmkaaGreatDoor
