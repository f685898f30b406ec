/- SHA-256: a block. -/
import Derived.Deep.CutBlock
import Derived.Lib.LazyBuf
import Derived.Lib.LaidTab
import Derived.Lib.ItoaNum
import Derived.Test.YtlpmiimgacfmkaaGreatDoorCMaps
set_option linter.all false
set_option maxHeartbeats 4000000
set_option maxRecDepth 100000
namespace Go.Proofs.YtlpmiimgacfmkaaGreatDoor
open Go.Proofs.Tryz List
open Go.RowKit
attribute [local go_sem ↓] Go.wp_at_zero Go.wp_at_succ
def H8.at(s:H8):Nat->Int
 | 0=>s.a
 | 1=>s.b
 | 2=>s.c
 | 3=>s.d
 | 4=>s.e
 | 5=>s.f
 | 6=>s.g
 | _=>s.h
def kcL:List Int:=[0x428a2f98,0x71374491,0xb5c0fbcf,0xe9b5dba5,0x3956c25b,0x59f111f1,0x923f82a4,0xab1c5ed5,0xd807aa98,0x12835b01,0x243185be,0x550c7dc3,0x72be5d74,0x80deb1fe,0x9bdc06a7,0xc19bf174,0xe49b69c1,0xefbe4786,0x0fc19dc6,0x240ca1cc,0x2de92c6f,0x4a7484aa,0x5cb0a9dc,0x76f988da,0x983e5152,0xa831c66d,0xb00327c8,0xbf597fc7,0xc6e00bf3,0xd5a79147,0x06ca6351,0x14292967,0x27b70a85,0x2e1b2138,0x4d2c6dfc,0x53380d13,0x650a7354,0x766a0abb,0x81c2c92e,0x92722c85,0xa2bfe8a1,0xa81a664b,0xc24b8b70,0xc76c51a3,0xd192e819,0xd6990624,0xf40e3585,0x106aa070,0x19a4c116,0x1e376c08,0x2748774c,0x34b0bcb5,0x391c0cb3,0x4ed8aa4a,0x5b9cca4f,0x682e6ff3,0x748f82ee,0x78a5636f,0x84c87814,0x8cc70208,0x90befffa,0xa4506ceb,0xbef9a3f7,0xc67178f2]
def kc(j:Nat):Int:=kcL.getD j 0
def uU(s b:Nat->Int)(j:Nat):Int:=(s j+(j8 kc (iq b) 64 ⟨s 0,s 1,s 2,s 3,s 4,s 5,s 6,s 7⟩).at j) % 4294967296
def Db(w:World)(c a:Nat)(t:TypeId)(cs:Array Value)(s b:Nat->Int)(e:Ending)(w':World):Prop :=
 e=.returned (.tuple #[])/\∃cs',BoxN w' c t cs'/\cs'.size=cs.size/\(∀j,j<8->cs'[a+j]?=some (.int .u32 (uU s b j)))/\(∀o,(o<a \/ a+8<=o)->cs'[o]?=cs[o]?)/\Fr [c] w w'
def jy{B n:Nat}{a w:World}(h:Below B (a.drewN n) w):Below B a w:=⟨h.os,h.tape,h.output,h.size,h.block⟩
def nW(k m:Nat)(t:TypeId)(cs:Array Value)(p v:Nat)(s b:Nat->Int)(w:World)(l:BoxN w k t cs)(aL:m+8<=cs.size)(hs:∀j,j<8->cs[m+j]?=some (.int .u32 (s j)))
 (aH:p<w.heap.size) (hb:∀j,j<64->w.cell? ⟨p,v+j,none⟩=some (.int .u8 (b j))) (hG:2<w.heap.size) (aK:∀j,j<64->w.cell? ⟨2,j,none⟩=some (.int .u32 (kc j))) :
 Calls prog 144 #[.pointer (some ⟨k,m,none⟩),.pointer (some ⟨p,v,none⟩)] w (Db w k m t cs s b):=by
 have ay:=Hd l;have n:=Hd hs;have aB:=Hd hb;have aD:=Hd aK;have aA:=Hd l.lt
 go_enter func144,ntmps144
 go_upto_block 0 with fail
 refine Bu _ _ w.heap.size p v b _ (Array.replicate 64 (.int .u32 0)) (BoxN.new w 309 _) rfl (by simp;omega) qo (λj o=>by
  rw[<-aB.out j o];exact World.cell?_of_block (Below.heap_alloc w _ p aH)) _ _ _ _ _ _ _ _ _ _ _ _ _ _ _ _ _ _ _ _ _ _ _ _ _ _ _ _ _ _ _ _ _ _ _ _ _ _ _ _ _ _ _ _ _ _ _ _ _ _ _ _ _ _ _ _ _ _ _ _ _ _ _ _ _ _ _ _ _ _ _ _ _ _ _ _ _ _ _ _ _ _ _ _ _ _ _ _ _ _ _ _ _ _ _ _ _ _ _ _ _ _ _ _ _ _ _ _ _ _ _ _ _ _ _ _ _ _ _ _ _ _ _ _ _ _ _ _ _ _ _ _ _ _ _ _ _ _ _ _ _ _ _ _ _ _ _ _ _ _ _ _ _ _ _ _ _ _ _ _ _ _ _ _ _ _ _ _ _ _ _ _ _ _ _ _ _ _ _ _ _ _ _ _ _ _ _ _ _ _ _ _ _ _ _ _ _ _ _ _ _ _ _ _ _ _ _ _ _ _ _ _ _ _ _ _ _ _ _ _ _ _ _ _ _ ?_
 intro x t1 t2 t3 E F G H I J y z A B C D T U V W X Y Z aa ab ac ad ae af ag ah ai aj ak al am an ao ap aq ar au av aw W1 aF M z1 w1 N;have K:=Hd M;have L:=Hd w1;have q:=Hd N;clear M w1 N
 go_upto_block 2 with fail
 refine Bv _ _ w.heap.size b _ aF K.out z1 L.out _ _ _ _ _ _ _ _ _ _ _ _ _ _ _ _ _ _ _ _ _ _ _ _ _ _ _ _ _ _ _ _ _ _ _ _ _ _ _ _ _ _ _ _ _ _ _ _ _ _ _ _ _ _ _ _ _ _ _ _ _ _ _ _ _ _ _ _ _ _ _ _ _ _ _ _ _ _ _ _ _ _ _ _ _ _ _ _ _ _ _ _ _ _ _ _ _ _ _ _ _ _ _ _ _ _ _ _ _ _ _ _ _ _ _ _ _ _ _ _ _ _ _ _ _ _ _ _ _ _ _ _ _ _ _ _ _ _ _ _ _ _ _ _ _ _ _ _ _ _ _ _ _ _ _ _ _ _ _ _ _ _ _ _ _ _ _ _ _ _ _ _ _ _ _ _ _ _ _ _ _ _ _ _ _ _ _ _ _ _ _ _ _ _ _ _ _ _ _ _ _ _ _ _ _ _ _ _ _ _ _ _ _ _ _ _ _ _ _ _ _ _ _ _ _ _ ?_;intro x t1 t2 t3 E F G H I J y z A B C D T U V W X Y Z aa ab ac ad ae af ag ah ai aj ak al am an ao ap aq ar au av aw aM aN aO aP i aQ u z2 w2 r;have B2:=Hd u;have Q2:=Hd w2;have Q:Fr [k] w i:=(((Fq [] w).alloc _).trans (q.then r) qs).mono qs;have hX:w.heap.size<i.heap.size:=u.lt;have F2:=Hd Q;have aR:w.heap.size≠k:=by have:=aA.out;omega
 have l:BoxN i k t cs:=ay.fr (((Fq [] w).alloc _).trans (q.then r) qs:Fr [] w i) qs;have HS2:=Hd l;have aI:2<i.heap.size:=qo
 have e0:i.cell? ⟨k,m,none⟩=some (.int .u32 (s 0)):=(l.c _).trans (n.out 0 qo);have e1:i.cell? ⟨k,m+1,none⟩=some (.int .u32 (s 1)):=(l.c _).trans (n.out 1 qo);have e2:i.cell? ⟨k,m+2,none⟩=some (.int .u32 (s 2)):=(l.c _).trans (n.out 2 qo);have e3:i.cell? ⟨k,m+3,none⟩=some (.int .u32 (s 3)):=(l.c _).trans (n.out 3 qo);have e4:i.cell? ⟨k,m+4,none⟩=some (.int .u32 (s 4)):=(l.c _).trans (n.out 4 qo);have e5:i.cell? ⟨k,m+5,none⟩=some (.int .u32 (s 5)):=(l.c _).trans (n.out 5 qo);have e6:i.cell? ⟨k,m+6,none⟩=some (.int .u32 (s 6)):=(l.c _).trans (n.out 6 qo);have e7:i.cell? ⟨k,m+7,none⟩=some (.int .u32 (s 7)):=(l.c _).trans (n.out 7 qo)
 have S:∀j,j<64->i.cell? ⟨2,j,none⟩=some (.int .u32 (kc j)):=λj o=>by
  rw[<-aD.out j o];exact World.cell?_of_block ((((Fq [] w).alloc _).trans (q.then r) qs:Fr [] w i).block 2 hG qs)
 have aC:=Hd S;clear u w2 r Q l S q K L z1
 go_upto_region 13 with fail
 go_quiet (fail)
 revert nq
 intro n1
 go_upto_region 14 with fail
 go_quiet (fail)
 go_upto_block 4 with fail
 refine Bt _ _ w.heap.size ⟨s 0,s 1,s 2,s 3,s 4,s 5,s 6,s 7⟩ kc (iq b) ((i.drewN n1).drewN nq) hX aI (λj o=>(B2.c j).trans (Q2.out j o)) aC.out _ _ _ _ _ _ _ _ _ _ _ _ _ _ _ _ _ _ _ _ _ _ _ _ _ _ _ _ _ _ _ _ _ _ _ _ _ _ _ _ _ _ _ _ _ _ _ _ _ _ _ _ _ _ _ _ _ _ _ _ _ _ _ _ _ _ _ _ _ _ _ _ _ _ _ _ _ _ _ _ _ _ _ _ _ _ _ _ _ _ _ _ _ _ _ _ _ _ _ _ _ _ _ _ _ _ _ _ _ _ _ _ _ _ _ _ _ _ _ _ _ _ _ _ _ _ _ _ _ _ _ _ _ _ _ _ _ _ _ _ _ _ _ _ _ _ _ _ _ _ _ _ _ _ _ _ _ _ _ _ _ _ _ _ _ _ _ _ _ _ _ _ _ _ _ _ _ _ _ _ _ _ _ _ _ _ _ _ _ _ _ _ _ _ _ _ _ _ _ _ _ _ _ _ _ _ _ _ _ _ _ _ _ _ _ _ _ _ ?_;intro x t1 t2 t3 E F G H I J y z A B C D T U V W X Y Z aa ab ac ad ae af ag ah ai aj ak al am an ao ap aq ar au av aw aM aN aO aP aS aT aU aV aW aX aY aZ a3 a4 a5 a6 a7 a8 a9 ba bb bc W3 O;have aJ:=F2.then (Fr.of_below (jy (jy O)));have aE:=HS2.later (jy (jy O));have F3:=Hd aJ;have az:=Hd aE;have⟨R,P⟩:=eR (j8 kc (iq b) 64 ⟨s 0,s 1,s 2,s 3,s 4,s 5,s 6,s 7⟩);rw[P];have ax:=Hd P
 go_upto_block 6 with fail
 refine Bw _ k m t #[.int .u32 R.a,.int .u32 R.b,.int .u32 R.c,.int .u32 R.d,.int .u32 R.e,.int .u32 R.f,.int .u32 R.g,.int .u32 R.h] s R.at _ cs az.out aL n.out (λj o=>by
  match j,o with
  | 0,_=>rfl
  | 1,_=>rfl
  | 2,_=>rfl
  | 3,_=>rfl
  | 4,_=>rfl
  | 5,_=>rfl
  | 6,_=>rfl
  | 7,_=>rfl) _ _ _ _ _ _ _ _ _ _ _ _ _ _ _ _ _ _ _ _ _ _ _ _ _ _ _ _ _ _ _ _ _ _ _ _ _ _ _ _ _ _ _ _ _ _ _ _ _ _ _ _ _ _ _ _ _ _ _ _ _ _ _ _ _ _ _ _ _ _ _ _ _ _ _ _ _ _ _ _ _ _ _ _ _ _ _ _ _ _ _ _ _ _ _ _ _ _ _ _ _ _ _ _ _ _ _ _ _ _ _ _ _ _ _ _ _ _ _ _ _ _ _ _ _ _ _ _ _ _ _ _ _ _ _ _ _ _ _ _ _ _ _ _ _ _ _ _ _ _ _ _ _ _ _ _ _ _ _ _ _ _ _ _ _ _ _ _ _ _ _ _ _ _ _ _ _ _ _ _ _ _ _ _ _ _ _ _ _ _ _ _ _ _ _ _ _ _ _ _ _ _ _ _ _ _ _ _ _ _ _ _ _ _ _ _ _ _ _ _ _ _ _ _ _ ?_
 intro x t1 t2 t3 E F G H I J y z A B C D W4 aG b4 z4 s4 o4 f4;have B4:=Hd b4;have S4:=Hd s4;have O4:=Hd o4;have F4:=Hd f4;have Z4:=Hd z4
 go_wp2
 go_end0
 refine⟨rfl,aG,B4.out,Z4.out,λj o=>?_,O4.out,F3.then F4.out⟩;rw[S4.out j o];unfold uU;rw[ax.out]
def nX{P:Program}(w:World)(c r ty d:TypeId)(b o a h:Nat)(t:ByteArray)(n:Nat)
 (m:P.underlying c=some (.slice d)) (q:∀w,(Go.sizeOf d).run P w=.ok 1 w) (g:n=Nat.min t.size a)
 (i:∀j,j<n->(w.cell? ⟨b,o+j,none⟩).isSome=true) (k:∀j,j<n->w.frozen? ⟨b,o+j,none⟩=false) :
 (Builtin.copy_ #[c,r] ty #[.slice (some ⟨b,o,none⟩) a h,.string t]).run P w=.ok (goInt n) (w.setCells b o ((t.data.toList.take n).map λx=>Value.int .u8 (x.toNat:Int))):=by
 have u:t.data.toList.length=t.size:=by rw[<-Lib.size_eq]
 have s:n<=t.size:=by rw[g];exact Nat.min_le_left _ _
 have e:((t.data.toList.take n).map λx=>Value.int .u8 (x.toNat:Int)).length=n:=by rw[length_map,length_take];omega
 have l:=run_storeCells_cells (P:=P) b o ((t.data.toList.take n).map λx=>Value.int .u8 (x.toNat:Int)) 0 w (by rw[e];simpa using i) (by rw[e];simpa using k) (by
  intro v p;obtain⟨x,_,rfl⟩:=mem_map.1 p;rfl)
 simp[Builtin.copy_,run_underlying m,Builtin.lenOf,Builtin.firstCells,q,<-g];rw[<-map_take,l];rfl
section
variable {S:List Nat} {w w':World} {b:Nat} {t:TypeId} {n:Nat} {f:Nat->Value}
def eT(h:w.rowIs b t n f)(c:Fr S w w')(a:b ∉ S):w'.rowIs b t n f:=h.of_block (c.block b h.lt a)
def Fr.setCells{a:World}(h:Fr S a w){p:Nat}(c:p∈S \/ a.heap.size<=p):∀(vs:List Value) (o:Nat),Fr S a (w.setCells p o vs):=by
 intro vs
 induction vs generalizing w with
 | nil=>intro o;exact h
 | cons v r d=>intro o;exact d (h.set (p:=⟨p,o,none⟩) c v) (o+1)
def jO(w:World)(b:Nat):∀(vs:List Value) (o:Nat),(w.setCells b o vs).heap.size=w.heap.size:=by
 intro vs
 induction vs generalizing w with
 | nil=>intro o;rfl
 | cons v r a=>intro o;exact(a _ _).trans (by simp[World.setCell])
end
def ivL:List Int:=[0x6a09e667,0xbb67ae85,0x3c6ef372,0xa54ff53a,0x510e527f,0x9b05688c,0x1f83d9ab,0x5be0cd19]
def iv(j:Nat):Int:=ivL.getD j 0
structure Usage where
 word:List UInt8
 owner:Bool
 number:Bool
 index:Bool
 text:Bool
 most:Int
def Usage.cells(u:Usage):List Value:=[fg u.word,.bool u.owner,.bool u.number,.bool u.index,.bool u.text,.int .i64 u.most]
def Js:Usage:=⟨[],false,false,false,false,0⟩
def usL:List Usage:=[Js,⟨[112,114,111,99,101,115,115],true,false,false,false,0⟩,⟨[114,101,103,105,115,116,101,114,115],true,false,false,false,0⟩,
 ⟨[112,97,103,101],true,false,true,false,63⟩,⟨[116,97,98,108,101],true,false,false,false,0⟩,⟨[99,111,117,110,116,101,114],true,false,false,false,0⟩,
 ⟨[112,101,110,100,105,110,103],true,false,false,false,0⟩,⟨[110,111,100,101],true,true,false,false,0⟩,⟨[98,108,111,99,107],true,true,true,false,63⟩,
 ⟨[101,110,116,114,121],true,true,false,true,0⟩,⟨[108,105,115,116,105,110,103],true,true,false,false,0⟩,⟨[112,105,112,101],true,true,false,false,0⟩,
 ⟨[108,111,99,107],true,true,false,false,0⟩,⟨[116,101,114,109,105,110,97,108],false,true,false,false,0⟩,⟨[97,99,99,111,117,110,116],false,false,false,true,0⟩,
 ⟨[99,108,111,99,107],false,false,false,false,0⟩,⟨[112,111,114,116],false,true,false,false,0⟩,⟨[98,111,120],false,false,false,true,0⟩,
 ⟨[111,117,116],true,true,true,false,1073741824⟩,⟨[115,104,101,108,108],true,false,false,false,0⟩,⟨[101,112,111,99,104],false,false,false,false,0⟩]
def us(k:Nat):Usage:=usL.getD k Js
structure Ok(w:World):Prop where
 low:6<=w.heap.size
 kcs:∀j,j<64->w.cell? ⟨2,j,none⟩=some (.int .u32 (kc j))
 ivs:∀j,j<8->w.cell? ⟨1,j,none⟩=some (.int .u32 (iv j))
 uss:∀k,k<21->∀j v,(us k).cells[j]?=some v->w.cell? ⟨0,k*6+j,none⟩=some v
def Ok.fr{S:List Nat}{w w':World}(h:Ok w)(c:Fr S w w')(e:∀k∈S,6<=k):Ok w':=by
 have d:=h.low;have a:=c.below e d;exact⟨Nat.le_trans d c.size,λj b=>(a.cell (p:=⟨_,j,none⟩) qs).trans (h.kcs j b),λj b=>(a.cell (p:=⟨_,j,none⟩) qs).trans (h.ivs j b),λk f j v g=>(a.cell (p:=⟨_,k*6+j,none⟩) qs).trans (h.uss k f j v g)⟩
def Ok.fr0{w w':World}(h:Ok w)(a:Fr [] w w'):Ok w':=h.fr a qs
def Ok.fr1{w w':World}{b:Nat}(h:Ok w)(c:Fr [b] w w')(a:6<=b):Ok w':=h.fr c (by simpa using a)
def Ok.drew{w:World}(h:Ok w):Ok w.drew:=h.fr0 (Fq [] w).drew
structure HS where
 len:Nat
 st:Nat->Int
 rest:Nat->Int
def kN(h:HS)(i:Nat):Value:=if i=0 then .int .i64 (h.len:Int)else if i<9 then .int .u32 (h.st (i - 1))else .int .u8 (h.rest (i - 9))
def HashAt(w:World)(b:Nat)(h:HS):Prop:=w.rowIs b 165 73 (kN h)
def hn(h:HS)(l:List UInt8):Nat:=min l.length (64 - h.len % 64)
def l4(h:HS)(l:List UInt8)(j:Nat):Int:=if h.len % 64<=j/\j<h.len % 64+hn h l then((l.getD (j - h.len % 64) 0).toNat:Int)else h.rest j
def nj(h:HS)(l:List UInt8):HS:=⟨h.len+hn h l,if h.len % 64+hn h l=64 then uU h.st (l4 h l)else h.st,l4 h l⟩
def jo(h:HS)(l:List UInt8):HS:=if a:l.length=0 then h else jo (nj h l) (l.drop (hn h l))
termination_by l.length
decreasing_by
 have b:hn h l=min l.length (64 - h.len % 64):=rfl;rw[List.length_drop];omega
def lu(h:HS):jo h []=h:=by rw[jo];simp
def jT{h:HS}{l:List UInt8}(a:l.length≠0):jo h l=jo (nj h l) (l.drop (hn h l)):=by rw[jo,dif_neg a]
def mF(h:HS)(l:List UInt8):hn h l<=l.length/\hn h l<=64 - h.len % 64/\(l.length≠0->0<hn h l)/\h.len % 64<64:=by
 have a:hn h l=min l.length (64 - h.len % 64):=rfl;omega
def mV(b:Nat)(h:HS)(w:World)(m:Ok w)(o:HashAt w b h):
 Calls prog 144 #[.pointer (some ⟨b,1,none⟩),.pointer (some ⟨b,9,none⟩)] w λe w'=>e=.returned (.tuple #[])/\HashAt w' b ⟨h.len,uU h.st h.rest,h.rest⟩/\Fr [b] w w':=by
 obtain⟨cs,g,u,d⟩:=o;have s:=BoxN.lt g
 refine(nW b 1 165 cs b 9 h.st h.rest w g qo (λj r=>by rw[d (1+j) qo];unfold kN;rw[if_neg qo,if_pos qo];congr 3;omega) s
  (λj r=>by rw[BoxN.c g (9+j),d (9+j) qo];unfold kN;rw[if_neg qo,if_neg qo];congr 3;omega) (by have:=m.low;omega) m.kcs).mono ?_
 rintro e w' ⟨p,cs',n,v,t,l,q⟩;refine⟨p,⟨cs',n,qo,λi k=>?_⟩,q⟩;unfold kN
 by_cases a:i=0
 ·rw[if_pos a,l i qo,d i k];unfold kN;rw[if_pos a]
 ·rw[if_neg a]
  by_cases f:i<9
  ·rw[if_pos f]
   have:=t (i - 1) qo
   rwa [show 1+(i - 1)=i by omega]at this
  ·rw[if_neg f,l i qo,d i k];unfold kN;rw[if_neg a,if_neg f]
def nZ(p q:Nat)(s a:Nat->Int)(w:World)(c:Ok w)(n:w.rowIs p 162 8 (λj=>.int .u32 (s j)))(d:w.rowIs q 163 64 (λj=>.int .u8 (a j))):
 Calls prog 144 #[.pointer (some ⟨p,0,none⟩),.pointer (some ⟨q,0,none⟩)] w λe w'=>e=.returned (.tuple #[])/\w'.rowIs p 162 8 (λj=>.int .u32 (uU s a j))/\Fr [p] w w':=by
 obtain⟨cs,g,r,k⟩:=n;refine(nW p 0 162 cs q 0 s a w g qo (λj b=>by rw[Nat.zero_add,k j b]) d.lt (λj b=>by rw[Nat.zero_add];exact d.cell b) (by have:=c.low;omega) c.kcs).mono ?_;rintro e w' ⟨h,cs',f,u,o,t,l⟩;exact⟨h,⟨cs',f,qo,λi m=>by have:=o i m;rwa [Nat.zero_add]at this⟩,l⟩
def tG{w:World}{b m n:Nat}{h:HS}{s:ByteArray}{l:List UInt8}(e:HashAt w b h)(f:s.data.toList=l)(j:m=h.len % 64)(k:n=hn h l):HashAt (w.setCells b (9+m) ((s.data.toList.take n).map λx=>Value.int .u8 (x.toNat:Int))) b ⟨h.len,h.st,l4 h l⟩:=by
 have o:=mF h l;subst f j k;have g:(s.data.toList.take (hn h s.data.toList)).length=hn h s.data.toList:=by rw[length_take];omega
 refine(rowIs_setCells _ _ _ _ e).congr λi p=>?_;simp only[length_map,g]
 by_cases d:9+h.len % 64<=i/\i<9+h.len % 64+hn h s.data.toList
 ·rw[if_pos d]
  unfold kN;rw[if_neg qo,if_neg qo];simp only;unfold l4;rw[if_pos qo,List.getElem?_map,List.getElem?_take_of_lt qo,gg qo];simp only[Option.map_some,Option.getD_some];rw[getD_eq_getElem?_getD,gg qo];simp only[Option.getD_some]
  congr 4
  omega
 ·rw[if_neg d]
  unfold kN
  by_cases a:i=0
  ·rw[if_pos a,if_pos a]
  ·rw[if_neg a,if_neg a]
   by_cases c:i<9
   ·rw[if_pos c,if_pos c]
   ·rw[if_neg c,if_neg c]
    simp only;unfold l4;rw[if_neg qo]
def ob{w:World}{b:Nat}{h:HS}(k:Nat)(c:HashAt w b h):HashAt (w.setCell ⟨b,0,none⟩ (.int .i64 (k:Int))) b ⟨k,h.st,h.rest⟩ :=
 (World.rowIs.set c 0 _).congr λi d=>by
  unfold kN
  by_cases a:i=0
  ·rw[if_pos a,if_pos a]
  ·rw[if_neg a,if_neg a,if_neg a]
def HR(w:World)(b:Nat)(a:HS)(v:Value)(W:World):Prop :=
 ∃(h:HS) (l:List UInt8),v=fg l/\HashAt W b h/\jo h l=a/\Fr [b] w W/\h.len+l.length<=1152921504606846976
def tH(w:World)(b:Nat)(a:HS)(l:List UInt8)(e:Ending)(w':World):Prop :=
 e=.returned (.int .i64 0)/\HashAt w' b (if l.length=0 then a else jo ⟨0,iv,a.rest⟩ l)/\Fr [b] w w'
def o5:Value->Nat|.string s=>s.size|_=>0
def eS(l:List UInt8):∃s:ByteArray,fg l=.string s/\s.data.toList=l/\s.size=l.length:=⟨_,rfl,rfl,by simp[<-ByteArray.size_data]⟩
def gI{s:ByteArray}{l:List UInt8}{n:Nat}(a:s.data.toList=l)(b:s.size=l.length):(s.extract n s.size).data.toList=l.drop n:=by
 subst a;rw[ByteArray.data_extract,Array.toList_extract];rw[extract_eq_take_drop,b];exact take_of_length_le (by rw[length_drop];exact fW _)
def extract_size{s:ByteArray}{l:List UInt8}{n:Nat}(a:s.data.toList=l)(b:s.size=l.length):(s.extract n s.size).size=l.length - n:=by
 rw[Lib.size_eq,gI a b,length_drop]
def AR(b:Nat)(l:List UInt8)(z:HS)(w:World)(av:Ok w)(hb:6<=b)(hl:l.length<=1152921504606846976)(V:HashAt w b z)(az:z.len=0):
 Calls prog 79 #[.pointer (some ⟨b,0,none⟩),fg l] w (tH w b z l):=by
 have K:w.cell? ⟨b,0,none⟩=some (.int .i64 0):=by have:=V.cell (i:=0) qo;rw[this];simp[kN,az]
 have⟨s,hs,aB,aD⟩:=eS l;rw[hs];have af:=Hd aB;have aX:s.size<=1152921504606846976:=qo
 have O:=Hd aD;have⟨ag,aq⟩:=eR ((if l.length=0 then z else jo ⟨0,iv,z.rest⟩ l));unfold tH;rw[aq];have ay:=Hd aq;clear hs aB aD aq
 by_cases aW:s.size=0
 ·have aG:¬(0:Int)<s.size:=qo
  have o:HashAt w b z:=V;have ap:=Hd o;have S:Fr [b] w w:=Fq _ _;have ak:=Hd S
  have r:jo z l=ag:=by
   have aR:l=[]:=eq_nil_of_length_eq_zero (by have:=O.out;omega);rw[<-ay.out,if_pos (by have:=O.out;omega),aR,lu]
  have HT:=Hd r;clear o S r
  go_enter func79,ntmps79
  go_wp2
  clear K
  go_loopw [1] (HR w b ag) (λv _=>o5 v)
  case atStart=>exact⟨_,s.data.toList,rfl,ap.out,by rw[af.out];exact HT.out,ak.out,by have:=O.out;rw[af.out];first|omega|(simp only;omega)⟩
  case round =>
   obtain⟨h,g,rfl,G,r,hF,aL⟩:=hrel;have⟨c,o,ab,ae⟩:=eS g;rw[o];have⟨m,I⟩:=eR (h.len % 64);have⟨n,J⟩:=eR (hn h g);have W:=mF h g;rw[I,J]at W;obtain⟨b1,b2,F,b4⟩:=W;have K:wr.cell? ⟨b,0,none⟩=some (.int .i64 (h.len:Int)):=by have:=G.cell (i:=0) qo;exact this
   have aF:=Hd o;have f:=Hd ab;have a:=Hd ae;have t:=Hd G;have D:=Hd r;have M:=Hd hF;have u:=Hd I;have k:=Hd J;have aV:c.size<=1152921504606846976:=qo
   have aJ:h.len<=1152921504606846976:=qo
   have au:(h.len:Int) % 64=(m:Int):=qo
   clear o ab ae G r hF I J
   by_cases aT:0<c.size
   ·have aU:(0:Int)<c.size:=qo
    have aS:n<=c.size:=by have:=a.out;omega
    have aO:0<n:=F (by have:=a.out;omega);have ac:n=Nat.min c.size (64 - m):=by rw[<-k.out,a.out];unfold hn;rw[u.out]
    have HN:=Hd ac;have aN:(m:Int)<=64:=qo
    have aM:(0:Int)<=(m:Int):=qo
    clear F ac
    go_upto_region 7 with fail
    rw[au];have X:∀j,j<n->(wr.cell? ⟨b,9+m+j,none⟩).isSome=true:=λj q=>by rw[t.cell qo];rfl
    have Z:∀j,j<n->wr.frozen? ⟨b,9+m+j,none⟩=false:=λj q=>t.frozen _;have aj:=Hd X;have an:=Hd Z;clear X Z;have Y:=nX (P:=prog) wr 49 9 3 5 b (9+m) (64 - m) (64 - m) c n qk (λ_=>by rfl) HN.out aj.out an.out;have⟨y,B⟩:=eR (wr.setCells b (9+m) ((c.data.toList.take n).map λx=>Value.int .u8 (x.toNat:Int)));have A:HashAt y b ⟨h.len,h.st,l4 h g⟩:=by rw[<-B];exact tG t.out f.out u.symm k.symm
    have T:Fr [b] w y:=by rw[<-B];exact M.setCells qs _ _
    rw[B]at Y;clear B;have c2:y.cell? ⟨b,0,none⟩=some (.int .i64 (h.len:Int)):=by have:=A.cell (i:=0) qo;rw[this];rfl
    have f2:=A.frozen 0;have L:=Hd A;have N:=Hd T;clear A T
    go_upto_region 8 with fail
    have aQ:(n:Int)<=c.size:=qo
    have aP:(0:Int)<=(n:Int):=qo
    have aK:h.len+n<=1152921504606846976:=qo
    clear Y
    by_cases aa:m+n=64
    ·have ar:((m:Int)+(n:Int) == 64)=true:=by simp;omega
     go_upto_region 11 with fail
     have⟨E,C⟩:=eR (y.setCell ⟨b,0,none⟩ (.int .i64 ((h.len:Int)+(n:Int))))
     have Q:HashAt E b ⟨h.len+n,h.st,l4 h g⟩:=by
      rw[<-C,show (h.len:Int)+(n:Int)=((h.len+n:Nat):Int) by omega];exact ob (h.len+n) L.out
     have H:Fr [b] w E:=by rw[<-C];exact N.set (p:=⟨b,0,none⟩) qs _
     rw[C];have ah:=Hd Q;have al:=Hd H;have ad:Ok E.drew:=(av.fr1 H hb).drew;have ao:=Hd ad;clear C Q H ad c2 f2 K
     go_still_tail 6,qk
     go_wp2_with ((go_at_call 144;refine(mV b _ _ ao.out ah.out).mono ?_;rintro e W4 ⟨rfl,R,U⟩;have ai:=Hd R;have am:=Hd U;clear R U))
     refine⟨⟨_,(c.extract n c.size).data.toList,rfl,ai.out,?_,al.drew.then am.out,?_⟩,?_⟩
     ·have d:=D.out
      rw[jT (by have:=a.out;omega),k.out]at d;rw[gI f.out a.out];rw[<-d];unfold nj;rw[u.out,k.out,if_pos aa]
     ·rw[gI f.out a.out]
      simp only[length_drop];omega
     ·simp only[o5]
      rw[extract_size f.out a.out];have:=a.out;omega
    ·have ar:((m:Int)+(n:Int) == 64)=false:=by simp;omega
     go_wp2
     refine⟨⟨⟨h.len+n,h.st,l4 h g⟩,(c.extract n c.size).data.toList,rfl,?_,?_,N.set (p:=⟨b,0,none⟩) qs _,?_⟩,?_⟩
     ·rw[show (h.len:Int)+(n:Int)=((h.len+n:Nat):Int) by omega]
      exact ob (h.len+n) L.out
     ·have d:=D.out
      rw[jT (by have:=a.out;omega),k.out]at d;rw[gI f.out a.out];rw[<-d];unfold nj;rw[u.out,k.out,if_neg aa]
     ·rw[gI f.out a.out]
      simp only[length_drop];omega
     ·simp only[o5]
      rw[extract_size f.out a.out];have:=a.out;omega
   ·have ax:c.size=0:=qo
    obtain rfl:g=[]:=eq_nil_of_length_eq_zero (by rw[<-a.out];exact ax);have aH:¬(0:Int)<c.size:=qo
    clear F
    go_wp2
    go_ret
    have d:=D.out;rw[lu]at d;subst d;exact⟨rfl,t.out,M.out⟩
 ·have aG:(0:Int)<s.size:=qo
  have aA:w.rangeAt 1 0 (ivL.map (Value.int .u32)):=by
   intro j v hv;have q:j<8:=by have:=(gV.1 hv).1;simpa [ivL]using this
   rw[Nat.zero_add,av.ivs j q,<-hv,List.getElem?_map];unfold iv;rw[gg (by simpa [ivL]using q)];simp[List.getD,gg (show j<ivL.length by simpa [ivL]using q)]
  have aw:w.there b 1 8:=λj q=>⟨by rw[V.cell qo];rfl,V.frozen _⟩;have aC:=run_storeCells_cells (P:=prog) b 1 (ivL.map (Value.int .u32)) 0 w (λj q=>(aw j q).1) (λj q=>(aw j q).2) (by intro v hv;obtain⟨x,_,rfl⟩:=mem_map.1 hv;rfl);simp only[Nat.add_zero]at aC;have aE:=Hd aA;have aI:ivL.length=8:=rfl
  have o:HashAt (w.setCells b 1 (ivL.map (Value.int .u32))) b ⟨0,iv,z.rest⟩:=by
   refine(rowIs_setCells _ _ _ _ V).congr λi hi=>?_;simp only[length_map,aI];unfold kN
   by_cases d:1<=i/\i<1+8
   ·rw[if_pos d,if_neg qo,if_pos qo,List.getElem?_map,gg (show i - 1<ivL.length by omega)]
    simp only[Option.map_some,Option.getD_some];unfold iv;rw[getD_eq_getElem?_getD,gg (show i - 1<ivL.length by omega)];rfl
   ·rw[if_neg d]
    by_cases h2:i=0
    ·rw[if_pos h2,if_pos h2,az]
    ·rw[if_neg h2,if_neg h2,if_neg qo,if_neg qo]
  have ap:=Hd o;have S:Fr [b] w (w.setCells b 1 (ivL.map (Value.int .u32))):=(Fq [b] w).setCells qs _ _;have ak:=Hd S;have r:jo ⟨0,iv,z.rest⟩ l=ag:=by rw[<-ay.out,if_neg (by have:=O.out;omega)]
  have HT:=Hd r;clear aA aw o S r
  go_enter func79,ntmps79
  go_wp2_with (first|(with_reducible refine wpList_load_mid rfl 162 (.global 1) rfl 1 0 rfl _ _ aE.out rfl rfl rfl ?_))
  clear aC K
  go_loopw [1] (HR w b ag) (λv _=>o5 v)
  case atStart=>exact⟨_,s.data.toList,rfl,ap.out,by rw[af.out];exact HT.out,ak.out,by have:=O.out;rw[af.out];first|omega|(simp only;omega)⟩
  case round =>
   obtain⟨h,g,rfl,G,r,hF,aL⟩:=hrel;have⟨c,o,ab,ae⟩:=eS g;rw[o];have⟨m,I⟩:=eR (h.len % 64);have⟨n,J⟩:=eR (hn h g);have W:=mF h g;rw[I,J]at W;obtain⟨b1,b2,F,b4⟩:=W;have K:wr.cell? ⟨b,0,none⟩=some (.int .i64 (h.len:Int)):=by have:=G.cell (i:=0) qo;exact this
   have aF:=Hd o;have f:=Hd ab;have a:=Hd ae;have t:=Hd G;have D:=Hd r;have M:=Hd hF;have u:=Hd I;have k:=Hd J;have aV:c.size<=1152921504606846976:=qo
   have aJ:h.len<=1152921504606846976:=qo
   have au:(h.len:Int) % 64=(m:Int):=qo
   clear o ab ae G r hF I J
   by_cases aT:0<c.size
   ·have aU:(0:Int)<c.size:=qo
    have aS:n<=c.size:=by have:=a.out;omega
    have aO:0<n:=F (by have:=a.out;omega);have ac:n=Nat.min c.size (64 - m):=by rw[<-k.out,a.out];unfold hn;rw[u.out]
    have HN:=Hd ac;have aN:(m:Int)<=64:=qo
    have aM:(0:Int)<=(m:Int):=qo
    clear F ac
    go_upto_region 7 with fail
    rw[au];have X:∀j,j<n->(wr.cell? ⟨b,9+m+j,none⟩).isSome=true:=λj q=>by rw[t.cell qo];rfl
    have Z:∀j,j<n->wr.frozen? ⟨b,9+m+j,none⟩=false:=λj q=>t.frozen _;have aj:=Hd X;have an:=Hd Z;clear X Z;have Y:=nX (P:=prog) wr 49 9 3 5 b (9+m) (64 - m) (64 - m) c n qk (λ_=>by rfl) HN.out aj.out an.out;have⟨y,B⟩:=eR (wr.setCells b (9+m) ((c.data.toList.take n).map λx=>Value.int .u8 (x.toNat:Int)));have A:HashAt y b ⟨h.len,h.st,l4 h g⟩:=by rw[<-B];exact tG t.out f.out u.symm k.symm
    have T:Fr [b] w y:=by rw[<-B];exact M.setCells qs _ _
    rw[B]at Y;clear B;have c2:y.cell? ⟨b,0,none⟩=some (.int .i64 (h.len:Int)):=by have:=A.cell (i:=0) qo;rw[this];rfl
    have f2:=A.frozen 0;have L:=Hd A;have N:=Hd T;clear A T
    go_upto_region 8 with fail
    have aQ:(n:Int)<=c.size:=qo
    have aP:(0:Int)<=(n:Int):=qo
    have aK:h.len+n<=1152921504606846976:=qo
    clear Y
    by_cases aa:m+n=64
    ·have ar:((m:Int)+(n:Int) == 64)=true:=by simp;omega
     go_upto_region 11 with fail
     have⟨E,C⟩:=eR (y.setCell ⟨b,0,none⟩ (.int .i64 ((h.len:Int)+(n:Int))))
     have Q:HashAt E b ⟨h.len+n,h.st,l4 h g⟩:=by
      rw[<-C,show (h.len:Int)+(n:Int)=((h.len+n:Nat):Int) by omega];exact ob (h.len+n) L.out
     have H:Fr [b] w E:=by rw[<-C];exact N.set (p:=⟨b,0,none⟩) qs _
     rw[C];have ah:=Hd Q;have al:=Hd H;have ad:Ok E.drew:=(av.fr1 H hb).drew;have ao:=Hd ad;clear C Q H ad c2 f2 K
     go_still_tail 6,qk
     go_wp2_with ((go_at_call 144;refine(mV b _ _ ao.out ah.out).mono ?_;rintro e W4 ⟨rfl,R,U⟩;have ai:=Hd R;have am:=Hd U;clear R U))
     refine⟨⟨_,(c.extract n c.size).data.toList,rfl,ai.out,?_,al.drew.then am.out,?_⟩,?_⟩
     ·have d:=D.out
      rw[jT (by have:=a.out;omega),k.out]at d;rw[gI f.out a.out];rw[<-d];unfold nj;rw[u.out,k.out,if_pos aa]
     ·rw[gI f.out a.out]
      simp only[length_drop];omega
     ·simp only[o5]
      rw[extract_size f.out a.out];have:=a.out;omega
    ·have ar:((m:Int)+(n:Int) == 64)=false:=by simp;omega
     go_wp2
     refine⟨⟨⟨h.len+n,h.st,l4 h g⟩,(c.extract n c.size).data.toList,rfl,?_,?_,N.set (p:=⟨b,0,none⟩) qs _,?_⟩,?_⟩
     ·rw[show (h.len:Int)+(n:Int)=((h.len+n:Nat):Int) by omega]
      exact ob (h.len+n) L.out
     ·have d:=D.out
      rw[jT (by have:=a.out;omega),k.out]at d;rw[gI f.out a.out];rw[<-d];unfold nj;rw[u.out,k.out,if_neg aa]
     ·rw[gI f.out a.out]
      simp only[length_drop];omega
     ·simp only[o5]
      rw[extract_size f.out a.out];have:=a.out;omega
   ·have ax:c.size=0:=qo
    obtain rfl:g=[]:=eq_nil_of_length_eq_zero (by rw[<-a.out];exact ax);have aH:¬(0:Int)<c.size:=qo
    clear F
    go_wp2
    go_ret
    have d:=D.out;rw[lu]at d;subst d;exact⟨rfl,t.out,M.out⟩
def fH{P:Program}{c:Func}{p:Tmp}{ty:TypeId}{a:Array Value}{w:World}{b o:Nat}{cs:List Value}{d:TypeDesc}(h:c.results=#[.cell p ty])(i:a.getD p undef=.pointer (some ⟨b,o,none⟩))(e:w.rangeAt b o cs)(k:P.underlying ty=some d)(f:d.isRow=true)(g:(P.info? ty).map (·.size)=some cs.length):
 (results c a).run P w=.ok (.agg cs.toArray) w:=by
 have j:a[p]?.getD undef=.pointer (some ⟨b,o,none⟩):=by rw[<-Array.getD_eq_getD_getElem?];exact i
 simp only[results,h];simp[Sem.run_bind,Result.andThen,j,asAddr,run_loadVar_mid w b o ty cs d e k f g]
def eO(d:Nm):List Value:=d.map λc=>Value.int .u8 (c.toNat:Int)
def fo(d:Nm):Value:=.agg (eO d).toArray
def AS(s:Nat->Int):Nm:=(List.range 32).map λj=>UInt8.ofNat (s (j / 4) / 2 ^ (24 - 8*(j % 4)) % 256).toNat
def Dc(n:Int)(j:Nat):Int:=n / 2 ^ (8*(63 - j)) % 256
def rL(s:Nat->Int){j:Nat}(a:j<32):(eO (AS s))[j]?=some (.int .u8 (s (j / 4) / 2 ^ (24 - 8*(j % 4)) % 256)):=by
 unfold eO AS;rw[List.getElem?_map,List.getElem?_map,List.getElem?_range a];simp only[Option.map_some]
 congr 2
 generalize s (j / 4) / 2 ^ (24 - 8*(j % 4))=x;rw[UInt8.toNat_ofNat'];omega
def oc(s:Nat->Int):(eO (AS s)).length=32:=by simp[eO,AS]
def od(s:Nat->Int)(j:Nat):Value:=.int .u8 (s (j / 4) / 2 ^ (24 - 8*(j % 4)) % 256)
def Ib(a:World)(D:Nat)(s:Nat->Int)(i:Value)(W:World):Prop :=
 ∃k:Nat,k<=8/\i=.int .i64 (k:Int)/\W.rowIs D 57 32 (λj=>if j<4*k then od s j else .int .u8 0)/\Fr [D] a W
def Ic(a:World)(Q:Nat)(b:Nat->Int)(n:Int)(i:Value)(W:World):Prop :=
 ∃k:Nat,k<=8/\i=.int .i64 (k:Int)/\W.rowIs Q 163 64 (λj=>.int .u8 (if 64 - k<=j then Dc n j else b j))/\Fr [Q] a W
def Ie(s:Nat->Int):List Value:=[.int .u32 (s 0),.int .u32 (s 1),.int .u32 (s 2),.int .u32 (s 3),.int .u32 (s 4),.int .u32 (s 5),.int .u32 (s 6),.int .u32 (s 7)]
def yq{W:World}{P:Nat}{s:Nat->Int}(h:W.rowIs P 162 8 (λj=>.int .u32 (s j))):W.rangeAt P 0 (Ie s):=by
 intro j v b;have a:=(gV.1 b).1;rw[Nat.zero_add,h.cell a,<-b]
 match j,a with
 | 0,_=>rfl
 | 1,_=>rfl
 | 2,_=>rfl
 | 3,_=>rfl
 | 4,_=>rfl
 | 5,_=>rfl
 | 6,_=>rfl
 | 7,_=>rfl
def yt(s:Nat->Int)(k j:Nat):
 (if j=4*k+3 then Value.int .u8 (s k % 256)else if j=4*k+2 then Value.int .u8 (s k / 256 % 256)else if j=4*k+1 then Value.int .u8 (s k / 65536 % 256)else if j=4*k then Value.int .u8 (s k / 16777216 % 256)else if j<4*k then od s j else .int .u8 0)=if j<4*(k+1)then od s j else .int .u8 0:=by
 by_cases d:j=4*k+3
 ·subst d
  rw[if_pos rfl,if_pos qo];unfold od;rw[show (4*k+3) / 4=k by omega,show (4*k+3) % 4=3 by omega];simp
 ·rw[if_neg d]
  by_cases c:j=4*k+2
  ·subst c
   rw[if_pos rfl,if_pos qo];unfold od;rw[show (4*k+2) / 4=k by omega,show (4*k+2) % 4=2 by omega,show (2:Int) ^ (24 - 8*2)=256 by decide]
  ·rw[if_neg c]
   by_cases b:j=4*k+1
   ·subst b
    rw[if_pos rfl,if_pos qo];unfold od;rw[show (4*k+1) / 4=k by omega,show (4*k+1) % 4=1 by omega,show (2:Int) ^ (24 - 8*1)=65536 by decide]
   ·rw[if_neg b]
    by_cases a:j=4*k
    ·subst a
     rw[if_pos rfl,if_pos qo];unfold od;rw[show 4*k / 4=k by omega,show 4*k % 4=0 by omega,show (2:Int) ^ (24 - 8*0)=16777216 by decide]
    ·rw[if_neg a]
     by_cases e:j<4*k
     ·rw[if_pos e,if_pos qo]
     ·rw[if_neg e,if_neg qo]
def iB{w:World}{b:Nat}{t:TypeId}{n:Nat}{f g:Nat->Value}(h:w.rowIs b t n f){vs:List Value}(d:vs.length=n)(c:∀j,j<n->vs[j]?=some (g j)):(w.setCells b 0 vs).rowIs b t n g :=
 (rowIs_setCells _ _ _ _ h).congr λj a=>by rw[if_pos qo,Nat.sub_zero,c j a];rfl
def iJ{w:World}{b:Nat}{t:TypeId}{n k:Nat}{f:Nat->Value}(h:w.rowIs b t n f)(c:k<=n):w.there b 0 k:=λj a=>⟨by rw[h.cell qo];rfl,h.frozen _⟩
noncomputable def Ig:Code:=((Tryz.f80).body.bind (jQ 13)).getD .skip
noncomputable def Gs:Code:=match (Tryz.f80).body.bind (mN 12)with
 | some (.seq _ b)=>b
 | _=>.skip
def fN(a:World)(d:Nm)(e:Ending)(w':World):Prop:=e=.returned (fo d)/\Fr [] a w'
def AU(l wr:World)(R P Q:Nat)(s F a:Nat->Int)(G:Nat->Value)(T:Ok wr)(H:wr.rowIs P 162 8 (λj=>.int .u32 (s j)))(hQ:wr.rowIs Q 163 64 (λj=>.int .u8 (F j)))(I:wr.rowIs R 57 32 G)
 (an:P≠R) (gP:l.heap.size<=P) (gR:l.heap.size<=R) (hF:Fr [] l wr) (W:uU s F=a)
 (u0 u1 u5 u6 u7 bE u9 ap aq ar au av aw ax ay az aA aB aC aD aE aF aG aH aI aJ aK aL aM aN aO aP aQ aR aS aT aU aV aW aX aY aZ a3 a4 a5 a6 a7 a8 a9 ba bb bc bd be bf bg bh bi bj bk bm bn bo bp bq br bs bt bu bv bw bx bz bA bB bC bD bF bG bH bI bJ bK bL bM bN bO bP bQ bR bS:Value):Code.wp prog Gs (bodyPost prog Tryz.f80 (fN l (AS a))) ⟨List.toArray (u0::u1::.pointer (some ⟨R,0,none⟩)::.pointer (some ⟨P,0,none⟩)::.pointer (some ⟨Q,0,none⟩)::u5::u6::u7::bE::u9::ap::aq::ar::au::av::aw::ax::ay::az::aA::aB::aC::aD::aE::aF::aG::aH::aI::aJ::aK::aL::aM::aN::aO::aP::aQ::aR::aS::aT::aU::aV::aW::aX::aY::aZ::a3::a4::a5::a6::a7::a8::a9::ba::bb::bc::bd::be::bf::bg::bh::bi::bj::bk::bm::bn::bo::bp::bq::br::bs::bt::bu::bv::bw::bx::bz::bA::bB::bC::bD::bF::bG::bH::bI::bJ::bK::bL::bM::bN::bO::bP::bQ::bR::bS::[]),[]⟩ wr:=by
 have ai:=Hd H;have ak:=Hd hQ;have al:=Hd I;have ah:=Hd T;have ad:=Hd hF;have HS2:=Hd W;clear H hQ I T hF W
 conv=>arg 2;whnf
 go_wp2_with (first
  | (go_at_call 144;refine(nZ P Q _ _ wr ah.out ai.out ak.out).mono ?_;rintro e m ⟨rfl,z,y⟩;rw[HS2.out]at z;have aj:=Hd z;have U:=eT al.out y (by simpa using λe=>an e.symm);have L:=ad.trans y (by simpa using gP);have E:=Hd U;have C:=Hd L;clear z U y L)
  | (with_reducible refine wpList_load_mid rfl 162 (.tmp 3) rfl P 0 rfl _ _ (yq (aj.out.alloc _)) rfl rfl rfl ?_))
 have⟨r,n⟩:=eR (m.alloc (.cells qP 57))
 have w:r.rowIs m.heap.size 57 32 (λ_=>.int .u8 0):=by
  rw[<-n];refine World.rowIs_alloc m _ _ _ (λi hi=>?_);have bT:i<32:=hi
  rcases i with _|_|_|_|_|_|_|_|_|_|_|_|_|_|_|_|_|_|_|_|_|_|_|_|_|_|_|_|_|_|_|_|i
  all_goals first|rfl|omega
 have V:r.rowIs R 57 32 G:=by rw[<-n];exact E.alloc _
 have M:Fr [] l r:=by rw[<-n];exact C.alloc _
 have t:m.heap.size≠R:=by have:=E.lt;omega
 have u:l.heap.size<=m.heap.size:=C.size;rw[n];clear n;generalize m.heap.size=D at w t u ⊢;have Z:=Hd w;have am:=Hd V;have ae:=Hd M;have Y:=Hd u;have ab:=Hd t;clear w V M u t
 go_loopw [62] (Ib r D a) (λi _=>8 - (intOf i).toNat)
 case atStart=>exact⟨0,qo,rfl,Z.congr (λj c=>by rw[if_neg qo]),Fq _ _⟩
 case round =>
  obtain⟨k,hk,rfl,f,q⟩:=hrel
  by_cases S:k<8
  ·have bU:(k:Int)<8:=qo
   have bV:=jR (P:=prog) wr 162 161 8 (Ie a).toArray .i64 k (.int .u32 (a k)) qk (λ_=>by rfl) (λ_=>by rfl) S (by
    match k,S with
    | 0,_=>rfl
    | 1,_=>rfl
    | 2,_=>rfl
    | 3,_=>rfl
    | 4,_=>rfl
    | 5,_=>rfl
    | 6,_=>rfl
    | 7,_=>rfl)
   have x0:wr.cell? ⟨D,4*k,none⟩=some _:=f.cell qo;have x1:wr.cell? ⟨D,4*k+1,none⟩=some _:=f.cell qo;have x2:wr.cell? ⟨D,4*k+2,none⟩=some _:=f.cell qo;have x3:wr.cell? ⟨D,4*k+3,none⟩=some _:=f.cell qo;have f0:=f.frozen (4*k);have f1:=f.frozen (4*k+1);have f2:=f.frozen (4*k+2);have f3:=f.frozen (4*k+3);have aa:=Hd f;have af:=Hd q;clear f q
   go_wp2
   refine⟨⟨k+1,qo,by go_num,(((aa.set _ _).set _ _).set _ _).set _ _ |>.congr (λj c=>?_),(((af.set (p:=⟨D,4*k,none⟩) qs _).set (p:=⟨D,4*k+1,none⟩) qs _).set (p:=⟨D,4*k+2,none⟩) qs _).set (p:=⟨D,4*k+3,none⟩) qs _⟩,by simp[intOf];omega⟩;exact yt a k j
  ·obtain rfl:k=8:=qo
   have J:wr.rowIs D 57 32 (λj=>od a j):=f.congr (λj c=>by rw[if_pos qo])
   have K:wr.rangeAt D 0 (eO (AS a)):=by
    intro j v h;have c:j<32:=by have:=(gV.1 h).1;rwa [oc]at this
    rw[Nat.zero_add,J.cell c,<-h,rL a c];rfl
   have A:=eT am.out q (by simpa using λe=>ab.out e.symm);have B:=iJ A (fW 32);have ao:=run_storeCells_cells (P:=prog) R 0 (eO (AS a)) 0 wr (by rw[oc];exact λj c=>(B j c).1) (by rw[oc];exact λj c=>(B j c).2) (by intro v h;obtain⟨x,_,rfl⟩:=mem_map.1 h;rfl);simp only[Nat.add_zero]at ao;have X:=iB A (oc a) (g:=λj=>od a j) (λj c=>rL a c);have N:Fr [] l (wr.setCells R 0 (eO (AS a))):=(ae.trans q (by simpa using Y.out)).setCells (.inr gR) _ _;have O:=oc a;have ac:=Hd K;have HW:=Hd X;have ag:=Hd N;clear f q J K A B X N;rw[show ((8:Nat):Int)=8 from rfl]
   go_wp2_with ((with_reducible refine wpList_load_mid rfl 57 (.tmp 8) rfl D 0 rfl _ _ ac.out rfl rfl rfl ?_))
   refine bodyPost_ret (v:=fo (AS a)) (fH (d:=.array 32 5) (p:=2) (ty:=57) (b:=R) (o:=0) rfl rfl ?_ qk rfl (by rw[O];rfl)) rfl ⟨rfl,ag.out⟩;intro j v h;have c:j<32:=by have:=(gV.1 h).1;rwa [O]at this
   rw[Nat.zero_add,HW.cell c,<-h,rL a c];rfl
def AW(m:Act->World->Prop)(b W:World)(R P Q:Nat)(n:Int)(s f:Nat->Int)(o:Nat->Value)(z:Ok W)(r:W.rowIs P 162 8 (λj=>.int .u32 (s j)))(hQ:W.rowIs Q 163 64 (λj=>.int .u8 (f j)))(t:W.rowIs R 57 32 o)
 (X:P≠Q) (Y:P≠R) (Z:Q≠R) (h0:6<=b.heap.size) (T:b.heap.size<=P) (U:b.heap.size<=Q) (V:b.heap.size<=R) (hF:Fr [] b W) (c3:0<=n) (c4:n<18446744073709551616) (g h:Nat->Int) (u:(λj=>if 56<=j then Dc n j else f j)=g) (F:uU s g=h)
 (l:∀(a:Act) (w:World),Code.wp prog Gs (bodyPost prog Tryz.f80 (fN b (AS h))) a w->m a w)
 (u0 u1 u5 u7 bn u9 aa ab ac ad ae af ag ah ai aj ak al am an ao ap aq ar au av aw ax ay az aA aB aC aD aE aF aG aH aI aJ aK aL aM aN aO aP aQ aR aS aT aU aV aW aX aY aZ a3 a4 a5 a6 a7 a8 a9 ba bb bc bd be bf bg bh bi bj bk bm bo bp bq br bs bt bu bv bw bx bz bA bB bC:Value):Code.wp prog Ig (Exit.then m (bodyPost prog Tryz.f80 (fN b (AS h)))) ⟨List.toArray (u0::u1::.pointer (some ⟨R,0,none⟩)::.pointer (some ⟨P,0,none⟩)::.pointer (some ⟨Q,0,none⟩)::u5::.int .u64 n::u7::bn::u9::aa::ab::ac::ad::ae::af::ag::ah::ai::aj::ak::al::am::an::ao::ap::aq::ar::au::av::aw::ax::ay::az::aA::aB::aC::aD::aE::aF::aG::aH::aI::aJ::aK::aL::aM::aN::.int .i64 0::aO::aP::aQ::aR::aS::aT::aU::aV::aW::aX::aY::aZ::a3::a4::a5::a6::a7::a8::a9::ba::bb::bc::bd::be::bf::bg::bh::bi::bj::bk::bm::bo::bp::bq::br::bs::bt::bu::bv::bw::bx::bz::bA::bB::bC::[]),[]⟩ W:=by
 have K:=Hd l;have M:=Hd r;have N:=Hd hQ;have S:=Hd t;have L:=Hd z;have I:=Hd hF;have G:=Hd u;have HS2:=Hd F;clear l u F r hQ t z hF
 conv=>arg 2;whnf
 go_wp2
 go_loopw [48] (Ic W Q f n) (λi _=>8 - (intOf i).toNat)
 case atStart=>exact⟨0,qo,rfl,N.congr (λj hj=>by rw[if_neg qo]),Fq _ _⟩
 case round =>
  obtain⟨k,l,rfl,d,c⟩:=hrel
  by_cases c1:k<8
  ·have c2:(k:Int)<8:=qo
   have xk:wr.cell? ⟨Q,63 - k,none⟩=some _:=d.cell qo;have xf:=d.frozen (63 - k);have O:=Hd d;have J:=Hd c;clear d c
   go_wp2
   refine⟨⟨k+1,qo,by go_num,(O.set (63 - k) _).congr (λj hj=>?_),J.set (p:=⟨Q,63 - k,none⟩) qs _⟩,by simp[intOf];omega⟩
   by_cases x:j=63 - k
   ·rw[if_pos x,if_pos qo]
    unfold Dc;rw[show 63 - j=k by omega]
   ·rw[if_neg x]
    by_cases y:64 - k<=j
    ·rw[if_pos y,if_pos qo]
    ·rw[if_neg y,if_neg qo]
  ·obtain rfl:k=8:=qo
   have C:wr.rowIs Q 163 64 (λj=>.int .u8 (if 56<=j then Dc n j else f j)):=d;have B:=eT M.out c (by simpa using X);have E:=eT S.out c (by simpa using λe=>Z e.symm);have A:=L.fr1 c qo;have v:Fr [] b wr:=I.trans c (by simpa using U);have D:wr.rowIs Q 163 64 (λj=>.int .u8 (g j)):=by rw[<-G.out];exact C
   rw[show ((8:Nat):Int)=8 from rfl];have q:=λ(bD z1 z5 z6 z7 z8 z9 bE bF bG bH bI bJ bK bL bM bN bO bP bQ bR bS bT bU bV bW bX bY bZ b0 b1 b2 b3 b4 b5 b6 b7 b8 b9 ca cb cc cd ce cf ch ci cj ck cl cm cn co cp cq cr cs ct cu cv cw cx cy cz cA cB cC cD cE cF cG cH cI cJ cK cL cM cN cO cP cQ cR cS cT cU cV cW cX cY cZ c0:Value)=>AU b wr R P Q s g h o A B D E Y T V v HS2.out bD z1 z5 z6 z7 z8 z9 bE bF bG bH bI bJ bK bL bM bN bO bP bQ bR bS bT bU bV bW bX bY bZ b0 b1 b2 b3 b4 b5 b6 b7 b8 b9 ca cb cc cd ce cf ch ci cj ck cl cm cn co cp cq cr cs ct cu cv cw cx cy cz cA cB cC cD cE cF cG cH cI cJ cK cL cM cN cO cP cQ cR cS cT cU cV cW cX cY cZ c0;have H:=Hd q;clear d c C B E A v D q
   go_wp2
   refine K.out _ _ ?_;exact H.out _ _ _ _ _ _ _ _ _ _ _ _ _ _ _ _ _ _ _ _ _ _ _ _ _ _ _ _ _ _ _ _ _ _ _ _ _ _ _ _ _ _ _ _ _ _ _ _ _ _ _ _ _ _ _ _ _ _ _ _ _ _ _ _ _ _ _ _ _ _ _ _ _ _ _ _ _ _ _ _ _ _ _ _ _ _ _ _ _ _ _
end Go.Proofs.YtlpmiimgacfmkaaGreatDoor
