/- Part of the proof. -/
import Derived.Test.YtlpmiimgacfmkaaGreatDoorCVg
import Derived.Test.YtlpmiimgacfmkaaGreatDoorCRf2
set_option linter.all false
set_option maxHeartbeats 4000000
set_option maxRecDepth 100000
namespace Go.Proofs.YtlpmiimgacfmkaaGreatDoor
open Go.Proofs.Tryz List
open Go.RowKit
def Cg{xs c:List AX}(h:xs.map AX.a=c.map AX.a)(a:AG):qN xs a=qN c a:=by
 have b:xs.getLast?.map AX.a=c.getLast?.map AX.a:=by rw[<-List.getLast?_map,<-List.getLast?_map,h]
 unfold qN
 cases e:xs.getLast? with
 | none =>
  cases d:c.getLast? with
  | none=>rfl
  | some y=>rw[e,d]at b;simp at b
 | some x =>
  cases d:c.getLast? with
  | none=>rw[e,d]at b;simp at b
  | some y =>
   rw[e,d]at b;simp only[Option.map_some,Option.some.injEq]at b;simp only[b]
def Run.congr{xs d:List AX}(j:xs.map AX.a=d.map AX.a)(h:Run xs):Run d:=by
 have t:xs.length=d.length:=by rw[<-length_map (f:=AX.a),j,length_map]
 have g:∀(i:Nat) (y:AX),d[i]?=some y->∃x:AX,xs[i]?=some x/\x.a=y.a:=λi y c=>by
  have b:(xs.map AX.a)[i]?=(d.map AX.a)[i]?:=by rw[j]
  rw[List.getElem?_map,List.getElem?_map,c]at b
  cases e:xs[i]? with
  | none=>rw[e]at b;simp at b
  | some x=>rw[e]at b;exact⟨x,rfl,by simpa using b⟩
 refine⟨λy c=>?_,λi y z c q=>?_,by have:=h.len;omega⟩
 ·have⟨i,n⟩:=mem_iff_getElem?.1 c
  have⟨x,e,k⟩:=g i y n;rw[<-k];exact h.wf x (gH e)
 ·have⟨r,o,l⟩:=g i y c
  have⟨s,p,m⟩:=g (i+1) z q;rw[<-l,<-m];exact h.inc i r s o p
def Run.take{xs:List AX}(h:Run xs)(n:Nat):Run (xs.take n):=by
 refine⟨λx a=>h.wf x (mem_of_mem_take a),λi x y a b=>?_,by rw[length_take];have:=h.len;omega⟩;rw[List.getElem?_take]at a b;split at a
 ·split at b
  ·exact h.inc i x y a b
  ·simp at b
 ·simp at a
def Run.ok{xs:List AX}(h:Run xs){i:Nat}{x:AX}(b:xs[i]?=some x):qN (xs.take i) x.a=true:=by
 have e:=(h.wf x (gH b)).1;have f:=(gV.1 b).1;unfold qN;rw[e,Bool.true_and]
 cases i with
 | zero=>simp
 | succ i =>
  have d:(xs.take (i+1)).getLast?=xs[i]?:=by
   rw[List.getLast?_eq_getElem?,length_take,List.getElem?_take,if_pos qo,show min (i+1) xs.length - 1=i by omega]
  rw[d];obtain⟨y,c⟩:∃y,xs[i]?=some y:=⟨_,gg qo⟩;rw[c];simp only[decide_eq_true_eq];exact h.inc i y x c b
def VG.fr0{w w':World}{b:Nat}{d:List AX}{M:List Nat}(h:VG w b d M)(a:Fr [] w w'):VG w' b d M:=by
 obtain⟨o,p,m,l,A,c,K,j,i,k,f,e,n,h,rfl⟩:=h;exact⟨o,p,m,l,A,c,K,j,i,k,f,e,n,⟨h.s.fr0 a,h.kl,λx g=>(h.xok x g).fr0 a,h.base.fr0 a,h.st.fr0 a,h.nl,h.wr,h.wl,h.rl,h.run⟩,rfl⟩
def Hi(w:World)(l:List AG)(e:Ending)(w':World):Prop:=∃b M zs,e=.returned (.tuple #[.pointer (some ⟨b,0,none⟩),.int .i64 0])/\zs.map AX.a=l/\VG w' b zs M/\Fr [] w w'/\∀k∈M,w.heap.size<=k
def Em(p L c aq:Nat)(u:List AX)(w:World)(ah:Ok w)(R:SG w p [])(hL:ActL w L aq u)(X:Run u):
 Calls prog 42 #[.pointer (some ⟨p,0,none⟩),.slice (some ⟨L,0,none⟩) u.length c] w (Hi w (u.map AX.a)):=by
 have af:=gy w 193;have⟨h,s⟩:=eR (w.alloc (.map #[] 0));have D:MapIs prog 31 h w.heap.size []:=by rw[<-s];exact MapIs.new w
 have ad:Fr [] w h:=by rw[<-s];exact(Fq [] w).alloc _
 have O:h.heap.size=w.heap.size+1:=by rw[<-s];simp
 rw[s]at af;have ag:=gy h 194;have⟨w2,I⟩:=eR (h.alloc (.map #[] 0));have E:MapIs prog 31 w2 h.heap.size []:=by rw[<-I];exact MapIs.new h
 have z:Fr [] h w2:=by rw[<-I];exact(Fq [] h).alloc _
 have am:w2.heap.size=h.heap.size+1:=by rw[<-I];simp
 rw[I]at ag;have⟨n,V⟩:=eR (u.length);have ar:=X.len;rw[V]at ar ⊢;have HZ:=Hd (An O am);have ao:=Hd (D.fr z qs);have ap:=Hd E;have P:=Hd (ad.then z);have o:=Hd (An R (An hL (An X V)));have aa:=Hd ah;clear s D ad I E z O am R hL X ah V
 go_enter func42,ntmps42
 go_upto_region 4 with fail
 have⟨w3,aj,G,C⟩:=kJ w2 #[.pointer (some ⟨p,0,none⟩),.slice none 0 0,.slice none 0 0,.pointer (some ⟨p,0,none⟩),.map (some w.heap.size),.map (some h.heap.size)] 196;rw[aj];have D:=ao.fr C qs;have E:=ap.fr C qs;have Y:=HZ.out;clear aj af ag;have⟨mw,K⟩:=eR (w.heap.size);have⟨mr,U⟩:=eR (h.heap.size);have⟨b,T⟩:=eR (w2.heap.size);rw[K]at D G ⊢;rw[U]at E G ⊢;rw[T]at G ⊢;rw[U,K,T]at Y;have H:VG w3 b [] (VB b mw mr none none [] []):=⟨p,p,mw,mr,none,0,none,0,0,[],[],[],[],⟨⟨G,Own.nil _ _ _,Own.nil _ _ _,ML.nil D,ML.nil E,qo⟩,Nat.zero_le _,qs,o.1.fr0 (P.then C),o.1.fr0 (P.then C),qs,λm=>by simp[gM,oT,mU],λm=>by simp[gM],λm=>by simp[gM],⟨qs,qs,qs⟩⟩,rfl⟩;have Q:=Hd (An H (An (P.then C) (An K Y)));clear D E Y G C H K U T
 go_wp2
 go_loopw [20] (λi W=>∃(j:Nat) (zs:List AX) (M:List Nat),j<=n/\i=j/\zs.map AX.a=(u.take j).map AX.a/\VG W b zs M/\Fr [] w W/\∀k∈M,w.heap.size<=k) (λi _=>n - (intOf i).toNat)
 case atStart=>exact⟨0,[],_,Nat.zero_le _,rfl,rfl,Q.1,Q.2.1,by
  have:=Q.2.2;intro k t;simp[VB,eX,gh]at t;omega⟩
 case round =>
  obtain⟨j,zs,M,hj,rfl,an,H,ae,hM⟩:=hrel;have g:=Hd (An an (An H (An ae hM)));clear an H ae hM
  by_cases aw:j<n
  ·have ax:(j:Int)<(n:Int):=qo
   obtain⟨x,l⟩:∃x,u[j]?=some x:=⟨_,gg (by rw[o.2.2.2];omega)⟩;have N:=o.2.2.1.wf x (gH l);have q:=o.2.1.fr0 g.2.2.1;have ak:=q.ok x (gH l);have av:zs.length=j:=by rw[<-length_map (f:=AX.a),g.1,length_map,length_take,o.2.2.2];omega
   have y0:wr.cell? ⟨L,j*6,none⟩=some (.int .i64 x.a.k.rnd):=q.c l 0 _ rfl;have y1:wr.cell? ⟨L,j*6+1,none⟩=some (.int .i64 x.a.k.phase):=q.c l 1 _ rfl;have y2:wr.cell? ⟨L,j*6+2,none⟩=some (.int .i64 x.a.k.idx):=q.c l 2 _ rfl;have y3:wr.cell? ⟨L,j*6+3,none⟩=some (.string x.sl):=q.c l 3 _ rfl;have y4:wr.cell? ⟨L,j*6+4,none⟩=some (.slice x.A x.a.r.length x.c):=q.c l 4 _ rfl;have y5:wr.cell? ⟨L,j*6+5,none⟩=some (.slice x.B x.a.w.length x.d):=q.c l 5 _ rfl;have⟨Z,s,O,n1,F⟩:=ir wr #[.int .i64 x.a.k.rnd,.int .i64 x.a.k.phase,.int .i64 x.a.k.idx,.string x.sl,.slice x.A x.a.r.length x.c,.slice x.B x.a.w.length x.d] 91 wr.heap.size;have au:=aa.low;have S:Calls prog 98 #[.pointer (some ⟨b,0,none⟩),x.v] Z (El zs x.a M b Z):=Cf b zs M x Z (g.2.1.fr0 F) (aa.fr0 (g.2.2.1.then F)) (λk t=>by have:=g.2.2.2 k t;omega) (ak.fr0 F) (by rw[Cg g.1];exact o.2.2.1.ok l) N.2.1 N.2.2.1 N.2.2.2 qo;unfold AX.v AG.val at S;have HC:=Hd S;have HX:=Hd l;clear q ak N l S av au
   go_upto_region 7 with fail
   try rw[s]
   clear y0 y1 y2 y3 y4 y5;have⟨x0,x1,x2,x3,x4,x5⟩:=n1.m6;have ab:=Hd F;clear s n1 F O
   go_wp2_with ((go_at_call 98;(with_reducible refine HC.out.mono ?_);rintro e v2 ⟨rfl,M2,y,al,ai,z,ac⟩;have J:=Hd (An al (An ai (An z ac)));clear al ai z ac))
   go_roundw
   case rel =>
    have az:=g.2.2.1.size;have ay:=ab.size;exact⟨j+1,zs++[y],M2,qo,by go_num,by rw[map_append,g.1,take_add_one,HX.out,map_append];simp[J.1],J.2.1,(g.2.2.1.then ab.out).trans J.2.2.1 (λk t=>.inr (g.2.2.2 k t)),λk t=>(J.2.2.2 k t).elim (g.2.2.2 k) (λR=>by omega)⟩
   case measure=>simp[intOf];omega
  ·obtain rfl:j=n:=qo
   go_wp2
   go_ret2
   exact⟨b,M,zs,rfl,by rw[g.1,take_of_length_le (by rw[o.2.2.2];exact fW _)],g.2.1,g.2.2.1,g.2.2.2⟩
structure VZ where
 i:Int
 v:Nm
 a:Bool
def VZ.cs(x:VZ):List Value:=[.int .i64 x.i,fg x.v,.bool x.a]
def IU(x:VX):VZ:=⟨x.i,x.v,x.a⟩
def z0:VZ:=⟨-1,[],true⟩
def Cq(l:List AG)(n:ON):List VZ:=z0::(oT l n).map IU
def Hj(x:VZ):x.cs.length=3:=rfl
def FV{P:Program}(w:World)(t ty e:TypeId)(i:TypeInfo)(z:Value)(d:P.underlying t=some (.slice e))(a:P.info? e=some i)(f:i.zero=some z)(g n c:Nat)(b:n<=c)(h:n<=1000000):
 (Builtin.append_ #[t,t] ty #[.slice (some ⟨g,0,none⟩) n c,.slice none 0 0]).run P w=.ok (.slice (some ⟨g,0,none⟩) n c) w:=by
 simp[Builtin.append_,run_underlying d,sizeOf,typeInfo,zeroValue,a,f,Builtin.lenOf,b,run_firstCells_none,storeCells,Result.andThen]
def Own.new1(w:World)(e:TypeId)(b n:Nat)(cs:List Value)(a:cs.length=n*b)(c:n<=maxLen):Own (w.alloc (.cells cs.toArray e)) e b (some ⟨w.heap.size,0,none⟩) n n cs :=
 ⟨a,.inr ⟨w.heap.size,n,cs.toArray,rfl,Nat.zero_le _,World.alloc_heap_new w _,fW _,c,by simpa using a,by rw[<-a];simp⟩⟩
def IV(b:Nat)(a:List AX)(M:List Nat)(w:World)(h:VG w b a M):Calls prog 99 #[.pointer (some ⟨b,0,none⟩)] w λe w'=>e=.returned (.int .i64 (a.length:Int))/\w=w':=by
 obtain⟨f,q,o,n,A,c,K,l,k,m,j,i,p,h,rfl⟩:=h;have⟨g,r⟩:=h.s.box.m2;have d:=Hd (o6 b f w g);clear h
 go_enter func99,ntmps99
 go_wp2_with ((go_at_call 157;(with_reducible refine d.out.mono ?_);rintro e w' ⟨rfl,rfl⟩))
 go_ret
 exact⟨rfl,rfl⟩
def FW(b:Nat)(ys:List AX)(T:List Nat)(n:ON)(w:World)(h:VG w b ys T)(a:eY n=0):Calls prog 192 #[.pointer (some ⟨b,0,none⟩),fu n] w (fi w (.agg #[.int .i64 (-1),.string ⟨#[]⟩,.bool true])):=by
 obtain⟨J,pl,mw,mr,aa,c,K,kk,ab,ks,ew,er,ns,h,rfl⟩:=h;have⟨L,G,_,_⟩:=eS n.owner;have⟨M,H,_,_⟩:=eS n.text;have A:=gc G H;have⟨g,r,E,B⟩:=kJ w #[n.kind,L,n.number,n.index,M] 31;have I:g.heap.size=w.heap.size+1:=by rw[<-r];simp
 have⟨w2,l⟩:=eR (g.alloc (.cells #[L0,S0,.bool false] 201));have F:BoxN w2 (w.heap.size+1) 201 #[L0,S0,.bool false]:=by rw[<-l,<-I];exact BoxN.new g _ _
 have q:Fr [] g w2:=by rw[<-l];exact(Fq [] g).alloc _
 have k:=B.then q;have p:=λ(W:World) (hW:Fr [] w2 W)=>Gy J [] n W (h.base.fr0 (k.then hW)) a;rw[A]at p ⊢
 have x:∀W,Fr [] w2 W->W.cell? ⟨b,0,none⟩=some (.pointer J)/\W.cell? ⟨w.heap.size,0,none⟩=some n.kind/\W.cell? ⟨w.heap.size,1,none⟩=some L/\W.cell? ⟨w.heap.size,2,none⟩=some n.number/\W.cell? ⟨w.heap.size,3,none⟩=some n.index/\W.cell? ⟨w.heap.size,4,none⟩=some M:=λW hW=>by
  have Z:=h.s.box.fr (k.then hW) qs;have d:=E.fr (q.then hW) qs;exact⟨Z.c 0,d.c 0,d.c 1,d.c 2,d.c 3,d.c 4⟩
 have t:=Hd p;have HSS:=Hd x;have S:=Hd F;have P:=Hd k;have u:=Hd (An r l);clear p x F k r l E B I q h A G H a
 go_enter func192,ntmps192
 go_upto_region 1 with fail
 rw[u.1,u.2];have o:=(Fq [] w2).drew;refine eU (λW:World=>Fr [] w2 W) 10 qk ?_ qd
 show fc 0 ..
 iterate 5 (refine gJ rfl ?_;try simp only[qq])
 refine hO (i:=5) rfl λK y=>?_;go_simp
 go_at_call 40
 (with_reducible refine(t.out _ o).mono ?_);rintro e w4 ⟨sv,fv,rfl,_,Y,C⟩;obtain⟨rfl,rfl⟩:=Y rfl;have j:=o.then C;refine y _ _ j ?_;clear y K o C
 try simp only[qq]
 show fc 6 ..
 iterate 4 (refine gJ rfl ?_;try simp only[qq])
 refine eV ⟨qk,?_⟩;simp only[qG,qH];have a:=S.fr j qs;have⟨u0,u1,u2⟩:=a.m3;have U:=a.f 0;have V:=a.f 1;have X:=a.f 2;have R:=Hd a;have O:=Hd (P.then j);clear a j HSS t
 go_wp2
 have⟨N,m⟩:=eR (((w4.setCell ⟨w.heap.size+1,0,none⟩ (.int .i64 (-1))).setCell ⟨w.heap.size+1,1,none⟩ S0).setCell ⟨w.heap.size+1,2,none⟩ (.bool true));have z:BoxN N (w.heap.size+1) 201 #[.int .i64 (-1),S0,.bool true]:=by rw[<-m];exact(((R.setAt 0 _).setAt 1 _).setAt 2 _)
 have D:Fr [] w N:=by rw[<-m];exact((O.set (.inr qs) _).set (.inr qs) _).set (.inr qs) _
 have⟨t0,t1,t2⟩:=z.m3;have Q:=Hd D;rw[m];clear m z D u0 u1 u2 U V X;exact bodyPost_ret (v:=.agg #[.int .i64 (-1),S0,.bool true]) (by simp[results,results192,go_sem,t0,t1,t2]) rfl ⟨rfl,Q.out⟩
def En(w:World)(l:List VZ)(e:Ending)(w':World):Prop:=∃g c,e=.returned (.slice (some ⟨g,0,none⟩) l.length c)/\Cs w' g (l.flatMap VZ.cs)/\Fr [] w w'/\w.heap.size<=g
def Jn(l:List VX):l.flatMap VX.cs=(l.map IU).flatMap VZ.cs:=by rw[flatMap_map];rfl
def Jo(b:Nat)(y:List AX)(O:List Nat)(n:ON)(w:World)(h:VG w b y O)(E:eY n=0):Calls prog 162 #[.pointer (some ⟨b,0,none⟩),fu n] w (En w (Cq (y.map AX.a) n)):=by
 have C:∀W,Fr [] w W->Calls prog 192 #[.pointer (some ⟨b,0,none⟩),fu n] W (fi W (.agg #[.int .i64 (-1),.string ⟨#[]⟩,.bool true])):=λW hW=>FW b y O n W (h.fr0 hW) E;obtain⟨pb,pl,mw,mr,aG,c,K,kk,aJ,ks,ew,er,ns,h,rfl⟩:=h;have⟨G,aj,_,_⟩:=eS n.owner;have⟨H,ak,_,_⟩:=eS n.text;have Y:=gc aj ak;have⟨kl,ac⟩:=gx E;have⟨J,z,m,t,_⟩:=ML.look je jB underlying193 tM h.s.wm n ac;have F:=h.wl n;have aB:=h.run.len;rw[h.wr]at m t F;unfold En Cq;have⟨vs,al⟩:=eR (oT (y.map AX.a) n);rw[al]at m t F ⊢;have ad:(z0::vs.map IU).flatMap VZ.cs=[.int .i64 (-1),.string ⟨#[]⟩,.bool true]++vs.flatMap VX.cs:=by rw[flatMap_cons,<-Jn];rfl
 have ae:(z0::vs.map IU).length=1+vs.length:=by simp;omega
 rw[ae];rw[ad];rw[Y]at C m ⊢;have⟨p,am,af,j⟩:=kJ w #[n.kind,G,n.number,n.index,H] 31
 have V:∀W,Fr [] p W->(W.cell? ⟨b,4,none⟩=some (.map (some mw))/\(Instr.lookup 193 (.map (some mw)) (.agg #[n.kind,G,n.number,n.index,H]) false).run prog W=.ok (.slice J vs.length z) W)/\W.cell? ⟨w.heap.size,0,none⟩=some n.kind/\W.cell? ⟨w.heap.size,1,none⟩=some G/\W.cell? ⟨w.heap.size,2,none⟩=some n.number/\W.cell? ⟨w.heap.size,3,none⟩=some n.index/\W.cell? ⟨w.heap.size,4,none⟩=some H:=λW hW=>by
  have k1:=h.s.box.fr (j.then hW) qs;have o:=af.fr hW qs;exact⟨⟨k1.c 4,m W ((j.then hW).block _ h.s.wm.map.lt qs)⟩,o.c 0,o.c 1,o.c 2,o.c 3,o.c 4⟩
 have x0:=(h.s.box.fr j qs).c 0;have HN:=Hd (o6 b pb p x0);have M:=Hd (λ(W:World) (hW:Fr [] p W)=>C W (j.then hW));have HSS:=Hd V;have L:=Hd j;have av:=Hd am;have aq:=Hd t;have aH:vs.length<=120:=qo
 clear C h am af j ac V m t F aB al Y aj ak E ad ae
 go_enter func162,ntmps162
 go_upto_region 1 with fail
 rw[av.out]
 go_upto_region 3 with((go_at_call 157;(with_reducible refine HN.out.mono ?_);rintro e w' ⟨rfl,rfl⟩))
 have A:=(Fq [] p).drew;refine eU (λW:World=>Fr [] p W) 10 qk ?_ qd
 show fc 0 ..
 iterate 2 (refine gJ rfl ?_;try simp only[qq])
 show fc 4 ..
 iterate 6 (refine gJ rfl ?_;try simp only[qq])
 refine hO (i:=2) rfl λK l=>?_;go_simp
 go_at_call 192
 (with_reducible refine(M.out _ A).mono ?_);rintro e f ⟨rfl,Z⟩;have r:=A.then Z;refine l _ _ r ?_;clear l K A Z
 try simp only[qq]
 refine hO (i:=3) rfl λK l=>?_;go_simp
 have⟨I,v⟩:=eR (f.alloc (.cells #[.int .i64 (-1),S0,.bool true] 201));have ag:Own I 201 3 (some ⟨f.heap.size,0,none⟩) 1 1 [.int .i64 (-1),S0,.bool true]:=by rw[<-v];exact Own.new1 f _ 3 1 _ rfl (by unfold maxLen;omega)
 have aa:Fr [] f I:=by rw[<-v];exact(Fq [] f).alloc _
 rw[v];have B:=r.then aa;refine l _ _ B ?_;clear l K v
 try simp only[qq]
 refine eV ⟨qk,?_⟩;simp only[qG,qH];have N:=Hd ag;have q:=Hd (L.then B);have aw:=Hd (An r.size L.size);have k:=Hd (aq.fr q.out qs);clear ag B r aa HSS M;obtain⟨jj,aA,aD,aE,aF⟩:=wk;have hz:=aw.out;have aI:=q.size
 cases J with
 | none =>
  have aC:vs=[]:=by
   rcases k.2 with⟨_,T⟩|⟨g,P,Q,d,_⟩
   ·exact eq_nil_of_length_eq_zero T
   ·injection d with d;cases d
  subst aC
  have ay:z=0:=by
   rcases k.2 with⟨d,T⟩|⟨g,P,Q,d,_⟩
   ·injection d
   ·injection d with d;cases d
  subst ay
  go_wp2
  go_ret
  have D:=Cs.of_own N.out qo;obtain⟨g,hg,D⟩:=D
  cases hg
  refine⟨f.heap.size,1,rfl,by simpa using D,q.out,qo⟩
 | some ax =>
  obtain⟨R,rfl⟩:∃g,ax=⟨g,0,none⟩:=by
   rcases k.2 with⟨d,_⟩|⟨g,P,Q,d,_⟩
   ·injection d with d;cases d
   ·injection d with d;injection d with d;exact⟨g,d⟩
  have ai:∀u∈vs.flatMap VX.cs,u.oneCell'=true:=λu hu=>by
   have⟨x,_,hx⟩:=mem_flatMap.1 hu;exact Ek x u hx
  have au:=Hd ai;have X:=World.ownsRow.cells k.out (g:=R) rfl;have ao:=Hd X;clear X;clear ai
  go_wp2_with (at_builtin;(with_reducible refine jN (w:=I) rfl (.tmp 10) (.tmp 16) 280 rfl 201 jj _ 3 32 underlying280 aA aD aE aF rfl qd (some ⟨f.heap.size,0,none⟩) 1 1 [.int .i64 (-1),S0,.bool true] rfl N.out ⟨R,0,none⟩ vs.length z (vs.flatMap VX.cs) rfl k.out.len ao.out au.out (by unfold maxLen;omega) qo ?_);intro A6 c6 w6 ah ab U;have ar:=Hd ah;have ap:=Hd ab;have an:=Hd U;clear ah ab U)
  go_ret
  obtain⟨S,rfl,az⟩:=Cs.of_own ar.out qo;refine⟨S,c6,rfl,az,q.trans ap.out (by simp[eX];omega),?_⟩
  rcases an.out S (by simp[eX])with h|h
  ·simp[eX]at h;omega
  ·omega
open Go.RowKit Go.Shelf
attribute [local go_sem] Oper.semAt_some
def ia{α:Type}{f:α->List Value}{m:Nat}(a:∀x,(f x).length=m):∀ {xs:List α} {j:Nat} {x:α} {o:Nat},xs[j]?=some x->o<m->(xs.flatMap f)[j*m+o]?=(f x)[o]?
 | [],j,x,o,h,_=>by simp at h
 | y::r,0,x,o,h,b=>by
  simp at h;subst h
  rw[flatMap_cons,Nat.zero_mul,Nat.zero_add,List.getElem?_append_left (by rw[a];exact b)]
 | y::r,j+1,x,o,h,b=>by
  rw[flatMap_cons,List.getElem?_append_right (by rw[a,Nat.add_mul];omega),a,show (j+1)*m+o - m=j*m+o by rw[Nat.add_mul];omega];exact ia a (by simpa using h) b
def zl(g m c:Nat)(w:World):Calls prog 161 #[.slice (some ⟨g,0,none⟩) m c] w λe w'=>e=.returned (.func (.func 191) #[] #[.pointer (some ⟨w.heap.size,0,none⟩)])/\w'=w.alloc (.cells #[.slice (some ⟨g,0,none⟩) m c] 280):=by
 go_enter func161,ntmps161
 go_wp2
 go_ret
 exact⟨rfl,rfl⟩
def xX(L:List VZ)(k:Nat):Int × VZ:=(((L.length - 1 - k:Nat):Int),L.getD (L.length - 1 - k) z0)
def Jp(n l B g c:Nat)(W:World)(T:List Nat)(L:List VZ)(K:Nat)(ak:1<=K)(ae:K<=L.length)(af:L.length<=1000)(w:BoxN W B 280 #[.slice (some ⟨g,0,none⟩) L.length c])(R:Cs W g (L.flatMap VZ.cs))(M:B ∉ T)(S:g ∉ T)(J:Nat->World->Prop)
 (U:∀k t,k<K->J k t->YieldAt Fence.wide (n - 1) prog l #[.int .i64 (xX L k).1,.agg (xX L k).2.cs.toArray] t λe d=>(k+1<K->e=.returned (.bool true))/\(k+1=K->e=.returned (.bool false))/\J (k+1) d/\Fr T t d) (N:J 0 W) :
 CallsIn Fence.wide n prog 191 #[.func (.yield l) #[] #[],.pointer (some ⟨B,0,none⟩)] W λe d=>(∃v,e=.returned v)/\J K d:=by
 have⟨m,r⟩:=eR (L.length);have E:W.cell? ⟨B,0,none⟩=some (.slice g m c):=by rw[<-r];exact w.c 0
 have HY:=Hd U;have Y:=Hd w;have aa:=Hd R;have H:=Hd (An M S);have HJ:=Hd N;have s:=Hd r;rw[r]at ae af;have an:1<=m:=qo
 clear U w R M S N r;refine callsIn_of_wp func191 rfl trivial ?_ rfl;simp only[ntmps191,size_toArray,length_cons,length_nil,Nat.reduceAdd,Nat.reduceSub,Array.replicate_succ,Array.replicate_zero,push_toArray,append_toArray,nil_append,cons_append]
 gi_wp2_with fail
 clear E
 gi_loopw [3] (λi wr=>∃j:Nat,j<m/\i=j/\m - 1 - j<K/\J (m - 1 - j) wr/\Fr T W wr) (λi _=>(intOf i).toNat)
 case atStart=>exact⟨m - 1,qo,by congr 1;omega,qo,by rw[show m - 1 - (m - 1)=0 by omega];exact HJ.out,Fq _ _⟩
 case round =>
  obtain⟨j,hj,rfl,hk,O,p⟩:=hrel;have y:=Y.fr p H.1;rw[s.out]at y;have q:=aa.fr p H.2;obtain⟨z,D⟩:∃z,L[j]?=some z:=⟨_,gg (by rw[s.out];omega)⟩
  have Q:xX L (m - 1 - j)=((j:Int),z):=by
   unfold xX;rw[s.out,show m - 1 - (m - 1 - j)=j by omega,getD_eq_getElem?_getD,D];rfl
  have⟨fn,ai,ab,ac,C,P⟩:=gC (m':=n - 1) (HY.out (m - 1 - j) wr hk O);rw[Q]at C;have b:=λo (ho:o<3)=>ia Hj D ho;unfold VZ.cs at b;have⟨V,A,_,_⟩:=eS z.v;have ah:(Instr.yield l #[.int .i64 (j:Int),.agg #[.int .i64 z.i,.string V,.bool z.a]]).run prog wr=.ok (.round l fn ai ab ac) wr:=by rw[<-A];exact C
  have aj:wr.cell? ⟨g,j*3,none⟩=some (.int .i64 z.i):=q.2 _ _ (b 0 qo);have z1:wr.cell? ⟨g,j*3+1,none⟩=some (.string V):=by rw[<-A];exact q.2 _ _ (b 1 qo)
  have z2:=q.2 _ _ (b 2 qo);have E:=y.k0;have am:(j:Int)<(m:Int):=qo
  have G:=Hd P;have Z:=Hd p;clear P C y q b A Q D p O
  gi_wp2_with fail
  refine⟨λad=>absurd ad (by simp[Fence.wide]),G.mono ?_⟩;clear ah G E aj z1 z2;rintro e W2 ⟨f,h,u,I⟩;rw[show m - 1 - j+1=m - j by omega]at f h u;have F:=Hd u;have X:=Hd (Z.trans I (λx hx=>.inl hx));clear u I
  rcases Nat.lt_or_ge (m - j) K with ag|al
  ·obtain rfl:=f ag
   clear f h;obtain⟨j,rfl⟩:∃j',j=j'+1:=⟨j - 1,qo⟩
   gi_wp2_with fail
   exact⟨⟨j,qo,rfl,qo,by rw[show m - 1 - j=m - (j+1) by omega];exact F.out,X.out⟩,by show ((j:Int)).toNat<((j+1:Nat):Int).toNat;omega⟩
  ·obtain rfl:=h qo
   clear f h
   gi_wp2_with fail
   refine bodyPost_ret (results_none rfl _ _ _) rfl ?_;exact⟨⟨_,rfl⟩,by rw[show K=m - j by omega];exact F.out⟩
attribute [local go_sem] Oper.semAt_some
def xB(b:Nat)(k a i:Int)(c d:ByteArray)(f:Int)(w:World):Calls prog 100 #[.pointer (some ⟨b,0,none⟩),.agg #[.int .i64 k,.string c,.int .i64 a,.int .i64 i,.string d],.int .i64 f] w λe w'=>e=.returned (.func (.func 160) #[] #[.pointer (some ⟨w.heap.size,0,none⟩),.pointer (some ⟨w.heap.size+1,0,none⟩),.pointer (some ⟨w.heap.size+2,0,none⟩)]) /\
 BoxN w' w.heap.size 106 #[.pointer (some ⟨b,0,none⟩)]/\BoxN w' (w.heap.size+1) 31 #[.int .i64 k,.string c,.int .i64 a,.int .i64 i,.string d]/\BoxN w' (w.heap.size+2) 3 #[.int .i64 f]/\Fr [] w w'/\w'.heap.size=w.heap.size+3:=by
 go_enter func100,ntmps100
 go_wp2
 go_ret
 have j:=BoxN.new w 106 #[.pointer b];have g:=BoxN.new (w.alloc (.cells #[.pointer b] 106)) 31 #[k,c,a,i,d];have h:=BoxN.new ((w.alloc (.cells #[.pointer b] 106)).alloc (.cells #[k,c,a,i,d] 31)) 3 #[f];rw[jZ]at g;rw[jZ,jZ]at h;refine⟨qs,(j.alloc _).alloc _,g.alloc _,h,(((Fq [] w).alloc _).alloc _).alloc _,qs⟩
def Ch(L:List VZ)(K:Nat):List VZ:=(List.range K).map λk=>(xX L k).2
def ra(L:List VZ)(K:Nat):(Ch L K).length=K:=by simp[Ch]
def rh{L:List VZ}{K k:Nat}(h:k<K):(Ch L K)[k]?=some (xX L k).2:=by simp[Ch,h]
def RoundIn.inRound{n m r:Nat}{P:Program}{l f:Nat}{d:Array Value}{a b:Code}{w:World}{R:Ending->World->Prop}(h:RoundIn Fence.wide n P l f d a b w R):RoundIn (Fence.wide.inRound r) m P l f d a b w R :=
 ⟨trivial,λc cs _=>h.2 c cs (room_wide _)⟩
def IW(n l B1 B2 R b:Nat)(ys:List AX)(ar:List Nat)(nm:ON)(so st:ByteArray)(Y:Int)(L:List VZ)(K:Nat)(hL:Cq (ys.map AX.a) nm=L)(aC:L.length<=1000)(aA:1<=K)(aB:K<=L.length)(D:∀z∈L,z.i<Y)(W:World)(T:List Nat)(hT:∀q∈T,q<W.heap.size)(F:BoxN W B1 106 #[.pointer (some ⟨b,0,none⟩)])(G:BoxN W B2 31 #[.int .i64 nm.kind,.string so,.int .i64 nm.number,.int .i64 nm.index,.string st])(he:fu nm=.agg #[.int .i64 nm.kind,.string so,.int .i64 nm.number,.int .i64 nm.index,.string st])(aK:eY nm=0)(B:BoxN W R 3 #[.int .i64 Y])(av:R ∉ T)(hv:VG W b ys ar)
 (J : Nat -> World -> Prop) (hJ : ∀k d au S, J k d -> Fr S d au -> (∀q ∈ S, W.heap.size <= q) -> J k au)
 (hy:∀k (x:VZ) W1,(Ch L K)[k]?=some x->J k W1->YieldAt Fence.wide (n - 1) prog l #[.agg x.cs.toArray] W1 λe d=>(k+1<(Ch L K).length->e=.returned (.bool true))/\(k+1=(Ch L K).length->e=.returned (.bool false))/\J (k+1) d/\Fr T W1 d) (az:J 0 W) :
 CallsIn Fence.wide n prog 160 #[.func (.yield l) #[] #[],.pointer (some ⟨B1,0,none⟩),.pointer (some ⟨B2,0,none⟩),.pointer (some ⟨R,0,none⟩)] W λe d=>(∃v,e=.returned v)/\J (Ch L K).length d:=by
 rw[ra]at hy ⊢;have aN:((List.range K).map (xX L)).length=K:=qs
 have aM:∀k x,((List.range K).map (xX L))[k]?=some x->k<K/\x=xX L k:=λk x j=>by
  rw[List.getElem?_map]at j
  rcases Nat.lt_or_ge k K with f|f
  ·rw[List.getElem?_range f]at j
   exact⟨f,(by simpa using j.symm)⟩
  ·rw[List.getElem?_eq_none (by simpa using f)]at j
   simp at j
 have aF:∀k,k<K->(xX L k).2.i<Y:=λk f=>by
  unfold xX;refine D _ ?_;rw[getD_eq_getElem?_getD,gg qo];exact getElem_mem _
 have⟨w1,aL,m,ae⟩:=kJ W #[.func (.yield l) #[] #[]] 281;have k1:=F.fr ae qs;have k2:=G.fr ae qs;have x1:=k1.k0;have⟨y0,y1,y2,y3,y4⟩:=k2.m5;have ak:=Jo b ys ar nm w1 (hv.fr0 ae) aK;rw[he,hL]at ak;have aW:=Hd ak;have r:=Hd (An aN (An aM aF));have V:=Hd (An aA (An aB aC));have ao:=Hd m;have ap:=Hd ae;have aX:=Hd aL;have ah:=Hd (An B av);have HJ:=Hd hJ;have HY:=Hd hy;have aU:=Hd az;have HT:=Hd hT;clear k1 k2 ak m ae aL F G B av hv hJ hy az hT he aK hL D aN aM aF aA aB aC;refine callsIn_of_wp_marks func160 rfl trivial ?_ rfl;simp only[ntmps160,size_toArray,length_cons,length_nil,Nat.reduceAdd,Nat.reduceSub,Array.replicate_succ,Array.replicate_zero,push_toArray,append_toArray,nil_append,cons_append];refine wpIn_wide.2 ?_
 go_upto_region 1 with fail
 rw[aX.out]
 go_wp2_with (first
  | (go_at_call 162;(with_reducible refine aW.out.mono ?_);rintro e w2 ⟨g,c,rfl,hg,aG,aJ⟩;have aq:=Hd hg;have ai:=Hd aG;have aT:=Hd aJ;clear hg aG aJ)
  | (go_at_call 161;(with_reducible refine(zl g L.length c w2).mono ?_);rintro e h ⟨rfl,rfl⟩))
 have⟨h,am,aE,af⟩:=kJ w2 #[.slice g L.length c] 280;have aO:h.heap.size=w2.heap.size+1:=by rw[<-am];simp
 rw[am];clear am;have al:=(ap.then ai.out).then af;have aD:W.heap.size<h.heap.size:=by have:=ao.lt;have:=(ai.then af).size;omega
 have ay:=aq.fr0 af;have aI:=aq.1;have h0:J 0 h/\BoxN h W.heap.size 281 #[.func (.yield l) #[] #[]]/\BoxN h R 3 #[Y]:=⟨HJ.out 0 W h [] aU.out al qs,ao.fr (ai.then af) qs,ah.1.fr al qs⟩;have aw:=ah.1.lt;have a3:W.heap.size ∉ T:=λo=>by have:=HT.out _ o;omega
 have ax:w2.heap.size ∉ T:=λo=>by have:=HT.out _ o;omega
 have aH:g ∉ T:=λo=>by have:=HT.out _ o;have:=aT.out;have:=ap.size;omega
 have a4:w2.heap.size ∉ h.heap.size::(h.heap.size+1)::T:=by simp only[mem_cons,not_or];exact⟨qo,qo,ax⟩
 have a6:g ∉ h.heap.size::(h.heap.size+1)::T:=by simp only[mem_cons,not_or];exact⟨qo,qo,aH⟩
 have ag:=Hd (An a3 ah.2);have A:=Hd (An aD (An aO (An aw aI)));have aQ:=Hd aE;have aS:=Hd ay;clear aD aO aw aI aE ay af al x1 y0 y1 y2 y3 y4 aH ax
 refine pJ (a:=?aa) 5 T (λq hq=>by have:=HT.out q hq;have:=A.out;omega) ((List.range K).map (xX L)) (λx:Int × VZ=>#[x.1,.agg x.2.cs.toArray]) (lb:=#[.pointer w2.heap.size]) ?_ (enters_of func191 qk rfl) ?_
  (λk d=>J k d/\BoxN d W.heap.size 281 #[.func (.yield l) #[] #[]]/\BoxN d R 3 #[.int .i64 Y])
  (λk U U' S j C hq=>⟨HJ.out k U U' S j.1 C (λq o=>by have:=hq q o;have:=A.out;omega),j.2.1.fr C (λo=>by have:=hq _ o;have:=A.out;omega),j.2.2.fr C (λo=>by have:=hq _ o;have:=A.out;omega)⟩) h0
  (λl2 J2 U hU X a8 a7 a5=>(Jp 5 l2 w2.heap.size g c U (h.heap.size::(h.heap.size+1)::T) L K V.1 V.2.1 V.2.2 (aQ.fr hU qs) (aS.fr0 hU) a4 a6 J2 (λk W1 f w=>by have hh:=a7 k (xX L k) W1 (by rw[List.getElem?_map,List.getElem?_range f];rfl) w;rw[r.1]at hh;exact hh) a5).mono (by rw[r.1];exact λ_ _ j=>j))
  (λk a' d=>∃E,(∃x:Int × VZ,((List.range K).map (xX L))[k]?=some x/\a'={ tmps:=(((Act.tmps ?aa).setIfInBounds 11 (.int .i64 x.1)).setIfInBounds 12 (.agg x.2.cs.toArray)).setIfInBounds 6 (.pointer (some ⟨E,0,none⟩)),defers:=[] }/\BoxN d E 201 x.2.cs.toArray)/\h.heap.size+2<=E/\(J k d/\BoxN d W.heap.size 281 #[.func (.yield l) #[] #[]]/\BoxN d R 3 #[.int .i64 Y]))
  ?_ ?_ ?_ ?_ ?_ ?_
 ·rfl
 ·intro x;rfl
 ·rintro k a' U U' ⟨E,⟨x,p,ha,hb⟩,ac,w,m,u⟩ C
  exact⟨E,⟨x,p,ha,hb.fr C (by simp;omega)⟩,ac,HJ.out k U U' _ w C (by simp;have:=A.out;omega),m.fr C (by simp;have:=A.out;omega),u.fr C (by simp;have:=A.out;omega)⟩
 ·intro l2 k x U K2 p H X hK
  obtain⟨ii,z⟩:=x;unfold VZ.cs;have⟨sv,y,_,_⟩:=eS z.v;rw[y]
  gi_wp2_with fail
  refine hK _ _ ((Fq [] U).alloc _) ⟨U.heap.size,⟨_,p,by simp only[VZ.cs,y];rfl,by simp only[VZ.cs,y];exact BoxN.new U _ _⟩,X,HJ.out k U _ [] H.1 ((Fq [] U).alloc _) qs,H.2.1.alloc _,H.2.2.alloc _⟩
 ·intro l2 k x a' U p f hA X
  obtain⟨E,⟨x',O,rfl,I⟩,ac,w,m,u⟩:=hA;rw[p]at O;obtain rfl:x=x':=by simpa using O
  rw[r.1]at f;have⟨N,P⟩:=r.2.1 k x p;have D:=r.2.2 k N;rw[<-P]at D;have⟨fn,tmps,aY,aZ,Q,ad⟩:=HY.out k x.2 U (by rw[P];exact rh N) w;obtain⟨ii,z⟩:=x;have⟨sv,y,_,_⟩:=eS z.v;simp only[VZ.cs,y]at I Q ⊢;simp only at D;have⟨t0,t1,t2⟩:=I.m3;have t3:=u.k0;have t4:=m.k0;have an:=Q;have ab:=Hd ad;have Z:=Hd (An m u);have aj:=Hd f;clear Q ad m u I w ac f X p O P N y;simp only[qA,qB,qC]
  gi_wp2_with fail
  refine(RoundIn.inRound ab.out).mono ?_;rintro e U2 ⟨F,G,B,t⟩;obtain rfl:=F aj.out;have M:=Z.out;have s:=Hd (An B (An (An (M.1.fr t ag.1) (M.2.fr t ag.2)) t));clear F G B t M ab Z an t0 t1 t2 t3 t4
  gi_wp2_with fail
  exact⟨⟨s.1,s.2.1.1,s.2.1.2⟩,s.2.2⟩
 ·intro l2 k x a' U p f hA X
  obtain⟨E,⟨x',O,rfl,I⟩,ac,w,m,u⟩:=hA;rw[p]at O;obtain rfl:x=x':=by simpa using O
  rw[r.1]at f;have⟨N,P⟩:=r.2.1 k x p;have D:=r.2.2 k N;rw[<-P]at D;have⟨fn,tmps,aY,aZ,Q,ad⟩:=HY.out k x.2 U (by rw[P];exact rh N) w;obtain⟨ii,z⟩:=x;have⟨sv,y,_,_⟩:=eS z.v;simp only[VZ.cs,y]at I Q ⊢;simp only at D;have⟨t0,t1,t2⟩:=I.m3;have t3:=u.k0;have t4:=m.k0;have an:=Q;have ab:=Hd ad;have Z:=Hd (An m u);have aj:=Hd f;clear Q ad m u I w ac f X p O P N y;simp only[qA,qB,qC]
  gi_wp2_with fail
  refine(RoundIn.inRound ab.out).mono ?_;rintro e U2 ⟨F,G,B,t⟩;obtain rfl:=G aj.out;have M:=Z.out;have s:=Hd (An B (An (An (M.1.fr t ag.1) (M.2.fr t ag.2)) t));clear F G B t M ab Z an t0 t1 t2 t3 t4
  gi_wp2_with fail
  exact⟨⟨s.1,s.2.1.1,s.2.1.2⟩,s.2.2⟩
 ·intro j
  have:=r.1;rw[j]at this;have:=V.1;simp at *;omega
 ·intro aP U hD H hK
  rw[r.1]at H;have aV:=Hd H.1;have V:=Hd hK;have aR:=Hd hD;clear H hK hD
  go_wp2
  refine⟨qs,.inl ⟨_,_,rfl,run_takeDeferred V.out,?_⟩⟩;refine⟨_,results_none rfl _ _ _,⟨_,rfl⟩,?_⟩;exact HJ.out K U _ [aP] aV.out (i6 _ (Fq _ _) (.inl qs)) (by simp;have:=A.out;have:=aR.out;omega)
end Go.Proofs.YtlpmiimgacfmkaaGreatDoor
