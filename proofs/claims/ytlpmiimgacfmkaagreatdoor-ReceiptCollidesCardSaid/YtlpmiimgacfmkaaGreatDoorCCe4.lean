/- Part of the proof. -/
import Derived.Test.YtlpmiimgacfmkaaGreatDoorCCd8
set_option linter.all false
set_option maxHeartbeats 8000000
set_option maxRecDepth 100000
namespace Go.Proofs.YtlpmiimgacfmkaaGreatDoor
open Go.Proofs.Tryz List
open Go.RowKit Go.Shelf
def yo(x y n:Int)(s:ByteArray)(A:Option Addr)(N c B:Nat)(w:World)(b:w.cell? ⟨B,0,none⟩=some (.int .i64 x))(d:B<w.heap.size):Calls prog 77 #[.agg #[.int .i64 y,.int .i64 n,.string s,.slice A N c],.pointer (some ⟨B,0,none⟩)] w (fi w (.bool (y == x))):=by
 obtain⟨k,e,i,f,a⟩:=ir w #[y,n,s,.slice A N c] 53 w.heap.size;have l:=f.k0;have j:=(a.cell (p:=⟨B,0,none⟩) d qs).trans b;have h:=Hd e;have g:=Hd a;clear e f a i b d
 go_enter func77,ntmps77
 go_upto_region 1 with fail
 rw[h.out]
 go_wp2_with fail
 go_ret
 exact⟨rfl,g.out⟩
def nU(x:Int):List PX->Nat->Int
 | [],_=>-1
 | p::r,j=>if p.i=x then(j:Int)else nU x r (j+1)
def AI{x:Int}{ps:List PX}{j:Nat}{p:PX}(b:ps[j]?=some p):nU x (ps.drop j) j=if p.i=x then(j:Int)else nU x (ps.drop (j+1)) (j+1):=by
 have a:=gV.1 b;rw[List.drop_eq_getElem_cons a.1,a.2,nU]
def vR(x:Int)(ps:List PX)(A:Option Addr)(m c B:Nat)(w:World)(O:PrX w A c ps)(N:ps.length=m)(ac:m<=13)(J:w.cell? ⟨B,0,none⟩=some (.int .i64 x))(M:B<w.heap.size):Calls prog 76 #[.slice A m c,.func (.func 77) #[] #[.pointer (some ⟨B,0,none⟩)]] w (fi w (.int .i64 (nU x ps 0))):=by
 obtain⟨v,a⟩:=eR (nU x ps 0);rw[a];have l:=Hd (An O (An N a));have z:=Hd (An J M);clear O N a J M
 go_enter func76,ntmps76
 go_wp2_with fail
 go_loopw [8] (λi W=>∃j:Nat,j<=m/\i=.int .i64 (j:Int)/\nU x (ps.drop j) j=v/\Fr [] w W) (λi _=>m - (intOf i).toNat)
 case atStart=>exact⟨0,Nat.zero_le _,rfl,l.out.2.2,Fq _ _⟩
 case round =>
  obtain⟨j,hj,rfl,a,h⟩:=hrel
  by_cases Z:j<m
  ·have ab:(j:Int)<(m:Int):=qo
   have ad:IntKind.i64.wrap (j:Int)=(j:Int):=by simp only[IntKind.wrap_i64];omega
   obtain⟨p,G⟩:∃p,ps[j]?=some p:=⟨_,gg (by rw[l.out.2.1];exact Z)⟩;rw[AI G]at a;have S:Row wr wr.heap.size 4 A m (ps.flatMap PX.cs):=by have E:=(l.out.1.own.fr h qs).rd;unfold Rd at E;rw[l.out.2.1]at E;exact E
   obtain⟨g,off,rfl,Y,L⟩:=fK iP S qo;have f:=L j p G;obtain⟨s,T,_,_⟩:=eS p.s;obtain⟨y,H⟩:=eR (p.i);obtain⟨X,R⟩:=eR (p.n);obtain⟨I,K⟩:=eR (p.A);obtain⟨V,Q⟩:=eR (p.d.length);obtain⟨U,P⟩:=eR (p.c);unfold PX.cs at f;rw[T,H,R,K,Q,P]at f;rw[H]at a;have ae:wr.cell? ⟨g,off+j*4,none⟩=some (.int .i64 y):=f 0 qo;have z1:wr.cell? ⟨g,off+j*4+1,none⟩=some (.int .i64 X):=f 1 qo;have z2:wr.cell? ⟨g,off+j*4+2,none⟩=some (.string s):=f 2 qo;have z3:wr.cell? ⟨g,off+j*4+3,none⟩=some (.slice I V U):=f 3 qo;have r:=Hd (yo x y X s I V U B wr ((h.cell (p:=⟨B,0,none⟩) z.out.2 qs).trans z.out.1) (Nat.lt_of_lt_of_le z.out.2 h.size));have t:=Hd (An a h);clear L f S T H R K Q P G a h Y
   by_cases k:y=x
   ·have F:(y == x)=true:=by simpa using k
    have D:=Hd k;clear k;have b:=r.out;rw[F]at b;have C:=Hd b;clear r b
    go_wp2_with ((go_at_call 77;(with_reducible refine C.out.mono ?_);rintro e w4 ⟨rfl,o⟩;have u:=Hd o;clear o))
    go_ret
    have q:=t.out.1;rw[if_pos D.out]at q;exact⟨by rw[<-q];rfl,t.out.2.then u.out⟩
   ·have F:(y == x)=false:=by simpa using k
    have D:=Hd k;clear k;have b:=r.out;rw[F]at b;have C:=Hd b;clear r b
    go_wp2_with ((go_at_call 77;(with_reducible refine C.out.mono ?_);rintro e w4 ⟨rfl,o⟩;have u:=Hd o;clear o))
    go_roundw
    case rel =>
     have q:=t.out.1;rw[if_neg D.out]at q;exact⟨j+1,qo,by go_num,q,t.out.2.then u.out⟩
    case measure=>simp[intOf];omega
  ·obtain rfl:j=m:=qo
   rw[List.drop_of_length_le (by rw[l.out.2.1];exact fW _)]at a;have aa:v=-1:=by rw[<-a];rfl
   subst aa;clear a
   go_wp2_with fail
   go_ret
   exact⟨rfl,h⟩
def tE{x:Int}:∀ {ps:List PX} {j:Nat},nU x ps j<0->∀q∈ps,q.i≠x
 | [],_,_=>by simp
 | p::r,j,h=>by
  rw[nU]at h;split at h
  ·omega
  ·rename_i a
   intro q c
   rcases List.mem_cons.1 c with rfl|b
   ·exact a
   ·exact tE h q b
def tF{x:Int}:∀ {ps:List PX} {j:Nat},0<=nU x ps j->∃k q,nU x ps j=((j+k:Nat):Int)/\ps[k]?=some q/\q.i=x
 | [],_,h=>by rw[nU]at h;omega
 | p::r,j,h=>by
  rw[nU]at h ⊢;split
  ·rename_i a
   exact⟨0,p,qs,rfl,a⟩
  ·rename_i a
   rw[if_neg a]at h;obtain⟨k,q,b,c,d⟩:=tF h;exact⟨k+1,q,by rw[b];omega,by simpa using c,d⟩
structure RX where
 nm:ON
 so:ByteArray
 st:ByteArray
 P:Int
 n:Int
 A:Option Addr
 c:Nat
 ps:List PX
def RX.v(r:RX):Value:=tw r.nm.kind r.so r.nm.number r.nm.index r.st r.P r.n (.slice r.A r.ps.length r.c)
structure RX.ok(r:RX)(w:World):Prop where
 no:r.nm.owner.length<=140737488355328
 nt:r.nm.text.length<=140737488355328
 en:fu r.nm=.agg #[.int .i64 r.nm.kind,.string r.so,.int .i64 r.nm.number,.int .i64 r.nm.index,.string r.st]
 at_:r.P<65536
 pr:PrX w r.A r.c r.ps
 each:∀p∈r.ps,p.ok
 len:r.ps.length<=13
def RX.ok.fr0{r:RX}{w w':World}(h:r.ok w)(a:Fr [] w w'):r.ok w':=⟨h.no,h.nt,h.en,h.at_,h.pr.fr0 a,h.each,h.len⟩
def RX.err(rt:Nm)(r:RX):Int:=CG rt r.nm r.P r.n r.ps
def nV(rt:Nm)(b:rt.length=32)(r:RX)(w:World)(a:Ok w)(h:r.ok w):Calls prog 22 #[fo rt,r.v] w (CI w (r.err rt)) :=
 Ay rt b r.nm r.so r.st r.P r.n r.ps.length r.A r.c r.ps w a h.no h.nt h.en h.at_ h.pr h.each rfl h.len
def tc(a b:List PX):Prop:=∃p∈a,∃q∈b,p.i=q.i/\p.s≠q.s
def uQ:Value:=.tuple #[.string ⟨#[]⟩,.string ⟨#[]⟩,.bool false]
def Jd(rt:Nm)(a b:RX)(w:World)(e:Ending)(w':World):Prop :=
 ((a.n=b.n/\a.err rt=0/\b.err rt=0/\tc a.ps b.ps)->CM w e w')/\(¬(a.n=b.n/\a.err rt=0/\b.err rt=0/\tc a.ps b.ps)->e=.returned uQ/\Fr [] w w')
def VdOk.uniq{rt:Nm}{nm:ON}{P n:Int}{ps:List PX}{l:List AG}(o:VdOk rt nm P n ps l){j k:Nat}{p q:PX}(f:ps[j]?=some p)(d:ps[k]?=some q)(e:p.i=q.i):p=q:=by
 have r:=Am o.asc;have b:=gV.1 f;have c:=gV.1 d
 have m:∀ {x y:Nat} (g:x<ps.length) (h:y<ps.length),x<y->ps[x].i≠ps[y].i:=fun {x y} g h s t=>by
  have a:=pairwise_iff_getElem.1 r x y (by rw[length_map];exact g) (by rw[length_map];exact h) s;rw[getElem_map,getElem_map]at a;simp only[PX.pf]at a;omega
 rcases Nat.lt_trichotomy j k with a|rfl|a
 ·exact absurd (by rw[b.2,c.2];exact e) (m b.1 c.1 a)
 ·rw[f]at d;exact Option.some.inj d
 ·exact absurd (by rw[b.2,c.2];exact e.symm) (m c.1 b.1 a)
def vS{d rt:Nm}{bs:List Bool}{a:List Nm}(h:jW d bs a=(rt,0)):a.length=bs.length/\iE d bs a bs.length=rt:=by
 unfold jW at h;split at h
 ·rename_i b
  exact⟨b,congrArg Prod.fst h⟩
 ·have:=congrArg Prod.snd h
  simp at this
def vT(rt:Nm)(aq:rt.length=32)(a b:RX)(w:World)(aG:Ok w)(ha:a.ok w)(hb:b.ok w):Calls prog 28 #[fo rt,a.v,b.v] w (Jd rt a b w):=by
 have aY:(eO rt).length=32:=by rw[eP,aq]
 have ag:=λW (hW:Fr [] w W)=>nV rt aq a W (aG.fr0 hW) (ha.fr0 hW);have ah:=λW (hW:Fr [] w W)=>nV rt aq b W (aG.fr0 hW) (hb.fr0 hW);have⟨ea,aZ⟩:=eR (a.err rt);have⟨eb,a3⟩:=eR (b.err rt);rw[aZ]at ag;rw[a3]at ah;have o:=Hd (An ha (An hb (An aZ (An a3 aG))));unfold RX.v tw at ag ah ⊢;have⟨k1,al⟩:=eR (a.nm.kind);have⟨o1,b0⟩:=eR (a.so);have⟨u1,cc⟩:=eR (a.nm.number);have⟨i1,bR⟩:=eR (a.nm.index);have⟨t1,ca⟩:=eR (a.st);have⟨P1,bK⟩:=eR (a.P);have⟨r,a7⟩:=eR (a.n);have⟨A1,aQ⟩:=eR (a.A);have⟨B,aD⟩:=eR (a.ps.length);have⟨c1,aW⟩:=eR (a.c);have⟨k2,V⟩:=eR (b.nm.kind);have⟨o2,b3⟩:=eR (b.so);have⟨u2,cd⟩:=eR (b.nm.number);have⟨i2,bS⟩:=eR (b.nm.index);have⟨t2,cb⟩:=eR (b.st);have⟨P2,bL⟩:=eR (b.P);have⟨n2,a8⟩:=eR (b.n);have⟨A2,aR⟩:=eR (b.A);have⟨C,aE⟩:=eR (b.ps.length);have⟨K,aX⟩:=eR (b.c);rw[al,b0,cc,bR,ca,bK,a7,aQ,aD,aW]at ag ⊢;rw[V,b3,cd,bS,cb,bL,a8,aR,aE,aX]at ah ⊢;have f:=Hd (An a7 (An a8 (An (An aQ (An aD aW)) (An aR (An aE aX)))));clear ha hb aZ a3 aG al b0 cc bR ca bK a7 aQ aD aW V b3 cd bS cb bL a8 aR aE aX;have⟨w1,av⟩:=eR ((w).alloc (.cells (eO rt).toArray 57));have cB:(w1).heap.size=w.heap.size+1:=by rw[<-av,jZ];try omega
 have d1:(w1).rowIs (w.heap.size) 57 32 (λj=>.int .u8 ((rt.getD j 0).toNat:Int)):=by have h0:=gX (t:=57) (w) aY;rw[show w.heap.size=(w).heap.size from by first|rfl|omega,<-av];exact h0
 have f1:Fr [] (w) w1:=by rw[<-av];exact(Fq [] (w)).alloc _
 have⟨w2,cf,cC,b1,f2⟩:=ir w1 #[.int .i64 k1,.string o1,.int .i64 u1,.int .i64 i1,.string t1,.int .i64 P1,.int .i64 r,.slice A1 B c1] 39 (w.heap.size+1);have⟨G,ch,cD,b2,f3⟩:=ir w2 #[.int .i64 k2,.string o2,.int .i64 u2,.int .i64 i2,.string t2,.int .i64 P2,.int .i64 n2,.slice A2 C K] 39 (w.heap.size+1+1);have aL:=b1.fr f3 qs;have bI:=eT d1 (f2.then f3) qs;have⟨x0,x1,x2,x3,x4,x5,x6,x7⟩:=aL.m8;have⟨y0,y1,y2,y3,y4,y5,y6,y7⟩:=b2.m8;have Z:=Hd ((f1.then f2).then f3);have HB:=Hd (An bI (An aL b2));have HW:=Hd (An av (An cf ch));have bB:=Hd (λW (hW:Fr [] G W)=>ag W (Z.then hW));have bC:=Hd (λW (hW:Fr [] G W)=>ah W (Z.then hW));clear av cf ch d1 b1 b2 f1 f2 f3 cB cC cD aL bI ag ah;unfold fo
 go_enter func28,ntmps28
 go_upto_region 1 with fail
 rw[HW.1,HW.2.1,HW.2.2]
 by_cases am:r=n2
 case neg =>
  have E:(r == n2)=false:=by simpa using am
  go_wp2
  refine bodyPost_ret (v:=uQ) (by simp[results,results28,uQ,go_sem]) rfl ?_;exact⟨λh=>absurd (f.1.symm.trans (h.1.trans f.2.1)) am,λ_=>⟨rfl,Z.out⟩⟩
 subst am
 go_upto_region 3 with fail
 have bT:∀W,(Instr.index 75 (.agg #[.int .i64 k1,.string o1,.int .i64 u1,.int .i64 i1,.string t1,.int .i64 P1,.int .i64 r,.slice A1 B c1,.int .i64 k2,.string o2,.int .i64 u2,.int .i64 i2,.string t2,.int .i64 P2,.int .i64 r,.slice A2 C K]) (.int .i64 0)).run prog W=.ok (.agg #[.int .i64 k1,.string o1,.int .i64 u1,.int .i64 i1,.string t1,.int .i64 P1,.int .i64 r,.slice A1 B c1]) W:=λW=>by
  simp[Instr.index,go_sem,asIntOf]
 have bU:∀W,(Instr.index 75 (.agg #[.int .i64 k1,.string o1,.int .i64 u1,.int .i64 i1,.string t1,.int .i64 P1,.int .i64 r,.slice A1 B c1,.int .i64 k2,.string o2,.int .i64 u2,.int .i64 i2,.string t2,.int .i64 P2,.int .i64 r,.slice A2 C K]) (.int .i64 1)).run prog W=.ok (.agg #[.int .i64 k2,.string o2,.int .i64 u2,.int .i64 i2,.string t2,.int .i64 P2,.int .i64 r,.slice A2 C K]) W:=λW=>by
  simp[Instr.index,go_sem,asIntOf]
 go_wp2
 refine wp_loop_rounds 3 ?_;rw[rounds_succ];have bu:Hid (Fr [] G G):=Hd (Fq [] G);have a6:=bT G
 go_upto_region 6 with fail
 clear a6;have⟨w4,aw,bo,bx,L⟩:=ir G #[.int .i64 k1,.string o1,.int .i64 u1,.int .i64 i1,.string t1,.int .i64 P1,.int .i64 r,.slice A1 B c1] 39 G.heap.size
 try rw[aw]
 have⟨q0,q1,q2,q3,q4,q5,q6,q7⟩:=bx.m8;have z:=Hd (bu.then L);have ad:=Hd (fw (eT HB.1 z.out qs) aq);have T:=bB.out w4 z.out;unfold fo at T;have ae:=Hd T;clear T bx L aw bo
 go_upto_region 7 with(first
  | (with_reducible refine wpList_load_mid rfl 57 (.tmp 3) rfl w.heap.size 0 rfl (eO rt) (.array 32 5) ad.out qk rfl (by rw[aY];kernel_rfl) ?_)
  | (go_at_call 22;(with_reducible refine ae.out.mono ?_);rintro e w5 ⟨v,rfl,⟨vb,vo,B1,B2,B3,B4,bq,aM,br,aN,bs,aO,bt,aP,rfl⟩,aj⟩;have ac:=Hd (z.then aj);clear aj))
 clear q0 q1 q2 q3 q4 q5 q6 q7;have⟨w6,X⟩:=eR ((w5).alloc (.cells #[.int .u8 vb,.int .i64 vo,.slice B1 bq aM,.slice B2 br aN,.slice B3 bs aO,.slice B4 bt aP] 64));have aI:=Hd (show Fr [] G w6 from by rw[<-X];exact ac.alloc _);rw[X];clear X z ac ae ad
 by_cases U:ea=0
 case neg =>
  have E:(ea == 0)=false:=by simpa using U
  go_wp2
  refine bodyPost_ret (v:=uQ) (by simp[results,results28,uQ,go_sem]) rfl ?_;exact⟨λh=>absurd (o.2.2.1.symm.trans h.2.1) U,λ_=>⟨rfl,Z.then aI.out⟩⟩
 subst U
 go_wp2
 rw[rounds_succ];have a6:=bU w6
 go_upto_region 6 with fail
 clear a6;have⟨w7,aw,bo,bx,L⟩:=ir w6 #[.int .i64 k2,.string o2,.int .i64 u2,.int .i64 i2,.string t2,.int .i64 P2,.int .i64 r,.slice A2 C K] 39 w6.heap.size
 try rw[aw]
 have⟨q0,q1,q2,q3,q4,q5,q6,q7⟩:=bx.m8;have z:=Hd (aI.then L);have ad:=Hd (fw (eT HB.1 z.out qs) aq);have T:=bC.out w7 z.out;unfold fo at T;have ae:=Hd T;clear T bx L aw bo
 go_upto_region 7 with(first
  | (with_reducible refine wpList_load_mid rfl 57 (.tmp 3) rfl w.heap.size 0 rfl (eO rt) (.array 32 5) ad.out qk rfl (by rw[aY];kernel_rfl) ?_)
  | (go_at_call 22;(with_reducible refine ae.out.mono ?_);rintro e w8 ⟨v,rfl,⟨vb,vo,B1,B2,B3,B4,bq,aM,br,aN,bs,aO,bt,aP,rfl⟩,aj⟩;have ac:=Hd (z.then aj);clear aj))
 clear q0 q1 q2 q3 q4 q5 q6 q7;have⟨w9,X⟩:=eR ((w8).alloc (.cells #[.int .u8 vb,.int .i64 vo,.slice B1 bq aM,.slice B2 br aN,.slice B3 bs aO,.slice B4 bt aP] 64));have ab:=Hd (show Fr [] G w9 from by rw[<-X];exact ac.alloc _);rw[X];clear X z ac ae ad
 by_cases U:eb=0
 case neg =>
  have E:(eb == 0)=false:=by simpa using U
  go_wp2
  refine bodyPost_ret (v:=uQ) (by simp[results,results28,uQ,go_sem]) rfl ?_;exact⟨λh=>absurd (o.2.2.2.1.symm.trans h.2.2.1) U,λ_=>⟨rfl,Z.then ab.out⟩⟩
 subst U
 go_wp2
 rw[rounds_succ];have cF:w9.cell? ⟨w.heap.size+1,7,none⟩=some (.slice A1 B c1):=(HB.2.1.fr ab.out qs).c 7
 go_wp2
 clear x0 x1 x2 x3 x4 x5 x6 x7 y0 y1 y2 y3 y4 y5 y6 y7 cF bT bU bB bC bu aI;have⟨la,bW⟩:=mC o.2.2.1;have⟨lb,bX⟩:=mC o.2.2.2.1;have cm:=Hd bW;have bv:=Hd bX;clear bW bX;have R:=Hd (Z.then ab.out);have aD:B<=13:=by have h:=o.1.len;rw[f.2.2.1.2.1]at h;exact h
 have aE:C<=13:=by have h:=o.2.1.len;rw[f.2.2.2.2.1]at h;exact h
 go_loopw [39] (λbp W=>∃j:Nat,j<=B/\bp=.int .i64 (j:Int)/\Fr [] w9 W/\∀k p,k<j->a.ps[k]?=some p->∀q∈b.ps,p.i=q.i->p.s=q.s) (λbp _=>B - (intOf bp).toNat)
 case atStart=>exact⟨0,Nat.zero_le _,rfl,Fq _ _,λk p M=>absurd M qo⟩
 case round =>
  obtain⟨j,hj,rfl,ai,aH⟩:=hrel
  by_cases cz:j<B
  ·have cN:(j:Int)<(B:Int):=qo
   have cO:IntKind.i64.wrap (j:Int)=(j:Int):=by simp only[IntKind.wrap_i64];omega
   have aC:=R.then ai;obtain⟨p,bd⟩:∃p,a.ps[j]?=some p:=⟨_,gg (by rw[f.2.2.1.2.1];exact cz)⟩;have b6:=o.1.pr.fr0 aC;have ao:=o.2.1.pr.fr0 aC;have ar:Row wr wr.heap.size 4 A1 B (a.ps.flatMap PX.cs):=by have h:=b6.own.rd;unfold Rd at h;rw[f.2.2.1.1,f.2.2.1.2.1]at h;exact h
   obtain⟨g,off,rfl,cy,bN⟩:=fK iP ar qo;have y:=bN j p bd;have⟨sp,bj,b9,_⟩:=eS p.s;have⟨N,bc⟩:=eR (p.i);have⟨pn,be⟩:=eR (p.n);have⟨PA,aU⟩:=eR (p.A);have⟨pd,bb⟩:=eR (p.d.length);have⟨pc,ba⟩:=eR (p.c);unfold PX.cs at y;rw[bj,bc,be,aU,bb,ba]at y;have cG:wr.cell? ⟨g,off+j*4,none⟩=some (.int .i64 N):=y 0 qo;have z1:wr.cell? ⟨g,off+j*4+1,none⟩=some (.int .i64 pn):=y 1 qo;have z2:wr.cell? ⟨g,off+j*4+2,none⟩=some (.string sp):=y 2 qo;have z3:wr.cell? ⟨g,off+j*4+3,none⟩=some (.slice PA pd pc):=y 3 qo;have⟨v4,ce,cE,nb,aB⟩:=ir wr #[.int .i64 N,.int .i64 pn,.string sp,.slice PA pd pc] 53 wr.heap.size;have m:=Hd (An bd (An bc (An be (An aU (An bb (An ba (An bj b9)))))));have ax:=Hd (An ai (An aH aC));clear bN y ar bj b9 bc be aU bb ba bd ai aH aC cy b6
   go_upto_region 13 with fail
   try rw[ce]
   clear cG z1 z2 z3 cE;have⟨BP,bJ⟩:=eR (wr.heap.size);rw[bJ]at nb ⊢;have cn:=Hd nb;have cA:v4.cell? ⟨w.heap.size+1+1,7,none⟩=some (.slice A2 C K):=(HB.2.2.fr (ab.then (ax.1.then aB)) qs).c 7;have aT:=vR N b.ps A2 C K BP v4 (by have h:=ao.fr0 aB;rw[f.2.2.2.1,f.2.2.2.2.2]at h;exact h) f.2.2.2.2.1 (by have:=o.2.1.len;have:=f.2.2.2.2.1;omega) (nb.c 0) nb.lt;have⟨L,a4⟩:=eR (nU N b.ps 0);rw[a4]at aT;have cl:=Hd aT;have z:=Hd a4;have cp:=Hd aB;clear ce nb aB aT a4 ao bJ
   go_upto_region 14 with((go_at_call 76;(with_reducible refine cl.out.mono ?_);rintro e O ⟨rfl,bP⟩;have H5:=Hd bP;clear bP))
   clear cA;have aa:=ax.1.then (cp.then H5.out);have aF:=cn.fr H5.out qs
   by_cases a5:L<0
   ·have cK:decide ((0:Int)<=L)=false:=by simp;omega
    have bZ:=tE (by rw[z.out];exact a5);have co:=Hd bZ;have HSS:=Hd (λ(W:World) (hW:Fr [] O W)=>(aF.fr hW qs).c 0);have Q:=Hd aa;clear bZ aa aF a5;refine eW (λW=>Fr [] O W) qk qk ((Fq _ O).drew) ?_
    repeat(
     first
     | go_big_quiet_skip
     | (go_big_quiet_want;first|(go_big_quiet_op;go_big_quiet_on)|(apply Exists.intro;refine⟨λW hW=>?_,?_⟩;(· obtain ct:=HSS.out W hW;go_simp;first|done|with_reducible exact rfl|with_reducible exact⟨rfl,rfl⟩ );simp only[qq];go_big_quiet_on))
     )
    refine wpQuiet_nil ?_;intro Y au;have I:=Hd au;clear au
    go_wp2
    go_roundw
    case rel =>
     refine⟨j+1,qo,by go_num,Q.then I.out,λk p' M D q E hi=>?_⟩
     rcases Nat.lt_or_eq_of_le (Nat.le_of_lt_succ M)with h|rfl
     ·exact ax.2.1 k p' h D q E hi
     ·rw[m.1]at D
      injection D with D
      subst D;exact absurd (hi.symm.trans m.2.1) (co.out q E)
    case measure=>simp[intOf];omega
   ·have⟨F,q,al,V,bV⟩:=tF (x:=N) (ps:=b.ps) (j:=0) (by rw[z.out];omega)
    rw[z.out,Nat.zero_add]at al;subst al;have cL:F<C:=by have h:=(gV.1 V).1;rw[f.2.2.2.2.1]at h;exact h
    have cM:(F:Int)<(C:Int):=qo
    have cP:IntKind.i64.wrap (F:Int)=(F:Int):=by simp only[IntKind.wrap_i64];omega
    have ao:=o.2.1.pr.fr0 (R.then aa);have ar:Row O O.heap.size 4 A2 C (b.ps.flatMap PX.cs):=by have h:=ao.own.rd;unfold Rd at h;rw[f.2.2.2.1,f.2.2.2.2.1]at h;exact h
    obtain⟨H,oq,rfl,ak,bO⟩:=fK iP ar qo;have y:=bO F q V;have⟨sq,bk,bm,_⟩:=eS q.s;have⟨qi,bh⟩:=eR (q.i);have⟨qn,bi⟩:=eR (q.n);have⟨QA,aV⟩:=eR (q.A);have⟨cj,bg⟩:=eR (q.d.length);have⟨qc,bf⟩:=eR (q.c);unfold PX.cs at y;rw[bk,bh,bi,aV,bg,bf]at y;have u:=Hd (An V (An bV (An bh (An bi (An aV (An bg (An bf (An bk bm))))))))
    have bn:(sq.toList == sp.toList)=true ↔ p.s=q.s:=by
     rw[beq_iff_eq,ByteArray.toList_eq,ByteArray.toList_eq,bm,m.2.2.2.2.2.2.2];exact eq_comm
    have⟨cx,bM⟩:=eR ((sq.toList == sp.toList));rw[bM]at bn;have bz:=Hd bn
    have HSS:=Hd (λ(W:World) (hW:Fr [] O W)=>(show W.cell? ⟨BP,0,none⟩=some (.int .i64 N)/\W.cell? ⟨BP,1,none⟩=some (.int .i64 pn)/\W.cell? ⟨BP,2,none⟩=some (.string sp)/\W.cell? ⟨BP,3,none⟩=some (.slice PA pd pc)/\W.cell? ⟨w.heap.size+1+1,7,none⟩=some (.slice (some ⟨H,oq,none⟩) C K)/\W.cell? ⟨H,oq+F*4,none⟩=some (.int .i64 qi)/\W.cell? ⟨H,oq+F*4+1,none⟩=some (.int .i64 qn)/\W.cell? ⟨H,oq+F*4+2,none⟩=some (.string sq)/\W.cell? ⟨H,oq+F*4+3,none⟩=some (.slice QA cj qc)from by
     have h:=aF.fr hW qs;exact⟨h.c 0,h.c 1,h.c 2,h.c 3,(HB.2.2.fr (ab.then (aa.then hW)) qs).c 7,(hW.cell (p:=⟨H,_,none⟩) ak qs).trans (y 0 qo),(hW.cell (p:=⟨H,_,none⟩) ak qs).trans (y 1 qo),(hW.cell (p:=⟨H,_,none⟩) ak qs).trans (y 2 qo),(hW.cell (p:=⟨H,_,none⟩) ak qs).trans (y 3 qo)⟩))
    have Q:=Hd aa;clear V bV ao ar ak bO y bk bm bh bi aV bg bf bn aa aF a5;refine eW (λW=>Fr [] O W) qk qk ((Fq _ O).drew) ?_
    repeat(
     first
     | go_big_quiet_skip
     | (go_big_quiet_want;first|(go_big_quiet_op;go_big_quiet_on)|(apply Exists.intro;refine⟨λW hW=>?_,?_⟩;(· have⟨ct,cH,cI,cJ,cU,cQ,cR,cS,cT⟩:=HSS.out W hW;go_simp;first|done|with_reducible exact rfl|with_reducible exact⟨rfl,rfl⟩ );simp only[qq];go_big_quiet_on))
     )
    refine wpQuiet_nil ?_;intro Y au;have I:=Hd au;clear au;clear bM
    cases cx with
    | true =>
     have ap:=bz.1 rfl;have ay:=Hd ap;clear ap
     go_wp2
     go_roundw
     case rel =>
      refine⟨j+1,qo,by go_num,Q.then I.out,λk p' M D q' E hi=>?_⟩
      rcases Nat.lt_or_eq_of_le (Nat.le_of_lt_succ M)with h|rfl
      ·exact ax.2.1 k p' h D q' E hi
      ·rw[m.1]at D
       injection D with D
       subst D;obtain⟨l,hl,rfl⟩:=getElem_of_mem E;have S:=bv.uniq (gg hl) u.1 (hi.symm.trans (m.2.1.trans u.2.1.symm));rw[S];exact ay.out
     case measure=>simp[intOf];omega
    | false =>
     have ap:p.s≠q.s:=λh=>by
      have h2:=bz.2 h
      cases h2
     have ay:=Hd ap;clear ap
     go_upto_region 15 with fail
     have b4:=o.2.2.2.2.fr0 (R.then (Q.then I.out));have b5:=(o.1.pr.ds p (gH m.1)).fr (R.then (Q.then I.out)) (by simp);have b7:=(o.2.1.pr.ds q (gH u.1)).fr (R.then (Q.then I.out)) (by simp);have an:=o.1.each p (gH m.1);have a9:=o.2.1.each q (gH u.1);have⟨az,_,pa,_,bD⟩:=cm.each j p m.1;have⟨aA,_,qa,_,bG⟩:=bv.each F q u.1;have⟨cu,bE,_,bF⟩:=nO bD;have⟨cv,cw,_,bH⟩:=nO bG;have⟨J,aJ⟩:=vS bF;have⟨af,aK⟩:=vS bH;rw[f.1]at az;rw[f.2.1]at aA;have b8:q.i=p.i:=u.2.1.trans m.2.1.symm;rw[b8,aA]at af aK;rw[az]at bE J aJ;have am:r<=13:=by have:=an.n;omega
     have aS:=λ(W:World) (hW:Fr [] Y W)=>AB rt p.s q.s p.d q.d p.i.toNat r.toNat p.d.length p.A q.A p.c q.c W (b4.fr0 hW) (by omega) (by omega) an.d.1 J.symm rfl (af.trans J.symm) an.e a9.e (b5.fr hW (by simp)) (by have h:=b7.fr hW (by simp);rw[af.trans J.symm]at h;exact h) an.s a9.s (by rw[J];exact aJ) (by rw[J];exact aK) ay.out;rw[show ((p.i.toNat:Nat):Int)=N by rw[<-m.2.1];omega,show ((r.toNat:Nat):Int)=r by omega,m.2.2.2.2.2.2.1,u.2.2.2.2.2.2.2.1,m.2.2.2.1,m.2.2.2.2.2.1,u.2.2.2.2.1,u.2.2.2.2.2.2.1,m.2.2.2.2.1]at aS;have e1:pn=r:=by rw[<-m.2.2.1];exact az
     have e2:qn=r:=by rw[<-u.2.2.2.1];exact aA
     have e3:qi=N:=by rw[<-u.2.2.1];exact u.2.1
     have e4:cj=pd:=by rw[<-u.2.2.2.2.2.1,<-m.2.2.2.2.1];exact af.trans J.symm
     have ck:=Hd aS;have bA:=Hd (λ(W:World) (hW:Fr [] Y W)=>HSS.out W (I.then hW));subst e1 e2 e3 e4;clear aS b4 b5 b7 an a9 az bD cu bE bF J aJ aA bG cv cw bH af aK b8 am HSS;have HSS:=bA;clear bA;have hC:Fr [] Y Y.drew:=(Fq [] Y).drew;refine kj ?_;refine eU (λW=>Fr [] Y W) 12 (by kernel_rfl) ?_ (by decide)
     show fc 0 ..
     iterate 6 (refine gJ rfl ?_;try simp only[qq])
     refine hO (i:=6) rfl λcr hK=>?_;go_simp
     go_at_call 78
     (with_reducible refine(ck.out _ hC).mono ?_);rintro e X1 ⟨xx,yy,rfl,bQ,ci⟩;have S:=hC.then bQ;have cq:=Hd ci;refine hK _ _ S ?_;clear hK cr hC bQ ci
     try simp only[qq]
     have hC:=S
     show fc 7 ..
     iterate 5 (refine gJ rfl ?_;try simp only[qq])
     refine eV ⟨qk,?_⟩;simp only[qG,qH]
     go_wp2
     refine bodyPost_ret (v:=.tuple #[fg xx,fg yy,.bool true]) (by simp[results,results28,go_sem]) rfl ?_;exact⟨λ_=>⟨xx,yy,rfl,R.then (Q.then (I.then S)),cq.out⟩,λh=>absurd ⟨f.1.trans f.2.1.symm,o.2.2.1,o.2.2.2.1,p,gH m.1,q,gH u.1,m.2.1.trans u.2.1.symm,ay.out⟩ h⟩
  ·obtain rfl:j=B:=qo
   have bY:¬tc a.ps b.ps:=λ⟨p,hp,q,E,S,h2⟩=>by
    obtain⟨k,M,rfl⟩:=getElem_of_mem hp;exact h2 (aH k _ (by rw[<-f.2.2.1.2.1];exact M) (gg M) q E S)
   have bw:=Hd (An bY ai);clear bY ai aH
   go_wp2
   refine bodyPost_ret (v:=uQ) (by simp[results,results28,uQ,go_sem]) rfl ?_;exact⟨λh=>absurd h.2.2.2 bw.1,λ_=>⟨rfl,R.then bw.2⟩⟩
def CS(n c:Nat)(A:Option Addr)(xs:List Value)(w:World)(h:Rd w 32 A n xs)(s:∀u∈xs,u.oneCell'=true)(K:n<=1000000):Calls prog 73 #[.slice A n c] w λe w'=>∃A' c',e=.returned (.slice A' n c')/\Own w' 57 32 A' n c' xs/\Fr [] w w'/\∀k∈eX A',w.heap.size<=k:=by
 have o:=Lib.run_eql_slice_nil (P:=prog) w 51 57 A n c 0 0 underlying51
 cases A with
 | none =>
  have D:n=0:=by
   rcases Nat.eq_zero_or_pos n with d|d
   ·exact d
   ·have⟨b,off,e,_⟩:=h.2 d
    cases e
  subst D;have g:xs=[]:=by have:=h.1;simpa using this
  subst g;simp only[Option.isNone_none]at o
  go_enter func73,ntmps73
  go_wp2
  go_ret
  exact⟨none,0,rfl,Own.nil _ _ _,Fq _ _,by simp[eX]⟩
 | some a =>
  simp only[Option.isNone_some]at o;obtain⟨F,z,G,H,I⟩:=oC
  have v:∀j u,xs[j]?=some u->w.cell? (a.add j)=some u:=by
   intro j u i
   rcases Nat.eq_zero_or_pos n with d|d
   ·have:=h.1;rw[d]at this;have g:xs=[]:=by simpa using this
    subst g;simp at i
   ·have⟨b,off,e,J,t⟩:=h.2 d
    cases e
    rw[Addr.add_mid];exact t j u i
  have C:=h.1;have l:=Hd (An v (An s C))
  go_enter func73,ntmps73
  go_wp2_with (at_builtin;(with_reducible refine jN (w:=w.alloc (.cells #[] 57)) rfl (.tmp 5) (.tmp 6) 51 rfl 57 F _ 32 32 underlying51 z G H I rfl qd (some ⟨w.heap.size,0,none⟩) 0 0 [] rfl (Own.empty w _ _) a n c xs rfl l.out.2.2 (λj u i=>Lib.cell?_alloc_some _ (l.out.1 j u i)) l.out.2.1 (by unfold maxLen;omega) qo ?_);intro A2 r w2 f y E;have p:=Hd f;have m:=Hd y;have q:=Hd E)
  go_ret
  have f:=p.out;rw[nil_append]at f;have L:=m.size;refine⟨A2,r,rfl,by rw[Nat.zero_add]at f;exact f,((Fq [] w).alloc _).trans m.out (λx g=>.inr (by simp[eX]at g;omega)),λk B=>?_⟩
  rcases q.out k B with h|h
  ·simp[eX]at h;omega
  ·rw[jZ]at h;omega
def CT(w:World)(g c a i v:Nat)(xs vs:List Value)(h:Own w 53 4 (some ⟨g,0,none⟩) a c xs)(d:∀u∈xs,u.oneCell'=true)(l:RowL w v 53 vs)(m:vs.length=4)(f:∀u∈vs,u.oneCell'=true)(o:v≠g)(j:i<a)(k:a<=1000):
 Calls prog 75 #[.slice (some ⟨g,0,none⟩) a c,.int .i64 (i:Int),.slice (some ⟨v,0,none⟩) 1 1] w λe w'=>∃A' c',e=.returned (.slice (some A') (a+1) c')/\Own w' 53 4 (some A') (a+1) c' (xs.take (i*4)++vs++xs.drop (i*4))/\Fr [g] w w':=by
 rcases Nat.lt_or_ge c (a+1)with b|b
 ·exact vL w g c a i v xs vs h d l m f j k b
 ·refine(vK w g c a i v xs vs h d l m f o j k b).mono ?_
  rintro e w' ⟨rfl,p,n⟩;exact⟨_,_,rfl,p,n⟩
def zG(l:List PX):∀u∈l.flatMap PX.cs,u.oneCell'=true:=λu b=>by
 have⟨p,_,a⟩:=mem_flatMap.1 b;simp only[PX.cs,mem_cons,not_mem_nil,or_false]at a
 rcases a with rfl|rfl|rfl|rfl <;> rfl
def zH:∀(l:List PX),(l.flatMap PX.cs).length=l.length*4
 | []=>rfl
 | p::r=>by rw[flatMap_cons,gu,zH r,iP,length_cons];omega
def rC:∀(l:List PX) (k:Nat),(l.flatMap PX.cs).take (k*4)=(l.take k).flatMap PX.cs
 | [],k=>by simp
 | p::r,0=>by simp
 | p::r,k+1=>by
  rw[flatMap_cons,take_succ_cons,flatMap_cons,<-rC r k,take_append,take_of_length_le (by rw[iP];omega),iP,show (k+1)*4 - 4=k*4 by omega]
def rD:∀(l:List PX) (k:Nat),(l.flatMap PX.cs).drop (k*4)=(l.drop k).flatMap PX.cs
 | [],k=>by simp
 | p::r,0=>by simp
 | p::r,k+1=>by
  rw[flatMap_cons,qG,<-rD r k,drop_append,drop_of_length_le (by rw[iP];omega),iP,show (k+1)*4 - 4=k*4 by omega,nil_append]
structure CpP(p q:PX):Prop where
 i:p.i=q.i
 n:p.n=q.n
 s:p.s=q.s
 d:p.d=q.d
structure LPX(w:World)(A:Option Addr)(c:Nat)(l:List PX):Prop where
 pr:PrX w A c l
 dj:l.Pairwise λp q=>∀k∈eX p.A,k ∉ eX q.A
structure RX.tight(a:RX):Prop where
 pos:0<a.ps.length
 len:a.ps.length<=12
 each:∀p∈a.ps,(0<=p.i/\p.i<=12)/\p.n<=12
def CpL(ps l:List PX):Prop:=l.length=ps.length/\∀(j:Nat) (p q:PX),ps[j]?=some p->l[j]?=some q->CpP p q
def vU(a b:RX):Prop :=
 (∀q∈b.ps,∃p∈a.ps,p.i=q.i/\p.s=q.s) \/
 (b.ps.length=a.ps.length/\∃k,∀(j:Nat) (p q:PX),a.ps[j]?=some p->b.ps[j]?=some q->p.s=q.s/\(j≠k->p.i=q.i)) \/
 ((b.nm=a.nm/\b.so=a.so/\b.st=a.st/\b.P=a.P/\b.n=a.n/\b.ps.length=a.ps.length)/\∃k,∀(j:Nat) (p q:PX),a.ps[j]?=some p->b.ps[j]?=some q->p.i=q.i/\p.d=q.d/\(j≠k->p.s=q.s))
def Je(a:RX)(w:World)(e:Ending)(w':World):Prop:=∃b:RX,e=.returned b.v/\b.ok w'/\vU a b/\Fr [] w w'
def CpL.mem{ps l:List PX}(h:CpL ps l):∀q∈l,∃p∈ps,CpP p q:=λq b=>by
 obtain⟨j,a,rfl⟩:=getElem_of_mem b;exact⟨ps[j]'(by rw[<-h.1];exact a),getElem_mem _,h.2 j _ _ (gg _) (gg a)⟩
def CpP.ok{p q:PX}(h:CpP p q)(a:p.ok):q.ok:=⟨h.i ▸ a.i,h.n ▸ a.n,h.s ▸ a.s,h.d ▸ a.d,h.d ▸ a.e⟩
open Go.RowKit
def kn:∀ {xs:List Nm} {j:Nat} {x:Nm} {o:Nat},(∀y∈xs,y.length=32)->xs[j]?=some x->o<32->(xs.flatMap eO)[j*32+o]?=(eO x)[o]?
 | [],j,x,o,_,h,_=>by simp at h
 | y::r,0,x,o,hl,h,ho=>by
  simp at h;subst h
  rw[flatMap_cons,Nat.zero_mul,Nat.zero_add,List.getElem?_append_left (by rw[eP,hl y (by simp)];exact ho)]
 | y::r,j+1,x,o,hl,h,ho=>by
  rw[flatMap_cons,List.getElem?_append_right (by rw[eP,hl y (by simp),Nat.add_mul];omega),eP,hl y (by simp),show (j+1)*32+o - 32=j*32+o by rw[Nat.add_mul];omega];exact kn (λz hz=>hl z (by simp[hz])) (by simpa using h) ho
def nh(W:World){d:Nm}(hd:d.length=32):(binOp .neq 57 (.agg (eO d).toArray) (.agg (eO d).toArray)).run prog W=.ok (.bool false) W:=by
 rw[run_neq_struct,rP W hd];rfl
end Go.Proofs.YtlpmiimgacfmkaaGreatDoor
