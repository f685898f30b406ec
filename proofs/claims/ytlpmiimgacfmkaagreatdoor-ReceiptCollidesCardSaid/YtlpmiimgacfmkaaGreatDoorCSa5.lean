/- Part of the proof. -/
import Derived.Test.YtlpmiimgacfmkaaGreatDoorCTr1
set_option linter.all false
set_option maxHeartbeats 4000000
set_option maxRecDepth 100000
namespace Go.Proofs.YtlpmiimgacfmkaaGreatDoor
open Go.Proofs.Tryz List
open Go.RowKit Go.Shelf
def BX(W:World){r B:Nat}(o:Obj)(d:B<=r){w:World}(a:Fr [] w W)(c:w.heap.size<=B):Fr [] w (W.putObj r o) :=
 a.trans (T:=[r]) ⟨rfl,rfl,rfl,by simp[World.putObj],λk _ b=>World.putObj_heap_other (by simpa using b)⟩ (by simp;omega)
def oN{P:Program}{g:Operand}{ps:Array Tmp}{assign body:Code}{Q:Exit->Act->World->Prop}{a:Act}{w:World}{gf:Nat}{lb:Array Value}(hg:a.eval g=.func (.func gf) #[] lb)(eg:∀args w,(callFunc gf args).run P w=.ok (.enter gf args) w)
 (hc:∀W l,Fr [] w W->Calls P gf (#[.func (.yield l) #[] #[]]++lb) W λe W'=>(∃v,e=.returned v)/\W'=W)
 (hdone:∀(D:Nat) (W:World),w.heap.size<=D->Fr [] w W->W.heap[D]?=some (.deferred (some []))->Q .normal { a with defers:={ target:=.collected D,args:=#[] }::a.defers } W) :
 (Code.rangeFunc g ps assign body).wp P Q a w:=by
 refine(wpIn_wide (n:=1)).1 (wpIn_rangeFunc λfn hfn=>?_);obtain⟨rec,hrec⟩:∃rec:LoopState->Option Code->Loop,rec=λst pe=>{ state:=st,pending:=pe,fn,tmps:=a.tmps,params:=ps,assign,body,defers:=w.heap.size }:=⟨_,rfl⟩;have⟨W1,hW1⟩:=eR ((w.alloc (.deferred (some []))).alloc (.loop (rec .ready none)))
 have hL1:W1.heap[w.heap.size+1]?=some (.loop (rec .ready none)):=by
  rw[<-hW1];have:=World.alloc_heap_new (w.alloc (.deferred (some []))) (.loop (rec .ready none))
  rwa [jZ]at this
 have hK1:W1.heap[w.heap.size]?=some (.deferred (some [])):=by
  rw[<-hW1];exact(Below.heap_alloc _ _ _ (by simp)).trans (World.alloc_heap_new w _)
 have hf1:Fr [] w W1:=by rw[<-hW1];exact((Fq [] w).alloc _).alloc _
 refine⟨w.heap.size+1,[{ target:=.collected w.heap.size,args:=#[] }],W1,{ target:=.fn (.func gf) lb,args:=#[.func (.yield (w.heap.size+1)) #[] #[]] },W1,gf,#[.func (.yield (w.heap.size+1)) #[] #[]]++lb,W1,?_,?_,λ_ _=>trivial,?_,λ_=>fW 1,?_⟩
 ·rw[<-hW1,hrec];exact run_enterLoop_outer _ _ _ _ _
 ·simp only[resolve,hg]
  simp[go_sem]
 ·simp[invoke,go_sem,eg]
 ·refine(callsIn_wide.2 (hc W1 (w.heap.size+1) hf1)).mono ?_
  rintro e W2 ⟨⟨v,rfl⟩,rfl⟩;refine⟨none,_,by have:=run_endLoop (P:=P) hL1 (by rw[hrec];simp);rw[hrec]at this;exact this,?_⟩;exact hdone w.heap.size _ (fW _) (BX _ _ (Nat.le_succ _) hf1 (fW _)) ((World.putObj_heap_other (by omega)).trans hK1)
def BZ(w:World)(bs:Nm)(e:Ending)(w':World):Prop:=∃A c,e=.returned (.slice A bs.length c)/\Own w' 5 1 A bs.length c (eO bs)/\Fr [] w w'
def xo(b:Nat)(w:World)(h:StAt w b .nil):Calls prog 148 #[.pointer (some ⟨b,0,none⟩)] w (BZ w (gd 0)):=by
 refine(callsIn_wide (n:=5)).1 ?_;refine callsIn_of_wp_marks func148 rfl trivial ?_ rfl;simp only[ntmps148,size_toArray,length_cons,length_nil,Nat.reduceAdd,Nat.reduceSub,Array.replicate_succ,Array.replicate_zero,push_toArray,append_toArray,nil_append,cons_append];refine wpIn_wide.2 ?_
 go_upto_region 4 with((go_at_call 54;(with_reducible refine(jS _).mono ?_);rintro e a ⟨rfl,ai,E⟩))
 have H:=WrS.new ai;have⟨d,j⟩:=eR (a.alloc (.cells #[.pointer w.heap.size] 125));have p:BoxN d a.heap.size 125 #[.pointer w.heap.size]:=by rw[<-j];exact BoxN.new a _ _
 have I:WrS a w.heap.size [] d:=by rw[<-j];exact H.alloc _
 have af:Fr [] a d:=by rw[<-j];exact(Fq [] a).alloc _
 rw[j];have A:w.heap.size≠a.heap.size:=by have:=H.blt;omega
 generalize hZ:a.heap.size=aa at p A ⊢;have hN:=λ(W:World) (hW:Fr [] d W)=>kA (I.more hW I.blt) 0 qo qs;have hL:∀W,Fr [] d W->Calls prog 38 #[.pointer b] W λe w'=>e=.returned L0/\w'=W:=λW hW=>Ej b .nil W (h.fr0 (E.then (af.then hW)));have ah:∀W,Fr [] d W->W.cell? ⟨aa,0,none⟩=some (.pointer w.heap.size):=λW hW=>(p.fr hW qs).c 0;have HSS:=Hd (λW hW=>An (ah W hW) trivial);have U:=Hd hN;have T:=Hd hL;have S:=Hd h;have P:=Hd p;have L:=Hd E;refine jk (λW=>Fr [] d W) 3 qk qk ((Fq [] d).drew) ?_;simp only[take_succ_cons,take_zero,qG,qH]
 repeat(
  first
  | go_big_quiet_skip
  | (go_big_quiet_want;first|(go_big_quiet_op;go_big_quiet_on)|(apply Exists.intro;refine⟨λW hW=>?_,?_⟩;(· have⟨am,_⟩:=HSS.out W hW;go_simp;first|done|with_reducible exact rfl|with_reducible exact⟨rfl,rfl⟩|((go_at_call 38;(with_reducible refine(T.out W hW).mono ?_);rintro e w' ⟨rfl,rfl⟩;exact⟨rfl,hW⟩)));simp only[qq];go_big_quiet_on))
  )
 refine wpQuiet_nil ?_;intro Z z;have F:=U.out Z z;rw[show (((0:Nat)):Int)=0 from rfl]at F;have Y:=Hd F;have N:=Hd (P.fr z qs);have V:=Hd (λW=>callsIn_wide.1 (un 0 b W))
 go_wp2_with (first
  | (go_at_call 57;(with_reducible refine Y.out.mono ?_);rintro e g ⟨rfl,aj,ag⟩;have O:=Hd (ag _ _ _ qd A.symm N.out);have m:=Hd aj)
  | (go_at_call 96;(with_reducible refine(V.out _).mono ?_);rintro e x ⟨rfl,rfl⟩))
 have⟨x,v⟩:=eR (g.alloc (.cells #[.pointer b] 86));rw[v];have q:Fr [] g x:=by rw[<-v];exact(Fq [] g).alloc _
 have B:BoxN x g.heap.size 86 #[.pointer b]:=by rw[<-v];exact BoxN.new g _ _
 have r:=(L.trans m.fr qs).then q;have G:=S.fr0 r;have J:=m.more q m.blt;have ad:=O.fr q qs;refine oN rfl (enters_of func155 qk rfl) (lb:=#[.pointer g.heap.size]) ?_ ?_
 ·intro W l hW
  have x0:W.cell? ⟨g.heap.size,0,none⟩=some (.pointer b):=(B.fr hW qs).c 0;have x1:W.cell? ⟨b,0,none⟩=some (.pointer none):=(G.fr0 hW).1.c 0;have Q:=Hd (λf=>callsIn_wide.1 (qt 0 f W));clear B G
  go_enter func155,ntmps155
  go_wp2_with ((go_at_call 156;(with_reducible refine(Q.out _).mono ?_);rintro e w' ⟨rfl,rfl⟩))
  go_end0
  exact⟨⟨_,rfl⟩,rfl⟩
 ·intro D W hD hW hK
  have ae:=ad.fr hW qs;have x0:=ae.k0;have ak:=J.more hW J.blt;have M:=Hd (sD ak (by have:=fJ (u:=0) qo;simp only[nil_append];omega));have R:=Hd (r.then hW);have y:=Hd hK;have al:=r.size
  go_wp2_with ((go_at_call 58;(with_reducible refine M.out.mono ?_);rintro e K ⟨A',c',rfl,t,i,o⟩;have X:=Hd (An t (An i o))))
  have⟨t,i,o⟩:=X.out;have ab:=(Array.getElem?_eq_some_iff.1 y.out).1;have ac:=(i.block D ab qs).trans y.out;have C:Fr [D] K (K.putObj D (.deferred none)):=⟨rfl,rfl,rfl,by simp[World.putObj],λk _ s=>World.putObj_heap_other (by simpa using s)⟩;refine⟨qs,.inl ⟨_,_,rfl,run_takeDeferred ac,?_⟩⟩;refine⟨.slice A' (gd 0).length c',?_,A',c',rfl,?_,?_⟩
  ·simp[results,Tryz.f148,go_sem]
  ·have h:=t.fr C (by intro k s;have:=o k s;simp only[ip];omega)
   simpa only[nil_append]using h
  ·have hd:w.heap.size<=D:=qo
   exact(R.then i).trans (C) (by simp;omega)
def stD0:Nm:=j7 (gd 0)
def xp(b:Nat)(w:World)(H:Ok w)(F:StAt w b .nil):Calls prog 88 #[.pointer (some ⟨b,0,none⟩)] w (fN w stD0):=by
 have⟨j,i⟩:=eR (w.alloc (.cells (qP) 56));have h:Fr [] w j:=by rw[<-i];exact(Fq [] w).alloc _
 obtain⟨N,s⟩:∃f,j.rowIs w.heap.size 56 32 f:=by rw[<-i];exact⟨_,gi w _ _⟩
 have r:=Hd (xo b j (F.fr0 h));have a:=Hd (λ(W:World) (hW:Fr [] j W)=>oz (gd 0) W (H.fr0 (h.then hW)) (by have:=fJ (u:=0) qo;omega));have g:stD0.length=32:=fy _;have t:j7 (gd 0)=stD0:=rfl;rw[t]at a;generalize stD0=d at a g ⊢;have G:(eO d).length=32:=by rw[eP,g]
 generalize gd 0=M at r a;have E:=Hd i;have A:=Hd h;have D:=Hd s;clear i h s t
 go_enter func88,ntmps88
 go_upto_region 1 with fail
 rw[E.out]
 go_wp2_with (first
  | (go_at_call 148;(with_reducible refine r.out.mono ?_);rintro e w2 ⟨L,c,rfl,z,x⟩;have O:=eZ z.row 49 5 underlying49 underlying5 9 underlying9 c;have k:=Hd x;clear z x)
  | (go_at_call 29;(with_reducible refine(a.out _ k.out).mono ?_);rintro e J ⟨rfl,m⟩;unfold fo;have l:=eT (eT D.out k.out qs) m qs;have B:=Hd (k.then m);clear m;have I:=fj (d:=d) l g;have n:=fp (d:=d) l g;obtain⟨K,q⟩:∃X,J.setCells w.heap.size 0 (eO d)=X:=⟨_,rfl⟩;have y:Fr [] w K:=(by rw[<-q];exact((A.then B.out).setCells (.inr (fW _)) _ _));rw[q]at I n;have HRD:=Hd n.1;have C:=Hd y;clear q n y l))
 exact bodyPost_ret (v:=fo d) (fH (d:=.array 32 5) (p:=2) (ty:=56) (b:=w.heap.size) (o:=0) rfl rfl HRD.out qk rfl (by rw[G];rfl)) rfl ⟨rfl,C.out⟩
open Go.RowKit
section
variable {P:Program} {C:World->Prop} {K:Act->Prop} {o:Oper} {a:Act}
def sJ(ty:TypeId)(x:Operand)(i:o.op=.load ty x)(b off:Nat)(k:a.eval x=.pointer (some ⟨b,off,none⟩))(cs:List Value)(d:TypeDesc)(e:∀W,C W->W.rangeAt b off cs)
 (j:P.underlying ty=some d) (f:d.isRow=true) (g:(P.info? ty).map (·.size)=some cs.length) (h:K (a.put o.dst (.agg cs.toArray))):o.quiet P a C K :=
 ⟨_,λW hW=>by
  unfold Oper.quietAt execOp;simp only[i,k,Instr.loadAt,Instr.sureAddr,Sem.run_bind,Sem.run_pure,Result.andThen_ok,run_loadVar_mid W b off ty cs d (e W hW) j f g];exact⟨rfl,rfl⟩,h⟩
end
structure TreeIs(w:World)(b:Nat)(A:Option Addr)(c:Nat)(m:Option Nat)(ds:List Nm)(kvs:List (Value × Value)):Prop where
 box:BoxN w b 237 #[.slice A ds.length c,.map m]
 own:Own w 57 32 A ds.length c (ds.flatMap eO)
 len:∀d∈ds,d.length=32
 nb:b ∉ eX A
 mn:m=none->kvs=[]
 ms:∀r,m=some r->MapIs prog 270 w r kvs/\r≠b/\r ∉ eX A
def TreeAt(w:World)(b:Nat)(ds:List Nm)(kvs:List (Value × Value))(F:List Nat):Prop:=∃A c m,TreeIs w b A c m ds kvs/\F=b::(eX A++m.toList)
section
variable {w w':World} {b c:Nat} {A:Option Addr} {m:Option Nat} {ds:List Nm} {kvs:List (Value × Value)} {F S:List Nat}
def TreeIs.fr(h:TreeIs w b A c m ds kvs)(e:Fr S w w')(d:∀k∈b::(eX A++m.toList),k ∉ S):TreeIs w' b A c m ds kvs :=
 ⟨h.box.fr e (d b qs),h.own.fr e (λk g=>d k (by simp[g])),h.len,h.nb,h.mn,λr f=>⟨(h.ms r f).1.fr e (d r (by simp[f])),(h.ms r f).2⟩⟩
def TreeAt.fr(h:TreeAt w b ds kvs F)(f:Fr S w w')(e:∀k∈F,k ∉ S):TreeAt w' b ds kvs F:=by
 obtain⟨A,c,m,d,rfl⟩:=h;exact⟨A,c,m,d.fr f e,rfl⟩
def TreeAt.fr0(h:TreeAt w b ds kvs F)(d:Fr [] w w'):TreeAt w' b ds kvs F:=h.fr d qs
def xq{d:Nm}:∀ {ds:List Nm} {i:Nat},(∀d∈ds,d.length=32)->ds[i]?=some d->∀j v,(eO d)[j]?=some v->(ds.flatMap eO)[32*i+j]?=some v
 | [],i,_,h,_,_,_=>by simp at h
 | x::ds,0,f,h,j,v,e=>by
  obtain rfl:x=d:=by simpa using h
  rw[flatMap_cons,List.getElem?_append_left (by have:=(gV.1 e).1;omega),Nat.mul_zero,Nat.zero_add]
  exact e
 | x::ds,i+1,f,h,j,v,e=>by
  have g:(eO x).length=32:=by rw[eP,f x qs]
  rw[flatMap_cons,List.getElem?_append_right qo,g,show 32*(i+1)+j - 32=32*i+j by omega];exact xq (i:=i) (λy k=>f y (by simp[k])) (by simpa using h) j v e
def TreeIs.leaf(h:TreeIs w b A c m ds kvs){i:Nat}{d:Nm}(f:ds[i]?=some d):∃g,A=some ⟨g,0,none⟩/\w.rangeAt g (i*32) (eO d)/\g<w.heap.size:=by
 have n:=(gV.1 f).1;have⟨g,k,e⟩:=Cs.of_own h.own qo;refine⟨g,k,λj v l=>?_,e.1⟩;have:=e.2 _ _ (xq (i:=i) h.len f j v l);rw[Nat.mul_comm]at this;exact this
end
def tm(b i:Nat)(ds:List Nm)(kvs:List (Value × Value))(F:List Nat)(d:Nm)(w:World)(Y:TreeAt w b ds kvs F)(y:ds[i]?=some d):Calls prog 149 #[.pointer (some ⟨b,0,none⟩),jf 0 (i:Int)] w (fN w d):=by
 obtain⟨A,c,m,l,rfl⟩:=Y;obtain⟨g,rfl,N,O⟩:=l.leaf y;have Z:=(gV.1 y).1;have z:=l.len d (gH y);have H:(eO d).length=32:=by rw[eP,z]
 have⟨n,aa⟩:=eR (ds.length);have x:=l.box;rw[aa]at x Z;have⟨e,h⟩:=eR (w.alloc (.cells #[L0,i] 270));have⟨w2,k⟩:=eR (e.alloc (.cells (qP) 57));have ab:e.heap.size=w.heap.size+1:=by rw[<-h,jZ]
 have I:Fr [] w e:=by rw[<-h];exact(Fq [] w).alloc _
 have J:Fr [] e w2:=by rw[<-k];exact(Fq [] e).alloc _
 have B:BoxN w2 w.heap.size 270 #[L0,i]:=by rw[<-k,<-h];exact(BoxN.new w _ _).alloc _
 obtain⟨fR,t⟩:∃f,w2.rowIs e.heap.size 57 32 f:=by rw[<-k];exact⟨_,gi e _ _⟩
 rw[ab]at t;have q:=I.then J;have Q:∀W,Fr [] w2 W->W.cell? ⟨w.heap.size,1,none⟩=some i/\W.cell? ⟨b,0,none⟩=some (.slice g n c):=λW hW=>⟨(B.fr hW qs).c 1,((x.fr q qs).fr hW qs).c 0⟩;have G:=Hd (λ(W:World) (hW:Fr [] w2 W)=>(show W.rangeAt g (i*32) (eO d)from λj v hv=>((q.then hW).fcell O qs _).trans (N j v hv)));have x0:=B.k0;have HSS:=Hd Q;have r:=Hd t;have R:=Hd q;have V:=Hd h;have X:=Hd k;have ad:(i:Int)<(n:Int):=qo
 clear Q t q h k B x N O I J l;unfold jf
 go_enter func149,ntmps149
 go_upto_region 1 with fail
 rw[V.out,X.out]
 go_upto_region 2 with fail
 refine jk (λW=>Fr [] w2 W) 8 qk qk ((Fq [] w2).drew) ?_;simp only[take_succ_cons,take_zero,qG,qH]
 repeat(
  first
  | go_big_quiet_skip
  | (go_big_quiet_want;first|(go_big_quiet_op;go_big_quiet_on)|(apply Exists.intro;refine⟨λW hW=>?_,?_⟩;(· have⟨ae,z1⟩:=HSS.out W hW;go_simp;first|done|with_reducible exact rfl|with_reducible exact⟨rfl,rfl⟩ );simp only[qq];go_big_quiet_on))
  )
 go_big_quiet_want
 refine sJ 57 (.tmp 14) rfl g (i*32) rfl (eO d) (.array 32 5) G.out qk rfl (by rw[H];kernel_rfl) ?_;simp only[Act.put,qA,qB,qC]
 go_big_quiet_on
 refine wpQuiet_nil ?_;intro s u;have ac:=fj (d:=d) (eT r.out u qs) (z);have D:=fp (d:=d) (eT r.out u qs) (z);have⟨w4,E⟩:=eR ((s).setCells (w.heap.size+1) 0 (eO (d)));have M:Fr [w.heap.size+1] s w4:=by rw[<-E];exact(Fq [w.heap.size+1] (s)).setCells (.inl qs) _ _
 rw[E]at ac D;clear E;have L:=(R.then u).trans M qs;have U:=Hd D.1;have T:=Hd L;clear D L M HSS G r
 go_wp2
 exact bodyPost_ret (v:=fo d) (fH (d:=.array 32 5) (p:=4) (ty:=57) (b:=w.heap.size+1) (o:=0) rfl rfl U.out qk rfl (by rw[H];rfl)) rfl ⟨rfl,T.out⟩
def tp(b:Nat)(l i:Int)(ds:List Nm)(kvs:List (Value × Value))(F:List Nat)(d:Nm)(w:World)(X:TreeAt w b ds kvs F)(Z:∃k,keyOf prog 270 (jf l i)=some k)(q:(jf l i,fo d)∈kvs)(E:l≠0)(z:d.length=32):Calls prog 149 #[.pointer (some ⟨b,0,none⟩),jf l i] w (fN w d):=by
 obtain⟨A,c,m,j,rfl⟩:=X;obtain⟨kl,M⟩:=Z;have ac:(l == 0)=false:=by simpa using E
 have Y:(eO d).length=32:=by rw[eP,z]
 cases m with
 | none=>rw[j.mn rfl]at q;simp at q
 | some r =>
  have G:=j.box;have⟨N,_⟩:=j.ms r rfl;have⟨e,g⟩:=eR (w.alloc (.cells #[l,i] 270));have⟨w2,h⟩:=eR (e.alloc (.cells (qP) 57));have aa:e.heap.size=w.heap.size+1:=by rw[<-g,jZ]
  have H:Fr [] w e:=by rw[<-g];exact(Fq [] w).alloc _
  have I:Fr [] e w2:=by rw[<-h];exact(Fq [] e).alloc _
  have s:BoxN w2 w.heap.size 270 #[l,i]:=by rw[<-h,<-g];exact(BoxN.new w _ _).alloc _
  obtain⟨fR,x⟩:∃f,w2.rowIs e.heap.size 57 32 f:=by rw[<-h];exact⟨_,gi e _ _⟩
  rw[aa]at x;have n:=H.then I;have O:∀W,Fr [] w2 W->W.cell? ⟨w.heap.size,0,none⟩=some l/\W.cell? ⟨w.heap.size,1,none⟩=some i/\W.cell? ⟨b,1,none⟩=some (.map (some r))/\(Instr.lookup 235 (.map (some r)) (.agg #[l,i]) false).run prog W=.ok (.agg (eO d).toArray) W:=λW hW=>⟨(s.fr hW qs).c 0,(s.fr hW qs).c 1,((G.fr n qs).fr hW qs).c 1,(N.fr (n.then hW) qs).look_some wM underlying235 M q false⟩;have x0:=s.k0;have HSS:=Hd O;have t:=Hd x;have Q:=Hd n;have U:=Hd g;have V:=Hd h;clear O x n g h s G H I j N M q E;unfold jf
  go_enter func149,ntmps149
  go_upto_region 1 with fail
  rw[U.out,V.out]
  go_upto_region 3 with fail
  refine jk (λW=>Fr [] w2 W) 6 qk qk ((Fq [] w2).drew) ?_;simp only[take_succ_cons,take_zero,qG,qH]
  repeat(
   first
   | go_big_quiet_skip
   | (go_big_quiet_want;first|(go_big_quiet_op;go_big_quiet_on)|(apply Exists.intro;refine⟨λW hW=>?_,?_⟩;(· have⟨ad,z1,z2,z3⟩:=HSS.out W hW;go_simp;first|done|with_reducible exact rfl|with_reducible exact⟨rfl,rfl⟩ );simp only[qq];go_big_quiet_on))
   )
  refine wpQuiet_nil ?_;intro u y;have ab:=fj (d:=d) (eT t.out y qs) (z);have B:=fp (d:=d) (eT t.out y qs) (z);have⟨w4,D⟩:=eR ((u).setCells (w.heap.size+1) 0 (eO (d)));have L:Fr [w.heap.size+1] u w4:=by rw[<-D];exact(Fq [w.heap.size+1] (u)).setCells (.inl qs) _ _
  rw[D]at ab B;clear D;have J:=(Q.then y).trans L qs;have T:=Hd B.1;have R:=Hd J;clear B J L HSS t
  go_wp2
  exact bodyPost_ret (v:=fo d) (fH (d:=.array 32 5) (p:=4) (ty:=57) (b:=w.heap.size+1) (o:=0) rfl rfl T.out qk rfl (by rw[Y];rfl)) rfl ⟨rfl,R.out⟩
def PartIs(ds:List Nm)(kvs:List (Value × Value))(l i:Nat)(d:Nm):Prop :=
 d.length=32/\((l=0/\ds[i]?=some d) \/ (l≠0/\(jf (l:Int) (i:Int),fo d)∈kvs/\∃k,keyOf prog 270 (jf (l:Int) (i:Int))=some k))
def lG(b l i:Nat)(ds:List Nm)(kvs:List (Value × Value))(F:List Nat)(d:Nm)(w:World)(h:TreeAt w b ds kvs F)(k:PartIs ds kvs l i d):Calls prog 149 #[.pointer (some ⟨b,0,none⟩),jf (l:Int) (i:Int)] w (fN w d):=by
 rcases k with⟨e,⟨rfl,f⟩|⟨n,j,g⟩⟩
 ·exact tm b i ds kvs F d w h f
 ·exact tp b l i ds kvs F d w h g j qo e
def Eg(w:World)(t:Nm)(e:Ending)(w':World):Prop:=e=.returned (.tuple #[fg t,.int .i64 0])/\Fr [] w w'
def JR(w:World)(c:UInt8)(a:List Nm)(n:Nat)(v i:Value)(W:World):Prop :=
 ∃(j:Nat) (A':Option Addr) (c':Nat),j<=n/\i=.int .i64 (j:Int)/\v=.slice A' (2+gS (a.take j)) c'/\Own W 5 1 A' (2+gS (a.take j)) c' (eO ([c,UInt8.ofNat n]++kf (a.take j)))/\Fr [] w W/\∀b∈eX A',w.heap.size<=b
def oO(d:UInt8)(J:Option Addr)(n c:Nat)(a:List Nm)(w:World)(aE:n<=255)(hr:Row w w.heap.size 1 J n (a.map fg))(hL:gS a<=1099511627776):
 Calls prog 143 #[.int .u8 (d.toNat:Int),.slice J n c] w (Eg w (gB d a)):=by
 have aw:a.length=n:=by have:=hr.1;simpa using this
 have Q:=Hd hr;have D:=Hd aw
 go_enter func143,ntmps143
 go_wp2
 go_loop [6,18] (λs i=>∃k:Nat,k<=n/\i=k/\s=((2+gS (a.take k):Nat):Int)) (λ_ i=>n - (intOf i).toNat)
 case atStart=>exact⟨0,Nat.zero_le _,rfl,rfl⟩
 case round =>
  obtain⟨k,hk,rfl,rfl⟩:=hrel
  by_cases ax:k<n
  ·obtain⟨b,off,p,s,rfl,g,m,hs,H,v,G⟩:=Q.str ax
   have u:=su m;have ac:=sw a (k+1);have E:=Hd u;have q:=Hd v;have hz:s.size<=1099511627776:=qo
   have az:gS (a.take k)<=1099511627776:=qo
   have aC:(k:Int)<(n:Int):=qo
   go_wp2
   go_round
   case rel=>exact⟨k+1,qo,by go_num,by rw[E.out,<-q.out];go_num⟩
   case measure=>simp[intOf];omega
  ·obtain rfl:k=n:=qo
   have I:=take_of_length_le (by rw[D.out];exact fW _);rw[I];have⟨C,hC⟩:=eR (2+gS a);rw[hC];have HC:=Hd hC
   obtain⟨y,t,z,A,B⟩:=oB
   go_wp2_with (first
    | ((with_reducible refine wpList_make_own w rfl (.const (.int .i64 0)) (.tmp 28) 49 rfl 0 5 y (.int .u8 0) 1 underlying49 t z A .i64 .i64 (C:Int) C rfl rfl rfl (by rw[B];omega) (by unfold maxLen;omega) (Nat.zero_le _) ?_);intro S ad ab;have R:Own S 5 1 (some ⟨w.heap.size,0,none⟩) 0 C (eO []):=ad;have ai:=Hd R;have L:=Hd ((Fq [] w).grown ab qs);clear ad ab R)
    | (at_builtin;(with_reducible refine fC (w:=S) rfl (.tmp 30) (.tmp 35) 49 rfl 5 y (.int .u8 0) 1 1 underlying49 t z A B rfl qd (some ⟨w.heap.size,0,none⟩) 0 C (eO []) rfl ai.out 2 2 [.int .u8 (d.toNat:Int),.int .u8 (k:Int)] 5 rfl rfl (by simp[Value.oneCell']) (by unfold maxLen;omega) qo ?_);intro A2 T W2 Z W s2;have aj:=Hd Z;have F2:=Hd (L.trans W (by simp[eX]));have HS2:=Hd s2;clear Z W s2))
   have au:JR w d a k (.slice A2 2 T) (.int .i64 0) W2:=⟨0,A2,T,qo,rfl,rfl,(by
    have h:=aj.out
    have e:eO []++[Value.int .u8 (d.toNat:Int),Value.int .u8 (k:Int)]=eO ([d,UInt8.ofNat k]++kf (a.take 0)):=by
     simp[eO,kf];omega
    rw[e]at h
    exact h),F2.out,λb g=>by
     rcases HS2.out b g with h|h
     ·simp[eX]at h;omega
     ·have:=L.size;omega⟩
   have ah:=Hd au
   go_loopw [9,39] (JR w d a k) (λ_ i _=>k - (intOf i).toNat)
   case atStart=>exact ah.out
   case round =>
    obtain⟨j,A3,U,hj,rfl,rfl,l,r,g⟩:=hrel
    by_cases ay:j<k
    ·obtain⟨b,off,p,s,rfl,ar,m,hs,H,v,G⟩:=Q.str ay
     have aB:=(r.cell (p:=⟨b,off+j,none⟩) ar qs).trans G;have u:=su m;have ae:=yG m;have ac:=sw a (j+1);have hz:s.size<=1099511627776:=qo
     have az:gS (a.take j)<=1099511627776:=qo
     have⟨N,F⟩:=eR (2+gS (a.take j));have aA:N<=1099511627780:=qo
     rw[F]at l ⊢;have HN:=Hd F;have E:=Hd u;have aq:=Hd ae;have q:=Hd v;have ap:=Hd H;have am:=Hd l;have o:=Hd r;have O:=Hd g;have aD:(j:Int)<(k:Int):=qo
     clear u ae m hs H v ac G l r g F
     go_wp2_with (first
      | (at_builtin;(with_reducible refine fC (w:=wr) rfl (.tmp 45) (.tmp 57) 49 rfl 5 y (.int .u8 0) 1 1 underlying49 t z A B rfl qd A3 N U _ rfl am.out 4 4 [.int .u8 ((s.size:Int) / 16777216 % 256),.int .u8 ((s.size:Int) / 65536 % 256),.int .u8 ((s.size:Int) / 256 % 256),.int .u8 ((s.size:Int) % 256)] 5 rfl rfl (by simp[Value.oneCell']) (by unfold maxLen;omega) qo ?_);intro K c4 W4 h4 X s4;have ak:=Hd h4;have M:=Hd (o.trans X (λx f=>.inr (O.out x f)));have an:=Hd s4;clear h4 X s4)
      | (at_builtin;(with_reducible refine me (w:=W4) rfl (.tmp 59) (.tmp 60) 49 9 rfl 5 y underlying49 underlying9 t z A B K (N+4) c4 _ rfl ak.out s rfl (by unfold maxLen;omega) qo ?_);intro A5 c5 W5 h5 Y s5;have al:=Hd h5;have ao:=Hd s5;have ag:=Hd Y;clear h5 Y s5))
     go_roundw
     case rel =>
      have af:∀x∈eX K,w.heap.size<=x:=λx f=>by
       rcases an.out x f with h|h
       ·exact O.out x h
       ·have:=o.size;omega
      have V:N+4+s.size=2+gS (a.take (j+1)):=by have:=HN.out;have:=E.out;have:=q.out;omega
      refine⟨j+1,A5,c5,qo,by go_num,by rw[V],?_,M.trans ag.out (λx f=>.inr (af x f)),λx f=>?_⟩
      ·have h:=al.out
       rw[V]at h
       have e:eO ([d,UInt8.ofNat k]++kf (a.take j))++[Value.int .u8 ((s.size:Int) / 16777216 % 256),.int .u8 ((s.size:Int) / 65536 % 256),.int .u8 ((s.size:Int) / 256 % 256),.int .u8 ((s.size:Int) % 256)]++eO s.data.toList=eO ([d,UInt8.ofNat k]++kf (a.take (j+1))):=by
        rw[aq.out,<-Bn,<-ij,<-ij,ap.out,q.out,append_assoc,append_assoc]
       rw[e]at h;exact h
      ·rcases ao.out x f with h|h
       ·exact af x h
       ·have:=M.size;omega
     case measure=>simp[intOf];omega
    ·obtain rfl:j=k:=qo
     have I:=take_of_length_le (by rw[D.out];exact fW _);rw[I]at l ⊢;have aa:=eZ (P:=prog) l.row 49 5 underlying49 underlying5 9 underlying9 U;have av:[d,UInt8.ofNat j]++kf a=gB d a:=by unfold gB;rw[D.out]
     rw[av]at aa;have o:=Hd r;rw[HC.out]at aa ⊢
     go_wp2
     go_ret2
     exact⟨rfl,o.out⟩
def iM{P:Program}{c:Func}{p u:Tmp}{ty:TypeId}{a:Array Value}{w:World}{b o:Nat}{cs:List Value}{d:TypeDesc}{v:Value}(h:c.results=#[.cell p ty,.tmp u])(i:a.getD p undef=.pointer (some ⟨b,o,none⟩))(l:a.getD u undef=v)(e:w.rangeAt b o cs)(k:P.underlying ty=some d)(f:d.isRow=true)(g:(P.info? ty).map (·.size)=some cs.length):
 (results c a).run P w=.ok (.tuple #[.agg cs.toArray,v]) w:=by
 have j:a[p]?.getD undef=.pointer (some ⟨b,o,none⟩):=by rw[<-Array.getD_eq_getD_getElem?];exact i
 have m:a[u]?.getD undef=v:=by rw[<-Array.getD_eq_getD_getElem?];exact l
 simp only[results,h];simp[Sem.run_bind,Result.andThen,j,m,asAddr,run_loadVar_mid w b o ty cs d e k f g]
def iW(w:World):∃f,(w.alloc (.cells #[.int .u8 0,.int .u8 0,.int .u8 0,.int .u8 0,.int .u8 0,.int .u8 0,.int .u8 0,.int .u8 0,.int .u8 0,.int .u8 0,.int .u8 0,.int .u8 0,.int .u8 0,.int .u8 0,.int .u8 0,.int .u8 0,.int .u8 0,.int .u8 0,.int .u8 0,.int .u8 0,.int .u8 0,.int .u8 0,.int .u8 0,.int .u8 0,.int .u8 0,.int .u8 0,.int .u8 0,.int .u8 0,.int .u8 0,.int .u8 0,.int .u8 0,.int .u8 0] 57)).rowIs w.heap.size 57 32 f:=⟨_,gi w _ _⟩
def qZ(w:World)(d:Nm)(e:Ending)(w':World):Prop:=e=.returned (.tuple #[fo d,.int .i64 0])/\Fr [] w w'
def lH(g:UInt8)(A:Option Addr)(n c:Nat)(a:List Nm)(w:World)(O:Ok w)(N:n<=255)(y:Row w w.heap.size 1 A n (a.map fg))(M:gS a<=1099511627776):
 Calls prog 151 #[.int .u8 (g.toNat:Int),.slice A n c] w (qZ w (j7 (gB g a))):=by
 have⟨k,i⟩:=eR (w.alloc (.cells qP 57));obtain⟨S,q⟩:∃f,k.rowIs w.heap.size 57 32 f:=by rw[<-i];exact iW w
 have h:Fr [] w k:=by rw[<-i];exact(Fq [] w).alloc _
 have z:=(y.fr h (fW _) qs).more h.size;have x:(gB g a).length<=1152921504606846976:=by unfold gB;rw[gu,mJ];simp;omega
 have K:=Hd i;have G:=Hd q;have D:=Hd h;have H:=Hd z;have F:=Hd x;clear i q h z y x
 go_enter func151,ntmps151
 go_wp2_with fail
 rw[K.out];refine(oO g A n c a k N H.out M).mono ?_;rintro e w2 ⟨rfl,j⟩;have r:=eT G.out j qs;have m:=D.out.then j;have I:=Hd r;have l:=Hd m;clear j r m
 go_wp2_with fail
 refine(oz (gB g a) w2 (O.fr0 l.out) F.out).mono ?_;rintro e Q ⟨rfl,t⟩;have s:=eT I.out t qs;have P:=fj (d:=j7 (gB g a)) s (fy _);have B:=fp (d:=j7 (gB g a)) s (fy _);obtain⟨R,C⟩:=eR ((Q).setCells w.heap.size 0 (eO (j7 (gB g a))));have L:Fr [] w R:=by rw[<-C];exact(l.out.then t).setCells (.inr (fW _)) _ _
 rw[C]at P B;have J:=Hd B.1;have E:=Hd L;unfold fo
 go_wp2
 exact bodyPost_ret (v:=.tuple #[fo (j7 (gB g a)),L0]) (iM (d:=.array 32 5) (p:=4) (u:=5) (ty:=57) (b:=w.heap.size) (o:=0) rfl rfl rfl J.out qk rfl (by rw[eP,fy];rfl)) rfl ⟨rfl,E.out⟩
def gZ(s:Nm):Nm:=j7 (gB 0 [s])
def iO(l r:Nm):Nm:=j7 (gB 1 [l,r])
def oP(s:Nm)(w:World)(ag:Ok w)(hs:s.length<=1099511627000):Calls prog 90 #[fg s] w (fN w (gZ s)):=by
 have⟨X,F,_,_⟩:=eS s;have⟨g,h⟩:=eR (w.alloc (.cells qP 57));obtain⟨n,Q⟩:∃f,g.rowIs w.heap.size 57 32 f:=by rw[<-h];exact iW w
 have L:Fr [] w g:=by rw[<-h];exact(Fq [] w).alloc _
 have⟨w2,i⟩:=eR (g.alloc (.cells #[X] 9));have R:w2.rowIs w.heap.size 57 32 n:=by rw[<-i];exact Q.alloc _
 have M:Fr [] w w2:=by rw[<-i];exact L.alloc _
 have C:Row w2 w2.heap.size 1 (some ⟨g.heap.size,0,none⟩) 1 ([s].map fg):=by
  rw[<-i];refine⟨qs,λ_=>⟨_,0,rfl,qs,λj u hu=>?_⟩⟩;have:=jK g [X] 9 j u (by rw[<-F];simpa using hu);rw[fV]at this;rw[Nat.zero_add];exact this
 have V:g.heap.size=w.heap.size+1:=by rw[<-h,jZ]
 rw[V]at C;have ae:=Hd h;have af:=Hd i;have ac:=Hd R;have I:=Hd M;have ab:=Hd C;rw[F];clear h Q L i R M C F V
 go_enter func90,ntmps90
 go_wp2_with fail
 rw[ae.out,af.out];have y:=lH 0 _ 1 1 [s] w2 (ag.fr0 I.out) qo ab.out (by simp[gS];omega);rw[show (((0:UInt8).toNat:Nat):Int)=0 from rfl]at y;(with_reducible refine y.mono ?_);clear y;rintro e a ⟨rfl,A⟩;have U:(j7 (gB 0 [s]))=gZ s:=rfl;rw[U];have B:(gZ s).length=32:=fy _;clear U;obtain⟨d,z⟩:=eR (gZ s);rw[z]at B ⊢;have c:=Hd B;have Y:=Hd z;clear B z;have t:=eT ac.out A qs;have r:=I.out.then A;obtain⟨m,k⟩:=eR (a.alloc (.cells qP 57));obtain⟨fD,q⟩:∃f,m.rowIs a.heap.size 57 32 f:=by rw[<-k];exact iW a
 have S:m.rowIs w.heap.size 57 32 n:=by rw[<-k];exact t.alloc _
 have N:Fr [] w m:=by rw[<-k];exact r.alloc _
 have J:w.heap.size≠a.heap.size:=by have:=t.lt;omega
 have K:w.heap.size<=a.heap.size:=r.size;have W:=fj (d:=d) q (c.out);have⟨H,l⟩:=eR (m.setCells a.heap.size 0 (eO (d)));have D:=fp (d:=d) q (c.out);have x:H.rowIs w.heap.size 57 32 n:=by rw[<-l];exact rowIs_setCells_other J _ _ _ S
 have O:Fr [] w H:=by rw[<-l];exact N.setCells (.inr K) _ _
 rw[l]at W D;rw[<-k]at W;have ah:=fj (d:=d) x (c.out);have E:=fp (d:=d) x (c.out);have⟨w6,G⟩:=eR (H.setCells w.heap.size 0 (eO (d)));have P:Fr [] w w6:=by rw[<-G];exact O.setCells (.inr (fW _)) _ _
 rw[G]at ah E;have Z:=Hd D.1;have ad:=Hd E.1;have aa:=Hd P;clear t r q S N k l G D E x O P A J K;unfold fo;have T:(eO d).length=32:=by rw[eP,c.out]
 have ai:(eO d).toArray.size=32:=by rw[iV,c.out]
 go_wp2_with (first
  | (with_reducible refine wpList_load_mid rfl 57 (.tmp 3) rfl a.heap.size 0 rfl (eO d) (.array 32 5) Z.out qk rfl (by rw[T];kernel_rfl) ?_))
 exact bodyPost_ret (v:=fo d) (fH (d:=.array 32 5) (p:=2) (ty:=57) (b:=w.heap.size) (o:=0) rfl rfl ad.out qk rfl (by rw[T];rfl)) rfl ⟨by rw[Y.out],aa.out⟩
end Go.Proofs.YtlpmiimgacfmkaaGreatDoor
