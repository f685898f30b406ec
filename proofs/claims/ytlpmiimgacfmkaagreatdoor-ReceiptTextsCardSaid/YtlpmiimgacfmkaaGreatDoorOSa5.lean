/- state: Encode, Digest at the empty state; a range over a function that yields nothing. -/
import Derived.LoopTactic
import Derived.Deep.RegionHeld3
import Derived.Deep.Cut
import Derived.Test.YtlpmiimgacfmkaaGreatDoorOGi
import Derived.Test.YtlpmiimgacfmkaaGreatDoorOWr4
import Derived.Test.YtlpmiimgacfmkaaGreatDoorOHsh2
set_option linter.all false
namespace Go.Proofs.YtlpmiimgacfmkaaGreatDoor
set_option maxRecDepth 100000
set_option maxHeartbeats 4000000
open Go.Proofs.Tryz
open Go.RowKit Go.Shelf
theorem putObj_fr (W:World) {r B:Nat} (o:Obj) (d:B<=r) {w:World} (a:Fr [] w W) (c:w.heap.size<=B):Fr [] w (W.putObj r o) :=
 a.trans (T:=[r]) ⟨rfl,rfl,rfl,by simp[World.putObj],fun k _ b=>World.putObj_heap_other (by simpa using b)⟩ (by simp;omega)
theorem wp_rangeFunc_none {P:Program} {g:Operand} {ps:Array Tmp} {assign body:Code} {Q:Exit->Act->World->Prop} {a:Act} {w:World} {gf:Nat} {lb:Array Value} (hg:a.eval g=.func (.func gf) #[] lb) (eg:∀ args w,(callFunc gf args).run P w=.ok (.enter gf args) w)
 (hc:∀ W l,Fr [] w W->Calls P gf (#[.func (.yield l) #[] #[]]++lb) W fun e W'=>(∃ v,e=.returned v)/\W'=W)
 (hdone:∀ (D:Nat) (W:World),w.heap.size<=D->Fr [] w W->W.heap[D]?=some (.deferred (some []))->Q .normal { a with defers:={ target:=.collected D,args:=#[] }::a.defers } W) :
 (Code.rangeFunc g ps assign body).wp P Q a w:=by
 refine (wpIn_wide (n:=1)).1 (wpIn_rangeFunc fun fn hfn=>?_);obtain⟨rec,hrec⟩:∃ rec:LoopState->Option Code->Loop,rec=fun st pe=>{ state:=st,pending:=pe,fn,tmps:=a.tmps,params:=ps,assign,body,defers:=w.heap.size }:=⟨_,rfl⟩;obtain⟨W1,hW1⟩:=nmd ((w.alloc (.deferred (some []))).alloc (.loop (rec .ready none)))
 have hL1:W1.heap[w.heap.size+1]?=some (.loop (rec .ready none)):=by
  rw[<-hW1];have:=World.alloc_heap_new (w.alloc (.deferred (some []))) (.loop (rec .ready none))
  rwa [wsA] at this
 have hK1:W1.heap[w.heap.size]?=some (.deferred (some [])):=by
  rw[<-hW1];exact (Below.heap_alloc _ _ _ (by simp)).trans (World.alloc_heap_new w _)
 have hf1:Fr [] w W1:=by rw[<-hW1];exact ((Fq [] w).alloc _).alloc _
 refine⟨w.heap.size+1,[{ target:=.collected w.heap.size,args:=#[] }],W1,{ target:=.fn (.func gf) lb,args:=#[.func (.yield (w.heap.size+1)) #[] #[]] },W1,gf,#[.func (.yield (w.heap.size+1)) #[] #[]]++lb,W1,?_,?_,fun _ _=>trivial,?_,fun _=>nlr 1,?_⟩
 ·rw[<-hW1,hrec];exact run_enterLoop_outer _ _ _ _ _
 ·simp only[resolve,hg]
  simp[go_sem]
 ·simp[invoke,go_sem,eg]
 ·refine (callsIn_wide.2 (hc W1 (w.heap.size+1) hf1)).mono ?_
  rintro e W2 ⟨⟨v,rfl⟩,rfl⟩;refine⟨none,_,by have:=run_endLoop (P:=P) hL1 (by rw[hrec];simp);rw[hrec] at this;exact this,?_⟩;exact hdone w.heap.size _ (nlr _) (putObj_fr _ _ (Nat.le_succ _) hf1 (nlr _)) ((World.putObj_heap_other (by omega)).trans hK1)
def BytesPost (w:World) (bs:Nm) (e:Ending) (w':World):Prop:=∃ A c,e=.returned (.slice A bs.length c)/\Own w' 5 1 A bs.length c (dCells bs)/\Fr [] w w'
theorem EncodeS_nil (b:Nat) (w:World) (h:StAt w b .nil):Calls prog 148 #[.pointer (some ⟨b,0,none⟩)] w (BytesPost w (encU 0)):=by
 refine (callsIn_wide (n:=5)).1 ?_;refine callsIn_of_wp_marks func148 rfl trivial ?_ rfl;simp only[ntmps148,List.size_toArray,List.length_cons,List.length_nil,Nat.reduceAdd,Nat.reduceSub,Array.replicate_succ,Array.replicate_zero,List.push_toArray,List.append_toArray,List.nil_append,List.cons_append];refine wpIn_wide.2 ?_
 go_upto_region 4 with ((go_at_call 54;(with_reducible refine (NewWriter_any _).mono ?_);rintro e a ⟨rfl,ai,E⟩))
 have H:=WrS.new ai;obtain⟨d,j⟩:=nmd (a.alloc (.cells #[.pointer w.heap.size] 125));have p:BoxN d a.heap.size 125 #[.pointer w.heap.size]:=by rw[<-j];exact BoxN.new a _ _
 have I:WrS a w.heap.size [] d:=by rw[<-j];exact H.alloc _
 have af:Fr [] a d:=by rw[<-j];exact (Fq [] a).alloc _
 rw[j];have A:w.heap.size≠a.heap.size:=by have:=H.blt;omega
 generalize hZ:a.heap.size=aa at p A ⊢;have hN:=fun (W:World) (hW:Fr [] d W)=>Number_wk (I.more hW I.blt) 0 qo qs;have hL:∀ W,Fr [] d W->Calls prog 38 #[.pointer b] W fun e w'=>e=.returned L0/\w'=W:=fun W hW=>LenS_any b .nil W (h.fr0 (E.then (af.then hW)));have ah:∀ W,Fr [] d W->W.cell? ⟨aa,0,none⟩=some (.pointer w.heap.size):=fun W hW=>(p.fr hW qs).c 0;have HSS:=Hd (fun W hW=>An (ah W hW) trivial);have U:=Hd hN;have T:=Hd hL;have S:=Hd h;have P:=Hd p;have L:=Hd E;refine wp_region_qtail (fun W=>Fr [] d W) 3 qk qk ((Fq [] d).drew) ?_;simp only[List.take_succ_cons,List.take_zero,qG,qH]
 repeat (
  first
  | go_big_quiet_skip
  | (go_big_quiet_want;first | (go_big_quiet_op;go_big_quiet_on) | (apply Exists.intro;refine⟨fun W hW=>?_,?_⟩;(· obtain⟨am,_⟩:=HSS.out W hW;go_simp;first | done | with_reducible exact rfl | with_reducible exact⟨rfl,rfl⟩ | ((go_at_call 38;(with_reducible refine (T.out W hW).mono ?_);rintro e w' ⟨rfl,rfl⟩;exact⟨rfl,hW⟩)));simp only[qq];go_big_quiet_on))
  )
 refine wpQuiet_nil ?_;intro Z z;have F:=U.out Z z;rw[show (((0:Nat)):Int)=0 from rfl] at F;have Y:=Hd F;have N:=Hd (P.out.fr z qs);have V:=Hd (fun W=>callsIn_wide.1 (nodes_any 0 b W))
 go_wp2_with (first
  | (go_at_call 57;(with_reducible refine Y.out.mono ?_);rintro e g ⟨rfl,aj,ag⟩;have O:=Hd (ag _ _ _ qd A.symm N.out);have m:=Hd aj)
  | (go_at_call 96;(with_reducible refine (V.out _).mono ?_);rintro e x ⟨rfl,rfl⟩))
 obtain⟨x,v⟩:=nmd (g.alloc (.cells #[.pointer b] 86));rw[v];have q:Fr [] g x:=by rw[<-v];exact (Fq [] g).alloc _
 have B:BoxN x g.heap.size 86 #[.pointer b]:=by rw[<-v];exact BoxN.new g _ _
 have r:=(L.out.trans m.out.fr qs).then q;have G:=S.out.fr0 r;have J:=m.out.more q m.out.blt;have ad:=O.out.fr q qs;refine wp_rangeFunc_none rfl (enters_of func155 qk rfl) (lb:=#[.pointer g.heap.size]) ?_ ?_
 ·intro W l hW
  have x0:W.cell? ⟨g.heap.size,0,none⟩=some (.pointer b):=(B.fr hW qs).c 0;have x1:W.cell? ⟨b,0,none⟩=some (.pointer none):=(G.fr0 hW).1.c 0;have Q:=Hd (fun f=>callsIn_wide.1 (each_nil_in 0 f W));clear B G
  go_enter func155,ntmps155
  go_wp2_with ((go_at_call 156;(with_reducible refine (Q.out _).mono ?_);rintro e w' ⟨rfl,rfl⟩))
  go_end0
  exact⟨⟨_,rfl⟩,rfl⟩
 ·intro D W hD hW hK
  have ae:=ad.fr hW qs;have x0:=ae.k0;have ak:=J.more hW J.blt;have M:=Hd (Bytes_ws ak (by have:=encU_len9 (u:=0) qo;simp only[List.nil_append];omega));have R:=Hd (r.then hW);have y:=Hd hK;have al:=r.size
  go_wp2_with ((go_at_call 58;(with_reducible refine M.out.mono ?_);rintro e K ⟨A',c',rfl,t,i,o⟩;have X:=Hd (An t (An i o))))
  obtain⟨t,i,o⟩:=X.out;have ab:=(Array.getElem?_eq_some_iff.1 y.out).1;have ac:=(i.block D ab qs).trans y.out;have C:Fr [D] K (K.putObj D (.deferred none)):=⟨rfl,rfl,rfl,by simp[World.putObj],fun k _ s=>World.putObj_heap_other (by simpa using s)⟩;refine⟨qs,.inl ⟨_,_,rfl,run_takeDeferred ac,?_⟩⟩;refine⟨.slice A' (encU 0).length c',?_,A',c',rfl,?_,?_⟩
  ·simp[results,Tryz.f148,go_sem]
  ·have h:=t.fr C (by intro k s;have:=o k s;simp only[lms];omega)
   simpa only[List.nil_append] using h
  ·have hd:w.heap.size<=D:=qo
   exact (R.out.then i).trans (C) (by simp;omega)
def stD0:Nm:=shaN (encU 0)
theorem DigestS_nil (b:Nat) (w:World) (H:Ok w) (F:StAt w b .nil):Calls prog 88 #[.pointer (some ⟨b,0,none⟩)] w (SumPost w stD0):=by
 obtain⟨j,i⟩:=nmd (w.alloc (.cells (z32) 56));have h:Fr [] w j:=by rw[<-i];exact (Fq [] w).alloc _
 obtain⟨N,s⟩:∃ f,j.rowIs w.heap.size 56 32 f:=by rw[<-i];exact⟨_,row_new w _ _⟩
 have r:=Hd (EncodeS_nil b j (F.fr0 h));have a:=Hd (fun (W:World) (hW:Fr [] j W)=>SumS_any (encU 0) W (H.fr0 (h.then hW)) (by have:=encU_len9 (u:=0) qo;omega));have g:stD0.length=32:=shaN_len _;have t:shaN (encU 0)=stD0:=rfl;rw[t] at a;generalize stD0=d at a g ⊢;have G:(dCells d).length=32:=by rw[dcells_len,g]
 generalize encU 0=M at r a;have E:=Hd i;have A:=Hd h;have D:=Hd s;clear i h s t
 go_enter func88,ntmps88
 go_upto_region 1 with fail
 rw[E.out]
 go_wp2_with (first
  | (go_at_call 148;(with_reducible refine r.out.mono ?_);rintro e w2 ⟨L,c,rfl,z,x⟩;have O:=run_row_str z.row 49 5 underlying49 underlying5 9 underlying9 c;have k:=Hd x;clear z x)
  | (go_at_call 29;(with_reducible refine (a.out _ k.out).mono ?_);rintro e J ⟨rfl,m⟩;unfold encD;have l:=rowIs_fr (rowIs_fr D.out k.out qs) m qs;have B:=Hd (k.out.then m);clear m;have I:=store_digest (d:=d) l g;have n:=row_digest (d:=d) l g;obtain⟨K,q⟩:∃ X,J.setCells w.heap.size 0 (dCells d)=X:=⟨_,rfl⟩;have y:Fr [] w K:=(by rw[<-q];exact ((A.out.then B.out).setCells (.inr (nlr _)) _ _));rw[q] at I n;have HRD:=Hd n.1;have C:=Hd y;clear q n y l))
 exact bodyPost_ret (v:=encD d) (results_cell_mid (d:=.array 32 5) (p:=2) (ty:=56) (b:=w.heap.size) (o:=0) rfl rfl HRD.out qk rfl (by rw[G];rfl)) rfl ⟨rfl,C.out⟩
open Go.RowKit
section
variable {P:Program} {C:World->Prop} {K:Act->Prop} {o:Oper} {a:Act}
theorem quiet_load_mid (ty:TypeId) (x:Operand) (i:o.op=.load ty x) (b off:Nat) (k:a.eval x=.pointer (some ⟨b,off,none⟩)) (cs:List Value) (d:TypeDesc) (e:∀ W,C W->W.rangeAt b off cs)
 (j:P.underlying ty=some d) (f:d.isRow=true) (g:(P.info? ty).map (·.size)=some cs.length) (h:K (a.put o.dst (.agg cs.toArray))):o.quiet P a C K :=
 ⟨_,fun W hW=>by
  unfold Oper.quietAt execOp;simp only[i,k,Instr.loadAt,Instr.sureAddr,Sem.run_bind,Sem.run_pure,Result.andThen_ok,run_loadVar_mid W b off ty cs d (e W hW) j f g];exact⟨rfl,rfl⟩,h⟩
end
structure TreeIs (w:World) (b:Nat) (A:Option Addr) (c:Nat) (m:Option Nat) (ds:List Nm) (kvs:List (Value × Value)):Prop where
 box:BoxN w b 237 #[.slice A ds.length c,.map m]
 own:Own w 57 32 A ds.length c (ds.flatMap dCells)
 len:∀ d∈ds,d.length=32
 nb:b ∉ blk A
 mn:m=none->kvs=[]
 ms:∀ r,m=some r->MapIs prog 270 w r kvs/\r≠b/\r ∉ blk A
def TreeAt (w:World) (b:Nat) (ds:List Nm) (kvs:List (Value × Value)) (F:List Nat):Prop:=∃ A c m,TreeIs w b A c m ds kvs/\F=b::(blk A++m.toList)
section
variable {w w':World} {b c:Nat} {A:Option Addr} {m:Option Nat} {ds:List Nm} {kvs:List (Value × Value)} {F S:List Nat}
theorem TreeIs.fr (h:TreeIs w b A c m ds kvs) (e:Fr S w w') (d:∀ k∈b::(blk A++m.toList),k ∉ S):TreeIs w' b A c m ds kvs :=
 ⟨h.box.fr e (d b qs),h.own.fr e (fun k g=>d k (by simp[g])),h.len,h.nb,h.mn,fun r f=>⟨(h.ms r f).1.fr e (d r (by simp[f])),(h.ms r f).2⟩⟩
theorem TreeAt.fr (h:TreeAt w b ds kvs F) (f:Fr S w w') (e:∀ k∈F,k ∉ S):TreeAt w' b ds kvs F:=by
 obtain⟨A,c,m,d,rfl⟩:=h;exact⟨A,c,m,d.fr f e,rfl⟩
theorem TreeAt.fr0 (h:TreeAt w b ds kvs F) (d:Fr [] w w'):TreeAt w' b ds kvs F:=h.fr d qs
theorem flat_get {d:Nm}:∀ {ds:List Nm} {i:Nat},(∀ d∈ds,d.length=32)->ds[i]?=some d->∀ j v,(dCells d)[j]?=some v->(ds.flatMap dCells)[32*i+j]?=some v
 | [],i,_,h,_,_,_=>by simp at h
 | x::ds,0,f,h,j,v,e=>by
  obtain rfl:x=d:=by simpa using h
  rw[List.flatMap_cons,List.getElem?_append_left (by have:=(lgs.1 e).1;omega),Nat.mul_zero,Nat.zero_add]
  exact e
 | x::ds,i+1,f,h,j,v,e=>by
  have g:(dCells x).length=32:=by rw[dcells_len,f x qs]
  rw[List.flatMap_cons,List.getElem?_append_right qo,g,show 32*(i+1)+j - 32=32*i+j by omega];exact flat_get (i:=i) (fun y k=>f y (by simp[k])) (by simpa using h) j v e
theorem TreeIs.leaf (h:TreeIs w b A c m ds kvs) {i:Nat} {d:Nm} (f:ds[i]?=some d):∃ g,A=some ⟨g,0,none⟩/\w.rangeAt g (i*32) (dCells d)/\g<w.heap.size:=by
 have n:=(lgs.1 f).1;obtain⟨g,k,e⟩:=Cs.of_own h.own qo;refine⟨g,k,fun j v l=>?_,e.1⟩;have:=e.2 _ _ (flat_get (i:=i) h.len f j v l);rw[Nat.mul_comm] at this;exact this
end
theorem complete_leaf (b i:Nat) (ds:List Nm) (kvs:List (Value × Value)) (F:List Nat) (d:Nm) (w:World) (Y:TreeAt w b ds kvs F) (y:ds[i]?=some d):Calls prog 149 #[.pointer (some ⟨b,0,none⟩),partV 0 (i:Int)] w (SumPost w d):=by
 obtain⟨A,c,m,l,rfl⟩:=Y;obtain⟨g,rfl,N,O⟩:=l.leaf y;have Z:=(lgs.1 y).1;have z:=l.len d (lmg y);have H:(dCells d).length=32:=by rw[dcells_len,z]
 obtain⟨n,aa⟩:=nmd (ds.length);have x:=l.box;rw[aa] at x Z;obtain⟨e,h⟩:=nmd (w.alloc (.cells #[L0,i] 270));obtain⟨w2,k⟩:=nmd (e.alloc (.cells (z32) 57));have ab:e.heap.size=w.heap.size+1:=by rw[<-h,wsA]
 have I:Fr [] w e:=by rw[<-h];exact (Fq [] w).alloc _
 have J:Fr [] e w2:=by rw[<-k];exact (Fq [] e).alloc _
 have B:BoxN w2 w.heap.size 270 #[L0,i]:=by rw[<-k,<-h];exact (BoxN.new w _ _).alloc _
 obtain⟨fR,t⟩:∃ f,w2.rowIs e.heap.size 57 32 f:=by rw[<-k];exact⟨_,row_new e _ _⟩
 rw[ab] at t;have q:=I.then J;have Q:∀ W,Fr [] w2 W->W.cell? ⟨w.heap.size,1,none⟩=some i/\W.cell? ⟨b,0,none⟩=some (.slice g n c):=fun W hW=>⟨(B.fr hW qs).c 1,((x.fr q qs).fr hW qs).c 0⟩;have G:=Hd (fun (W:World) (hW:Fr [] w2 W)=>(show W.rangeAt g (i*32) (dCells d) from fun j v hv=>((q.then hW).fcell O qs _).trans (N j v hv)));have x0:=B.k0;have HSS:=Hd Q;have r:=Hd t;have R:=Hd q;have V:=Hd h;have X:=Hd k;have ad:(i:Int)<(n:Int):=qo
 clear Q t q h k B x N O I J l;unfold partV
 go_enter func149,ntmps149
 go_upto_region 1 with fail
 rw[V.out,X.out]
 go_upto_region 2 with fail
 refine wp_region_qtail (fun W=>Fr [] w2 W) 8 qk qk ((Fq [] w2).drew) ?_;simp only[List.take_succ_cons,List.take_zero,qG,qH]
 repeat (
  first
  | go_big_quiet_skip
  | (go_big_quiet_want;first | (go_big_quiet_op;go_big_quiet_on) | (apply Exists.intro;refine⟨fun W hW=>?_,?_⟩;(· obtain⟨ae,z1⟩:=HSS.out W hW;go_simp;first | done | with_reducible exact rfl | with_reducible exact⟨rfl,rfl⟩ );simp only[qq];go_big_quiet_on))
  )
 go_big_quiet_want
 refine quiet_load_mid 57 (.tmp 14) rfl g (i*32) rfl (dCells d) (.array 32 5) G.out qk rfl (by rw[H];kernel_rfl) ?_;simp only[Act.put,qA,qB,qC]
 go_big_quiet_on
 refine wpQuiet_nil ?_;intro s u;have ac:=store_digest (d:=d) (rowIs_fr r.out u qs) (z);have D:=row_digest (d:=d) (rowIs_fr r.out u qs) (z);obtain⟨w4,E⟩:=nmd ((s).setCells (w.heap.size+1) 0 (dCells (d)));have M:Fr [w.heap.size+1] s w4:=by rw[<-E];exact (Fq [w.heap.size+1] (s)).setCells (.inl qs) _ _
 rw[E] at ac D;clear E;have L:=(R.out.then u).trans M qs;have U:=Hd D.1;have T:=Hd L;clear D L M HSS G r
 go_wp2_with fail
 exact bodyPost_ret (v:=encD d) (results_cell_mid (d:=.array 32 5) (p:=4) (ty:=57) (b:=w.heap.size+1) (o:=0) rfl rfl U.out qk rfl (by rw[H];rfl)) rfl ⟨rfl,T.out⟩
theorem complete_node (b:Nat) (l i:Int) (ds:List Nm) (kvs:List (Value × Value)) (F:List Nat) (d:Nm) (w:World) (X:TreeAt w b ds kvs F) (Z:∃ k,keyOf prog 270 (partV l i)=some k) (q:(partV l i,encD d)∈kvs) (E:l≠0) (z:d.length=32):Calls prog 149 #[.pointer (some ⟨b,0,none⟩),partV l i] w (SumPost w d):=by
 obtain⟨A,c,m,j,rfl⟩:=X;obtain⟨kl,M⟩:=Z;have ac:(l == 0)=false:=by simpa using E
 have Y:(dCells d).length=32:=by rw[dcells_len,z]
 cases m with
 | none=>rw[j.mn rfl] at q;simp at q
 | some r =>
  have G:=j.box;obtain⟨N,_⟩:=j.ms r rfl;obtain⟨e,g⟩:=nmd (w.alloc (.cells #[l,i] 270));obtain⟨w2,h⟩:=nmd (e.alloc (.cells (z32) 57));have aa:e.heap.size=w.heap.size+1:=by rw[<-g,wsA]
  have H:Fr [] w e:=by rw[<-g];exact (Fq [] w).alloc _
  have I:Fr [] e w2:=by rw[<-h];exact (Fq [] e).alloc _
  have s:BoxN w2 w.heap.size 270 #[l,i]:=by rw[<-h,<-g];exact (BoxN.new w _ _).alloc _
  obtain⟨fR,x⟩:∃ f,w2.rowIs e.heap.size 57 32 f:=by rw[<-h];exact⟨_,row_new e _ _⟩
  rw[aa] at x;have n:=H.then I;have O:∀ W,Fr [] w2 W->W.cell? ⟨w.heap.size,0,none⟩=some l/\W.cell? ⟨w.heap.size,1,none⟩=some i/\W.cell? ⟨b,1,none⟩=some (.map (some r))/\(Instr.lookup 235 (.map (some r)) (.agg #[l,i]) false).run prog W=.ok (.agg (dCells d).toArray) W:=fun W hW=>⟨(s.fr hW qs).c 0,(s.fr hW qs).c 1,((G.fr n qs).fr hW qs).c 1,(N.fr (n.then hW) qs).look_some key_part underlying235 M q false⟩;have x0:=s.k0;have HSS:=Hd O;have t:=Hd x;have Q:=Hd n;have U:=Hd g;have V:=Hd h;clear O x n g h s G H I j N M q E;unfold partV
  go_enter func149,ntmps149
  go_upto_region 1 with fail
  rw[U.out,V.out]
  go_upto_region 3 with fail
  refine wp_region_qtail (fun W=>Fr [] w2 W) 6 qk qk ((Fq [] w2).drew) ?_;simp only[List.take_succ_cons,List.take_zero,qG,qH]
  repeat (
   first
   | go_big_quiet_skip
   | (go_big_quiet_want;first | (go_big_quiet_op;go_big_quiet_on) | (apply Exists.intro;refine⟨fun W hW=>?_,?_⟩;(· obtain⟨ad,z1,z2,z3⟩:=HSS.out W hW;go_simp;first | done | with_reducible exact rfl | with_reducible exact⟨rfl,rfl⟩ );simp only[qq];go_big_quiet_on))
   )
  refine wpQuiet_nil ?_;intro u y;have ab:=store_digest (d:=d) (rowIs_fr t.out y qs) (z);have B:=row_digest (d:=d) (rowIs_fr t.out y qs) (z);obtain⟨w4,D⟩:=nmd ((u).setCells (w.heap.size+1) 0 (dCells (d)));have L:Fr [w.heap.size+1] u w4:=by rw[<-D];exact (Fq [w.heap.size+1] (u)).setCells (.inl qs) _ _
  rw[D] at ab B;clear D;have J:=(Q.out.then y).trans L qs;have T:=Hd B.1;have R:=Hd J;clear B J L HSS t
  go_wp2_with fail
  exact bodyPost_ret (v:=encD d) (results_cell_mid (d:=.array 32 5) (p:=4) (ty:=57) (b:=w.heap.size+1) (o:=0) rfl rfl T.out qk rfl (by rw[Y];rfl)) rfl ⟨rfl,R.out⟩
def PartIs (ds:List Nm) (kvs:List (Value × Value)) (l i:Nat) (d:Nm):Prop :=
 d.length=32/\((l=0/\ds[i]?=some d) \/ (l≠0/\(partV (l:Int) (i:Int),encD d)∈kvs/\∃ k,keyOf prog 270 (partV (l:Int) (i:Int))=some k))
theorem complete_any (b l i:Nat) (ds:List Nm) (kvs:List (Value × Value)) (F:List Nat) (d:Nm) (w:World) (h:TreeAt w b ds kvs F) (k:PartIs ds kvs l i d):Calls prog 149 #[.pointer (some ⟨b,0,none⟩),partV (l:Int) (i:Int)] w (SumPost w d):=by
 rcases k with ⟨e,⟨rfl,f⟩ | ⟨n,j,g⟩⟩
 ·exact complete_leaf b i ds kvs F d w h f
 ·exact complete_node b l i ds kvs F d w h g j qo e
def JoinPost (w:World) (t:Nm) (e:Ending) (w':World):Prop:=e=.returned (.tuple #[encN t,.int .i64 0])/\Fr [] w w'
def JR (w:World) (c:UInt8) (a:List Nm) (n:Nat) (v i:Value) (W:World):Prop :=
 ∃ (j:Nat) (A':Option Addr) (c':Nat),j<=n/\i=.int .i64 (j:Int)/\v=.slice A' (2+joinL (a.take j)) c'/\Own W 5 1 A' (2+joinL (a.take j)) c' (dCells ([c,UInt8.ofNat n]++joinP (a.take j)))/\Fr [] w W/\∀ b∈blk A',w.heap.size<=b
theorem Join_any (d:UInt8) (J:Option Addr) (n c:Nat) (a:List Nm) (w:World) (aE:n<=255) (hr:Row w w.heap.size 1 J n (a.map encN)) (hL:joinL a<=1099511627776) :
 Calls prog 143 #[.int .u8 (d.toNat:Int),.slice J n c] w (JoinPost w (joinN d a)):=by
 have aw:a.length=n:=by have:=hr.1;simpa using this
 have Q:=Hd hr;have D:=Hd aw
 go_enter func143,ntmps143
 go_wp2_with fail
 go_loop [6,18] (fun s i=>∃ k:Nat,k<=n/\i=k/\s=((2+joinL (a.take k):Nat):Int)) (fun _ i=>n - (intOf i).toNat)
 case atStart=>exact⟨0,Nat.zero_le _,rfl,rfl⟩
 case round =>
  obtain⟨k,hk,rfl,rfl⟩:=hrel
  by_cases ax:k<n
  ·obtain⟨b,off,p,s,rfl,g,m,hs,H,v,G⟩:=Q.out.str ax
   have u:=joinL_take m;have ac:=joinL_mono a (k+1);have E:=Hd u;have q:=Hd v;have hz:s.size<=1099511627776:=qo
   have az:joinL (a.take k)<=1099511627776:=qo
   have aC:(k:Int)<(n:Int):=qo
   go_wp2_with fail
   go_round
   case rel=>exact⟨k+1,qo,by go_num,by rw[E.out,<-q.out];go_num⟩
   case measure=>simp[intOf];omega
  ·obtain rfl:k=n:=qo
   have I:=List.take_of_length_le (by rw[D.out];exact nlr _);rw[I];obtain⟨C,hC⟩:=nmd (2+joinL a);rw[hC];have HC:=Hd hC
   obtain⟨y,t,z,A,B⟩:=info_u8
   go_wp2_with (first
    | ((with_reducible refine wpList_make_own w rfl (.const (.int .i64 0)) (.tmp 28) 49 rfl 0 5 y (.int .u8 0) 1 underlying49 t z A .i64 .i64 (C:Int) C rfl rfl rfl (by rw[B];omega) (by unfold maxLen;omega) (Nat.zero_le _) ?_);intro S ad ab;have R:Own S 5 1 (some ⟨w.heap.size,0,none⟩) 0 C (dCells []):=ad;have ai:=Hd R;have L:=Hd ((Fq [] w).grown ab qs);clear ad ab R)
    | (at_builtin;(with_reducible refine wpList_app_tmp (w:=S) rfl (.tmp 30) (.tmp 35) 49 rfl 5 y (.int .u8 0) 1 1 underlying49 t z A B rfl qd (some ⟨w.heap.size,0,none⟩) 0 C (dCells []) rfl ai.out 2 2 [.int .u8 (d.toNat:Int),.int .u8 (k:Int)] 5 rfl rfl (by simp[Value.oneCell']) (by unfold maxLen;omega) qo ?_);intro A2 T W2 Z W s2;have aj:=Hd Z;have F2:=Hd (L.out.trans W (by simp[blk]));have HS2:=Hd s2;clear Z W s2))
   have au:JR w d a k (.slice A2 2 T) (.int .i64 0) W2:=⟨0,A2,T,qo,rfl,rfl,(by
    have h:=aj.out
    have e:dCells []++[Value.int .u8 (d.toNat:Int),Value.int .u8 (k:Int)]=dCells ([d,UInt8.ofNat k]++joinP (a.take 0)):=by
     simp[dCells,joinP];omega
    rw[e] at h
    exact h),F2.out,fun b g=>by
     rcases HS2.out b g with h | h
     ·simp[blk] at h;omega
     ·have:=L.out.size;omega⟩
   have ah:=Hd au
   go_loopw [9,39] (JR w d a k) (fun _ i _=>k - (intOf i).toNat)
   case atStart=>exact ah.out
   case round =>
    obtain⟨j,A3,U,hj,rfl,rfl,l,r,g⟩:=hrel
    by_cases ay:j<k
    ·obtain⟨b,off,p,s,rfl,ar,m,hs,H,v,G⟩:=Q.out.str ay
     have aB:=(r.cell (p:=⟨b,off+j,none⟩) ar qs).trans G;have u:=joinL_take m;have ae:=joinP_take m;have ac:=joinL_mono a (j+1);have hz:s.size<=1099511627776:=qo
     have az:joinL (a.take j)<=1099511627776:=qo
     obtain⟨N,F⟩:=nmd (2+joinL (a.take j));have aA:N<=1099511627780:=qo
     rw[F] at l ⊢;have HN:=Hd F;have E:=Hd u;have aq:=Hd ae;have q:=Hd v;have ap:=Hd H;have am:=Hd l;have o:=Hd r;have O:=Hd g;have aD:(j:Int)<(k:Int):=qo
     clear u ae m hs H v ac G l r g F
     go_wp2_with (first
      | (at_builtin;(with_reducible refine wpList_app_tmp (w:=wr) rfl (.tmp 45) (.tmp 57) 49 rfl 5 y (.int .u8 0) 1 1 underlying49 t z A B rfl qd A3 N U _ rfl am.out 4 4 [.int .u8 ((s.size:Int) / 16777216 % 256),.int .u8 ((s.size:Int) / 65536 % 256),.int .u8 ((s.size:Int) / 256 % 256),.int .u8 ((s.size:Int) % 256)] 5 rfl rfl (by simp[Value.oneCell']) (by unfold maxLen;omega) qo ?_);intro K c4 W4 h4 X s4;have ak:=Hd h4;have M:=Hd (o.out.trans X (fun x f=>.inr (O.out x f)));have an:=Hd s4;clear h4 X s4)
      | (at_builtin;(with_reducible refine wpList_app_str (w:=W4) rfl (.tmp 59) (.tmp 60) 49 9 rfl 5 y underlying49 underlying9 t z A B K (N+4) c4 _ rfl ak.out s rfl (by unfold maxLen;omega) qo ?_);intro A5 c5 W5 h5 Y s5;have al:=Hd h5;have ao:=Hd s5;have ag:=Hd Y;clear h5 Y s5))
     go_roundw
     case rel =>
      have af:∀ x∈blk K,w.heap.size<=x:=fun x f=>by
       rcases an.out x f with h | h
       ·exact O.out x h
       ·have:=o.out.size;omega
      have V:N+4+s.size=2+joinL (a.take (j+1)):=by have:=HN.out;have:=E.out;have:=q.out;omega
      refine⟨j+1,A5,c5,qo,by go_num,by rw[V],?_,M.out.trans ag.out (fun x f=>.inr (af x f)),fun x f=>?_⟩
      ·have h:=al.out
       rw[V] at h
       have e:dCells ([d,UInt8.ofNat k]++joinP (a.take j))++[Value.int .u8 ((s.size:Int) / 16777216 % 256),.int .u8 ((s.size:Int) / 65536 % 256),.int .u8 ((s.size:Int) / 256 % 256),.int .u8 ((s.size:Int) % 256)]++dCells s.data.toList=dCells ([d,UInt8.ofNat k]++joinP (a.take (j+1))):=by
        rw[aq.out,<-be4_cells,<-dcells_append,<-dcells_append,ap.out,q.out,List.append_assoc,List.append_assoc]
       rw[e] at h;exact h
      ·rcases ao.out x f with h | h
       ·exact af x h
       ·have:=M.out.size;omega
     case measure=>simp[intOf];omega
    ·obtain rfl:j=k:=qo
     have I:=List.take_of_length_le (by rw[D.out];exact nlr _);rw[I] at l ⊢;have aa:=run_row_str (P:=prog) l.row 49 5 underlying49 underlying5 9 underlying9 U;have av:[d,UInt8.ofNat j]++joinP a=joinN d a:=by unfold joinN;rw[D.out]
     rw[av] at aa;have o:=Hd r;rw[HC.out] at aa ⊢
     go_wp2_with fail
     go_ret2
     exact⟨rfl,o.out⟩
theorem results_cell_mid2 {P:Program} {c:Func} {p u:Tmp} {ty:TypeId} {a:Array Value} {w:World} {b o:Nat} {cs:List Value} {d:TypeDesc} {v:Value} (h:c.results=#[.cell p ty,.tmp u]) (i:a.getD p undef=.pointer (some ⟨b,o,none⟩)) (l:a.getD u undef=v) (e:w.rangeAt b o cs) (k:P.underlying ty=some d) (f:d.isRow=true) (g:(P.info? ty).map (·.size)=some cs.length) :
 (results c a).run P w=.ok (.tuple #[.agg cs.toArray,v]) w:=by
 have j:a[p]?.getD undef=.pointer (some ⟨b,o,none⟩):=by rw[<-Array.getD_eq_getD_getElem?];exact i
 have m:a[u]?.getD undef=v:=by rw[<-Array.getD_eq_getD_getElem?];exact l
 simp only[results,h];simp[Sem.run_bind,Result.andThen,j,m,asAddr,run_loadVar_mid w b o ty cs d e k f g]
theorem digest_new (w:World):∃ f,(w.alloc (.cells #[.int .u8 0,.int .u8 0,.int .u8 0,.int .u8 0,.int .u8 0,.int .u8 0,.int .u8 0,.int .u8 0,.int .u8 0,.int .u8 0,.int .u8 0,.int .u8 0,.int .u8 0,.int .u8 0,.int .u8 0,.int .u8 0,.int .u8 0,.int .u8 0,.int .u8 0,.int .u8 0,.int .u8 0,.int .u8 0,.int .u8 0,.int .u8 0,.int .u8 0,.int .u8 0,.int .u8 0,.int .u8 0,.int .u8 0,.int .u8 0,.int .u8 0,.int .u8 0] 57)).rowIs w.heap.size 57 32 f:=⟨_,row_new w _ _⟩
def TagPost (w:World) (d:Nm) (e:Ending) (w':World):Prop:=e=.returned (.tuple #[encD d,.int .i64 0])/\Fr [] w w'
theorem Tagged_any (g:UInt8) (A:Option Addr) (n c:Nat) (a:List Nm) (w:World) (O:Ok w) (N:n<=255) (y:Row w w.heap.size 1 A n (a.map encN)) (M:joinL a<=1099511627776) :
 Calls prog 151 #[.int .u8 (g.toNat:Int),.slice A n c] w (TagPost w (shaN (joinN g a))):=by
 obtain⟨k,i⟩:=nmd (w.alloc (.cells z32 57));obtain⟨S,q⟩:∃ f,k.rowIs w.heap.size 57 32 f:=by rw[<-i];exact digest_new w
 have h:Fr [] w k:=by rw[<-i];exact (Fq [] w).alloc _
 have z:=(y.fr h (nlr _) qs).more h.size;have x:(joinN g a).length<=1152921504606846976:=by unfold joinN;rw[lla,joinP_len];simp;omega
 have K:=Hd i;have G:=Hd q;have D:=Hd h;have H:=Hd z;have F:=Hd x;clear i q h z y x
 go_enter func151,ntmps151
 go_wp2_with fail
 rw[K.out];refine (Join_any g A n c a k N H.out M).mono ?_;rintro e w2 ⟨rfl,j⟩;have r:=rowIs_fr G.out j qs;have m:=D.out.then j;have I:=Hd r;have l:=Hd m;clear j r m
 go_wp2_with fail
 refine (SumS_any (joinN g a) w2 (O.fr0 l.out) F.out).mono ?_;rintro e Q ⟨rfl,t⟩;have s:=rowIs_fr I.out t qs;have P:=store_digest (d:=shaN (joinN g a)) s (shaN_len _);have B:=row_digest (d:=shaN (joinN g a)) s (shaN_len _);obtain⟨R,C⟩:=nmd ((Q).setCells w.heap.size 0 (dCells (shaN (joinN g a))));have L:Fr [] w R:=by rw[<-C];exact (l.out.then t).setCells (.inr (nlr _)) _ _
 rw[C] at P B;have J:=Hd B.1;have E:=Hd L;unfold encD
 go_wp2_with fail
 exact bodyPost_ret (v:=.tuple #[encD (shaN (joinN g a)),L0]) (results_cell_mid2 (d:=.array 32 5) (p:=4) (u:=5) (ty:=57) (b:=w.heap.size) (o:=0) rfl rfl rfl J.out qk rfl (by rw[dcells_len,shaN_len];rfl)) rfl ⟨rfl,E.out⟩
def leafN (s:Nm):Nm:=shaN (joinN 0 [s])
def nodeN (l r:Nm):Nm:=shaN (joinN 1 [l,r])
theorem Leaf_any (s:Nm) (w:World) (ag:Ok w) (hs:s.length<=1099511627000):Calls prog 90 #[encN s] w (SumPost w (leafN s)):=by
 obtain⟨X,F,_,_⟩:=str_of s;obtain⟨g,h⟩:=nmd (w.alloc (.cells z32 57));obtain⟨n,Q⟩:∃ f,g.rowIs w.heap.size 57 32 f:=by rw[<-h];exact digest_new w
 have L:Fr [] w g:=by rw[<-h];exact (Fq [] w).alloc _
 obtain⟨w2,i⟩:=nmd (g.alloc (.cells #[X] 9));have R:w2.rowIs w.heap.size 57 32 n:=by rw[<-i];exact Q.alloc _
 have M:Fr [] w w2:=by rw[<-i];exact L.alloc _
 have C:Row w2 w2.heap.size 1 (some ⟨g.heap.size,0,none⟩) 1 ([s].map encN):=by
  rw[<-i];refine⟨qs,fun _=>⟨_,0,rfl,qs,fun j u hu=>?_⟩⟩;have:=new_cells g [X] 9 j u (by rw[<-F];simpa using hu);rw[add_mid'] at this;rw[Nat.zero_add];exact this
 have V:g.heap.size=w.heap.size+1:=by rw[<-h,wsA]
 rw[V] at C;have ae:=Hd h;have af:=Hd i;have ac:=Hd R;have I:=Hd M;have ab:=Hd C;rw[F];clear h Q L i R M C F V
 go_enter func90,ntmps90
 go_wp2_with fail
 rw[ae.out,af.out];have y:=Tagged_any 0 _ 1 1 [s] w2 (ag.fr0 I.out) qo ab.out (by simp[joinL];omega);rw[show (((0:UInt8).toNat:Nat):Int)=0 from rfl] at y;(with_reducible refine y.mono ?_);clear y;rintro e a ⟨rfl,A⟩;have U:(shaN (joinN 0 [s]))=leafN s:=rfl;rw[U];have B:(leafN s).length=32:=shaN_len _;clear U;obtain⟨d,z⟩:=nmd (leafN s);rw[z] at B ⊢;have c:=Hd B;have Y:=Hd z;clear B z;have t:=rowIs_fr ac.out A qs;have r:=I.out.then A;obtain⟨m,k⟩:=nmd (a.alloc (.cells z32 57));obtain⟨fD,q⟩:∃ f,m.rowIs a.heap.size 57 32 f:=by rw[<-k];exact digest_new a
 have S:m.rowIs w.heap.size 57 32 n:=by rw[<-k];exact t.alloc _
 have N:Fr [] w m:=by rw[<-k];exact r.alloc _
 have J:w.heap.size≠a.heap.size:=by have:=t.lt;omega
 have K:w.heap.size<=a.heap.size:=r.size;have W:=store_digest (d:=d) q (c.out);obtain⟨H,l⟩:=nmd (m.setCells a.heap.size 0 (dCells (d)));have D:=row_digest (d:=d) q (c.out);have x:H.rowIs w.heap.size 57 32 n:=by rw[<-l];exact rowIs_setCells_other J _ _ _ S
 have O:Fr [] w H:=by rw[<-l];exact N.setCells (.inr K) _ _
 rw[l] at W D;rw[<-k] at W;have ah:=store_digest (d:=d) x (c.out);have E:=row_digest (d:=d) x (c.out);obtain⟨w6,G⟩:=nmd (H.setCells w.heap.size 0 (dCells (d)));have P:Fr [] w w6:=by rw[<-G];exact O.setCells (.inr (nlr _)) _ _
 rw[G] at ah E;have Z:=Hd D.1;have ad:=Hd E.1;have aa:=Hd P;clear t r q S N k l G D E x O P A J K;unfold encD;have T:(dCells d).length=32:=by rw[dcells_len,c.out]
 have ai:(dCells d).toArray.size=32:=by rw[dcells_size,c.out]
 go_wp2_with (first
  | (with_reducible refine wpList_load_mid rfl 57 (.tmp 3) rfl a.heap.size 0 rfl (dCells d) (.array 32 5) Z.out qk rfl (by rw[T];kernel_rfl) ?_))
 exact bodyPost_ret (v:=encD d) (results_cell_mid (d:=.array 32 5) (p:=2) (ty:=57) (b:=w.heap.size) (o:=0) rfl rfl ad.out qk rfl (by rw[T];rfl)) rfl ⟨by rw[Y.out],aa.out⟩
def Two (a b:Nat) (l r:Nm) (W:World):Prop:=Row W W.heap.size 1 (some ⟨a,0,none⟩) 32 (dCells l)/\Row W W.heap.size 1 (some ⟨b,0,none⟩) 32 (dCells r)/\a<W.heap.size/\b<W.heap.size
theorem Two.fr {b c:Nat} {l r:Nm} {S:List Nat} {W d:World} (h:Two b c l r W) (a:Fr S W d) (e:b ∉ S) (f:c ∉ S):Two b c l r d :=
 ⟨(h.1.fr a (nlr _) (by simpa using e)).more a.size,(h.2.1.fr a (nlr _) (by simpa using f)).more a.size,Nat.lt_of_lt_of_le h.2.2.1 a.size,Nat.lt_of_lt_of_le h.2.2.2 a.size⟩
theorem Two.alloc {a b:Nat} {l r:Nm} {W:World} (h:Two a b l r W) (o:Obj):Two a b l r (W.alloc o):=h.fr (S:=[]) ((Fq [] W).alloc o) qs qs
theorem row_cells (w:World) {d:Nm} {t:TypeId} (h:(dCells d).length=32):(w.alloc (.cells (dCells d).toArray t)).rowIs w.heap.size t 32 (fun j=>.int .u8 ((d.getD j 0).toNat:Int)):=by
 have b:d.length=32:=by rw[dcells_len] at h;exact h
 have:=World.rowIs_alloc w (dCells d).toArray t (fun j=>.int .u8 ((d.getD j 0).toNat:Int)) (fun i a=>by
  have c:i<d.length:=by rw[dcells_size] at a;exact a
  have:=dcells_get c;simpa using this)
 rw[dcells_size,b] at this;exact this
theorem row_of_row {w:World} {b:Nat} {t:TypeId} {d:Nm} (h:w.rowIs b t 32 (fun j=>.int .u8 ((d.getD j 0).toNat:Int))) (a:d.length=32):Row w w.heap.size 1 (some ⟨b,0,none⟩) 32 (dCells d) :=
 ⟨by rw[dcells_len,a],fun _=>⟨b,0,rfl,h.lt,fun j u c=>by
  have e:j<32:=by have:=(lgs.1 c).1;rwa [dcells_len,a] at this
  rw[Nat.zero_add,h.cell e,<-c,dcells_get qo]⟩⟩
theorem two_mk {a b:Nat} {l r:Nm} {w:World} {t t':TypeId} (c:w.rowIs a t 32 (fun j=>.int .u8 ((l.getD j 0).toNat:Int))) (d:w.rowIs b t' 32 (fun j=>.int .u8 ((r.getD j 0).toNat:Int))) (e:l.length=32) (f:r.length=32):Two a b l r w :=
 ⟨row_of_row c e,row_of_row d f,c.lt,d.lt⟩
theorem parts_row (w:World) {l r:Nm} {a b:ByteArray} {t:TypeId} (c:encN l=.string a) (d:encN r=.string b):Row (w.alloc (.cells #[.string a,.string b] t)) (w.alloc (.cells #[.string a,.string b] t)).heap.size 1 (some ⟨w.heap.size,0,none⟩) 2 ([l,r].map encN):=by
 refine⟨qs,fun _=>⟨_,0,rfl,qs,fun j u e=>?_⟩⟩;have:=new_cells w [a,b] t j u (by rw[<-c,<-d];simpa using e);rw[add_mid'] at this;rw[Nat.zero_add];exact this
def NodeCut (a:World) (d:Nm) (b:Value) (W:World):Prop:=∃ D,b=.pointer (some ⟨D,0,none⟩)/\a.heap.size<=D/\D<W.heap.size/\W.rangeAt D 0 (dCells d)/\Fr [] a W
theorem Node_any (l r:Nm) (w:World) (aI:Ok w) (hl:l.length=32) (hr:r.length=32):Calls prog 150 #[encD l,encD r] w (SumPost w (nodeN l r)):=by
 obtain⟨sl,s,_,aL⟩:=str_of l;obtain⟨sr,t,_,aM⟩:=str_of r;obtain⟨I,al⟩:=nmd (w.alloc (.cells (dCells l).toArray 57));obtain⟨w2,am⟩:=nmd (I.alloc (.cells (dCells r).toArray 57));have aa:(dCells l).length=32:=by rw[dcells_len,hl]
 have aH:(dCells r).length=32:=by rw[dcells_len,hr]
 unfold encD
 go_enter func150,ntmps150
 go_upto_region 1 with fail
 obtain⟨c,ab⟩:=nmd (w2.alloc (.cells z32 57));rw[ab];have b0:I.rowIs w.heap.size 57 32 (fun j=>.int .u8 ((l.getD j 0).toNat:Int)):=by rw[<-al];exact row_cells w aa
 have b1:w2.rowIs I.heap.size 57 32 (fun j=>.int .u8 ((r.getD j 0).toNat:Int)):=by rw[<-am];exact row_cells I aH
 obtain⟨fR,ae⟩:∃ f,c.rowIs w2.heap.size 57 32 f:=by rw[<-ab];exact digest_new w2
 have A:Fr [] w I:=by rw[<-al];exact (Fq [] w).alloc _
 have z:Fr [] I w2:=by rw[<-am];exact (Fq [] I).alloc _
 have Z:Fr [] w2 c:=by rw[<-ab];exact (Fq [] w2).alloc _
 have av:Two w.heap.size I.heap.size l r c:=two_mk (rowIs_fr (rowIs_fr b0 z qs) Z qs) (rowIs_fr b1 Z qs) hl hr;have ad:Fr [] w c:=(A.then z).then Z;have au:w.heap.size<=w2.heap.size:=(A.then z).size;have aG:w2.heap.size<c.heap.size:=ae.lt;have ah:shaN (joinN 1 [l,r])=nodeN l r:=rfl;have ag:(nodeN l r).length=32:=shaN_len _;obtain⟨d,hd⟩:=nmd (nodeN l r);rw[hd] at ah ag;have ac:=Hd ah;have HD:=Hd hd;have D:=Hd ag;have T:=Hd av;have aB:=Hd ad;have ap:=Hd ae;have ai:Ok c:=aI.fr0 ad;clear al am ab b0 b1 A z Z ah hd ag av ad ae;have aq:=Hd au;clear au;generalize w2.heap.size=RR at ap aq aG ⊢;generalize w.heap.size=Q at T ⊢;generalize I.heap.size=R at T ⊢
 go_cut [5] from 6 to 15 (fun s5 W=>NodeCut c d s5 W)
 case first =>
  refine wp_region_held_drew (S:=fun W=>Two Q R l r W) qk T.out (fun n=>?_);refine wpAnyH_take (i:=0) (v:=?_) rfl qk qk qk (fun _ _ _ h=>h) (Or.inl ⟨qr,?_⟩) (by assumption) ?_
  rotate_left
  ·intro x a
   have k:=run_row_str (P:=prog) a.1 49 5 underlying49 underlying5 9 underlying9 32;have m:=run_row_str (P:=prog) a.2.1 49 5 underlying49 underlying5 9 underlying9 32;rw[s] at k;rw[t] at m;go_simp
   try with_reducible rfl
  try simp only[qq]
  refine wpAnyH_take (i:=1) (v:=?_) rfl qk qk qk (fun _ _ _ h=>h) (Or.inl ⟨qr,?_⟩) (by assumption) ?_
  rotate_left
  ·intro x a
   have k:=run_row_str (P:=prog) a.1 49 5 underlying49 underlying5 9 underlying9 32;have m:=run_row_str (P:=prog) a.2.1 49 5 underlying49 underlying5 9 underlying9 32;rw[s] at k;rw[t] at m;go_simp
   try with_reducible rfl
  try simp only[qq]
  refine wpAnyH_take (i:=2) (v:=?_) rfl qk qk qk (fun _ _ _ h=>h) (Or.inl ⟨qr,?_⟩) (by assumption) ?_
  rotate_left
  ·intro x a
   have k:=run_row_str (P:=prog) a.1 49 5 underlying49 underlying5 9 underlying9 32;have m:=run_row_str (P:=prog) a.2.1 49 5 underlying49 underlying5 9 underlying9 32;rw[s] at k;rw[t] at m;go_simp
   try with_reducible rfl
  try simp only[qq]
  refine wpAnyH_take (i:=3) (v:=?_) rfl qk qk qk (fun _ _ _ h=>h) (Or.inl ⟨qr,?_⟩) (by assumption) ?_
  rotate_left
  ·intro x a
   have k:=run_row_str (P:=prog) a.1 49 5 underlying49 underlying5 9 underlying9 32;have m:=run_row_str (P:=prog) a.2.1 49 5 underlying49 underlying5 9 underlying9 32;rw[s] at k;rw[t] at m;go_simp
   try with_reducible rfl
  try simp only[qq]
  refine wpAnyH_ready (rs:=[4,9]) qk qs ?_;refine AllReadyH.cons rfl (fun K g=>?_) (AllReadyH.cons rfl (fun K g=>?_) AllReadyH.nil)
  ·-- an alloc has come up: its world is named
   go_simp
   refine g.out _ _ ?_ (fun n=>?_)
   ·exact n.alloc _
   clear g K
   try simp only[qq]
   obtain⟨q,G⟩:=nmd ((c.alloc (.cells #[.string sl,.string sr] 9)).drew);rw[G] at n ⊢;have ay:Row q q.heap.size 1 (some ⟨c.heap.size,0,none⟩) 2 ([l,r].map encN):=by rw[<-G];exact parts_row c s t
   have A:Fr [] c q:=by rw[<-G];exact ((Fq [] c).alloc _).drew
   clear G;refine wpAnyH_ready (rs:=[5,9]) qk qs ?_;refine AllReadyH.cons rfl (fun K g=>?_) (AllReadyH.cons rfl (fun K g=>?_) AllReadyH.nil)
   ·have C:=Tagged_any 1 _ 2 2 [l,r] (q) (ai.fr0 A) qo (ay) (by simp[joinL];omega)
    rw[show (((1:UInt8).toNat:Nat):Int)=1 from rfl,ac.out] at C;go_simp
    go_at_call 151
    (with_reducible refine C.mono ?_);clear C;rintro e Y ⟨rfl,E⟩;unfold encD;refine g.out _ _ (n.fr E qs qs) (fun n=>?_);clear g K
    try simp only[qq]
    refine wpAnyH_take (i:=6) (v:=?_) rfl qk qk qk (fun _ _ _ h=>h) (Or.inl ⟨qr,?_⟩) (by assumption) ?_
    rotate_left
    ·intro x a
     have k:=run_row_str (P:=prog) a.1 49 5 underlying49 underlying5 9 underlying9 32;have m:=run_row_str (P:=prog) a.2.1 49 5 underlying49 underlying5 9 underlying9 32;rw[s] at k;rw[t] at m;go_simp
     try with_reducible rfl
    try simp only[qq]
    refine wpAnyH_take (i:=7) (v:=?_) rfl qk qk qk (fun _ _ _ h=>h) (Or.inl ⟨qr,?_⟩) (by assumption) ?_
    rotate_left
    ·intro x a
     have k:=run_row_str (P:=prog) a.1 49 5 underlying49 underlying5 9 underlying9 32;have m:=run_row_str (P:=prog) a.2.1 49 5 underlying49 underlying5 9 underlying9 32;rw[s] at k;rw[t] at m;go_simp
     try with_reducible rfl
    try simp only[qq]
    refine wpAnyH_take (i:=8) (v:=?_) rfl qk qk qk (fun _ _ _ h=>h) (Or.inl ⟨qr,?_⟩) (by assumption) ?_
    rotate_left
    ·intro x a
     have k:=run_row_str (P:=prog) a.1 49 5 underlying49 underlying5 9 underlying9 32;have m:=run_row_str (P:=prog) a.2.1 49 5 underlying49 underlying5 9 underlying9 32;rw[s] at k;rw[t] at m;go_simp
     try with_reducible rfl
    try simp only[qq]
    have fY:=A.then E;refine wpAnyH_ready (rs:=[9]) qk qs ?_;refine AllReadyH.cons rfl (fun K g=>?_) AllReadyH.nil;go_simp
    refine g.out _ _ ?_ (fun n=>?_)
    ·exact n.alloc _
    clear g K
    try simp only[qq]
    obtain⟨u,y⟩:=nmd (Y.alloc (.cells z32 57));rw[y] at n ⊢;obtain⟨fD,B⟩:∃ f,u.rowIs Y.heap.size 57 32 f:=by rw[<-y];exact digest_new Y
    have U:Fr [] c u:=by rw[<-y];exact fY.alloc _
    have F:c.heap.size<=Y.heap.size:=fY.size;have J:Q≠Y.heap.size/\R≠Y.heap.size:=by have:=T.out.2.2;omega
    clear y;refine wpAnyH_ready (rs:=[10]) qk qs ?_;refine AllReadyH.cons rfl (fun K g=>?_) AllReadyH.nil;rw[if_pos qr];have H:(dCells d).toArray.size=32:=by rw[dcells_size,D.out]
    refine wp_store_mid 57 (.tmp 5) (.tmp 14) rfl (Y.heap.size) 0 (dCells d).toArray rfl rfl (by rw[H];exact there_row B qo) (by rw[H];kernel_rfl) (all_oneCell_toArray (dcells_one d)) ?_;rw[show (dCells d).toArray.toList=dCells d from rfl];have O:=row_digest (d:=d) B D.out;have N:Fr [] c ((u).setCells (Y.heap.size) 0 (dCells d)):=U.setCells (.inr F) _ _;have X:(u).heap.size=((u).setCells (Y.heap.size) 0 (dCells d)).heap.size:=(size_setCells _ _ _ _).symm;have ax:=B.lt;have L:Two Q R l r ((u).setCells (Y.heap.size) 0 (dCells d)):=n.fr ((Fq [Y.heap.size] (u)).setCells qs _ _) (by simpa using J.1) (by simpa using J.2);obtain⟨XX,M⟩:=nmd ((u).setCells (Y.heap.size) 0 (dCells d));rw[M] at O N X L ⊢;clear n;refine g.out _ _ L (fun n=>?_);clear g K M
    try simp only[qq]
    refine wpAnyH_take (i:=11) (v:=?_) rfl qk qk qk (fun _ _ _ h=>h) (Or.inl ⟨qr,?_⟩) (by assumption) ?_
    rotate_left
    ·intro x a
     have k:=run_row_str (P:=prog) a.1 49 5 underlying49 underlying5 9 underlying9 32;have m:=run_row_str (P:=prog) a.2.1 49 5 underlying49 underlying5 9 underlying9 32;rw[s] at k;rw[t] at m;go_simp
     try with_reducible rfl
    try simp only[qq]
    refine wpAnyH_done qk ?_ _
    go_wp2_with fail
    go_meet
    exact⟨_,rfl,F,qo,O.1,N⟩
   ·-- an alloc has come up: its world is named
    go_simp
    refine g.out _ _ ?_ (fun n=>?_)
    ·exact n.alloc _
    clear g K
    try simp only[qq]
    obtain⟨u,y⟩:=nmd (q.alloc (.cells z32 57));rw[y] at n ⊢;obtain⟨fD,aF⟩:∃ f,u.rowIs q.heap.size 57 32 f:=by rw[<-y];exact digest_new q
    have z:Fr [] q u:=by rw[<-y];exact (Fq [] q).alloc _
    have aj:=(ay.fr z (nlr _) qs).more z.size;clear y;refine wpAnyH_ready (rs:=[5]) qk qs ?_;refine AllReadyH.cons rfl (fun K g=>?_) AllReadyH.nil;have C:=Tagged_any 1 _ 2 2 [l,r] (u) (ai.fr0 (A.then z)) qo (aj) (by simp[joinL];omega);rw[show (((1:UInt8).toNat:Nat):Int)=1 from rfl,ac.out] at C;go_simp
    go_at_call 151
    (with_reducible refine C.mono ?_);clear C;rintro e Y ⟨rfl,E⟩;unfold encD;refine g.out _ _ (n.fr E qs qs) (fun n=>?_);clear g K
    try simp only[qq]
    refine wpAnyH_take (i:=6) (v:=?_) rfl qk qk qk (fun _ _ _ h=>h) (Or.inl ⟨qr,?_⟩) (by assumption) ?_
    rotate_left
    ·intro x a
     have k:=run_row_str (P:=prog) a.1 49 5 underlying49 underlying5 9 underlying9 32;have m:=run_row_str (P:=prog) a.2.1 49 5 underlying49 underlying5 9 underlying9 32;rw[s] at k;rw[t] at m;go_simp
     try with_reducible rfl
    try simp only[qq]
    refine wpAnyH_take (i:=7) (v:=?_) rfl qk qk qk (fun _ _ _ h=>h) (Or.inl ⟨qr,?_⟩) (by assumption) ?_
    rotate_left
    ·intro x a
     have k:=run_row_str (P:=prog) a.1 49 5 underlying49 underlying5 9 underlying9 32;have m:=run_row_str (P:=prog) a.2.1 49 5 underlying49 underlying5 9 underlying9 32;rw[s] at k;rw[t] at m;go_simp
     try with_reducible rfl
    try simp only[qq]
    refine wpAnyH_take (i:=8) (v:=?_) rfl qk qk qk (fun _ _ _ h=>h) (Or.inl ⟨qr,?_⟩) (by assumption) ?_
    rotate_left
    ·intro x a
     have k:=run_row_str (P:=prog) a.1 49 5 underlying49 underlying5 9 underlying9 32;have m:=run_row_str (P:=prog) a.2.1 49 5 underlying49 underlying5 9 underlying9 32;rw[s] at k;rw[t] at m;go_simp
     try with_reducible rfl
    try simp only[qq]
    have B:=rowIs_fr aF E qs;have U:Fr [] c Y:=(A.then z).then E;have F:c.heap.size<=q.heap.size:=A.size;have J:Q≠q.heap.size/\R≠q.heap.size:=by have:=T.out.2.2;omega
    refine wpAnyH_ready (rs:=[10]) qk qs ?_;refine AllReadyH.cons rfl (fun K g=>?_) AllReadyH.nil;rw[if_pos qr];have H:(dCells d).toArray.size=32:=by rw[dcells_size,D.out]
    refine wp_store_mid 57 (.tmp 5) (.tmp 14) rfl (q.heap.size) 0 (dCells d).toArray rfl rfl (by rw[H];exact there_row B qo) (by rw[H];kernel_rfl) (all_oneCell_toArray (dcells_one d)) ?_;rw[show (dCells d).toArray.toList=dCells d from rfl];have O:=row_digest (d:=d) B D.out;have N:Fr [] c ((Y).setCells (q.heap.size) 0 (dCells d)):=U.setCells (.inr F) _ _;have X:(Y).heap.size=((Y).setCells (q.heap.size) 0 (dCells d)).heap.size:=(size_setCells _ _ _ _).symm;have ax:=B.lt;have L:Two Q R l r ((Y).setCells (q.heap.size) 0 (dCells d)):=n.fr ((Fq [q.heap.size] (Y)).setCells qs _ _) (by simpa using J.1) (by simpa using J.2);obtain⟨XX,M⟩:=nmd ((Y).setCells (q.heap.size) 0 (dCells d));rw[M] at O N X L ⊢;clear n;refine g.out _ _ L (fun n=>?_);clear g K M
    try simp only[qq]
    refine wpAnyH_take (i:=11) (v:=?_) rfl qk qk qk (fun _ _ _ h=>h) (Or.inl ⟨qr,?_⟩) (by assumption) ?_
    rotate_left
    ·intro x a
     have k:=run_row_str (P:=prog) a.1 49 5 underlying49 underlying5 9 underlying9 32;have m:=run_row_str (P:=prog) a.2.1 49 5 underlying49 underlying5 9 underlying9 32;rw[s] at k;rw[t] at m;go_simp
     try with_reducible rfl
    try simp only[qq]
    refine wpAnyH_done qk ?_ _
    go_wp2_with fail
    go_meet
    exact⟨_,rfl,F,qo,O.1,N⟩
  ·-- an alloc has come up: its world is named
   go_simp
   refine g.out _ _ ?_ (fun n=>?_)
   ·exact n.alloc _
   clear g K
   try simp only[qq]
   obtain⟨q,G⟩:=nmd ((c.alloc (.cells z32 57)).drew);rw[G] at n ⊢;obtain⟨fD,aE⟩:∃ f,q.rowIs c.heap.size 57 32 f:=by rw[<-G];obtain⟨f,V⟩:=digest_new c;exact⟨f,V.drew⟩
   have A:Fr [] c q:=by rw[<-G];exact ((Fq [] c).alloc _).drew
   clear G;refine wpAnyH_ready (rs:=[4]) qk qs ?_;refine AllReadyH.cons rfl (fun K g=>?_) AllReadyH.nil;go_simp
   refine g.out _ _ ?_ (fun n=>?_)
   ·exact n.alloc _
   clear g K
   try simp only[qq]
   obtain⟨u,y⟩:=nmd (q.alloc (.cells #[.string sl,.string sr] 9));rw[y] at n ⊢;have aj:Row u u.heap.size 1 (some ⟨q.heap.size,0,none⟩) 2 ([l,r].map encN):=by rw[<-y];exact parts_row q s t
   have z:Fr [] q u:=by rw[<-y];exact (Fq [] q).alloc _
   clear y;refine wpAnyH_ready (rs:=[5]) qk qs ?_;refine AllReadyH.cons rfl (fun K g=>?_) AllReadyH.nil;have C:=Tagged_any 1 _ 2 2 [l,r] (u) (ai.fr0 (A.then z)) qo (aj) (by simp[joinL];omega);rw[show (((1:UInt8).toNat:Nat):Int)=1 from rfl,ac.out] at C;go_simp
   go_at_call 151
   (with_reducible refine C.mono ?_);clear C;rintro e Y ⟨rfl,E⟩;unfold encD;refine g.out _ _ (n.fr E qs qs) (fun n=>?_);clear g K
   try simp only[qq]
   refine wpAnyH_take (i:=6) (v:=?_) rfl qk qk qk (fun _ _ _ h=>h) (Or.inl ⟨qr,?_⟩) (by assumption) ?_
   rotate_left
   ·intro x a
    have k:=run_row_str (P:=prog) a.1 49 5 underlying49 underlying5 9 underlying9 32;have m:=run_row_str (P:=prog) a.2.1 49 5 underlying49 underlying5 9 underlying9 32;rw[s] at k;rw[t] at m;go_simp
    try with_reducible rfl
   try simp only[qq]
   refine wpAnyH_take (i:=7) (v:=?_) rfl qk qk qk (fun _ _ _ h=>h) (Or.inl ⟨qr,?_⟩) (by assumption) ?_
   rotate_left
   ·intro x a
    have k:=run_row_str (P:=prog) a.1 49 5 underlying49 underlying5 9 underlying9 32;have m:=run_row_str (P:=prog) a.2.1 49 5 underlying49 underlying5 9 underlying9 32;rw[s] at k;rw[t] at m;go_simp
    try with_reducible rfl
   try simp only[qq]
   refine wpAnyH_take (i:=8) (v:=?_) rfl qk qk qk (fun _ _ _ h=>h) (Or.inl ⟨qr,?_⟩) (by assumption) ?_
   rotate_left
   ·intro x a
    have k:=run_row_str (P:=prog) a.1 49 5 underlying49 underlying5 9 underlying9 32;have m:=run_row_str (P:=prog) a.2.1 49 5 underlying49 underlying5 9 underlying9 32;rw[s] at k;rw[t] at m;go_simp
    try with_reducible rfl
   try simp only[qq]
   have B:=rowIs_fr aE (z.then E) qs;have U:Fr [] c Y:=(A.then z).then E;have F:c.heap.size<=c.heap.size:=nlr _;have J:Q≠c.heap.size/\R≠c.heap.size:=by have:=T.out.2.2;omega
   refine wpAnyH_ready (rs:=[10]) qk qs ?_;refine AllReadyH.cons rfl (fun K g=>?_) AllReadyH.nil;rw[if_pos qr];have H:(dCells d).toArray.size=32:=by rw[dcells_size,D.out]
   refine wp_store_mid 57 (.tmp 5) (.tmp 14) rfl (c.heap.size) 0 (dCells d).toArray rfl rfl (by rw[H];exact there_row B qo) (by rw[H];kernel_rfl) (all_oneCell_toArray (dcells_one d)) ?_;rw[show (dCells d).toArray.toList=dCells d from rfl];have O:=row_digest (d:=d) B D.out;have N:Fr [] c ((Y).setCells (c.heap.size) 0 (dCells d)):=U.setCells (.inr F) _ _;have X:(Y).heap.size=((Y).setCells (c.heap.size) 0 (dCells d)).heap.size:=(size_setCells _ _ _ _).symm;have ax:=B.lt;have L:Two Q R l r ((Y).setCells (c.heap.size) 0 (dCells d)):=n.fr ((Fq [c.heap.size] (Y)).setCells qs _ _) (by simpa using J.1) (by simpa using J.2);obtain⟨XX,M⟩:=nmd ((Y).setCells (c.heap.size) 0 (dCells d));rw[M] at O N X L ⊢;clear n;refine g.out _ _ L (fun n=>?_);clear g K M
   try simp only[qq]
   refine wpAnyH_take (i:=11) (v:=?_) rfl qk qk qk (fun _ _ _ h=>h) (Or.inl ⟨qr,?_⟩) (by assumption) ?_
   rotate_left
   ·intro x a
    have k:=run_row_str (P:=prog) a.1 49 5 underlying49 underlying5 9 underlying9 32;have m:=run_row_str (P:=prog) a.2.1 49 5 underlying49 underlying5 9 underlying9 32;rw[s] at k;rw[t] at m;go_simp
    try with_reducible rfl
   try simp only[qq]
   refine wpAnyH_done qk ?_ _
   go_wp2_with fail
   go_meet
   exact⟨_,rfl,F,qo,O.1,N⟩
 case rest =>
  obtain⟨az,rfl,F,aK,aw,V⟩:=hcut;have af:=rowIs_fr ap.out V qs;have aJ:=store_digest (d:=d) af D.out;have ak:=row_digest (d:=d) af D.out;obtain⟨w6,ao⟩:=nmd (wc.setCells RR 0 (dCells d));have ar:Fr [] w w6:=by rw[<-ao];exact (aB.out.then V).setCells (.inr aq.out) _ _
  rw[ao] at aJ ak;have aA:=Hd aw;have aD:=Hd ak.1;have aC:=Hd ar;have aa:(dCells d).length=32:=by rw[dcells_len,D.out]
  have H:(dCells d).toArray.size=32:=by rw[dcells_size,D.out]
  clear af ak ao ar aw V
  go_wp2_with (first
   | (with_reducible refine wpList_load_mid rfl 57 (.tmp 5) rfl az 0 rfl (dCells d) (.array 32 5) aA.out qk rfl (by rw[aa];kernel_rfl) ?_))
  exact bodyPost_ret (v:=encD d) (results_cell_mid (d:=.array 32 5) (p:=4) (ty:=57) (b:=RR) (o:=0) rfl rfl aD.out qk rfl (by rw[aa];rfl)) rfl ⟨by rw[HD.out],aC.out⟩
end Go.Proofs.YtlpmiimgacfmkaaGreatDoor
