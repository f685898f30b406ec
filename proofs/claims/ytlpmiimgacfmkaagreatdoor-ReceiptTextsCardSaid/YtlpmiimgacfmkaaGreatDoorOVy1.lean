/- receipt.lastWrite and the law's writes, of any action. -/
import Derived.Test.YtlpmiimgacfmkaaGreatDoorOVm
import Derived.Test.YtlpmiimgacfmkaaGreatDoorOGq
import Derived.Test.YtlpmiimgacfmkaaGreatDoorOGi
import Derived.Test.YtlpmiimgacfmkaaGreatDoorOTr3
import Derived.Test.YtlpmiimgacfmkaaGreatDoorOMb
set_option linter.all false
namespace Go.Proofs.YtlpmiimgacfmkaaGreatDoor
set_option maxRecDepth 100000
set_option maxHeartbeats 4000000
open Go.Proofs.Tryz
open Go.RowKit Go.Shelf
theorem run_eqO {a b:ON} (e:checkO a=0) (i:checkO b=0) (w:World):(binOp .eql 31 (encO a) (encO b)).run prog w=.ok (.bool (decide (a=b))) w:=by
 by_cases c:a=b
 ·subst c
  obtain⟨l,f⟩:=keyOf_check e;obtain⟨r,g,j⟩:=run_equal_deep (P:=prog) w (m:=4) qo qk qk f f;have k:=j.2 rfl;subst k;have h:∀ xs d:Array Value,(binOp .eql 31 (.agg xs) (.agg d)).run prog w=((Op.equal 31 (.agg xs) (.agg d)).run prog w).andThen fun b w'=>.ok (.bool b) w':=fun xs d=>by simp[binOp]
  unfold encO at g ⊢;rw[h,g];simp[Result.andThen]
 ·rw[decide_eq_false c]
  exact run_eqON e i c w
def chZ:Array Value:=#[.int .i64 0,.string ⟨#[]⟩,.int .i64 0,.int .i64 0,.string ⟨#[]⟩,.string ⟨#[]⟩,.bool false]
def wrO (l:List CH) (n:ON):Option CH:=l.find? fun x=>decide (x.n=n)
def wrV (o:Option CH):Value:=match o with
 | some x=>.tuple #[.agg x.cs.toArray,.bool true]
 | none=>.tuple #[.agg chZ,.bool false]
theorem find_mid {l:List CH} {n:ON} {j:Nat} {x:CH} (c:l[j]?=some x) (b:x.n=n) (h:∀ y∈l.take j,y.n≠n):wrO l n=some x:=by
 unfold wrO;have a:=lgs.1 c;rw[<-List.take_append_drop j l,List.find?_append,List.drop_eq_getElem_cons a.1,a.2];rw[List.find?_eq_none.2 (fun y d=>by simpa using h y d)];simp[b]
theorem find_end {l:List CH} {n:ON} (h:∀ y∈l,y.n≠n):wrO l n=none:=by
 unfold wrO;exact List.find?_eq_none.2 fun y a=>by simpa using h y a
theorem take_ne {l:List CH} {n:ON} {j:Nat} {x:CH} (c:l[j]?=some x) (b:x.n≠n) (h:∀ y∈l.take j,y.n≠n):∀ y∈l.take (j+1),y.n≠n:=by
 intro y a;rw[List.take_add_one,c,List.mem_append] at a
 rcases a with a | a
 ·exact h y a
 ·simp at a
  subst a;exact b
theorem LastW_g (a:AG) (Q:ByteArray) (E B:Option Addr) (c d:Nat) (n:ON) (w:World) (hB:Chs w B a.w) (ay:checkO n=0) (hv:∀ x∈a.w,checkO x.n=0) (hl:a.w.length<=100000) :
 Calls prog 64 #[a.val Q E c B d,encO n] w (RetPost w (wrV (wrO a.w n))):=by
 obtain⟨ti,aF⟩:=nmd (a.k.rnd);obtain⟨ph,aB⟩:=nmd (a.k.phase);obtain⟨ix,aw⟩:=nmd (a.k.idx);obtain⟨nr,az⟩:=nmd (a.r.length);obtain⟨o,L⟩:=nmd (a.w.length);obtain⟨kd,ax⟩:=nmd (n.kind);obtain⟨nu,aA⟩:=nmd (n.number);obtain⟨xx,aL⟩:=nmd (n.index);obtain⟨so,aD,_,_⟩:=str_of n.owner;obtain⟨st,aE,_,_⟩:=str_of n.text;have ad:encO n=.agg #[kd,so,nu,xx,st]:=by unfold encO;rw[ax,aA,aL,aD,aE]
 have aG:a.val Q E c B d=.agg #[ti,ph,ix,Q,.slice E nr c,.slice B o d]:=by unfold AG.val;rw[aF,aB,aw,az,L]
 rw[aG,ad];obtain⟨w1,aH,aP,n1,f1⟩:=bxz w #[ti,ph,ix,Q,.slice E nr c,.slice B o d] 91 w.heap.size;obtain⟨w2,aI,aQ,n2,X⟩:=bxz w1 #[kd,so,nu,xx,st] 31 (w.heap.size+1);obtain⟨N1,ab⟩:=nmd (w.heap.size+1);rw[ab] at n2;obtain⟨w3,aJ,aM,n3,I⟩:=bxz w2 #[L0,S0,L0,L0,S0,S0,.bool false] 95 (w.heap.size+1+1);obtain⟨V,aq⟩:=nmd (w.heap.size+1+1);rw[aq] at n3;have S:=Hd ((f1.then X).then I);have F:=Hd (An ((n1.fr X qs).fr I qs) (An (n2.fr I qs) n3));have U:=Hd (An aH (An aI aJ));have t:=Hd (An ad (An L (An ay hv)));have HB:=Hd hB;have ar:N1+1=V:=qo
 have G:=Hd (An ab (An ar aM));rw[L] at hl;clear ar aH aI aJ n1 n2 n3 f1 X I aP aQ aM aF aB aw az L ax aA aL aD aE aG hB ay hv ad
 go_enter func64,ntmps64
 go_upto_region 1 with fail
 rw[U.out.1,U.out.2.1,U.out.2.2]
 try rw[G.out.1]
 try rw[G.out.2.1]
 clear ab aq;have x5:=F.out.1.k5
 go_wp2_with fail
 clear x5
 go_loopw [11] (fun i W=>∃ (j:Nat),j<=o/\i=j/\Fr [] w3 W/\∀ y∈a.w.take j,y.n≠n) (fun i _=>o - (intOf i).toNat)
 case atStart=>exact⟨0,Nat.zero_le _,rfl,Fq _ _,qs⟩
 case round =>
  obtain⟨j,hj,rfl,av,u⟩:=hrel;have p:=Hd (An av u);clear av u
  by_cases aO:j<o
  ·have aS:(j:Int)<(o:Int):=qo
   have aC:Row wr wr.heap.size 7 B o (a.w.flatMap CH.cs):=by have aa:=HB.out.fr0 (S.out.then p.out.1);unfold Chs Rd at aa;rw[t.out.2.1] at aa;exact aa
   obtain⟨bb,off,rfl,aN,au⟩:=row_get ch_len aC qo;obtain⟨x,M⟩:∃ x,a.w[j]?=some x:=⟨_,lge (by rw[t.out.2.1];exact aO)⟩;have K:=au j x M;have J:=fun W=>run_eqO (t.out.2.2.2 x (lmg M)) t.out.2.2.1 W;have HX:=Hd M;obtain⟨⟨O,ow,P,N,tx⟩,v,H⟩:=x;obtain⟨ao,ae,_,_⟩:=str_of ow;obtain⟨ap,af,_,_⟩:=str_of tx;obtain⟨sv,ag,_,_⟩:=str_of v;rw[t.out.1] at J;unfold CH.cs at K;unfold encO at J;simp only[ae,af,ag] at K J;obtain⟨y0,y1,y2,y3,y4,y5,y6⟩:=cx7 K;obtain⟨w4,aK,aR,n4,f4⟩:=bxz wr #[O,ao,P,N,ap,sv,.bool H] 95 wr.heap.size;have T:=Hd (An ae (An af ag));clear K au aC M aR ae af ag
   go_upto_region 4 with fail
   try rw[aK]
   clear y0 y1 y2 y3 y4 y5 y6 aN aK;have Y:=p.out.1.then f4;obtain⟨aT,z1,z2,z3,z4,z5,z6⟩:=n4.m7;have m2:=F.out.2.1.fr Y qs;obtain⟨e,g,h,l,m⟩:=m2.m5;have R:=Hd Y;clear Y f4 m2;obtain⟨eb,D⟩:=nmd (decide ((⟨⟨O,ow,P,N,tx⟩,v,H⟩:CH).n=n));rw[D] at J
   cases eb with
   | true =>
    have C:=of_decide_eq_true D;have z:=Hd (find_mid HX.out C p.out.2);clear D C
    go_upto_region 5 with fail
    clear e g h l m;have b:=F.out.2.2.fr R.out qs;obtain⟨e,g,h,l,m,q,s⟩:=b.m7;have ah:=b.f 0;have ai:=b.f 1;have aj:=b.f 2;have ak:=b.f 3;have al:=b.f 4;have am:=b.f 5;have an:=b.f 6
    go_wp2_with fail
    obtain⟨u2,A,ac,Z⟩:=sx7 (w4) (V) b O ao P N ap sv (.bool H);rw[A];clear A;clear e g h l m q s ah ai aj ak al am an;obtain⟨e,g,h,l,m,q,s⟩:=ac.m7;refine bodyPost_ret (v:=.tuple #[.agg #[O,ao,P,N,ap,sv,.bool H],.bool true]) (by simp[results,results64,go_sem,e,g,h,l,m,q,s]) rfl ?_;refine⟨?_,(S.out.then R.out).trans Z (by simp;have:=G.out;omega)⟩;rw[z.out];unfold wrV CH.cs
    simp only[T.out.1,T.out.2.1,T.out.2.2]
   | false =>
    have C:=of_decide_eq_false D;have z:=Hd (take_ne HX.out C p.out.2);clear D C
    go_wp2_with fail
    go_roundw
    case rel=>exact⟨j+1,qo,by go_num,R.out,z.out⟩
    case measure=>simp[intOf];omega
  ·obtain rfl:j=o:=qo
   have u:=p.out.2;rw[List.take_of_length_le (by rw[t.out.2.1];exact nlr _)] at u;have z:=Hd (find_end u);clear u
   go_upto_region 7 with fail
   have b:=F.out.2.2.fr p.out.1 qs;obtain⟨e,g,h,l,m,q,s⟩:=b.m7;have ah:=b.f 0;have ai:=b.f 1;have aj:=b.f 2;have ak:=b.f 3;have al:=b.f 4;have am:=b.f 5;have an:=b.f 6
   go_wp2_with fail
   obtain⟨u2,A,ac,Z⟩:=sx7 (wr) (V) b L0 S0 L0 L0 S0 S0 (.bool false);rw[A];clear A;clear e g h l m q s ah ai aj ak al am an;obtain⟨e,g,h,l,m,q,s⟩:=ac.m7;refine bodyPost_ret (v:=.tuple #[.agg chZ,.bool false]) (by simp[results,results64,chZ,go_sem,e,g,h,l,m,q,s]) rfl ?_;refine⟨?_,(S.out.then p.out.1).trans Z (by simp;have:=G.out;omega)⟩;rw[z.out];rfl
set_option maxHeartbeats 1000000
attribute [local go_sem] Oper.semAt_some
def bl (x n:Nat):List Bool :=
 if h:n<=1 \/ 1048576<n then [] else if x<leftS n then bl x (leftS n)++[true] else bl (x - leftS n) (n - leftS n)++[false]
termination_by n
decreasing_by
 all_goals have:=leftS_spec (n:=n) qo qo;omega
theorem bl_one (x:Nat):bl x 1=[]:=by rw[bl,dif_pos qo]
theorem bl_two (x n:Nat) (a:2<=n) (b:n<=1048576):bl x n=if x<leftS n then bl x (leftS n)++[true] else bl (x - leftS n) (n - leftS n)++[false]:=by rw[bl,dif_neg qo]
theorem climb_Lt (m l x n k:Nat) (W:World) (R b:World->Prop) (z:2<=n) (B:n<=1048576) (g:leftS n=k) (C:x<k) (i:∀ m,CallsIn Fence.wide m prog 259 #[.int .i64 (x:Int),.int .i64 (k:Int),.func (.yield l) #[] #[]] W (Tru R))
 (j:∀ W,R W->YieldAt Fence.wide 0 prog l #[.bool true] W (Tru b)):CallsIn Fence.wide m prog 259 #[.int .i64 (x:Int),.int .i64 (n:Int),.func (.yield l) #[] #[]] W (Tru b):=by
 have a:=leftSize_any n qo qo W;rw[g] at a;have p:=Hd a;have q:=Hd i;have s:=Hd j;have A:((n:Int) == 1)=false:=by simp;omega
 have D:(x:Int)<(k:Int):=qo
 clear a i j g;refine callsIn_of_wp func259 rfl trivial ?_ rfl;simp only[ntmps259,List.size_toArray,List.length_cons,List.length_nil,Nat.reduceAdd,Nat.reduceSub,Array.replicate_succ,Array.replicate_zero,List.push_toArray,List.append_toArray,List.nil_append,List.cons_append]
 gi_wp2_with (first
  | (refine⟨trivial,fun h=>absurd h (by simp[Fence.wide]),?_⟩;(with_reducible refine (callsIn_wide.2 p.out).mono ?_);rintro e t ⟨rfl,rfl⟩)
  | (refine⟨trivial,fun h=>absurd h (by simp[Fence.wide]),?_⟩;(with_reducible refine (q.out _).mono ?_);rintro e t ⟨rfl,c⟩;obtain⟨y,F,v,w,E,f⟩:=yieldAt_wide (m':=m - 1) (s.out _ c);have r:=Hd f;clear c f))
 refine⟨fun h=>absurd h (by simp[Fence.wide]),r.out.mono ?_⟩;rintro e u ⟨rfl,d⟩;have o:=Hd d;clear d
 gi_wp2_with fail
 go_ret
 exact⟨rfl,o.out⟩
theorem climb_Rt (m l x n k y r:Nat) (W:World) (R b:World->Prop) (B:2<=n) (D:n<=1048576) (g:leftS n=k) (H:x<n) (J:k<=x) (L:x - k=y) (E:n - k=r) (i:∀ m,CallsIn Fence.wide m prog 259 #[.int .i64 (y:Int),.int .i64 (r:Int),.func (.yield l) #[] #[]] W (Tru R))
 (j:∀ W,R W->YieldAt Fence.wide 0 prog l #[.bool false] W (Tru b)):CallsIn Fence.wide m prog 259 #[.int .i64 (x:Int),.int .i64 (n:Int),.func (.yield l) #[] #[]] W (Tru b):=by
 have a:=leftSize_any n qo qo W;rw[g] at a;have p:=Hd a;have q:=Hd i;have t:=Hd j;have C:((n:Int) == 1)=false:=by simp;omega
 have K:¬ (x:Int)<(k:Int):=qo
 have I:decide (x<k)=false:=by simp;omega
 have F:IntKind.i64.wrap ((x:Int) - (k:Int))=(y:Int):=by simp[IntKind.wrap,IntKind.bits,IntKind.signed];omega
 have G:IntKind.i64.wrap ((n:Int) - (k:Int))=(r:Int):=by simp[IntKind.wrap,IntKind.bits,IntKind.signed];omega
 clear a i j g;refine callsIn_of_wp func259 rfl trivial ?_ rfl;simp only[ntmps259,List.size_toArray,List.length_cons,List.length_nil,Nat.reduceAdd,Nat.reduceSub,Array.replicate_succ,Array.replicate_zero,List.push_toArray,List.append_toArray,List.nil_append,List.cons_append]
 gi_wp2_with (first
  | (refine⟨trivial,fun h=>absurd h (by simp[Fence.wide]),?_⟩;(with_reducible refine (callsIn_wide.2 p.out).mono ?_);rintro e u ⟨rfl,rfl⟩)
  | (refine⟨trivial,fun h=>absurd h (by simp[Fence.wide]),?_⟩;(with_reducible refine (q.out _).mono ?_);rintro e u ⟨rfl,c⟩;obtain⟨A,N,w,z,M,f⟩:=yieldAt_wide (m':=m - 1) (t.out _ c);have s:=Hd f;clear c f))
 refine⟨fun h=>absurd h (by simp[Fence.wide]),s.out.mono ?_⟩;rintro e v ⟨rfl,d⟩;have o:=Hd d;clear d
 gi_wp2_with fail
 go_ret
 exact⟨rfl,o.out⟩
theorem climb_g (l:Nat):∀ (n x:Nat) (m:Nat) (W:World) (R:Nat->World->Prop),1<=n->n<=1048576->x<n->R 0 W ->
 (∀ (j:Nat) (b:Bool) (a:World),(bl x n)[j]?=some b->R j a->YieldAt Fence.wide 0 prog l #[.bool b] a (Tru (R (j+1)))) ->
 CallsIn Fence.wide m prog 259 #[.int .i64 (x:Int),.int .i64 (n:Int),.func (.yield l) #[] #[]] W (Tru (R (bl x n).length)):=by
 intro n
 induction n using Nat.strongRecOn with
 | ind n o =>
  intro x m W R p f r i d
  rcases Nat.eq_or_lt_of_le p with rfl | g
  ·rw[bl_one]
   exact climb_one m _ _ W (R 0) i
  ·have q:=leftS_spec (n:=n) g f
   rw[bl_two x n g f] at d ⊢
   by_cases h:x<leftS n
   ·rw[if_pos h] at d ⊢
    rw[lla];refine climb_Lt m l x n (leftS n) W (R (bl x (leftS n)).length) _ g f rfl h (fun k=>o (leftS n) qo x k W R q.1 qo h i (fun j b a e c=>d j b a ?_ c)) (fun a c=>d _ true a ?_ c)
    ·rw[List.getElem?_append_left (lgs.1 e).1];exact e
    ·rw[List.getElem?_append_right (nlr _),Nat.sub_self];rfl
   ·rw[if_neg h] at d ⊢
    rw[lla];refine climb_Rt m l x n (leftS n) (x - leftS n) (n - leftS n) W (R (bl (x - leftS n) (n - leftS n)).length) _ g f rfl r qo rfl rfl (fun k=>o (n - leftS n) qo (x - leftS n) k W R qo qo qo i (fun j b a e c=>d j b a ?_ c)) (fun a c=>d _ false a ?_ c)
    ·rw[List.getElem?_append_left (lgs.1 e).1];exact e
    ·rw[List.getElem?_append_right (nlr _),Nat.sub_self];rfl
theorem seq_g (n g h i a:Nat) (w:World) (z:i<a) (A:a<=1048576) (p:BoxN w g 3 #[.int .i64 (i:Int)]) (f:BoxN w h 3 #[.int .i64 (a:Int)]) (l:Nat) (J:Nat->World->Prop) (W:World) (hW:Fr [] w W)
 (r:∀ k x d,(bl i a)[k]?=some x->J k d->YieldAt Fence.wide (n - 1) prog l #[.bool x] d fun e o=>e=.returned (.bool true)/\J (k+1) o) (q:J 0 W) :
 CallsIn Fence.wide n prog 258 (#[.func (.yield l) #[] #[]]++#[.pointer (some ⟨g,0,none⟩),.pointer (some ⟨h,0,none⟩)]) W fun e o=>(∃ v,e=.returned v)/\J (bl i a).length o:=by
 have C:=(p.fr hW qs).c 0;have D:=(f.fr hW qs).c 0
 have s:=Hd (fun m =>
  climb_g l a i m W J qo A z q (fun j b d y u=>yieldAt_wide (r j b d y u)))
 clear p f r q hW
 show CallsIn Fence.wide n prog 258 #[.func (.yield l) #[] #[],.pointer g,.pointer h] W _
 refine callsIn_of_wp func258 rfl trivial ?_ rfl;simp only[ntmps258,List.size_toArray,List.length_cons,List.length_nil,Nat.reduceAdd,Nat.reduceSub,Array.replicate_succ,Array.replicate_zero,List.push_toArray,List.append_toArray,List.nil_append,List.cons_append]
 gi_wp2_with (refine⟨trivial,fun t=>absurd t (by simp[Fence.wide]),?_⟩;(with_reducible refine (s.out _).mono ?_);rintro e B ⟨rfl,f⟩)
 go_end0
 exact⟨⟨_,rfl⟩,f⟩
set_option maxHeartbeats 4000000
open Go.RowKit
def pairC (l r:Nm):List Value:=dCells l++dCells r
theorem pairC_len {l r:Nm} (a:l.length=32) (b:r.length=32):(pairC l r).length=64:=by
 unfold pairC;rw[lla,dcells_len,dcells_len,a,b]
theorem pairC_one (l r:Nm):∀ u∈pairC l r,u.oneCell'=true:=by
 intro u a
 rcases List.mem_append.1 a with h | h
 ·exact dcells_one l u h
 ·exact dcells_one r u h
theorem foldk_set (off:Nat) (l:List Value):∀ (k:Nat) (z:Array Value),off+k+l.length<=z.size->∀ i,((l.zipIdx k).foldl (fun cs x=>cs.setIfInBounds (off+x.2) x.1) z)[i]?=if off+k<=i/\i<off+k+l.length then l[i - (off+k)]? else z[i]?:=by
 induction l with
 | nil =>
  intro k z _ i;simp only[List.zipIdx_nil,List.foldl_nil,List.length_nil]
  rw[if_neg qo]
 | cons x l d =>
  intro k z c i;simp only[List.length_cons] at c;rw[List.zipIdx_cons,List.foldl_cons,d (k+1) _ (by simp;omega)];simp only[List.length_cons]
  by_cases a:off+(k+1)<=i/\i<off+(k+1)+l.length
  ·rw[if_pos a,if_pos qo,show i - (off+k)=(i - (off+(k+1)))+1 by omega,List.getElem?_cons_succ]
  ·rw[if_neg a]
   by_cases b:i=off+k
   ·subst b
    rw[if_pos qo,Nat.sub_self,List.getElem?_cons_zero,Array.getElem?_setIfInBounds_self_of_lt qo]
   ·rw[if_neg qo,Array.getElem?_setIfInBounds_ne qo]
theorem foldz_size (l:List Value):∀ (k:Nat) (z:Array Value),((l.zipIdx k).foldl (fun cs x=>cs.setIfInBounds x.2 x.1) z).size=z.size:=by
 induction l with
 | nil=>intro k z;rfl
 | cons x l a=>intro k z;rw[List.zipIdx_cons,List.foldl_cons,a];simp
theorem fold_pair {l r:Nm} (d:l.length=32) (e:r.length=32) (z:Array Value) (g:z.size=64) :
 ((dCells r).zipIdx).foldl (fun cs x=>cs.setIfInBounds (32+x.2) x.1) (((dCells l).zipIdx).foldl (fun cs x=>cs.setIfInBounds x.2 x.1) z)=(pairC l r).toArray:=by
 have b:(dCells l).length=32:=by rw[dcells_len,d]
 have c:(dCells r).length=32:=by rw[dcells_len,e]
 have h:=foldz_size (dCells l) 0 z
 apply Array.ext_getElem?
 intro i;rw[foldk_set 32 (dCells r) 0 _ qo i,fold_set (dCells l) 0 z qo i,b,c];simp only[pairC,List.getElem?_toArray,List.getElem?_append,b,Nat.add_zero,Nat.zero_add,Nat.sub_zero,Nat.zero_le,true_and]
 by_cases a:i<32
 ·rw[if_neg qo,if_pos a,if_pos a]
 ·rw[if_neg a]
  by_cases f:i<64
  ·rw[if_pos qo,if_neg a]
  ·rw[if_neg qo,if_neg a,Array.getElem?_eq_none qo,List.getElem?_eq_none qo]
theorem run_build_pair (W:World) {l r:Nm} (a:l.length=32) (b:r.length=32):(Instr.build 308 #[(0,.agg (dCells l).toArray),(1,.agg (dCells r).toArray)]).run prog W=.ok (.agg (pairC l r).toArray) W:=by
 have c:(dCells l).length=32:=by rw[dcells_len,a]
 have d:(dCells r).length=32:=by rw[dcells_len,b]
 simp[Instr.build,go_sem,c,d,foldz_size];exact fold_pair a b _ rfl
theorem pair_left {W:World} {B:Nat} {l r:Nm} (h:BoxN W B 308 (pairC l r).toArray):W.rangeAt B 0 (dCells l):=fun j v a=>by
 rw[Nat.zero_add,h.c j];have b:=(lgs.1 a).1;simp only[pairC,List.getElem?_toArray];rw[List.getElem?_append_left b];exact a
theorem pair_right {W:World} {B:Nat} {l r:Nm} (b:l.length=32) (h:BoxN W B 308 (pairC l r).toArray):W.rangeAt B 32 (dCells r):=fun j v d=>by
 have a:(dCells l).length=32:=by rw[dcells_len,b]
 rw[h.c (32+j)];simp only[pairC,List.getElem?_toArray];rw[List.getElem?_append_right qo,a,Nat.add_sub_cancel_left];exact d
theorem PairDigest_any (l r:Nm) (w:World) (S:Ok w) (t:l.length=32) (G:r.length=32):Calls prog 219 #[.agg (pairC l r).toArray] w (SumPost w (nodeN l r)):=by
 obtain⟨a,x,E,q⟩:=bxn w (pairC l r).toArray 308;obtain⟨w2,g⟩:=nmd (a.alloc (.cells (z32) 57));have c:Fr [] a w2:=by rw[<-g];exact (Fq [] a).alloc _
 obtain⟨W,D⟩:∃ f,w2.rowIs a.heap.size 57 32 f:=by rw[<-g];exact⟨_,row_new a _ _⟩
 have H:a.heap.size=w.heap.size+1:=by rw[<-x];exact wsA _ _
 have k:=E.fr c qs;have h:=Node_any l r w2 (S.fr0 (q.then c)) t G;obtain⟨d,m⟩:=nmd (nodeN l r);have n:d.length=32:=by rw[<-m];exact shaN_len _
 rw[m] at h ⊢;have Q:(dCells d).length=32:=by rw[dcells_len,n]
 have O:(dCells l).length=32:=by rw[dcells_len,t]
 have P:(dCells r).length=32:=by rw[dcells_len,G]
 have K:=Hd (pair_left k);have L:=Hd (pair_right t k);have z:=Hd h;have A:=Hd D;have I:=Hd (q.then c);have M:=Hd x;have N:=Hd g;obtain⟨R,j⟩:=nmd (a.heap.size);rw[j] at A;have B:=Hd j;have C:=Hd H;clear h D q c x g E k m H j;unfold encD at z
 go_enter func219,ntmps219
 go_upto_region 1 with fail
 rw[M.out,N.out,<-C.out,B.out]
 go_wp2_with (first
  | (with_reducible refine wpList_load_mid rfl 57 (.tmp 3) rfl w.heap.size 0 rfl (dCells l) (.array 32 5) K.out qk rfl (by rw[O];kernel_rfl) ?_)
  | (with_reducible refine wpList_load_mid rfl 57 (.tmp 5) rfl w.heap.size 32 rfl (dCells r) (.array 32 5) L.out qk rfl (by rw[P];kernel_rfl) ?_)
  | (go_at_call 150;(with_reducible refine z.out.mono ?_);rintro e U ⟨rfl,s⟩;unfold encD;have i:=rowIs_fr A.out s qs;have T:=store_digest (d:=d) i n;have u:=row_digest (d:=d) i n;obtain⟨V,y⟩:∃ X,U.setCells R 0 (dCells d)=X:=⟨_,rfl⟩;have F:Fr [] w V:=(by rw[<-y];exact ((I.out.then s).setCells (.inr (by have:=B.out;have:=C.out;omega)) _ _));rw[y] at T u;have HRD:=Hd u.1;have J:=Hd F;clear y u F i s))
 exact bodyPost_ret (v:=encD d) (results_cell_mid (d:=.array 32 5) (p:=2) (ty:=57) (b:=R) (o:=0) rfl rfl HRD.out qk rfl (by rw[Q];rfl)) rfl ⟨rfl,J.out⟩
attribute [local go_sem] Oper.semAt_some
theorem results_cells3 {P:Program} {b:Func} {p q u:Tmp} {t1 t2 t3:TypeId} {a:Array Value} {w:World} {A1 A2 A3:Addr} {c d e:Value} (h:b.results=#[.cell p t1,.cell q t2,.cell u t3]) (j:a.getD p undef=.pointer (some A1)) (l:a.getD q undef=.pointer (some A2)) (o:a.getD u undef=.pointer (some A3))
 (f:(loadVar t1 A1).run P w=.ok c w) (g:(loadVar t2 A2).run P w=.ok d w) (i:(loadVar t3 A3).run P w=.ok e w):(results b a).run P w=.ok (.tuple #[c,d,e]) w:=by
 have k:a[p]?.getD undef=.pointer (some A1):=by rw[<-Array.getD_eq_getD_getElem?];exact j
 have n:a[q]?.getD undef=.pointer (some A2):=by rw[<-Array.getD_eq_getD_getElem?];exact l
 have s:a[u]?.getD undef=.pointer (some A3):=by rw[<-Array.getD_eq_getD_getElem?];exact o
 simp only[results,h];simp[Sem.run_bind,Result.andThen,k,n,s,asAddr,f,g,i]
section
variable {P:Program} {r m:Nat} {Q:Exit->Act->World->Prop} {ops:Array Oper}
theorem wpListIn_one {o:Oper} {rest:List Oper} {a:Act} {w:World} (c:o.guard=none) (b:Oper.plainB o=true) (h:o.wp P a w (wpListIn (Fence.wide.inRound r) m P ops Q rest) Q):wpListIn (Fence.wide.inRound r) m P ops Q (o::rest) a w:=by
 unfold wpListIn;have d:Region.wanted o (yielded ops a.tmps)=true:=by simp[Region.wanted,c]
 rw[if_pos d];exact oper_lift b h
end
theorem fold_full (l:List Value) (z:Array Value) (h:z.size=l.length):(l.zipIdx).foldl (fun cs x=>cs.setIfInBounds x.2 x.1) z=l.toArray:=by
 apply Array.ext_getElem?
 intro i;rw[fold_set l 0 z qo i];simp only[Nat.zero_add,Nat.zero_le,true_and,Nat.sub_zero,List.getElem?_toArray];split
 ·rfl
 ·rw[Array.getElem?_eq_none qo,List.getElem?_eq_none qo]
theorem info_pair:∃ i,(prog).info? 308=some i/\i.zero=some (.agg ((List.toArray (.int .u8 0::.int .u8 0::.int .u8 0::.int .u8 0::.int .u8 0::.int .u8 0::.int .u8 0::.int .u8 0::.int .u8 0::.int .u8 0::.int .u8 0::.int .u8 0::.int .u8 0::.int .u8 0::.int .u8 0::.int .u8 0::.int .u8 0::.int .u8 0::.int .u8 0::.int .u8 0::.int .u8 0::.int .u8 0::.int .u8 0::.int .u8 0::.int .u8 0::.int .u8 0::.int .u8 0::.int .u8 0::.int .u8 0::.int .u8 0::.int .u8 0::.int .u8 0::.int .u8 0::.int .u8 0::.int .u8 0::.int .u8 0::.int .u8 0::.int .u8 0::.int .u8 0::.int .u8 0::.int .u8 0::.int .u8 0::.int .u8 0::.int .u8 0::.int .u8 0::.int .u8 0::.int .u8 0::.int .u8 0::.int .u8 0::.int .u8 0::.int .u8 0::.int .u8 0::.int .u8 0::.int .u8 0::.int .u8 0::.int .u8 0::.int .u8 0::.int .u8 0::.int .u8 0::.int .u8 0::.int .u8 0::.int .u8 0::.int .u8 0::.int .u8 0::[]):Array Value)))/\i.size=64/\i.bytes=64:=info_parts qk
theorem wp_then_mono {P:Program} {c:Code} {K:Act->World->Prop} {Q:Exit->Act->World->Prop} {a:Act} {w:World} (h:c.wp P (Exit.then K (fun _ _ _=>False)) a w):c.wp P (Exit.then K Q) a w :=
 wp_mono h fun e a w h=>by cases e <;> first | exact h | exact h.elim
structure PairAt (X:World) (B:Nat) (l r:Nm):Prop where
 rng:X.rangeAt B 0 (pairC l r)
 there:X.there B 0 64
 lt:B<X.heap.size
theorem PairAt.fr {X Y:World} {B:Nat} {l r:Nm} {S:List Nat} (h:PairAt X B l r) (a:Fr S X Y) (b:B ∉ S):PairAt Y B l r :=
 ⟨fun j v d=>(a.cell h.lt b).trans (h.rng j v d),fun j c=>⟨by rw[a.cell h.lt b];exact (h.there j c).1,by rw[a.frozen h.lt b];exact (h.there j c).2⟩,Nat.lt_of_lt_of_le h.lt a.size⟩
theorem there_new (X:World) {z:Array Value} (d:z.size=64):(X.alloc (.cells z 308)).there X.heap.size 0 64:=fun j b=>by
 have a:=BoxN.new X 308 z;rw[Nat.zero_add];refine⟨?_,a.f j⟩;rw[a.c j,Array.getElem?_eq_getElem qo];rfl
theorem PairAt.put {X:World} {B:Nat} {l r:Nm} (a:X.there B 0 64) (d:B<X.heap.size) (c:l.length=32) (e:r.length=32):PairAt (X.setCells B 0 (pairC l r)) B l r:=by
 have b:=pairC_len c e;have f:X.there B 0 (pairC l r).length:=by rw[b];exact a
 refine⟨World.rangeAt_setCells_same X B 0 _ f,?_,by rw[size_setCells];exact d⟩;exact World.there_setCells a B 0 (pairC l r)
def NodesPost (w:World) (r:Nm) (e:Ending) (w':World):Prop:=∃ v,e=.returned (.tuple #[encD r,v,.int .i64 0])/\Fr [] w w'
end Go.Proofs.YtlpmiimgacfmkaaGreatDoor
