/- logtree: Append. -/
import Derived.Test.YtlpmiimgacfmkaaGreatDoorRSa5
set_option linter.all false
set_option maxHeartbeats 4000000
set_option maxRecDepth 100000
namespace Go.Proofs.YtlpmiimgacfmkaaGreatDoor
open Go.Proofs.Tryz
open Go.RowKit
theorem rH:∃i,(prog).info? 57=some i/\i.zero=some (.agg (#[.int .u8 0,.int .u8 0,.int .u8 0,.int .u8 0,.int .u8 0,.int .u8 0,.int .u8 0,.int .u8 0,.int .u8 0,.int .u8 0,.int .u8 0,.int .u8 0,.int .u8 0,.int .u8 0,.int .u8 0,.int .u8 0,.int .u8 0,.int .u8 0,.int .u8 0,.int .u8 0,.int .u8 0,.int .u8 0,.int .u8 0,.int .u8 0,.int .u8 0,.int .u8 0,.int .u8 0,.int .u8 0,.int .u8 0,.int .u8 0,.int .u8 0,.int .u8 0]))/\i.size=32/\i.bytes=32:=info_parts qk
theorem gm(w:World)(t:TypeId):(Instr.makeMap t none).run prog w=.ok (.map (some w.heap.size)) (w.alloc (.map #[] 0)):=by simp[Instr.makeMap,Result.andThen]
theorem rI(l:List Value):∀(k:Nat) (z:Array Value),k+l.length<=z.size->∀i,((l.zipIdx k).foldl (λcs x=>cs.setIfInBounds x.2 x.1) z)[i]?=if k<=i/\i<k+l.length then l[i - k]? else z[i]?:=by
 induction l with
 | nil =>
  intro k z _ i;simp only[List.zipIdx_nil,List.foldl_nil,List.length_nil]
  rw[if_neg qo]
 | cons x l d =>
  intro k z c i;simp only[List.length_cons]at c;rw[List.zipIdx_cons,List.foldl_cons,d (k+1) _ (by simp;omega)];simp only[List.length_cons]
  by_cases a:k+1<=i/\i<k+1+l.length
  ·rw[if_pos a,if_pos qo,show i - k=(i - (k+1))+1 by omega,List.getElem?_cons_succ]
  ·rw[if_neg a]
   by_cases b:i=k
   ·subst b
    rw[if_pos qo,Nat.sub_self,List.getElem?_cons_zero,Array.getElem?_setIfInBounds_self_of_lt qo]
   ·rw[if_neg qo,Array.getElem?_setIfInBounds_ne qo]
theorem mI{d:Nm}{z:Array Value}(c:z.size=32)(a:d.length=32):(List.foldl (λcs x=>cs.setIfInBounds x.snd x.fst) z (eP d).zipIdx)=(eP d).toArray:=by
 have b:(eP d).length=32:=by rw[eU,a]
 apply Array.ext_getElem?
 intro i;rw[rI (eP d) 0 z qo i];simp only[Nat.zero_add,Nat.zero_le,true_and,Nat.sub_zero,List.getElem?_toArray];split
 ·rfl
 ·rw[Array.getElem?_eq_none qo,List.getElem?_eq_none qo]
theorem pp(a:List Nm)(d:Nm):(a++[d]).flatMap eP=a.flatMap eP++eP d:=qs
def TreeM(w:World)(b:Nat)(a:List Nm)(d:List (Value × Value))(F:List Nat):Prop:=∃A c r,TreeIs w b A c (some r) a d/\F=b::(eV A++(some r).toList)
theorem TreeM.at_{w:World}{b:Nat}{a:List Nm}{d:List (Value × Value)}{F:List Nat}(h:TreeM w b a d F):TreeAt w b a d F:=by
 obtain⟨A,c,r,e,f⟩:=h;exact⟨A,c,some r,e,f⟩
theorem TreeM.fr{w w':World}{b:Nat}{a:List Nm}{d:List (Value × Value)}{F S:List Nat}(h:TreeM w b a d F)(g:Fr S w w')(f:∀k∈F,k ∉ S):TreeM w' b a d F:=by
 obtain⟨A,c,r,e,rfl⟩:=h;exact⟨A,c,r,e.fr g f,rfl⟩
theorem TreeM.lt{w:World}{b:Nat}{d:List Nm}{f:List (Value × Value)}{F:List Nat}(h:TreeM w b d f F):∀k∈F,k<w.heap.size:=by
 obtain⟨A,c,r,a,rfl⟩:=h;intro k e
 rcases List.mem_cons.1 e with h|h
 ·rw[h];exact a.box.lt
 ·rcases List.mem_append.1 h with h|h
  ·exact a.own.lt k h
  ·have:k=r:=by simpa using h
   rw[this];exact(a.ms r rfl).1.lt
theorem BX(b:Nat)(d:Nm)(w:World)(h:TreeIs w b none 0 none [] [])(A:d.length=32):Calls prog 89 #[.pointer (some ⟨b,0,none⟩),fu d] w λe w'=>e=.returned (.int .i64 0)/\∃F',TreeM w' b [d] [] F'/\Fr [b] w w'/\∀k∈F',k=b \/ w.heap.size<=k:=by
 have z:(eP d).length=32:=by rw[eU,A]
 have aQ:(eP d).toArray.size=32:=by rw[gV,A]
 have y:=h.box;have aP:=y.lt;have x0:=y.k0;unfold fu;obtain⟨a,E⟩:=eR (w.alloc (.cells (eP d).toArray 57));have ag:a.rowIs w.heap.size 57 32 (λj=>.int .u8 ((d.getD j 0).toNat:Int)):=by rw[<-E];exact gS w z
 have V:Fr [] w a:=by rw[<-E];exact(Fq [] w).alloc _
 have t:=y.fr V qs;obtain⟨y0,y1⟩:=t.m2;have g1:=t.f 1;have av:=Hd E;have I:=Hd t;have J:=Hd V;have ac:=Hd ag;clear E t V ag y h x0
 go_enter func89,ntmps89
 go_upto_region 1 with fail
 rw[av.out];have qT:∀(w:World) (r:Option Nat),(binOp .eql 235 (.map r) (.map none)).run prog w=.ok (.bool r.isNone) w:=λw r=>run_eql_map_nil w _ _ _ r underlying235;have R:=I.out.alloc (.map #[] 0);have aO:=R.k1;have ay:=R.f 1;have qM:=gm a 235
 go_upto_region 7 with fail
 obtain⟨w2,F⟩:=eR (a.alloc (.map #[] 0));have al:MapIs prog 270 w2 a.heap.size []:=by rw[<-F];exact MapIs.new a
 have B:Fr [] a w2:=by rw[<-F];exact(Fq [] a).alloc _
 obtain⟨p,G⟩:=eR (w2.setCell ⟨b,1,none⟩ (.map (some a.heap.size)));have C:Fr [b] w2 p:=by rw[<-G];exact(Fq [b] w2).st _
 have S:BoxN p b 237 #[.slice none 0 0,.map (some a.heap.size)]:=by rw[<-G];exact(I.out.fr B qs).setAt 1 _
 have Y:a.heap.size≠b:=by have:=J.out.size;omega
 have am:=al.fr C (by simpa using Y);rw[F,G];have u0:=S.k0;have ak:=J.out.then B;have aj:Fr [b] w p:=(ak.mono qs).then C;have ap:=Hd (eS (eS ac.out B qs) C (by simp;omega));have ab:=Hd S;have ad:=Hd (An am Y);have K:=Hd aj;clear F al B G C S am ak aj y0 y1 g1 aO ay R qM I ac
 go_upto_region 8 with fail
 obtain⟨q,aK,aI,l⟩:=kS p #[.int .i64 0,.int .i64 0] 270;rw[aK];have aC:(q.drew).cell? ⟨b,0,none⟩=some (.slice none 0 0):=(ab.out.fr l qs).c 0;have O:=eS ap.out l qs;have s:=Hd (ab.out.fr l qs);have au:Hid (Own q 57 32 none 0 0 []):=Hd (Own.nil _ _ _);have Z:b ∉ eV none:=by simp[eV]
 have aF:w.heap.size ∉ eV none:=by simp[eV]
 have aa:∀X:World,X.rowIs w.heap.size 57 32 (λj=>.int .u8 ((d.getD j 0).toNat:Int))->X.rangeAt w.heap.size 0 (eP d):=λX o j v hv=>by
  rw[Nat.zero_add];have hj:j<32:=by have:=(i9.1 hv).1;rw[z]at this;exact this
  rw[o.cell hj,<-hv,iy qo]
 have hC:(λX:World=>X.cell? ⟨b,0,none⟩=some gz/\X.rangeAt w.heap.size 0 (eP d)) q.drew:=⟨aC,aa _ O.drew⟩;have HSS:=Hd (λ(X:World) (P:X.cell? ⟨b,0,none⟩=some gz/\X.rangeAt w.heap.size 0 (eP d))=>An P.1 trivial);refine eZ (λX:World=>X.cell? ⟨b,0,none⟩=some gz/\X.rangeAt w.heap.size 0 (eP d)) 10 qk ?_ qd
 show fb 0 ..
 iterate 5 (refine gB rfl ?_;try simp only[qq])
 refine fN (i:=5) (v:=.agg (eP d).toArray) qk fC rfl qd qk (λ_ _ _ h=>h) (yieldsIf_load_mid qr 57 (.tmp 3) rfl w.heap.size (0) rfl (eP d) (.array 32 5) (λX P=>P.2) qk rfl (by rw[z];kernel_rfl)) (by assumption) ?_
 try simp only[qq]
 refine hO (i:=6) rfl λaw N=>?_;go_simp
 rw[mI qr A];obtain⟨X5,aB,n5,g⟩:=sf q (eP d).toArray 57;have az:X5.cell? ⟨b,0,none⟩=some gz/\X5.rangeAt w.heap.size 0 (eP d):=⟨(s.out.fr g qs).c 0,aa _ (eS O g qs)⟩;rw[aB];refine N _ _ az ?_
 try simp only[qq]
 refine hO (i:=7) rfl λaw N=>?_;obtain⟨ii,aE,aL,aM,aN⟩:=rH;have aq:=Hd (au.out.fr g qs);refine gF (.tmp 37) (.tmp 39) 51 rfl 57 ii _ 32 32 underlying51 aE aL aM aN rfl qd none 0 0 ([]) rfl aq.out ⟨q.heap.size,0,none⟩ 1 1 (eP d) rfl (by rw[z]) (λj u hu=>by rw[fx,n5.c j];simpa using hu) (gL d) (by unfold maxLen;omega) qo ?_;intro A' c' m an D af;rw[show (0+1:Nat)=1 from rfl]at an ⊢;have aA:m.cell? ⟨b,0,none⟩=some gz/\m.rangeAt w.heap.size 0 (eP d):=⟨((s.out.fr g qs).fr D Z).c 0,aa _ (eS (eS O g qs) D aF)⟩;refine N _ _ aA ?_
 try simp only[qq]
 show fb 8 ..
 iterate 2 (refine gB rfl ?_;try simp only[qq])
 refine eW ⟨qk,?_⟩;simp only[qG,qH];have U:=(s.out.fr g qs).fr D Z;have e0:=U.k0;have e1:=U.f 0;obtain⟨X7,Q⟩:=eR (m.setCell ⟨b,0,none⟩ (.slice A' 1 c'));have ae:Fr [b] m X7:=by rw[<-Q];exact(Fq [b] m).st _
 have ah:=U.setAt 0 (.slice A' 1 c')
 have ai:b ∉ eV A':=by
  intro W
  rcases af b W with h|h
  ·exact Z h
  ·have:=s.out.lt;have:=g.size;omega
 have aH:=an.fr ae (by intro k n;simp only[gI];rintro rfl;exact ai n);have ax:=((g.mono qs).trans (D.mono (T:=b::eV none) (by intro x hx;exact .inl (by simp[hx]))) (λx hx=>.inl hx)).trans ae qs;rw[Q]at ah;have ao:=Hd ah;have ar:=Hd aH;have L:=Hd ax;have H:=Hd (An ai (λk n=>(af k n).imp id (λh=>Nat.le_trans g.size h)));have hP:p.heap.size ∉ b::eV none:=by have:=K.out.size;simp[eV];omega
 have aJ:=aI.fr L.out hP;have q1:=aJ.k1
 go_wp2_with fail
 try rw[Q]
 refine wp_loop_rounds 1 ?_;rw[rounds_succ]
 go_wp2_with fail
 go_ret
 have aD:=(K.out.then (l.mono qs)).then (L.out.mono (by simp[eV]));have aG:=(ad.out.1.fr l qs).fr L.out (by simp[eV];omega);refine⟨rfl,b::(eV A'++(some a.heap.size).toList),⟨A',c',a.heap.size,⟨ao.out,by simpa using ar.out,by simpa using A,H.out.1,qs,λr o=>?_⟩,rfl⟩,aD,λk n=>?_⟩
 ·injection o with o
  subst o;refine⟨aG,Y,λW=>?_⟩
  rcases H.out.2 _ W with h|h
  ·simp[eV]at h
  ·have h1:=ad.out.1.lt;have M:=l.size;omega
 ·rcases List.mem_cons.1 n with h|h
  ·exact .inl h
  ·rcases List.mem_append.1 h with h|h
   ·rcases H.out.2 _ h with M|M
    ·simp[eV]at M
    ·right;have:=K.out.size;have:=l.size;omega
   ·right
    have:k=a.heap.size:=by simpa using h
    have:=J.out.size;omega
theorem fH{X:World}{L:Nat}{t:TypeId}{d:Nm}(e:X.rowIs L t 32 (λj=>.int .u8 ((d.getD j 0).toNat:Int)))(b:d.length=32):X.rangeAt L 0 (eP d):=λj v a=>by
 rw[Nat.zero_add];have c:j<32:=by have:=(i9.1 a).1;rw[eU,b]at this;exact this
 rw[e.cell c,<-a,iy qo]
theorem qI(W:World)(d:Nm)(a:d.length=32):∃Y,(storeCells ⟨W.heap.size,0,none⟩ (eP d)).run prog (W.alloc (.cells (#[.int .u8 0,.int .u8 0,.int .u8 0,.int .u8 0,.int .u8 0,.int .u8 0,.int .u8 0,.int .u8 0,.int .u8 0,.int .u8 0,.int .u8 0,.int .u8 0,.int .u8 0,.int .u8 0,.int .u8 0,.int .u8 0,.int .u8 0,.int .u8 0,.int .u8 0,.int .u8 0,.int .u8 0,.int .u8 0,.int .u8 0,.int .u8 0,.int .u8 0,.int .u8 0,.int .u8 0,.int .u8 0,.int .u8 0,.int .u8 0,.int .u8 0,.int .u8 0]) 57))=.ok () Y/\Fr [] W Y/\Y.rowIs W.heap.size 57 32 (λj=>.int .u8 ((d.getD j 0).toNat:Int)):=by
 obtain⟨f,b⟩:=iT W;exact⟨_,fc b a,((Fq [] W).alloc _).setCells (.inr (fV _)) _ _,(fh b a).2⟩
def vH(w:World)(a:List Nm)(e:Ending)(w':World):Prop:=∃A c,e=.returned (.slice A a.length c)/\Own w' 57 32 A a.length c (a.flatMap eP)/\Fr [] w w'/\∀k∈eV A,w.heap.size<=k
theorem Du(b:Nat)(i f:Int)(w:World):Calls prog 125 #[.pointer (some ⟨b,0,none⟩),.int .i64 i,.int .i64 f,.int .i64 1] w (vH w []):=by
 go_enter func125,ntmps125
 go_wp2_with fail
 go_ret
 exact⟨none,0,rfl,Own.nil _ _ _,Fq [] w,by simp[eV]⟩
def s9(w:World)(a:List Nm)(e:Ending)(w':World):Prop:=∃A c,e=.returned (.tuple #[.slice A a.length c,.int .i64 0])/\Own w' 57 32 A a.length c (a.flatMap eP)/\Fr [] w w'/\∀k∈eV A,w.heap.size<=k
open Go.RowKit Go.Shelf
attribute [local go_sem] Oper.semAt_some
theorem iY{m m':Nat}{P:Program}{l:Nat}{args:Array Value}{W:World}{R:Ending->World->Prop}(h:YieldAt Fence.wide m P l args W R):YieldAt Fence.wide m' P l args W R:=by
 obtain⟨e,g,b,d,f,a⟩:=h;exact⟨e,g,b,d,f,a.1,λc cs _=>a.2 c cs (room_wide _)⟩
def CP(R:World->Prop)(e:Ending)(w':World):Prop:=e=.returned (.bool true)/\R w'
theorem Ac(n:Nat)(i:Int)(f:Value)(W:World)(R:World->Prop)(h:R W):CallsIn Fence.wide n prog 259 #[.int .i64 i,.int .i64 1,f] W (CP R):=by
 refine callsIn_wide.2 ?_
 go_enter func259,ntmps259
 go_wp2_with fail
 go_ret
 exact⟨rfl,h⟩
theorem Ad(i n:Int)(w:World):Calls prog 218 #[.int .i64 i,.int .i64 n] w λe w'=>e=.returned (.func (.func 258) #[] #[.pointer (some ⟨w.heap.size,0,none⟩),.pointer (some ⟨w.heap.size+1,0,none⟩)])/\w'=(w.alloc (.cells #[.int .i64 i] 3)).alloc (.cells #[.int .i64 n] 3):=by
 go_enter func218,ntmps218
 go_wp2_with fail
 go_ret
 exact⟨rfl,rfl⟩
attribute [local go_sem] Oper.semAt_some
def TG.bs:TG->List Nat
 | .nil=>[]
 | .node b l _ _ _ _ _ r=>l.bs++b::r.bs
theorem TG.bs_len:∀t:TG,t.bs.length=t.cnt
 | .nil=>rfl
 | .node b l _ _ _ _ _ r=>by simp[TG.bs,TG.cnt,TG.bs_len l,TG.bs_len r];omega
theorem ES(l:Nat)(J:Nat->World->Prop):∀(t:TG) (n k:Nat) (W:World),(∀k W,J k W->TGat W t)->(∀i x d,t.bs[i]?=some x->J (k+i) d->YieldAt Fence.wide 0 prog l #[.pointer (some ⟨x,0,none⟩)] d λe u=>e=.returned (.bool true)/\J (k+i+1) u)->J k W ->
 CallsIn Fence.wide n prog 156 #[t.ptr,.func (.yield l) #[] #[]] W (CP (J (k+t.cnt))):=by
 intro t
 induction t with
 | nil =>
  intro n k W _ _ o
  exact(pN n _ W).mono λe u ⟨g,j⟩=>⟨g,by rw[j];exact o⟩
 | node b a nm v H O Q f M N =>
  intro n k W p r o;have w:∀k W,J k W->W.cell? ⟨b,0,none⟩=some (.pointer a.adr)/\W.cell? ⟨b,1,none⟩=some (.pointer f.adr):=λk W h=>⟨(p k W h).1.c 0,(p k W h).1.c 1⟩;have A:=TG.bs_len a
  have y:=λn=>M n k W (λk W h=>(p k W h).2.1) (λi x d q=>r i x d (by
   show (a.bs++b::f.bs)[i]?=some x
   rw[List.getElem?_append_left (i9.1 q).1];exact q)) o
  have L:=λd=>r a.cnt b d (by
   show (a.bs++b::f.bs)[a.cnt]?=some b
   rw[<-A,List.getElem?_append_right (fV _)];simp)
  have z:=λn d g=>N n (k+a.cnt+1) d (λk W h=>(p k W h).2.2) (λi x m q j=>by
   have:=r (a.cnt+1+i) x m (by
    show (a.bs++b::f.bs)[a.cnt+1+i]?=some x
    rw[List.getElem?_append_right qo,A,show a.cnt+1+i - a.cnt=i+1 by omega,List.getElem?_cons_succ];exact q)
   rw[show k+(a.cnt+1+i)=k+a.cnt+1+i by omega]at this;exact this j) g
  rw[show k+(TG.node b a nm v H O Q f).cnt=k+a.cnt+1+f.cnt by show k+(a.cnt+1+f.cnt)=_;omega];obtain⟨Z,x1⟩:=w k W o;unfold TG.ptr at y z
  show CallsIn Fence.wide n prog 156 #[.pointer b,.func (.yield l) #[] #[]] W _
  have C:=Hd y;have G:=Hd L;have D:=Hd z;have s:=Hd w;refine callsIn_of_wp func156 rfl trivial ?_ rfl;simp only[ntmps156,List.size_toArray,List.length_cons,List.length_nil,Nat.reduceAdd,Nat.reduceSub,Array.replicate_succ,Array.replicate_zero,List.push_toArray,List.append_toArray,List.nil_append,List.cons_append]
  gi_wp2_with (first
   | (refine⟨trivial,λh=>absurd h (by simp[Fence.wide]),?_⟩;(with_reducible refine(C.out _).mono ?_);rintro e P ⟨rfl,g⟩;obtain⟨aa,z1⟩:=s.out _ P g;obtain⟨T,X,R,S,U,K⟩:=iY (m':=n - 1) (G.out _ g);have F:=Hd K)
   | fail)
  refine⟨λh=>absurd h (by simp[Fence.wide]),F.out.mono ?_⟩;rintro e m ⟨rfl,j⟩;obtain⟨_,V⟩:=s.out _ m j;have E:=Hd (λn=>D.out n m j)
  gi_wp2_with (refine⟨trivial,λh=>absurd h (by simp[Fence.wide]),?_⟩;(with_reducible refine(E.out _).mono ?_);rintro e Y ⟨rfl,I⟩;have B:=Hd I)
  go_ret
  exact⟨rfl,B.out⟩
theorem Af(t:TG)(n b D:Nat)(w:World)(g:BoxN w D 86 #[.pointer (some ⟨b,0,none⟩)])(q:BoxN w b 184 #[t.ptr])(I:Nat->World->Prop)(j:∀k W,I k W->TGat W t)(l:Nat)(J:Nat->World->Prop)(W:World)(hW:Fr [] w W)(p:∀k a,J k a->I k a)
 (r:∀k x a,t.bs[k]?=some x->J k a->YieldAt Fence.wide (n - 1) prog l #[.pointer (some ⟨x,0,none⟩)] a λe d=>e=.returned (.bool true)/\J (k+1) d) (o:J 0 W) :
 CallsIn Fence.wide n prog 155 (#[.func (.yield l) #[] #[]]++#[.pointer (some ⟨D,0,none⟩)]) W λe d=>(∃v,e=.returned v)/\J t.bs.length d:=by
 have A:W.cell? ⟨D,0,none⟩=some (.pointer b):=(g.fr hW qs).c 0;have B:W.cell? ⟨b,0,none⟩=some (.pointer t.adr):=(q.fr hW qs).c 0
 have f:=λm=>ES l J t m 0 W (λk W h=>j k W (p k W h)) (λi x a y h=>by
  rw[Nat.zero_add]at h ⊢;exact iY (r i x a y h)) o
 rw[TG.bs_len,show t.cnt=0+t.cnt from(Nat.zero_add _).symm];unfold TG.ptr at f;have s:=Hd f;clear g q r o hW f j p
 show CallsIn Fence.wide n prog 155 #[.func (.yield l) #[] #[],.pointer (some ⟨D,0,none⟩)] W _
 refine callsIn_of_wp func155 rfl trivial ?_ rfl;simp only[ntmps155,List.size_toArray,List.length_cons,List.length_nil,Nat.reduceAdd,Nat.reduceSub,Array.replicate_succ,Array.replicate_zero,List.push_toArray,List.append_toArray,List.nil_append,List.cons_append]
 gi_wp2_with (refine⟨trivial,λh=>absurd h (by simp[Fence.wide]),?_⟩;(with_reducible refine(s.out _).mono ?_);rintro e z ⟨rfl,u⟩)
 go_end0
 exact⟨⟨_,rfl⟩,u⟩
attribute [local go_sem] Oper.semAt_some
def ON.cs(n:ON):List Value:=[.int .i64 n.kind,ft n.owner,.int .i64 n.number,.int .i64 n.index,ft n.text]
theorem me(n:ON):n.cs.length=5:=rfl
theorem ui(n:ON):∀u∈n.cs,u.oneCell'=true:=by
 intro u a;simp only[ON.cs,List.mem_cons,List.not_mem_nil,or_false]at a
 rcases a with rfl|rfl|rfl|rfl|rfl <;> first|rfl|exact encN_one _
theorem TG.get{w:World}:∀ {t:TG} {k x:Nat},TGat w t->t.bs[k]?=some x->∃l r n v h s y,t.ns[k]?=some n/\BoxN w x 191 (jP l r n v h s y)
 | .nil,k,x,_,h=>by simp[TG.bs]at h
 | .node b l n v f s y r,k,x,a,h=>by
  have g:(TG.node b l n v f s y r).bs=l.bs++b::r.bs:=rfl;have i:(TG.node b l n v f s y r).ns=l.ns++n::r.ns:=rfl;have d:=TG.bs_len l;have e:=TG.cnt_ns l;rw[g]at h;rw[i]
  rcases Nat.lt_trichotomy k l.cnt with c|c|c
  ·rw[List.getElem?_append_left qo]at h ⊢
   exact TG.get a.2.1 h
  ·subst c
   rw[List.getElem?_append_right qo,d,Nat.sub_self,List.getElem?_cons_zero]at h;rw[List.getElem?_append_right qo,e,Nat.sub_self,List.getElem?_cons_zero]
   injection h with h
   subst h;exact⟨_,_,_,_,_,_,_,rfl,a.1⟩
  ·obtain⟨m,rfl⟩:∃m,k=l.cnt+1+m:=⟨k - l.cnt - 1,qo⟩
   rw[List.getElem?_append_right qo,d,show l.cnt+1+m - l.cnt=m+1 by omega,List.getElem?_cons_succ]at h;rw[List.getElem?_append_right qo,e,show l.cnt+1+m - l.cnt=m+1 by omega,List.getElem?_cons_succ];exact TG.get a.2.2 h
theorem Own.no_def{w:World}{e:TypeId}{i n c D:Nat}{A:Option Addr}{xs:List Value}{l:Option (List Deferred)}(h:Own w e i A n c xs)(d:w.heap[D]?=some (.deferred l)):D ∉ eV A:=by
 intro b
 rcases h.2 with⟨a,_⟩|⟨g,j,k,a,_,f,_⟩
 ·injection a with a;subst a;simp[eV]at b
 ·injection a with a
  subst a;simp only[eV,Option.map_some,Option.toList_some,gI]at b;subst b;rw[f]at d
  cases d
structure NmS(w:World)(t:TG)(B L k:Nat)(W:World):Prop where
 fr:Fr [] w W
 own:∃A c,BoxN W B 101 #[.slice A k c]/\Own W 31 5 A k c ((t.ns.take k).flatMap ON.cs)/\∀q∈eV A,L+2<=q
theorem NmS.fr2{w W b:World}{t:TG}{B L k:Nat}(h:NmS w t B L k W)(a:Fr [L,L+1] W b)(j:w.heap.size<=L)(i:B<L):NmS w t B L k b:=by
 obtain⟨A,c,e,f,d⟩:=h.own;exact⟨h.fr.trans a (by simp;omega),A,c,e.fr a (by simp;omega),f.fr a (λq g=>by have:=d q g;simp;omega),d⟩
def BZ(w:World)(a:List ON)(e:Ending)(w':World):Prop:=∃A c,e=.returned (.slice A a.length c)/\Own w' 31 5 A a.length c (a.flatMap ON.cs)/\Fr [] w w'/\∀q∈eV A,w.heap.size<=q
theorem Dv:∃i,(prog).info? 31=some i/\i.zero=some (.agg #[.int .i64 0,.string ⟨#[]⟩,.int .i64 0,.int .i64 0,.string ⟨#[]⟩])/\i.size=5/\i.bytes=56:=info_parts qk
theorem Dw(b:Nat)(ac:List ON)(w:World)(h:SG w b ac)(hl:ac.length<=100000):Calls prog 39 #[.pointer (some ⟨b,0,none⟩)] w (BZ w ac):=by
 obtain⟨rp,hh,hb,⟨t,rfl,ht,aS,rfl,_⟩,hs⟩:=h;have hN:=λW=>callsIn_wide.1 (sN 0 b W);have HN:=Hd hN;have HB:=Hd hb;have HT:=Hd ht;have aF:t.bs.length=t.ns.length:=by rw[TG.bs_len,TG.cnt_ns]
 have ad:=Hd aF;refine(callsIn_wide (n:=5)).1 ?_;refine callsIn_of_wp_marks func39 rfl trivial ?_ rfl;simp only[ntmps39,List.size_toArray,List.length_cons,List.length_nil,Nat.reduceAdd,Nat.reduceSub,Array.replicate_succ,Array.replicate_zero,List.push_toArray,List.append_toArray,List.nil_append,List.cons_append];refine wpIn_wide.2 ?_
 go_upto_region 2 with fail
 go_wp2_with (go_at_call 96;(with_reducible refine(HN.out _).mono ?_);rintro e w' ⟨rfl,rfl⟩)
 obtain⟨G,av,aD,aI⟩:=kS w #[gz] 101;have aw:G.heap.size=w.heap.size+1:=by rw[<-av,kX]
 rw[av];obtain⟨g,K⟩:=eR (G.alloc (.cells #[.pointer b] 86));have aN:g.heap.size=w.heap.size+2:=by rw[<-K,kX,aw]
 have aj:Fr [] G g:=by rw[<-K];exact(Fq [] G).alloc _
 have aH:BoxN g (w.heap.size+1) 86 #[.pointer b]:=by rw[<-K,<-aw];exact BoxN.new G _ _
 have aE:=aD.fr aj qs;have ak:=aI.then aj;rw[K];have h0:NmS w t w.heap.size g.heap.size 0 g:=⟨ak,none,0,aE,Own.nil _ _ _,by simp[eV]⟩
 refine kK (a:=?aa) 5 t.bs (λx:Nat=>#[.pointer x]) (lb:=#[.pointer (some ⟨w.heap.size+1,0,none⟩)]) ?_ (enters_of func155 qk rfl) ?_
  (λk W=>NmS w t w.heap.size g.heap.size k W) (λk W W' h R=>h.fr2 R qo qo) h0
  (λl az W hW aB hy hJ=>Af t 5 b (w.heap.size+1) g aH (HB.out.fr ak qs) _ (λk W h=>HT.out.fr0 h.fr) l az W hW aB hy hJ)
  (λk P W=>(∃x:Nat,t.bs[k]?=some x/\P={ tmps:=((Act.tmps ?aa).setIfInBounds 7 (.pointer x)).setIfInBounds 4 (.pointer x),defers:=[] })/\NmS w t w.heap.size g.heap.size k W)
  (λk P W W' h R=>⟨h.1,h.2.fr2 R qo qo⟩) ?_ ?_ ?_
 ·rfl
 ·intro x;rfl
 ·intro l k x W aA E m aM r
  gi_wp2_with fail
  exact r _ _ (Fq [] W) ⟨⟨x,E,rfl⟩,m⟩
 ·intro l k x P W E hA aM
  obtain⟨⟨x',L,rfl⟩,m⟩:=hA;simp only[qA,qB,qC];rw[E]at L
  injection L with L
  subst L;obtain⟨A,c,s,z,J⟩:=m.own;obtain⟨vl,vr,n,v,vh,vs,vy,aL,Q⟩:=TG.get (HT.out.fr0 m.fr) E;have aK:k<t.ns.length:=by rw[<-ad.out];exact(i9.1 E).1
  obtain⟨B,aq,_,_⟩:=eT n.owner;obtain⟨C,ar,_,_⟩:=eT n.text;have aG:n.cs=[.int .i64 n.kind,.string B,.int .i64 n.number,.int .i64 n.index,.string C]:=by unfold ON.cs;rw[aq,ar]
  unfold jP at Q;rw[aq,ar]at Q;have hC:=(Fq [] W).drew
  have HSS:=Hd (λ(X:World) (hX:Fr [] W X)=>(show X.cell? ⟨w.heap.size,0,none⟩=some (.slice A k c)/\X.cell? ⟨x,2,none⟩=some n.kind/\X.cell? ⟨x,3,none⟩=some B/\X.cell? ⟨x,4,none⟩=some n.number/\X.cell? ⟨x,5,none⟩=some n.index/\X.cell? ⟨x,6,none⟩=some C from by
   have F:=Q.fr hX qs;exact⟨(s.fr hX qs).c 0,F.c 2,F.c 3,F.c 4,F.c 5,F.c 6⟩))
  have N:=Hd (An aG (An aL aK));have o:=Hd (An s (An z (An J m.fr)))
  gi_wp2_with fail
  refine fE (λX:World=>Fr [] W X) 6 qk qk (λ_ _ h=>by have h1:=And.left h;cases h1) ?_ qd
  show fb 0 ..
  iterate 5 (refine gB rfl ?_;try simp only[qq])
  refine hO (i:=5) rfl λaA r=>?_;go_simp
  obtain⟨X1,aC,ag,y⟩:=sf W #[n.kind,B,n.number,n.index,C] 31;rw[aC];refine r _ _ y ?_
  try simp only[qq]
  refine eW ⟨qk,?_⟩;simp only[qG,qH];obtain⟨ii,aJ,aO,aP,aQ⟩:=Dv;have ae:=Hd (o.out.2.1.fr y qs);have ao:∀u∈[Value.int .i64 n.kind,B,n.number,n.index,C],u.oneCell'=true:=by rw[<-N.out.1];exact ui n
  refine kF rfl (.tmp 8) (.tmp 13) 101 rfl 31 ii _ 5 56 underlying101 aJ aO aP aQ rfl qd A k c _ rfl ae.out ⟨W.heap.size,0,none⟩ 1 1 [n.kind,B,n.number,n.index,C] rfl rfl (λj u hu=>by rw[fx,ag.c j];simpa using hu) ao (by unfold maxLen;omega) qo ?_;intro A' c' O an U ap;have I:=(o.out.1.fr y qs).fr U (by intro D;have:=o.out.2.2.1 _ D;omega);have e0:=I.k0;have e1:=I.f 0;obtain⟨H,af⟩:=eR (O.setCell ⟨w.heap.size,0,none⟩ (.slice A' (k+1) c'));have V:Fr [w.heap.size] O H:=by rw[<-af];exact(Fq _ O).st _
  have ah:BoxN H w.heap.size 101 #[.slice A' (k+1) c']:=by rw[<-af];exact I.setAt 0 _
  have ab:∀q∈eV A',g.heap.size+2<=q:=λq d=>by
   rcases ap q d with h|h
   ·exact o.out.2.2.1 q h
   ·have:=y.size;omega
  have Z:=an.fr V (λq d=>by have:=ab q d;simp;omega);have Y:=((y.mono qs).trans (U.mono (T:=w.heap.size::eV A) (by intro q d;exact .inl (by simp[d]))) (λq d=>.inl d)).trans V qs
  have al:=o.out.2.2.2.trans Y (by
   intro q d
   rcases List.mem_cons.1 d with h|h
   ·exact .inr qo
   ·have:=o.out.2.2.1 q h;exact .inr qo)
  have au:(t.ns.take (k+1)).flatMap ON.cs=(t.ns.take k).flatMap ON.cs++[Value.int .i64 n.kind,.string B,.int .i64 n.number,.int .i64 n.index,.string C]:=by
   rw[List.take_add_one,N.out.2.1,List.flatMap_append,<-N.out.1];simp
  rw[<-au]at Z;have ax:=Hd (show NmS w t w.heap.size g.heap.size (k+1) H from⟨al,A',c',ah,Z,ab⟩)
  have ay:=Hd (show ∃S,Fr S W H/\g.heap.size ∉ S/\g.heap.size+1 ∉ S from⟨_,Y,by
   simp only[List.mem_cons,not_or];exact⟨qo,λD=>by have:=o.out.2.2.1 _ D;omega⟩,by
   simp only[List.mem_cons,not_or];exact⟨qo,λD=>by have:=o.out.2.2.1 _ D;omega⟩⟩)
  clear an U ap I V ah ab Z Y al au ae ao ag y HSS
  go_wp2_with fail
  rw[<-aN];exact⟨ax.out,ay.out⟩
 ·intro M W hD m r
  obtain⟨A,c,s,z,J⟩:=m.own;have am:t.bs.length=t.ns.length:=ad.out;rw[am]at s z;rw[List.take_length]at z;have x0:=s.k0;have p:=Hd (An z (An m.fr (An J r)));clear s z J m r am
  go_wp2_with fail
  have aR:M<W.heap.size:=(Array.getElem?_eq_some_iff.1 p.out.2.2.2).1;refine⟨qs,.inl ⟨_,_,rfl,run_takeDeferred p.out.2.2.2,?_⟩⟩;have ai:Fr [M] W (W.putObj M (.deferred none)):=jn _ (Fq _ W) (.inl qs);refine⟨.slice A t.ns.length c,?_,A,c,rfl,?_,?_,λq d=>?_⟩
  ·simp[results,Tryz.f39,go_sem]
  ·exact p.out.1.fr ai (λq d=>by have:=Own.no_def p.out.1 p.out.2.2.2;simp only[gI];rintro rfl;exact this d)
  ·exact p.out.2.1.trans ai (by simp;omega)
  ·have:=p.out.2.2.1 q d;omega
def Es(l:CL)(A:Option Addr)(c:Nat):Prop:=l=.nil->A=none/\c=0
theorem oL(n c:Nat)(A:Option Addr)(xs:List Value)(w:World)(h:Rd w 7 A n xs)(o:∀u∈xs,u.oneCell'=true)(K:n<=1000000):Calls prog 154 #[.slice A n c] w λe w'=>∃A' c',e=.returned (.slice A' n c')/\Own w' 95 7 A' n c' xs/\Fr [] w w'/\∀k∈eV A',w.heap.size<=k:=by
 have s:=Lib.run_eql_slice_nil (P:=prog) w 62 95 A n c 0 0 underlying62
 cases A with
 | none =>
  have E:n=0:=by
   rcases Nat.eq_zero_or_pos n with d|d
   ·exact d
   ·obtain⟨b,off,e,_⟩:=h.2 d
    cases e
  subst E;have g:xs=[]:=by have:=h.1;simpa using this
  subst g;simp only[Option.isNone_none]at s
  go_enter func154,ntmps154
  go_wp2_with fail
  go_ret
  exact⟨none,0,rfl,Own.nil _ _ _,Fq _ _,by simp[eV]⟩
 | some a =>
  simp only[Option.isNone_some]at s;obtain⟨F,C,G,H,I⟩:=oK
  have p:∀j u,xs[j]?=some u->w.cell? (a.add j)=some u:=by
   intro j u i
   rcases Nat.eq_zero_or_pos n with d|d
   ·have:=h.1;rw[d]at this;have g:xs=[]:=by simpa using this
    subst g;simp at i
   ·obtain⟨b,off,e,J,B⟩:=h.2 d
    cases e
    rw[Addr.add_mid];exact B j u i
  have r:=h.1;have l:=Hd (An p (An o r));clear p o r h
  go_enter func154,ntmps154
  go_wp2_with (at_builtin;(with_reducible refine kF (w:=w.alloc (.cells #[] 95)) rfl (.tmp 5) (.tmp 6) 62 rfl 95 F _ 7 80 underlying62 C G H I rfl qd (some ⟨w.heap.size,0,none⟩) 0 0 [] rfl (Own.empty w _ _) a n c xs rfl l.out.2.2 (λj u i=>Lib.cell?_alloc_some _ (l.out.1 j u i)) l.out.2.1 (by unfold maxLen;omega) qo ?_);intro A2 z w2 f q t;have v:=Hd f;have m:=Hd q;have y:=Hd t;clear f q t)
  go_ret
  have f:=v.out;rw[List.nil_append]at f;have L:=m.out.size;refine⟨A2,z,rfl,by rw[Nat.zero_add]at f;exact f,((Fq [] w).alloc _).trans m.out (λx g=>.inr (by simp[eV]at g;omega)),λk D=>?_⟩
  rcases y.out k D with h|h
  ·simp[eV]at h;omega
  ·rw[kX]at h;omega
def NoT(ts:List TypeId)(w:World)(S:List Nat):Prop:=∀k∈S,∀a e z,w.heap[k]?=some (.cells a e z)->e ∉ ts
section
variable {ts:List TypeId} {w w':World} {S T:List Nat}
theorem NoT.nil:NoT ts w []:=λk hk=>by simp at hk
theorem NoT.app(h:NoT ts w S)(b:NoT ts w T):NoT ts w (S++T):=λk a=>by
 rcases List.mem_append.1 a with a|a
 ·exact h k a
 ·exact b k a
theorem NoT.box{b:Nat}{t:TypeId}{cs:Array Value}(h:BoxN w b t cs)(d:t ∉ ts):NoT ts w [b]:=λk c f e z a=>by
 rw[gI]at c;subst c;rw[show w.heap[k]?=_ from h]at a
 cases a
 exact d
theorem NoT.own{e:TypeId}{l n c:Nat}{A:Option Addr}{xs:List Value}(h:Own w e l A n c xs)(j:e ∉ ts):NoT ts w (eV A):=λk b f o z d=>by
 rcases h.2 with⟨a,_⟩|⟨g,m,f,a,_,i,_⟩
 ·injection a with a;subst a;simp[eV]at b
 ·injection a with a
  subst a;simp only[eV,Option.map_some,Option.toList_some,gI]at b;subst b;rw[i]at d
  cases d
  exact j
theorem NoT.map{P:Program}{k:TypeId}{r:Nat}{d:List (Value × Value)}(h:MapIs P k w r d):NoT ts w [r]:=λk b f e z a=>by
 rw[gI]at b;subst b;obtain⟨es,clock,c,_⟩:=h;rw[c]at a
 cases a
theorem NoT.sub{ts':List TypeId}(h:NoT ts w S)(b:∀t∈ts',t∈ts):NoT ts' w S:=λk d a e z c f=>h k d a e z c (b e f)
theorem NoT.mem(h:NoT ts w S)(a:∀k∈T,k∈S):NoT ts w T:=λk b=>h k (a k b)
theorem BoxN.frT{b:Nat}{t:TypeId}{cs:Array Value}(h:BoxN w b t cs)(c:Fr S w w')(a:NoT ts w S)(e:t∈ts):BoxN w' b t cs:=h.fr c λd=>a b d _ _ _ h e
theorem Own.frT{e:TypeId}{d n c:Nat}{A:Option Addr}{xs:List Value}(h:Own w e d A n c xs)(i:Fr S w w')(f:NoT ts w S)(m:e∈ts):Own w' e d A n c xs:=h.fr i λk b l=>by
 rcases h.2 with⟨a,_⟩|⟨g,o,p,a,_,j,_⟩
 ·injection a with a;subst a;simp[eV]at b
 ·injection a with a
  subst a;simp only[eV,Option.map_some,Option.toList_some,gI]at b;subst b;exact f k l _ _ _ j m
theorem TGat.frT(b:Fr S w w')(a:NoT ts w S)(c:191∈ts):∀ {t:TG},TGat w t->TGat w' t
 | .nil,_=>trivial
 | .node _ _ _ _ _ _ _ _,h=>⟨h.1.frT b a c,TGat.frT b a c h.2.1,TGat.frT b a c h.2.2⟩
end
def sy:List TypeId:=[191,184,95]
theorem SG.frT{w w':World}{S:List Nat}{b:Nat}{d:List ON}(h:SG w b d)(c:Fr S w w')(a:NoT sy w S):SG w' b d:=by
 obtain⟨l,k,e,⟨t,f,g,i⟩,j⟩:=h;exact⟨l,k,e.frT c a (by simp[sy]),⟨t,f,g.frT c a (by simp[sy]),i⟩,j⟩
structure AX where
 a:AG
 sl:ByteArray
 A:Option Addr
 c:Nat
 B:Option Addr
 d:Nat
def AX.cs(x:AX):List Value:=[.int .i64 x.a.k.rnd,.int .i64 x.a.k.phase,.int .i64 x.a.k.idx,.string x.sl,.slice x.A x.a.r.length x.c,.slice x.B x.a.w.length x.d]
theorem jV(x:AX):x.cs.length=6:=rfl
def AX.v(x:AX):Value:=x.a.val x.sl x.A x.c x.B x.d
structure AX.ok(w:World)(x:AX):Prop where
 s:ft x.a.k.lin=.string x.sl
 r:Own w 95 7 x.A x.a.r.length x.c (x.a.r.flatMap CH.cs)
 w:Own w 95 7 x.B x.a.w.length x.d (x.a.w.flatMap CH.cs)
theorem AX.ok.fr0{w w':World}{x:AX}(h:x.ok w)(a:Fr [] w w'):x.ok w':=⟨h.s,h.r.fr a qs,h.w.fr a qs⟩
theorem AX.ok.frT{w w':World}{S:List Nat}{x:AX}(h:x.ok w)(b:Fr S w w')(a:NoT sy w S):x.ok w':=⟨h.s,h.r.frT b a (by simp[sy]),h.w.frT b a (by simp[sy])⟩
theorem AX.ok.chr{w:World}{x:AX}(h:x.ok w):Chs w x.A x.a.r:=h.r.rd
theorem AX.ok.chw{w:World}{x:AX}(h:x.ok w):Chs w x.B x.a.w:=h.w.rd
theorem uj(l:List CH):∀u∈l.flatMap CH.cs,u.oneCell'=true:=by
 intro u b;obtain⟨c,_,a⟩:=List.mem_flatMap.1 b;simp only[CH.cs,List.mem_cons,List.not_mem_nil,or_false]at a
 rcases a with rfl|rfl|rfl|rfl|rfl|rfl|rfl <;> first|rfl|exact encN_one _
def vI(w:World)(a:AG)(e:Ending)(w':World):Prop:=∃x:AX,x.a=a/\e=.returned x.v/\x.ok w'/\Fr [] w w'
theorem ta(a:AG)(g:ByteArray)(A B:Option Addr)(c d:Nat)(w:World)(aj:ft a.k.lin=.string g)(s:Chs w A a.r)(t:Chs w B a.w)(M:a.fit):Calls prog 94 #[a.val g A c B d] w (vI w a):=by
 have ap:=Hd aj;have aB:=M.rl;have aC:=M.wl;obtain⟨H,R⟩:=eR (a.k.rnd);obtain⟨G,Q⟩:=eR (a.k.phase);obtain⟨F,O⟩:=eR (a.k.idx);obtain⟨j,z⟩:=eR (a.r.length);obtain⟨l,C⟩:=eR (a.w.length);have an:=Hd (An R (An Q (An O (An z C))));unfold Chs at s t;unfold AG.val;rw[R,Q,O,z,C];rw[z]at s aB;rw[C]at t aC;obtain⟨w1,ak,aD,n1,f1⟩:=il w #[H,G,F,g,.slice A j c,.slice B l d] 91 w.heap.size;obtain⟨w2,al,aF,n2,J⟩:=il w1 #[L0,L0,L0,S0,gz,gz] 91 (w.heap.size+1);have x:=f1.then J;have ac:∀W,Fr [] w2 W->Calls prog 154 #[.slice A j c] W _:=λW hW=>oL j c A _ W (s.fr0 (x.then hW)) (uj a.r) qo;have ad:∀W,Fr [] w2 W->Calls prog 154 #[.slice B l d] W _:=λW hW=>oL l d B _ W (t.fr0 (x.then hW)) (uj a.w) qo;have V:=Hd ac;have X:=Hd ad
 have HSS:=Hd (λ(W:World) (hW:Fr [] w2 W)=>(show W.cell? ⟨w.heap.size,0,none⟩=some H/\W.cell? ⟨w.heap.size,1,none⟩=some G/\W.cell? ⟨w.heap.size,2,none⟩=some F/\W.cell? ⟨w.heap.size,3,none⟩=some g/\W.cell? ⟨w.heap.size,4,none⟩=some (.slice A j c)/\W.cell? ⟨w.heap.size,5,none⟩=some (.slice B l d)from by
  have h:=(n1.fr J qs).fr hW qs;exact⟨h.c 0,h.c 1,h.c 2,h.c 3,h.c 4,h.c 5⟩))
 have U:=Hd n2;have HF:=Hd x;have aq:=Hd ak;have ar:=Hd al;obtain⟨R1,u⟩:=eR (w.heap.size+1);have ao:=Hd u;clear ac ad ak al n1 n2 f1 J x s t M aj R Q O z C
 go_enter func94,ntmps94
 go_upto_region 1 with fail
 rw[aq.out,ar.out];rw[u]at U
 try rw[u]
 clear u aD;have L:=(Fq [] w2).drew;refine eZ (λW:World=>Fr [] w2 W) 8 qk ?_ qd
 show fb 0 ..
 iterate 4 (refine gB rfl ?_;try simp only[qq])
 show fb 5 ..
 iterate 2 (refine gB rfl ?_;try simp only[qq])
 refine hO (i:=4) rfl λK m=>?_;go_simp
 go_at_call 154
 (with_reducible refine(V.out _ L).mono ?_);rintro e y1 ⟨A1,p,rfl,aa,N,ah⟩;have D:=L.then N;refine m _ _ D ?_;clear m K
 try simp only[qq]
 refine hO (i:=7) rfl λK m=>?_;go_simp
 go_at_call 154
 (with_reducible refine(X.out _ D).mono ?_);rintro e y2 ⟨n,q,rfl,ab,y,ai⟩;have E:=D.then y;refine m _ _ E ?_;clear m K L
 try simp only[qq]
 refine eW ⟨qk,?_⟩;simp only[qG,qH];have b:=U.out.fr E qs;obtain⟨aH,z1,z2,z3,z4,z5⟩:=b.m6;have g0:=b.f 0;have g1:=b.f 1;have g2:=b.f 2;have g3:=b.f 3;have g4:=b.f 4;have g5:=b.f 5;have o:=Hd (An (aa.fr y qs) (An ab (An E b)));have Y:=Hd (An ah ai);have aE:=N.size;have aG:=y.size;clear aa ab N y ah ai D E b V X HSS
 go_wp2_with fail
 obtain⟨am,ae,au,I⟩:=qN (y2) (R1) o.out.2.2.2 H G F g (.slice A1 j p) (.slice n l q);rw[ae];clear ae;obtain⟨t0,t1,t2,t3,t4,t5⟩:=au.m6;have hR:=ao.out;have Z:w2.drew.heap.size=w2.heap.size:=rfl;have av:=o.out.1.fr I (λk P=>by have:=Y.out.1 k P;rw[Z]at this;simp only[gI];omega);have aw:=o.out.2.1.fr I (λk P=>by have:=Y.out.2 k P;rw[Z]at aE;simp only[gI];omega);have aA:=(HF.out.then o.out.2.2.1).trans I (by simp;omega);obtain⟨ax,ay,az,af,ag⟩:=an.out;refine bodyPost_ret (v:=.agg #[H,G,F,g,.slice A1 j p,.slice n l q]) (by simp[results,results94,go_sem,t0,t1,t2,t3,t4,t5]) rfl ⟨⟨a,g,A1,p,n,q⟩,rfl,?_,⟨ap.out,?_,?_⟩,aA⟩
 ·unfold AX.v AG.val;simp only;rw[ax,ay,az,af,ag]
 ·show Own am _ 7 A1 a.r.length p _;rw[af];exact av
 ·show Own am _ 7 n a.w.length q _;rw[ag];exact aw
theorem Ag(a:AG)(g:ByteArray)(A B:Option Addr)(c d:Nat)(w:World)(aj:ft a.k.lin=.string g)(s:Chs w A a.r)(t:Chs w B a.w)(M:a.fit):Calls prog 159 #[a.val g A c B d] w (vI w a):=by
 have ap:=Hd aj;have aB:=M.rl;have aC:=M.wl;obtain⟨H,R⟩:=eR (a.k.rnd);obtain⟨G,Q⟩:=eR (a.k.phase);obtain⟨F,O⟩:=eR (a.k.idx);obtain⟨j,z⟩:=eR (a.r.length);obtain⟨l,C⟩:=eR (a.w.length);have an:=Hd (An R (An Q (An O (An z C))));unfold Chs at s t;unfold AG.val;rw[R,Q,O,z,C];rw[z]at s aB;rw[C]at t aC;obtain⟨w1,ak,aD,n1,f1⟩:=il w #[H,G,F,g,.slice A j c,.slice B l d] 91 w.heap.size;obtain⟨w2,al,aF,n2,J⟩:=il w1 #[L0,L0,L0,S0,gz,gz] 91 (w.heap.size+1);have x:=f1.then J;have ac:∀W,Fr [] w2 W->Calls prog 154 #[.slice A j c] W _:=λW hW=>oL j c A _ W (s.fr0 (x.then hW)) (uj a.r) qo;have ad:∀W,Fr [] w2 W->Calls prog 154 #[.slice B l d] W _:=λW hW=>oL l d B _ W (t.fr0 (x.then hW)) (uj a.w) qo;have V:=Hd ac;have X:=Hd ad
 have HSS:=Hd (λ(W:World) (hW:Fr [] w2 W)=>(show W.cell? ⟨w.heap.size,0,none⟩=some H/\W.cell? ⟨w.heap.size,1,none⟩=some G/\W.cell? ⟨w.heap.size,2,none⟩=some F/\W.cell? ⟨w.heap.size,3,none⟩=some g/\W.cell? ⟨w.heap.size,4,none⟩=some (.slice A j c)/\W.cell? ⟨w.heap.size,5,none⟩=some (.slice B l d)from by
  have h:=(n1.fr J qs).fr hW qs;exact⟨h.c 0,h.c 1,h.c 2,h.c 3,h.c 4,h.c 5⟩))
 have U:=Hd n2;have HF:=Hd x;have aq:=Hd ak;have ar:=Hd al;obtain⟨R1,u⟩:=eR (w.heap.size+1);have ao:=Hd u;clear ac ad ak al n1 n2 f1 J x s t M aj R Q O z C
 go_enter func159,ntmps159
 go_upto_region 1 with fail
 rw[aq.out,ar.out];rw[u]at U
 try rw[u]
 clear u aD;have L:=(Fq [] w2).drew;refine eZ (λW:World=>Fr [] w2 W) 8 qk ?_ qd
 show fb 0 ..
 iterate 4 (refine gB rfl ?_;try simp only[qq])
 show fb 5 ..
 iterate 2 (refine gB rfl ?_;try simp only[qq])
 refine hO (i:=4) rfl λK m=>?_;go_simp
 go_at_call 154
 (with_reducible refine(V.out _ L).mono ?_);rintro e y1 ⟨A1,p,rfl,aa,N,ah⟩;have D:=L.then N;refine m _ _ D ?_;clear m K
 try simp only[qq]
 refine hO (i:=7) rfl λK m=>?_;go_simp
 go_at_call 154
 (with_reducible refine(X.out _ D).mono ?_);rintro e y2 ⟨n,q,rfl,ab,y,ai⟩;have E:=D.then y;refine m _ _ E ?_;clear m K L
 try simp only[qq]
 refine eW ⟨qk,?_⟩;simp only[qG,qH];have b:=U.out.fr E qs;obtain⟨aH,z1,z2,z3,z4,z5⟩:=b.m6;have g0:=b.f 0;have g1:=b.f 1;have g2:=b.f 2;have g3:=b.f 3;have g4:=b.f 4;have g5:=b.f 5;have o:=Hd (An (aa.fr y qs) (An ab (An E b)));have Y:=Hd (An ah ai);have aE:=N.size;have aG:=y.size;clear aa ab N y ah ai D E b V X HSS
 go_wp2_with fail
 obtain⟨am,ae,au,I⟩:=qN (y2) (R1) o.out.2.2.2 H G F g (.slice A1 j p) (.slice n l q);rw[ae];clear ae;obtain⟨t0,t1,t2,t3,t4,t5⟩:=au.m6;have hR:=ao.out;have Z:w2.drew.heap.size=w2.heap.size:=rfl;have av:=o.out.1.fr I (λk P=>by have:=Y.out.1 k P;rw[Z]at this;simp only[gI];omega);have aw:=o.out.2.1.fr I (λk P=>by have:=Y.out.2 k P;rw[Z]at aE;simp only[gI];omega);have aA:=(HF.out.then o.out.2.2.1).trans I (by simp;omega);obtain⟨ax,ay,az,af,ag⟩:=an.out;refine bodyPost_ret (v:=.agg #[H,G,F,g,.slice A1 j p,.slice n l q]) (by simp[results,results159,go_sem,t0,t1,t2,t3,t4,t5]) rfl ⟨⟨a,g,A1,p,n,q⟩,rfl,?_,⟨ap.out,?_,?_⟩,aA⟩
 ·unfold AX.v AG.val;simp only;rw[ax,ay,az,af,ag]
 ·show Own am _ 7 A1 a.r.length p _;rw[af];exact av
 ·show Own am _ 7 n a.w.length q _;rw[ag];exact aw
theorem jp{P:Program}{d:Nat}{t:TypeId}{i:Int}(h:P.underlying t=some (.int .i64))(b:0<d)(a:(Lit.int .i64 i).wf=true):P.keyLits d t [.int .i64 i]=some [.int .i64 i]:=by
 obtain⟨d,rfl⟩:∃e,d=e+1:=⟨d - 1,qo⟩;unfold Program.keyLits;rw[h];simp[a]
theorem li{P:Program}{d:Nat}{t:TypeId}{s:ByteArray}(h:P.underlying t=some .string)(b:0<d)(a:s.size<=maxLen):P.keyLits d t [.string s]=some [.string s.data.toList]:=by
 obtain⟨d,rfl⟩:∃e,d=e+1:=⟨d - 1,qo⟩;unfold Program.keyLits;rw[h];simp[a]
theorem tb {P : Program} {k : TypeId} {fs : Array Field} {cs : Array Value} (h : P.underlying k = some (.struct fs)) (hk : P.keyType k = true) (hc : cs.toList.length = P.cellsOf k) (hn : fs.all (·.name != "_") = true)
 (c:(P.types.size == 0)=false) (e:∀d,0<d->∃a,(fs.toList.mapM λf=>P.keyLits d f.type ((cs.toList.drop f.offset).take (P.cellsOf f.type)))=some a):∃l,keyOf P k (.agg cs)=some l:=by
 obtain⟨a,b⟩:=e P.types.size (Nat.pos_of_ne_zero (by simpa using c));unfold keyOf;rw[h];simp only[hk,Value.formed,h,Bool.true_and,show (Value.agg cs).cells=cs from rfl];rw[if_pos (by simpa using hc)];unfold Program.keyLits;rw[h];simp only;rw[if_pos ⟨hc,hn⟩,b];exact⟨_,rfl⟩
theorem jF{i:Int}(c:-9223372036854775808<=i)(d:i<=9223372036854775807):(Lit.int .i64 i).wf=true:=by
 have a:IntKind.i64.min=-9223372036854775808:=qd
 have b:IntKind.i64.max=9223372036854775807:=qd
 show (decide (IntKind.i64.min<=i) && decide (i<=IntKind.i64.max))=true
 rw[a,b];simp[c,d]
theorem rJ{i j:Int}(e:(Lit.int .i64 i).wf=true)(f:(Lit.int .i64 j).wf=true):∃l,keyOf prog 270 (je i j)=some l:=by
 have g:=underlying270;refine tb g qk qk qk qk (λd a=>?_);have c:(prog).cellsOf 3=1:=qk
 have b:=underlying3;simp only[List.mapM_cons,List.mapM_nil,c,qG,qH,List.take_succ_cons,List.take_zero,jp b a e,jp b a f];exact⟨_,rfl⟩
theorem xA{n:ON}(c:(Lit.int .i64 n.kind).wf=true)(e:(Lit.int .i64 n.number).wf=true)(f:(Lit.int .i64 n.index).wf=true)(s:n.owner.length<=maxLen)(t:n.text.length<=maxLen):∃l,keyOf prog 31 (fg n)=some l:=by
 have p:=underlying31;obtain⟨q,k,_,u⟩:=eT n.owner;obtain⟨r,m,_,v⟩:=eT n.text;unfold fg;rw[k,m];refine tb p qk qk qk qk (λd a=>?_);have g:(prog).cellsOf 3=1:=qk
 have b:=underlying3;have j:q.size<=maxLen:=qo
 have o:r.size<=maxLen:=qo
 have h:(prog).cellsOf 29=1:=qk
 have i:(prog).cellsOf 9=1:=qk
 simp only[List.mapM_cons,List.mapM_nil,g,h,i,qG,qH,List.take_succ_cons,List.take_zero,jp b a c,jp b a e,jp b a f,li underlying29 a j,li underlying9 a o];exact⟨_,rfl⟩
theorem pq{i:Int}(h:(Lit.int .i64 i).wf=true):∃l,keyOf prog 3 (.int .i64 i)=some l:=by
 unfold keyOf mapKey;rw[underlying3];simp[h]
theorem qJ{x:Nat}(a:1<=x)(h:x<=1048576):1<=Lib.bitLen x/\2 ^ (Lib.bitLen x - 1)<=x/\x<2 ^ Lib.bitLen x :=
 Lib.bitLenAux_bounds 64 x qo qo
theorem gv{n:Nat}(e:2<=n)(f:n<=1048576):1<=fe n/\fe n<n/\n<=2*fe n:=by
 obtain⟨a,b,c⟩:=qJ (x:=n - 1) qo qo;unfold fe;obtain⟨m,d⟩:∃m,Lib.bitLen (n - 1)=m+1:=⟨Lib.bitLen (n - 1) - 1,qo⟩;rw[d]at b c ⊢;rw[Nat.pow_succ]at c;simp only[Nat.add_sub_cancel]at b ⊢;have:=Nat.one_le_two_pow (n:=m);omega
theorem yp{b k x:Nat}(a:2 ^ b<=x)(c:x<2 ^ (b+1))(d:2 ^ k<=x)(e:x<2 ^ (k+1)):b=k:=by
 rcases Nat.lt_trichotomy b k with h|h|h
 ·have:2 ^ (b+1)<=2 ^ k:=Nat.pow_le_pow_right qo h
  omega
 ·exact h
 ·have:2 ^ (k+1)<=2 ^ b:=Nat.pow_le_pow_right qo h
  omega
theorem Ah{l:Nat}(h:2 ^ (l+1)<=1048576):fe (2 ^ (l+1))=2 ^ l:=by
 have e:=Nat.one_le_two_pow (n:=l);obtain⟨a,b,c⟩:=qJ (x:=2 ^ (l+1) - 1) qo qo;unfold fe;obtain⟨m,d⟩:∃m,Lib.bitLen (2 ^ (l+1) - 1)=m+1:=⟨Lib.bitLen (2 ^ (l+1) - 1) - 1,qo⟩;rw[d]at b c ⊢;simp only[Nat.add_sub_cancel]at b ⊢;rw[yp (k:=l) b c qo qo]
theorem Ai{n a:Nat}(f:2 ^ a<n)(g:n<2 ^ (a+1))(h:n<=1048576):fe n=2 ^ a:=by
 have i:=Nat.one_le_two_pow (n:=a);obtain⟨j,c,d⟩:=qJ (x:=n - 1) qo qo;unfold fe;obtain⟨m,e⟩:∃m,Lib.bitLen (n - 1)=m+1:=⟨Lib.bitLen (n - 1) - 1,qo⟩;rw[e]at c d ⊢;simp only[Nat.add_sub_cancel]at c ⊢;rw[yp (b:=m) (k:=a) c d qo qo]
def rt(a:List Nm)(f n:Nat):Nm :=
 if b:n<=1 \/ 1048576<n then a.getD f []else ig (rt a f (fe n)) (rt a (f+fe n) (n - fe n))
termination_by n
decreasing_by
 ·exact(gv qo qo).2.1
 ·have:=gv (n:=n) qo qo;omega
theorem pt(a:List Nm)(f:Nat):rt a f 1=a.getD f []:=by rw[rt,dif_pos qo]
theorem pu(a:List Nm)(f n:Nat)(b:2<=n)(c:n<=1048576):rt a f n=ig (rt a f (fe n)) (rt a (f+fe n) (n - fe n)):=by rw[rt,dif_neg qo]
theorem ET(a:List Nm)(f l:Nat)(h:2 ^ (l+1)<=1048576):rt a f (2 ^ (l+1))=ig (rt a f (2 ^ l)) (rt a (f+2 ^ l) (2 ^ l)):=by
 have b:=Nat.one_le_two_pow (n:=l);rw[pu _ _ _ qo h,Ah h,show 2 ^ (l+1) - 2 ^ l=2 ^ l by omega]
theorem Dx(a es:List Nm):∀(n f:Nat),1<=n->f+n<=a.length->n<=1048576->rt (a++es) f n=rt a f n:=by
 intro n
 induction n using Nat.strongRecOn with
 | _ n c =>
  intro f e g b
  by_cases d:n=1
  ·subst d
   rw[pt,pt,List.getD_eq_getElem?_getD,List.getD_eq_getElem?_getD,List.getElem?_append_left qo]
  ·have h:=gv (n:=n) qo b
   rw[pu _ _ _ qo b,pu _ _ _ qo b,c (fe n) qo f qo qo qo,c (n - fe n) qo (f+fe n) qo qo qo]
theorem jW{a:List Nm}(c:∀d∈a,d.length=32):∀(n f:Nat),1<=n->f+n<=a.length->n<=1048576->(rt a f n).length=32:=by
 intro n f g h b
 by_cases e:n=1
 ·subst e
  rw[pt,List.getD_eq_getElem?_getD,gx qo];exact c _ (List.getElem_mem _)
 ·rw[pu _ _ _ qo b];exact fw _
def mW(a:List Nm)(b:List (Value × Value)):Prop:=∀l i:Nat,(i+1)*2 ^ l<=a.length->PartIs a b l i (rt a (i*2 ^ l) (2 ^ l))
theorem Dy{l:Nat}(h:2 ^ l<=1048576):wrap64 (2 ^ l)=((2 ^ l:Nat):Int):=by
 have a:((2:Int) ^ l)=((2 ^ l:Nat):Int):=qs
 rw[a];generalize (2:Nat) ^ l=z at h ⊢;simp only[wrap64];omega
theorem xB(b:Nat)(c:List Nm)(al:List (Value × Value))(F:List Nat)(hP:mW c al)(ac:∀d∈c,d.length=32)(aH:c.length<=1048576):∀(n f:Nat) (w:World),TreeAt w b c al F->Ok w->1<=n->f+n<=c.length->(∃e,n<=2 ^ e/\2 ^ e ∣ f) ->
 Calls prog 127 #[.pointer (some ⟨b,0,none⟩),.int .i64 (f:Int),.int .i64 (n:Int)] w (gh w (rt c f n)):=by
 intro n
 induction n using Nat.strongRecOn with
 | _ n R =>
 intro f w E ag h1 h2 he;obtain⟨e,q,h⟩:=he;obtain⟨b1,H,j⟩:=qJ (x:=n) h1 qo;obtain⟨g,P⟩:∃m,Lib.bitLen n=m+1:=⟨Lib.bitLen n - 1,qo⟩;rw[P]at H j;simp only[Nat.add_sub_cancel]at H;have L:=λW=>Tryz.bits_Len (n:Int) W qo qo;rw[Int.toNat_natCast,P]at L;have r:=Dy (l:=g) qo
 have t:g<=20:=by
  have:2 ^ g<2 ^ 21:=qo
  exact Nat.le_of_lt_succ ((Nat.pow_lt_pow_iff_right qo).1 this)
 have u:IntKind.i64.wrap (((g+1:Nat):Int) - 1)=(g:Int):=by simp only[IntKind.wrap_i64];omega
 obtain⟨D,G⟩:=eR (w.alloc (.cells (qm) 57));have M:Fr [] w D:=by rw[<-G];exact(Fq [] w).alloc _
 obtain⟨fR,V⟩:∃f,D.rowIs w.heap.size 57 32 f:=by rw[<-G];exact⟨_,gn w _ _⟩
 have HB:=Hd L;have ao:=Hd V;have S:=Hd M;have ap:=Hd G
 by_cases Q:n=2 ^ g
 ·have aC:2 ^ g ∣ f:=Nat.dvd_trans (Nat.pow_dvd_pow 2 (by
   have:2 ^ g<=2 ^ e:=qo
   exact(Nat.pow_le_pow_iff_right qo).1 this)) h
  obtain⟨i,N⟩:=aC;rw[Nat.mul_comm]at N;have a:=hP g i (by rw[Nat.add_mul];omega);rw[<-N,<-Q]at a;have J:=lD b g i c al F _ D (E.fr0 M) a;obtain⟨d,C⟩:=eR (rt c f n);rw[C]at J a ⊢;have z:=a.1;have aa:(eP d).length=32:=by rw[eU,z]
  unfold je at J;have HC:=Hd J;have aK:wrap64 (2 ^ g)=(n:Int):=by rw[r,<-Q]
  have aL:(f:Int) / 2 ^ g=(i:Int):=by
   have h4:((2:Int) ^ g)=((2 ^ g:Nat):Int):=qs
   rw[h4,N,<-Int.natCast_ediv,Nat.mul_div_cancel _ qo]
  clear L V M G J a Q N r R q h b1 H j P E C
  go_enter func127,ntmps127
  go_upto_region 1 with fail
  rw[ap.out]
  go_upto_region 2 with(first
  | (go_at_call 172;(with_reducible refine(HB.out _).mono ?_);rintro e D ⟨rfl,rfl⟩))
  go_wp2_with (first
  | (go_at_call 149;(with_reducible refine HC.out.mono ?_);rintro e w3 ⟨rfl,A⟩;unfold fu;have Y:=eS ao.out A qs;have ai:=fc (d:=d) Y z;have B:=fh (d:=d) Y z;obtain⟨w4,aj⟩:∃X,w3.setCells w.heap.size 0 (eP d)=X:=⟨_,rfl⟩;have aq:Fr [] w w4:=(by rw[<-aj];exact((S.out.then A).setCells (.inr (fV _)) _ _));rw[aj]at ai B;have HRD:=Hd B.1;have az:=Hd aq;clear aj B aq Y A))
  exact bodyPost_ret (v:=fu d) (fy (d:=.array 32 5) (p:=6) (ty:=57) (b:=w.heap.size) (o:=0) rfl rfl HRD.out qk rfl (by rw[aa];rfl)) rfl ⟨rfl,az.out⟩
 ·obtain⟨p,a⟩:=eR (2 ^ g)
  rw[a]at r H Q;have aJ:1<=p:=by rw[<-a];exact Nat.one_le_two_pow
  have af:2<=n:=by clear r u t q h j a;omega
  obtain⟨I,T,c3⟩:=gv (n:=n) af qo;have av:p<n:=by clear r u t q h j a;omega
  have O:fe n=p:=by rw[<-a];exact Ai (by rw[a];exact av) j (by clear r u t q h j a;omega)
  have U:=λW=>j8 n af qo W;obtain⟨k,hk⟩:=eR (fe n);have ah:=pu c f n af qo;rw[hk]at I T c3 U O ah;have y:2 ^ g<=2 ^ e:=by rw[a];exact Nat.le_trans (Nat.le_of_lt av) q
  have ab:2 ^ g ∣ f:=Nat.dvd_trans (Nat.pow_dvd_pow 2 ((Nat.pow_le_pow_iff_right qd).1 y)) h;rw[a]at ab;have au:f+k+(n - k)<=c.length:=by clear r u t q h j a y;omega
  have aD:n - k<=p:=by clear r u t q h j a y;omega
  have aE:k<=2 ^ e:=by rw[O,<-a];exact y
  have s:f+k<=c.length/\1<=n - k/\n - k<n/\k<=1048576/\n - k<=1048576/\n<=1048576/\k<=n:=by clear r u t q h j a y;omega
  have hA:∀W,Fr [] w W->Calls prog 127 #[.pointer (some ⟨b,0,none⟩),.int .i64 (f:Int),.int .i64 (k:Int)] W (gh W (rt c f k)):=λW hW=>R k T f W (E.fr0 hW) (ag.fr0 hW) I s.1 ⟨e,aE,h⟩
  have hB:∀W,Fr [] w W->Calls prog 127 #[.pointer (some ⟨b,0,none⟩),.int .i64 ((f:Int)+(k:Int)),.int .i64 ((n:Int) - (k:Int))] W (gh W (rt c (f+k) (n - k))):=λW hW=>by
   have:=R (n - k) s.2.2.1 (f+k) W (E.fr0 hW) (ag.fr0 hW) s.2.1 au ⟨g,by rw[a];exact aD,by rw[a,O];exact Nat.dvd_add ab (Nat.dvd_refl p)⟩;rw[Int.natCast_add,Int.natCast_sub s.2.2.2.2.2.2]at this;exact this
  have K:∀W,Fr [] w W->Calls prog 150 #[fu (rt c f k),fu (rt c (f+k) (n - k))] W (gh W (ig (rt c f k) (rt c (f+k) (n - k)))):=λW hW=>rC _ _ W (ag.fr0 hW) (jW ac k f I s.1 s.2.2.2.1) (jW ac (n - k) (f+k) s.2.1 au s.2.2.2.2.1);rw[<-ah]at K;obtain⟨d,C⟩:=eR (rt c f n);have z:d.length=32:=by rw[<-C];exact jW ac n f h1 h2 s.2.2.2.2.2.1
  have aa:(eP d).length=32:=by rw[eU,z]
  rw[C]at K ⊢
  have aI:((n:Int) == (p:Int))=false:=by
   clear r u t q h j a y;simp;omega
  have HL:=Hd U;have HA:=Hd hA;have aw:=Hd hB;have aB:=Hd K;have aF:0<=(f:Int)+k/\(f:Int)+k<=1048576:=by clear r u t q h j a y;omega
  have aG:0<=(n:Int) - k/\(n:Int) - k<=1048576:=by clear r u t q h j a y;omega
  clear L V M G P a j q U hA hB K C ah ab O h I T c3 R E hP
  go_enter func127,ntmps127
  go_upto_region 1 with fail
  rw[ap.out]
  go_upto_region 2 with(first
  | (go_at_call 172;(with_reducible refine(HB.out _).mono ?_);rintro e D ⟨rfl,rfl⟩))
  go_upto_region 4 with fail
  go_upto_region 5 with(first
  | (go_at_call 171;(with_reducible refine(HL.out _).mono ?_);rintro e D ⟨rfl,rfl⟩))
  go_wp2_with (first
  | (go_at_call 127;(with_reducible refine(HA.out _ S.out).mono ?_);rintro e w2 ⟨rfl,ad⟩;have am:=Hd (S.out.then ad);have ax:=Hd ad;clear ad)
  | (go_at_call 127;(with_reducible refine(aw.out _ am.out).mono ?_);rintro e w3 ⟨rfl,A⟩;have an:=Hd (am.out.then A);have ay:=Hd (ax.out.then A);clear A)
  | (go_at_call 150;(with_reducible refine(aB.out _ an.out).mono ?_);rintro e w5 ⟨rfl,ae⟩;unfold fu;have Z:=eS ao.out (ay.out.then ae) qs;have ai:=fc (d:=d) Z z;have B:=fh (d:=d) Z z;obtain⟨w6,ak⟩:∃X,w5.setCells w.heap.size 0 (eP d)=X:=⟨_,rfl⟩;have ar:Fr [] w w6:=(by rw[<-ak];exact((an.out.then ae).setCells (.inr (fV _)) _ _));rw[ak]at ai B;have HRD:=Hd B.1;have aA:=Hd ar;clear ak B ar Z ae))
  exact bodyPost_ret (v:=fu d) (fy (d:=.array 32 5) (p:=6) (ty:=57) (b:=w.heap.size) (o:=0) rfl rfl HRD.out qk rfl (by rw[aa];rfl)) rfl ⟨rfl,aA.out⟩
end Go.Proofs.YtlpmiimgacfmkaaGreatDoor
