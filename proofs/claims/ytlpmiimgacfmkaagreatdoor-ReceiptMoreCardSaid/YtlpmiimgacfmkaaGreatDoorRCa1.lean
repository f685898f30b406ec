/- Part of the proof. -/
import Derived.Sort.OwnSortedInts
import Derived.Laws.EntriesVeiled
import Derived.Test.YtlpmiimgacfmkaaGreatDoorRShelf2
import Derived.Test.YtlpmiimgacfmkaaGreatDoorRWf
set_option linter.all false
set_option maxHeartbeats 8000000
set_option maxRecDepth 100000
namespace Go.Proofs.YtlpmiimgacfmkaaGreatDoor
open Go.Proofs.Tryz
open Go.RowKit
def tD(pm pr pf pv:Nat):Value:=.func (.func 165) #[] #[.pointer (some ⟨pm,0,none⟩),.pointer (some ⟨pr,0,none⟩),.pointer (some ⟨pf,0,none⟩),.pointer (some ⟨pv,0,none⟩)]
def CT(pg:Nat):Value:=.func (.func 107) #[] #[.pointer (some ⟨pg,0,none⟩)]
structure VSt(w0 w:World)(pm pr pf pv m pg:Nat)(A:Option Addr)(n c:Nat)(xs:List Value)(kvs:List (Value × Value)):Prop where
 bm:BoxN w pm 143 #[.map (some m)]
 br:BoxN w pr 36 #[.slice A n c]
 bf:BoxN w pf 211 #[CT pg]
 bv:BoxN w pv 130 #[tD pm pr pf pv]
 mm:MapIs prog 3 w m kvs
 own:Own w 3 1 A n c xs
 d1:pm≠pr/\pm≠m/\pr≠m/\pf≠pr/\pf≠m/\pv≠pr/\pv≠m
 d2:pm ∉ eV A/\pr ∉ eV A/\pf ∉ eV A/\pv ∉ eV A/\m ∉ eV A
 d3:w0.heap.size<=pr/\w0.heap.size<=m/\∀k∈eV A,w0.heap.size<=k
 f0:Fr [] w0 w
section
variable {w0 X Y Z:World} {pm pr pf pv m pg n c:Nat} {A:Option Addr} {xs:List Value} {kvs kvs':List (Value × Value)}
theorem VSt.fr0(h:VSt w0 X pm pr pf pv m pg A n c xs kvs)(a:Fr [] X Y):VSt w0 Y pm pr pf pv m pg A n c xs kvs :=
 ⟨h.bm.fr a qs,h.br.fr a qs,h.bf.fr a qs,h.bv.fr a qs,h.mm.fr a qs,h.own.fr a qs,h.d1,h.d2,h.d3,h.f0.then a⟩
theorem VSt.putM(h:VSt w0 X pm pr pf pv m pg A n c xs kvs)(a:Fr [m] X Y)(d:MapIs prog 3 Y m kvs'):VSt w0 Y pm pr pf pv m pg A n c xs kvs' :=
 ⟨h.bm.fr a (by simpa using h.d1.2.1),h.br.fr a (by simpa using h.d1.2.2.1),h.bf.fr a (by simpa using h.d1.2.2.2.2.1),h.bv.fr a (by simpa using h.d1.2.2.2.2.2.2),d,h.own.fr a (by intro k b;simp only[gI];rintro rfl;exact h.d2.2.2.2.2 b),h.d1,h.d2,h.d3,h.f0.trans a (by intro k b;simp only[gI]at b;subst b;exact .inr h.d3.2.1)⟩
theorem VSt.putR{A':Option Addr}{g c':Nat}{o:List Value}(h:VSt w0 X pm pr pf pv m pg A n c xs kvs)(d:Fr (eV A) X Y)(w:Own Y 3 1 A' g c' o)(l:∀k∈eV A',k∈eV A \/ X.heap.size<=k)(b:Fr [pr] Y Z)(u:BoxN Z pr 36 #[.slice A' g c']):
 VSt w0 Z pm pr pf pv m pg A' g c' o kvs:=by
 have e:∀k,k<X.heap.size->k ∉ eV A->k ∉ eV A':=λk f t v=>by
  rcases l k v with j|j
  ·exact t j
  ·omega
 have p:=e pm h.bm.lt h.d2.1;have i:=e pr h.br.lt h.d2.2.1;have q:=e pf h.bf.lt h.d2.2.2.1;have r:=e pv h.bv.lt h.d2.2.2.2.1;have s:=e m h.mm.lt h.d2.2.2.2.2
 exact⟨(h.bm.fr d h.d2.1).fr b (by simpa using h.d1.1),u,(h.bf.fr d h.d2.2.2.1).fr b (by simpa using h.d1.2.2.2.1),(h.bv.fr d h.d2.2.2.2.1).fr b (by simpa using h.d1.2.2.2.2.2.1),(h.mm.fr d h.d2.2.2.2.2).fr b (by simpa using Ne.symm h.d1.2.2.1),w.fr b (by intro k a;simp only[gI];rintro rfl;exact i a),h.d1,⟨p,i,q,r,s⟩,
  ⟨h.d3.1,h.d3.2.1,λk a=>(l k a).elim (λf=>h.d3.2.2 k f) (λf=>Nat.le_trans h.f0.size f)⟩,(h.f0.trans d (λk a=>.inr (h.d3.2.2 k a))).trans b (by intro k a;simp only[gI]at a;subst a;exact .inr h.d3.1)⟩
end
theorem yP(k:Int)(w0 w:World)(pm pr pf pv m pg n c:Nat)(A:Option Addr)(xs:List Value)(kvs:List (Value × Value))(R:World->Prop)(h:VSt w0 w pm pr pf pv m pg A n c xs kvs)(K:∃l,keyOf prog 3 (.int .i64 k)=some l)(r:∀p∈kvs,p.1≠.int .i64 k)(hl:n+1<=1000)
 (y:∀W A' c',VSt w0 W pm pr pf pv m pg A' (n+1) c' (xs++[.int .i64 k]) (kvs++[(.int .i64 k,.bool true)])->Calls prog 107 #[.int .i64 k,tD pm pr pf pv,.pointer (some ⟨pg,0,none⟩)] W λe w'=>e=.returned (.tuple #[])/\R w') :
 Calls prog 165 #[.int .i64 k,.pointer (some ⟨pm,0,none⟩),.pointer (some ⟨pr,0,none⟩),.pointer (some ⟨pf,0,none⟩),.pointer (some ⟨pv,0,none⟩)] w λe w'=>e=.returned (.tuple #[])/\R w':=by
 obtain⟨kl,q⟩:=K;have L:=MapIs.look_none oJ underlying143 h.mm q r (z:=.bool false) (by simp[go_sem]) false;obtain⟨S,M,u,D⟩:=MapIs.put_new (v:=.bool true) oJ underlying143 h.mm q r;have j:=h.putM u D;have T:=h.bm.k0;have U:=j.br.k0;have a:=Hd j;have G:=Hd y;clear h j y u D r q;obtain⟨N,J,O,P,Q⟩:=kt
 go_enter func165,ntmps165
 go_upto_region 3 with(at_builtin;(with_reducible refine fp (w:=S) rfl (.tmp 12) (.tmp 14) 36 rfl 3 N _ 1 8 underlying36 J O P Q rfl qd A n c xs rfl a.out.own 1 1 [k] 3 rfl rfl (by simp[Value.oneCell']) (by unfold maxLen;omega) qo ?_);intro A' c' w2 E o F;have g:=a.out.br.fr o a.out.d2.2.1;have e0:=g.c 0;have I:=g.f 0;have b:=Hd (An E (An o (An F g)));clear E o F g)
 obtain⟨s,i⟩:=eR (w2.setCell ⟨pr,0,none⟩ (.slice A' (n+1) c'));have C:BoxN s pr 36 #[.slice A' (n+1) c']:=by rw[<-i];exact b.out.2.2.2.setAt 0 _
 have x:Fr [pr] w2 s:=by rw[<-i];exact(Fq [pr] w2).st _
 rw[i];have d:=a.out.putR b.out.2.1 b.out.1 b.out.2.2.1 x C;have V:=d.bf.k0;have y2:=d.bv.k0;have t:=Hd (G.out s A' c' d);unfold tD at y2 t;unfold CT at V;clear d x C i e0 I L M T U
 go_wp2_with ((go_at_call 107;(with_reducible refine t.out.mono ?_);rintro e w4 ⟨rfl,B⟩;have H:=Hd B;clear B))
 go_end0
 exact⟨rfl,H.out⟩
def uC(b:Nat->List LK):Nat->Nat->List Nat->List Nat
 | 0,_,xs=>xs
 | f+1,i,xs=>if i∈xs then xs else(b i).foldl (λa x=>if 0<=x.f then uC b f x.f.toNat a else a) (xs++[i])
def iG(b:Nat->List LK)(f:Nat)(a:List Nat)(x:LK):List Nat:=if 0<=x.f then uC b f x.f.toNat a else a
theorem qn{a:Nat->List LK}{f i:Nat}{xs:List Nat}(h:i ∉ xs):uC a (f+1) i xs=(a i).foldl (iG a f) (xs++[i]):=by
 rw[uC,if_neg h];rfl
theorem tE{a:Nat->List LK}{f i:Nat}{xs:List Nat}(h:i∈xs):uC a (f+1) i xs=xs:=by rw[uC,if_pos h]
theorem qP:∀(n:Nat) (xs:List Nat),xs.Nodup->(∀x∈xs,x<n)->xs.length<=n
 | 0,xs,_,h=>by
  cases xs with
  | nil=>simp
  | cons a r=>have:=h a qs;omega
 | n+1,xs,c,h=>by
  by_cases d:n∈xs
  ·have g:=qP n (xs.erase n) (c.erase n) (λx b=>by
    have f:=(List.Nodup.mem_erase_iff c).1 b;have i:=h x f.2;have j:=f.1;omega)
   rw[List.length_erase_of_mem d]at g;have:0<xs.length:=List.length_pos_of_mem d;omega
  ·have:=qP n xs c (λx b=>by
    have i:=h x b;have:x≠n:=λe=>d (e ▸ b);omega)
   omega
def Idx(n:Nat)(xs:List Nat):Prop:=xs.Nodup/\∀x∈xs,x<n
theorem Idx.len{n:Nat}{xs:List Nat}(h:Idx n xs):xs.length<=n:=qP n xs h.1 h.2
theorem Idx.snoc{n i:Nat}{xs:List Nat}(h:Idx n xs)(j:i<n)(g:i ∉ xs):Idx n (xs++[i]):=by
 refine⟨?_,λx c=>?_⟩
 ·rw[List.nodup_append]
  refine⟨h.1,qs,?_⟩;intro a f b d;rw[gI]at d;subst d;exact λe=>g (e ▸ f)
 ·rcases List.mem_append.1 c with c|c
  ·exact h.2 x c
  ·rw[gI]at c
   omega
def wF(a:Nat->List LK):Prop:=∀i,∀x∈a i,x.f<(i:Int)
theorem qp{d:Nat->List LK}{n:Nat}(e:wF d):∀(f i:Nat) (xs:List Nat),Idx n xs->i<n->Idx n (uC d f i xs)
 | 0,_,xs,h,_=>h
 | f+1,i,xs,h,j=>by
  by_cases c:i∈xs
  ·rw[tE c];exact h
  ·rw[qn c]
   have k:∀(l:List LK) (a:List Nat),(∀x∈l,x.f<(i:Int))->Idx n a->Idx n (l.foldl (iG d f) a):=by
    intro l
    induction l with
    | nil=>intro a _ b;exact b
    | cons x r o =>
     intro a g b;rw[List.foldl_cons];refine o _ (λz m=>g z (by simp[m])) ?_;unfold iG;have:=g x qs;split
     ·exact qp e f _ a b qo
     ·exact b
   exact k _ _ (e i) (h.snoc j c)
def jZ(xs:List Nat):List Value:=xs.flatMap zy
def lU(xs:List Nat):List (Value × Value):=xs.map λi:Nat=>(.int .i64 (i:Int),.bool true)
theorem Bf{xs:List Nat}{i:Nat}(h:i∈xs):(Value.int .i64 (i:Int),Value.bool true)∈lU xs:=List.mem_map.2 ⟨i,h,rfl⟩
theorem Bg{xs:List Nat}{i:Nat}(h:i ∉ xs):∀p∈lU xs,p.1≠.int .i64 (i:Int):=λp c a=>by
 obtain⟨j,b,rfl⟩:=List.mem_map.1 c;simp only[Value.int.injEq,true_and]at a;have:j=i:=qo
 exact h (this ▸ b)
theorem sD{i:Nat}(h:i<=1000000):∃l,keyOf prog 3 (.int .i64 (i:Int))=some l:=pq (jF qo qo)
def VI(g w:World)(d e a f m b:Nat)(A:Option Addr)(c:Nat)(xs:List Nat):Prop:=VSt g w d e a f m b A xs.length c (jZ xs) (lU xs)
theorem VI.fr0{g X Y:World}{d e a f m b c:Nat}{A:Option Addr}{xs:List Nat}(h:VI g X d e a f m b A c xs)(i:Fr [] X Y):VI g Y d e a f m b A c xs:=VSt.fr0 h i
def tF(g:World)(c d a f m b:Nat)(h:List Nat)(e:Ending)(w':World):Prop:=e=.returned (.tuple #[])/\∃A' c',VI g w' c d a f m b A' c' h
theorem Ex(f i n nk:Nat)(a:Nat->List LK)(s w:World)(B C x D m z g mw U B0 an c:Nat)(KO:Option Addr)(ks:List Value)(P Ru:List LR)(er:List (NE ON Nat))(T:Option Addr)(xs:List Nat)(hi:i<n)(av:n<=12)(ac:(a i).length<=10)(Z:wF a)(ai:∀(k:Nat) (r:LR),P[k]?=some r->r.xs=a k)(ap:i<=f)
 (J:VI s w B C x D m z T c xs) (hx:Idx n xs) (hg:BoxN s z 111 #[.pointer (some ⟨g,0,none⟩)]) (F:GS s g mw U B0 n KO nk an ks P Ru er)
 (hV:∀v,v<f->v<n->∀(W:World) (A':Option Addr) (c':Nat) (zs:List Nat),Idx n zs->VI s W B C x D m z A' c' zs->Calls prog 165 #[.int .i64 (v:Int),.pointer (some ⟨B,0,none⟩),.pointer (some ⟨C,0,none⟩),.pointer (some ⟨x,0,none⟩),.pointer (some ⟨D,0,none⟩)] W (tF s B C x D m z (uC a f v zs))) :
 Calls prog 107 #[.int .i64 (i:Int),tD B C x D,.pointer (some ⟨z,0,none⟩)] w (tF s B C x D m z ((a i).foldl (iG a f) xs)):=by
 obtain⟨l1,r,l2,hR,aq,S⟩:=pE (rs:=P) (k:=i) (by rw[F.ln.1];exact hi);have H:Own s 98 7 r.A r.xs.length r.c (r.xs.flatMap LK.cs):=F.rl.own r (iu S);have ad:=ai i r S;rw[ad]at H;obtain⟨l,hl⟩:=eR (a i);obtain⟨E,R⟩:=eR (l.length);have ab:=Z i;rw[hl]at H ac ab ⊢;rw[R]at H ac
 have ak:s.cell? ⟨U,i,none⟩=some (.slice r.A E r.c):=by
  have:=oS F.rl.box S
  rwa [ad,hl,R]at this
 have x0:=(hg.fr J.f0 qs).c 0;have x1:=(F.box.fr J.f0 qs).c 1;have x2:=(J.f0.fcell F.rl.box.lt qs i).trans ak;obtain⟨RA,rc,az⟩:=r;simp only at H x2;have ar:(i:Int)<(n:Int):=qo
 have ay:IntKind.i64.wrap (i:Int)=(i:Int):=by simp only[IntKind.wrap_i64];omega
 have V:=Hd (An J hx);have HV:=Hd hV;have ah:=Hd Z;have I:=Hd (An H (An R ab));unfold tD
 go_enter func107,ntmps107
 go_wp2_with fail
 go_loopw [15] (λix W=>∃(q:Nat) (A':Option Addr) (c':Nat) (zs:List Nat),q<=E/\ix=q/\VI s W B C x D m z A' c' zs/\Idx n zs/\(l.drop q).foldl (iG a f) zs=l.foldl (iG a f) xs) (λj _=>E - (intOf j).toNat)
 case atStart=>exact⟨0,T,c,xs,Nat.zero_le _,rfl,V.out.1,V.out.2,rfl⟩
 case round =>
  obtain⟨q,A',c',zs,hq,rfl,L,hz,G⟩:=hrel
  by_cases aj:q<E
  ·have au:(q:Int)<(E:Int):=qo
   obtain⟨y,M⟩:∃y,l[q]?=some y:=⟨_,gx (by rw[I.out.2.1];exact aj)⟩;have am:=I.out.2.2 y (iu M);obtain⟨b,rfl,Y⟩:=Cs.of_own I.out.1 qo;have h:=λo (ho:o<7)=>jz wK M ho
   have aa:l.drop q=y::l.drop (q+1):=by
    obtain⟨h1,Q⟩:=i9.1 M;rw[List.drop_eq_getElem_cons h1,Q]
   rw[aa,List.foldl_cons]at G;have t:=Y.fr0 L.f0;obtain⟨u,N,p⟩:=y;obtain⟨so,ae,_,_⟩:=eT p.owner;obtain⟨st,af,_,_⟩:=eT p.text;unfold LK.cs at h;simp only[ae,af]at h;simp only at am;have y0:wr.cell? ⟨b,q*7,none⟩=some (.int .i64 u):=t.2 _ _ (h 0 qo);have y1:wr.cell? ⟨b,q*7+1,none⟩=some (.int .i64 (N:Int)):=t.2 _ _ (h 1 qo);have y2:wr.cell? ⟨b,q*7+2,none⟩=some (.int .i64 p.kind):=t.2 _ _ (h 2 qo);have y3:wr.cell? ⟨b,q*7+3,none⟩=some (.string so):=t.2 _ _ (h 3 qo);have y4:wr.cell? ⟨b,q*7+4,none⟩=some (.int .i64 p.number):=t.2 _ _ (h 4 qo);have y5:wr.cell? ⟨b,q*7+5,none⟩=some (.int .i64 p.index):=t.2 _ _ (h 5 qo);have y6:wr.cell? ⟨b,q*7+6,none⟩=some (.string st):=t.2 _ _ (h 6 qo);obtain⟨w1,ag,n1,X⟩:=kS wr #[.int .i64 u,.int .i64 (N:Int),.int .i64 p.kind,.string so,.int .i64 p.number,.int .i64 p.index,.string st] 98;have u0:=n1.k0;have d:=Hd (An (L.fr0 X) (An hz G));clear h t Y aa ae af L hz G n1 X M
   go_upto_region 3 with fail
   try rw[ag]
   clear y0 y1 y2 y3 y4 y5 y6 ag;obtain aw|ax:u<0 \/ 0<=u:=qo
   ·have ao:decide ((0:Int)<=u)=false:=by simp;omega
    have K:iG a f zs ⟨u,N,p⟩=zs:=by unfold iG;rw[if_neg (by simp only;omega)]
    have O:=Hd K;clear K
    go_wp2_with fail
    go_roundw
    case rel=>exact⟨q+1,A',c',zs,qo,by go_num,d.out.1,d.out.2.1,by have:=d.out.2.2;rw[O.out]at this;exact this⟩
    case measure=>simp[intOf];omega
   ·obtain⟨v,rfl⟩:∃v:Nat,u=(v:Int):=⟨u.toNat,qo⟩
    have K:iG a f zs ⟨(v:Int),N,p⟩=uC a f v zs:=by unfold iG;rw[if_pos (by simp only;omega)];rfl
    have HC:=Hd (HV.out v qo qo w1 A' c' zs d.out.2.1 d.out.1);have O:=Hd K
    go_wp2_with ((go_at_call 165;(with_reducible refine HC.out.mono ?_);rintro e w2 ⟨rfl,A2,c2,al⟩;have H2:=Hd al))
    go_roundw
    case rel=>exact⟨q+1,A2,c2,uC a f v zs,qo,by go_num,H2.out,qp ah.out f v zs d.out.2.1 qo,by have:=d.out.2.2;rw[O.out]at this;exact this⟩
    case measure=>simp[intOf];omega
  ·obtain rfl:q=E:=qo
   rw[List.drop_of_length_le (by rw[I.out.2.1];exact fV _)]at G;have d:=Hd (An L G)
   go_wp2_with fail
   go_end0
   refine⟨rfl,A',c',?_⟩;have Q:=d.out.2;rw[<-Q];exact d.out.1
theorem CU{g w:World}{d e a f m b c:Nat}{A:Option Addr}{xs:List Nat}{v:Nat}(h:VSt g w d e a f m b A (xs.length+1) c (jZ xs++[.int .i64 (v:Int)]) (lU xs++[(.int .i64 (v:Int),.bool true)])):VI g w d e a f m b A c (xs++[v]):=by
 unfold VI;have i:(xs++[v]).length=xs.length+1:=qs
 have j:jZ (xs++[v])=jZ xs++[.int .i64 (v:Int)]:=by unfold jZ;rw[List.flatMap_append];rfl
 have k:lU (xs++[v])=lU xs++[(.int .i64 (v:Int),.bool true)]:=by unfold lU;rw[List.map_append];rfl
 rw[i,j,k];exact h
theorem tG(n A:Nat)(b:Nat->List LK)(a:World)(e h c j m d g z q s x:Nat)(t:Option Addr)(y:List Value)(o u:List LR)(w:List (NE ON Nat))(G:n<=12)(F:∀i,(b i).length<=10)(C:wF b)(E:∀(k:Nat) (r:LR),o[k]?=some r->r.xs=b k)
 (D:BoxN a d 111 #[.pointer (some ⟨g,0,none⟩)]) (B:GS a g z q s n t A x y o u w):∀f v,v<f->v<n->∀(W:World) (A':Option Addr) (c':Nat) (zs:List Nat),Idx n zs->VI a W e h c j m d A' c' zs->Calls prog 165 #[.int .i64 (v:Int),.pointer (some ⟨e,0,none⟩),.pointer (some ⟨h,0,none⟩),.pointer (some ⟨c,0,none⟩),.pointer (some ⟨j,0,none⟩)] W (tF a e h c j m d (uC b f v zs))
 | 0,v,H,_,_,_,_,_,_,_=>absurd H (Nat.not_lt_zero v)
 | f+1,v,H,I,W,A',c',zs,J,p=>by
  by_cases l:v∈zs
  ·rw[tE l]
   obtain⟨R,O⟩:=sD (i:=v) qo;have Q:=MapIs.look_some oJ underlying143 p.mm O (Bf l) false;have S:=p.bm.k0;have K:=Hd p
   go_enter func165,ntmps165
   go_wp2_with fail
   go_end0
   exact⟨rfl,A',c',K.out⟩
  ·rw[qn l]
   have P:=J.len
   exact yP (v:Int) a W e h c j m d zs.length c' A' (jZ zs) (lU zs) _ p (sD qo) (Bg l) qo λL A2 M N =>
    Ex f v n A b a L e h c j m d g z q s x M t y o u w A2 (zs++[v]) I G (F v) C E qo (CU N) (J.snoc I l) D B
     (tG n A b a e h c j m d g z q s x t y o u w G F C E D B f)
def Bh(xs:List Nat):List Nat:=((xs.map λx:Nat=>(x:Int)).mergeSort λx y=>decide (x<=y)).map Int.toNat
theorem xO(xs:List Nat):(Bh xs).length=xs.length:=by unfold Bh;rw[List.length_map,List.length_mergeSort,List.length_map]
theorem CV{xs:List Nat}:∀v∈Bh xs,v∈xs:=λv a=>by
 unfold Bh at a;obtain⟨z,b,rfl⟩:=List.mem_map.1 a;rw[List.mem_mergeSort]at b;obtain⟨x,c,rfl⟩:=List.mem_map.1 b;simpa using c
theorem mz:∀xs:List Nat,jZ xs=xs.map λx:Nat=>(.int .i64 (x:Int):Value)
 | []=>rfl
 | a::r=>by
  have:=mz r;unfold jZ at this ⊢;rw[List.flatMap_cons,this];rfl
theorem yQ{xs:List Nat}{j:Nat}{v:Value}(h:(jZ xs)[j]?=some v):∃x,xs[j]?=some x/\v=.int .i64 (x:Int):=by
 rw[mz,List.getElem?_map]at h
 cases a:xs[j]? with
 | none=>rw[a]at h;simp at h
 | some x=>rw[a]at h;exact⟨x,rfl,by simpa using h.symm⟩
theorem CW(b c:Nat)(xs:List Nat)(w:World)(O:xs.length<=1000)(m:Own w 3 1 (some ⟨b,0,none⟩) xs.length c (jZ xs)):
 Calls prog 166 #[.slice (some ⟨b,0,none⟩) xs.length c] w λe w'=>e=.returned (.tuple #[])/\Cs w' b (jZ (Bh xs))/\Fr [b] w w':=by
 have l:=m.lt b (by simp[eV]);obtain⟨zs,i⟩:=eR (xs.map (λx:Nat=>(x:Int)));have t:zs.length=xs.length:=by rw[<-i,List.length_map]
 have E:jZ xs=zs.map (Value.int .i64):=by rw[mz,<-i,List.map_map];rfl
 have o:Go.Sort.Holds (Value.int .i64) w b 0 zs.toArray:=by
  rcases m.2 with⟨k,_⟩|⟨g,M,N,k,_,D,_,_,_,r⟩
  ·simp at k
  ·injection k with u _ _
   injection u with A
   injection A with B
   subst B;refine holds_of_blockI D ?_;rw[E]at r;rw[t];simpa using r
 rw[<-t];refine(Tryz.slices_Sort_int b 0 c zs w o l qo).mono ?_;rintro e w' ⟨rfl,n,os,rfl⟩;obtain⟨a,h⟩:=eR ((zs.mergeSort λx y=>decide (x<=y)));have G:a.length=zs.length:=by rw[<-h,List.length_mergeSort]
 have I:Bh xs=a.map Int.toNat:=by unfold Bh;rw[i,h]
 have H:∀z∈a,0<=z:=λz s=>by
  rw[<-h,List.mem_mergeSort,<-i]at s;obtain⟨x,_,rfl⟩:=List.mem_map.1 s;omega
 rw[h];have p:Fr [b] w (Go.Sort.grow (Go.Sort.putRow (Value.int .i64) (Go.Sort.ahead w n) b 0 a.toArray) os):=(Fq [b] w).grown (grownBy_sortedI _) qs;have C:=Go.Sort.holds_grow (Value.int .i64) _ os b 0 _ (by simpa using l) (Go.Sort.holds_putRow (Value.int .i64) (Go.Sort.ahead w n) b 0 _ a.toArray o (by simpa using G));refine⟨rfl,⟨Nat.lt_of_lt_of_le l p.size,λj v J=>?_⟩,p⟩;obtain⟨x,d,rfl⟩:=yQ J;rw[I,List.getElem?_map]at d
 cases f:a[j]? with
 | none=>rw[f]at d;simp at d
 | some z =>
  rw[f]at d;have K:z.toNat=x:=by simpa using d
  have L:=H z (iu f);obtain⟨q,F⟩:=i9.1 f;have:=(C j (by simpa using q)).1;rw[Nat.zero_add]at this;rw[this,<-K,Int.toNat_of_nonneg L];simp[q,F]
theorem uD{c:Nat->List LK}:∀(f i:Nat) (xs:List Nat),xs.length<=(uC c f i xs).length
 | 0,_,xs=>fV _
 | f+1,i,xs=>by
  by_cases b:i∈xs
  ·rw[tE b];exact fV _
  ·rw[qn b]
   have d:∀(l:List LK) (a:List Nat),a.length<=(l.foldl (iG c f) a).length:=by
    intro l
    induction l with
    | nil=>intro a;exact fV _
    | cons x r e =>
     intro a;rw[List.foldl_cons];refine Nat.le_trans ?_ (e _);unfold iG;split
     ·exact uD f _ a
     ·exact fV _
   refine Nat.le_trans ?_ (d _ _);simp
theorem CX{b:Nat->List LK}{f i:Nat}:1<=(uC b (f+1) i []).length:=by
 rw[qn qs]
 have c:∀(l:List LK) (a:List Nat),a.length<=(l.foldl (iG b f) a).length:=by
  intro l
  induction l with
  | nil=>intro a;exact fV _
  | cons x r d =>
   intro a;rw[List.foldl_cons];refine Nat.le_trans ?_ (d _);unfold iG;split
   ·exact uD f _ a
   ·exact fV _
 exact c _ [i]
def kZ(a:Nat->List LK)(n i:Nat):List Nat:=Bh (uC a n i [])
theorem yR{a:Nat->List LK}{n i:Nat}(b:wF a)(c:i<n):(kZ a n i).length<=n/\∀v∈kZ a n i,v<n:=by
 have h:=qp b n i [] ⟨qs,qs⟩ c;exact⟨by unfold kZ;rw[xO];exact h.len,λv d=>h.2 v (CV v d)⟩
theorem CY(b cl p g n o:Nat)(nk:Nat)(a:Nat->List LK)(mw A0 B0 aj:Nat)(KO:Option Addr)(ks:List Value)(L Ru:List LR)(er:List (NE ON Nat))(am:n<=12)(ae:∀i,(a i).length<=10)(O:wF a)(ad:∀(k:Nat) (r:LR),L[k]?=some r->r.xs=a k)(I:o<n)(w:World)(hb:Cs w b [.int .i64 (o:Int)])(hg:BoxN w p 111 #[.pointer (some ⟨g,0,none⟩)])(hd:GS w g mw A0 B0 n KO nk aj ks L Ru er):
 Calls prog 106 #[.slice (some ⟨b,0,none⟩) 1 cl,CT p] w λe w'=>∃r c,e=.returned (.slice (some ⟨r,0,none⟩) (kZ a n o).length c)/\Cs w' r (jZ (kZ a n o))/\Fr [] w w'/\w.heap.size<=r:=by
 have ah:1<=(uC a n o []).length:=by
  obtain⟨f,hf⟩:∃f,n=f+1:=⟨n - 1,qo⟩;rw[hf];exact CX
 have ai:=(qp O n o [] ⟨qs,qs⟩ I).len;have an:=tG n nk a w;obtain⟨ys,J⟩:=eR (uC a n o []);have ac:kZ a n o=Bh ys:=by unfold kZ;rw[J]
 rw[ac,xO];rw[J]at ah ai;obtain⟨ny,Q⟩:=eR (ys.length);rw[Q]at ah ai ⊢;have j:=Hd (An J Q);have E:=Hd (An am (An ae (An O (An ad I))));clear J ac Q ae O ad an;have HB:=Hd hb;have ab:=Hd (An hg hd);clear hb hg hd;unfold CT;obtain⟨B,U,n1,f1⟩:=kS w #[.func (.func 107) #[] #[.pointer (some ⟨p,0,none⟩)]] 211;have V:B.heap.size=w.heap.size+1:=by rw[<-U];simp
 obtain⟨w2,v⟩:=eR (B.alloc (.map #[] 0));have W:w2.heap.size=w.heap.size+1+1:=by rw[<-v,kX,V]
 have n2:MapIs prog 3 w2 (w.heap.size+1) []:=by rw[<-v,<-V];exact MapIs.new B
 have M:Fr [] B w2:=by rw[<-v];exact(Fq [] B).alloc _
 obtain⟨d,x⟩:=eR (w2.alloc (.cells #[.map (some (w.heap.size+1))] 143));have X:d.heap.size=w.heap.size+1+1+1:=by rw[<-x,kX,W]
 have n3:BoxN d (w.heap.size+1+1) 143 #[.map (some (w.heap.size+1))]:=by rw[<-x,<-W];exact BoxN.new w2 _ _
 have G:Fr [] w2 d:=by rw[<-x];exact(Fq [] w2).alloc _
 obtain⟨h,y⟩:=eR (d.alloc (.cells #[.slice none 0 0] 36));have Y:h.heap.size=w.heap.size+1+1+1+1:=by rw[<-y,kX,X]
 have n4:BoxN h (w.heap.size+1+1+1) 36 #[.slice none 0 0]:=by rw[<-y,<-X];exact BoxN.new d _ _
 have u:Fr [] d h:=by rw[<-y];exact(Fq [] d).alloc _
 obtain⟨q,z⟩:=eR (h.alloc (.cells #[.nilFunc] 130));have ao:q.heap.size=w.heap.size+1+1+1+1+1:=by rw[<-z,kX,Y]
 have K:BoxN q (w.heap.size+1+1+1+1) 130 #[.nilFunc]:=by rw[<-z,<-Y];exact BoxN.new h _ _
 have l:Fr [] h q:=by rw[<-z];exact(Fq [] h).alloc _
 have e0:=K.k0;have e1:=K.f 0;have t:=Hd (An U (An v (An x (An y z))));have s:=Hd (An ((((n1.fr M qs).fr G qs).fr u qs).fr l qs) (An (((n2.fr G qs).fr u qs).fr l qs) (An ((n3.fr u qs).fr l qs) (An (n4.fr l qs) K))));have HF:=Hd ((((f1.then M).then G).then u).then l);clear U v x y z n1 n2 n3 n4 K f1 M G u l V W X Y ao;have af:=gm (w.alloc (.cells #[.func (.func 107) #[] #[.pointer (some ⟨p,0,none⟩)]] 211)) 143;rw[kX]at af
 go_enter func106,ntmps106
 go_upto_region 4 with fail
 rw[t.out.1,t.out.2.1,t.out.2.2.1,t.out.2.2.2.1,t.out.2.2.2.2]
 go_upto_region 5 with fail
 obtain⟨C,A⟩:=eR (q.setCell ⟨w.heap.size+1+1+1+1,0,none⟩ (tD (w.heap.size+1+1) (w.heap.size+1+1+1) w.heap.size (w.heap.size+1+1+1+1)));have Z:BoxN C (w.heap.size+1+1+1+1) 130 #[tD (w.heap.size+1+1) (w.heap.size+1+1+1) w.heap.size (w.heap.size+1+1+1+1)]:=by rw[<-A];exact s.out.2.2.2.2.setAt 0 _
 have m:Fr [w.heap.size+1+1+1+1] q C:=by rw[<-A];exact(Fq _ q).st _
 unfold tD at A;rw[A];have N:VSt w C (w.heap.size+1+1) (w.heap.size+1+1+1) w.heap.size (w.heap.size+1+1+1+1) (w.heap.size+1) p none 0 0 [] []:=⟨s.out.2.2.1.fr m qs,s.out.2.2.2.1.fr m qs,s.out.1.fr m (by simp;omega),Z,s.out.2.1.fr m qs,Own.nil _ _ _,qo,by simp[eV],by simp[eV];omega,HF.out.trans m (by simp;omega)⟩;have hx:C.cell? ⟨b,0,none⟩=some (.int .i64 (o:Int)):=(HB.out.fr0 N.f0).2 0 _ rfl;have hy:=Z.k0;unfold tD at hy;have T:=tG n nk a w (w.heap.size+1+1) (w.heap.size+1+1+1) w.heap.size (w.heap.size+1+1+1+1) (w.heap.size+1) p g mw A0 B0 aj KO ks L Ru er E.out.1 E.out.2.1 E.out.2.2.1 E.out.2.2.2.1 ab.out.1 ab.out.2 n o I I C none 0 [] ⟨qs,qs⟩ N;rw[j.out.1]at T;have HV:=Hd T;clear T;clear N Z m A e0 e1 af
 go_wp2_with fail
 refine wp_loop_rounds 2 ?_;rw[rounds_succ]
 go_wp2_with ((go_at_call 165;(with_reducible refine HV.out.mono ?_);rintro e w7 ⟨rfl,A7,F,H⟩;have R:=H.own;obtain⟨r,rfl,hr⟩:=Cs.of_own R (by rw[j.out.2];omega);have q0:w7.cell? ⟨w.heap.size+1+1+1,0,none⟩=some (.slice (some ⟨r,0,none⟩) ny F):=(by rw[<-j.out.2];exact H.br.c 0);have ak:=Hd R;have D:=Hd H;clear R H hr))
 rw[rounds_succ];have S:=CW r F ys w7 (by rw[j.out.2];omega) ak.out;rw[j.out.2]at S;have al:=Hd S;clear S
 go_wp2_with ((go_at_call 166;(with_reducible refine al.out.mono ?_);rintro e w8 ⟨rfl,h8,P⟩;have q1:w8.cell? ⟨w.heap.size+1+1+1,0,none⟩=some (.slice (some ⟨r,0,none⟩) ny F):=(by rw[<-j.out.2];exact(D.out.br.fr P (by have:=D.out.d2.2.1;simpa [eV]using this)).c 0);have aa:=Hd (An h8 P);clear h8 P))
 go_ret
 have ag:w.heap.size<=r:=D.out.d3.2.2 r (by simp[eV]);exact⟨r,F,rfl,aa.out.1,D.out.f0.trans aa.out.2 (by simp;exact ag),ag⟩
theorem Bi(b j g n o:Nat)(h:Nat)(a:Nat->List LK)(M x y u:Nat)(p:Option Addr)(L:List Value)(q A:List LR)(B:List (NE ON Nat))(S:n<=12)(H:∀i,(a i).length<=10)(E:wF a)(G:∀(k:Nat) (r:LR),q[k]?=some r->r.xs=a k)(I:o<n)(w:World)(s:Cs w b [.int .i64 (o:Int)])(D:GS w g M x y n p h u L q A B)(T:h=n):
 Calls prog 46 #[.pointer (some ⟨g,0,none⟩),.slice (some ⟨b,0,none⟩) 1 j] w λe w'=>∃r c,e=.returned (.tuple #[.slice (some ⟨r,0,none⟩) (kZ a n o).length c,.int .i64 0])/\Cs w' r (jZ (kZ a n o))/\Fr [] w w':=by
 obtain⟨U,K,v,d⟩:=kS w #[.pointer (some ⟨g,0,none⟩)] 111;have X:=v.k0;have t:=D.fr0 d;have C:=t.box;subst T;have O:=Hd (Bo g b j u h o p _ _ _ U I qo C (s.fr0 d));have N:=Hd (s.fr0 d);have m:=Hd (An v (An t d));have l:=Hd (An H (An E G));have R:=Hd K;clear H E G K v d t C s D
 go_enter func46,ntmps46
 go_upto_region 1 with fail
 rw[R.out]
 go_wp2_with (first
  | (go_at_call 105;(with_reducible refine O.out.mono ?_);rintro e w2 ⟨rfl,f⟩;have Q:Hid (Calls prog 106 #[.slice b 1 j,.func (.func 107) #[] #[.pointer w.heap.size]] w2 _):=Hd (CY b j w.heap.size g h o h a M x y u p L q A B S l.out.1 l.out.2.1 l.out.2.2 I w2 (N.out.fr0 f) (m.out.1.fr f qs) (m.out.2.1.fr0 f));have P:=Hd f;clear f)
  | (go_at_call 106;(with_reducible refine Q.out.mono ?_);rintro e W ⟨r,c,rfl,J,F,V⟩;have z:=Hd (An J F);clear J F))
 go_ret2
 exact⟨r,c,rfl,z.out.1,(m.out.2.2.then P.out).then z.out.2⟩
theorem qQ:∃i,(prog).info? 53=some i/\i.zero=some (.agg #[.int .i64 0,.int .i64 0,.string ⟨#[]⟩,.slice none 0 0])/\i.size=4/\i.bytes=56:=info_parts qk
theorem uE(l:List AG):wF (tA l):=λi x b=>by
 unfold tA at b
 cases h:l[i]? with
 | none=>rw[h]at b;simp at b
 | some a =>
  rw[h]at b;obtain⟨c,_,rfl⟩:=List.mem_map.1 b;simp only
  rcases qa (yF (l.take i) c.n)with d|⟨v,e,d⟩
  ·rw[d];omega
  ·rw[d]
   have:=xN c.n v e;rw[List.length_take]at this;omega
theorem CZ{l:List AG}(h:∀a∈l,a.r.length<=10)(i:Nat):(tA l i).length<=10:=by
 unfold tA
 cases b:l[i]? with
 | none=>simp
 | some a=>rw[List.length_map];exact h a (iu b)
structure PF where
 i:Nat
 s:Nm
 A:Option Addr
 c:Nat
 d:List Nm
def PF.cs(n:Nat)(p:PF):List Value:=[.int .i64 (p.i:Int),.int .i64 (n:Int),ft p.s,.slice p.A p.d.length p.c]
theorem wG(n:Nat)(p:PF):(p.cs n).length=4:=rfl
def tH(xs:List AX)(n i:Nat):Nat × Nm × List Nm:=(i,(match xs[i]? with|some y=>fL y.a|none=>[]),iz xs i n)
structure PrL(w:World)(n:Nat)(A:Option Addr)(c:Nat)(ps:List PF):Prop where
 own:Own w 53 4 A ps.length c (ps.flatMap (PF.cs n))
 ds:∀p∈ps,Own w 57 32 p.A p.d.length p.c (p.d.flatMap eP)
def lV(xs:List AX)(nm:ON)(P:Nat)(b:Int):Int ⊕ List Nat :=
 if b<0 \/ (xs.length:Int)<b then .inl 2
 else if(pw ((xs.map AX.a).take b.toNat) nm P).fd=false \/ (pw ((xs.map AX.a).take b.toNat) nm P).og=-1 then .inl 8
 else .inr (kZ (tA ((xs.map AX.a).take b.toNat)) b.toNat (pw ((xs.map AX.a).take b.toNat) nm P).og.toNat)
def C6:Value:=.agg #[.int .i64 0,.string ⟨#[]⟩,.int .i64 0,.int .i64 0,.string ⟨#[]⟩,.int .i64 0,.int .i64 0,.slice none 0 0]
def yS(k:Int)(c:ByteArray)(b a:Int)(d:ByteArray)(P n:Int)(v:Value):Value:=.agg #[.int .i64 k,.string c,.int .i64 b,.int .i64 a,.string d,.int .i64 P,.int .i64 n,v]
def kj(w:World)(xs:List AX)(nm:ON)(f g:ByteArray)(P:Nat)(a:Int)(e:Ending)(w':World):Prop :=
 match lV xs nm P a with
 | .inl q=>e=.returned (.tuple #[C6,.int .i64 q])/\Fr [] w w'
 | .inr L=>∃A c b,e=.returned (.tuple #[yS nm.kind f nm.number nm.index g (P:Int) a (.slice A L.length c),.int .i64 0])/\PrL w' a.toNat A c b/\(b.map λp=>(p.i,p.s,p.d))=L.map (tH xs a.toNat)/\Fr [] w w'
theorem Eh(P:Nat):∀(R:List VZ) (s:OS),s.fd=true->(OS.walk P R s).fd=true/\((OS.walk P R s).og=s.og \/ ∃z∈R,(OS.walk P R s).og=z.i)
 | [],s,h=>⟨h,.inl rfl⟩
 | z::r,s,h=>by
  rw[OS.walk];split
  ·exact⟨h,.inl rfl⟩
  ·obtain⟨b,a⟩:=Eh P r (OS.next P z) rfl
   refine⟨b,.inr ?_⟩
   rcases a with a|⟨y,c,a⟩
   ·exact⟨z,qs,a⟩
   ·exact⟨y,by simp[c],a⟩
theorem uF{l:List AG}{n:ON}{z:VZ}(h:z∈AS l n):z.i=-1 \/ ∃v:Nat,v<l.length/\z.i=(v:Int):=by
 rcases List.mem_cons.1 h with rfl|h
 ·exact .inl rfl
 ·obtain⟨x,a,rfl⟩:=List.mem_map.1 h
  have:=qK n l 0 x a;exact .inr ⟨x.i,qo,rfl⟩
theorem Bj(l:List AG)(n:ON)(P:Nat)(h:(pw l n P).fd=true):(pw l n P).og=-1 \/ ∃v:Nat,v<l.length/\(pw l n P).og=(v:Int):=by
 unfold pw at h ⊢
 cases b:(AS l n).reverse with
 | nil=>rw[b]at h;simp[OS.walk,F9]at h
 | cons z r =>
  rw[b]at h;have d:∀y∈z::r,y∈AS l n:=λy c=>by rw[<-List.mem_reverse,b];exact c
  rw[OS.walk]at h ⊢;split at h
  ·simp[F9]at h
  ·rename_i e
   rw[if_neg e]
   rcases (Eh P r (OS.next P z) rfl).2 with a|⟨y,c,a⟩
   ·rw[a];exact uF (d z qs)
   ·rw[a];exact uF (d y (by simp[c]))
theorem Ey(b:Nat)(xs:List AX)(am:List Nat)(nm:ON)(E G:ByteArray)(P:Nat)(kk:Int)(w:World)(M:HG w b xs am)(bD:Ok w)(bA:eX nm=0)(he:fg nm=.agg #[.int .i64 nm.kind,.string E,.int .i64 nm.number,.int .i64 nm.index,.string G])(hP:P<=1000000):
 Calls prog 13 #[.pointer (some ⟨b,0,none⟩),.agg #[.int .i64 nm.kind,.string E,.int .i64 nm.number,.int .i64 nm.index,.string G,.int .i64 (P:Int)],.int .i64 kk] w (kj w xs nm E G P kk):=by
 obtain⟨k,hk⟩:=eR (nm.kind);obtain⟨nu,aX⟩:=eR (nm.number);obtain⟨ix,aU⟩:=eR (nm.index);have ae:=Hd (An he (An hk (An aX aU)));rw[hk,aX,aU];have ce:=M.len12;obtain⟨m,hm⟩:=eR (xs.length);rw[hm]at ce;obtain⟨w1,bP,bV,n1,f1⟩:=il w #[.int .i64 k,.string E,.int .i64 nu,.int .i64 ix,.string G,.int .i64 (P:Int)] 33 w.heap.size;obtain⟨w2,bQ,a7,n2,f2⟩:=il w1 #[.int .i64 0,.string ⟨#[]⟩,.int .i64 0,.int .i64 0,.string ⟨#[]⟩,.int .i64 0,.int .i64 0,.slice none 0 0] 39 (w.heap.size+1);have ac:=Hd (f1.then f2);obtain⟨o,ag⟩:=eR (w.heap.size+1);obtain⟨PB,b8⟩:=eR (w.heap.size);have a7:w.heap.size+1<w2.heap.size:=n2.lt;have HZ:=Hd (An ag a7);rw[ag]at n2;have HN:=Hd (An (n1.fr f2 qs) n2);have HW:=Hd (An bP (An bQ (An bV ag)));have HH:=Hd (M.fr0 ac.out);have bc:=Hd (bD.fr0 ac.out);have HC:=Hd (An bA hP);have HM:=Hd hm;have ao:=xY b xs am w2 HH.out;rw[hm]at ao;have HL:=Hd ao;have HA:=Hd (zm b xs am w2 HH.out);clear bP bQ n1 n2 f1 f2 bV a7 M bD he hk aX aU bA hP ao hm b8
 go_enter func13,ntmps13
 go_upto_region 1 with fail
 rw[HW.out.1,HW.out.2.1]
 try rw[HW.out.2.2.1]
 try rw[ag]
 obtain bB|cx:kk<0 \/ 0<=kk:=qo
 ·have aR:decide (kk<0)=true:=by simpa using bB
  have aa:=Hd (show lV xs nm P kk=.inl 2 by unfold lV;rw[if_pos (.inl bB)]);clear ag
  go_upto_region 4 with((go_at_call 19;(with_reducible refine HL.out.mono ?_);rintro e w3 ⟨rfl,rfl⟩))
  have h:=HN.out.2.fr (Fq [] w2) qs;have u0:=h.k0;have v0:=h.f 0;have u1:=h.k1;have v1:=h.f 1;have u2:=h.k2;have v2:=h.f 2;have u3:=h.k3;have v3:=h.f 3;have u4:=h.k4;have v4:=h.f 4;have u5:=h.k5;have v5:=h.f 5;have u6:=h.k6;have v6:=h.f 6;have u7:=h.k7;have v7:=h.f 7;have af:=Hd (An h (Fq [] w2));clear h
  go_wp2_with fail
  obtain⟨x,t⟩:=eR (((((((((w2.setCell ⟨o,0,none⟩ (.int .i64 0)).setCell ⟨o,1,none⟩ (.string ⟨#[]⟩)).setCell ⟨o,2,none⟩ (.int .i64 0)).setCell ⟨o,3,none⟩ (.int .i64 0)).setCell ⟨o,4,none⟩ (.string ⟨#[]⟩)).setCell ⟨o,5,none⟩ (.int .i64 0)).setCell ⟨o,6,none⟩ (.int .i64 0)).setCell ⟨o,7,none⟩ (.slice none 0 0)));have N:BoxN x o 39 #[.int .i64 0,.string ⟨#[]⟩,.int .i64 0,.int .i64 0,.string ⟨#[]⟩,.int .i64 0,.int .i64 0,.slice none 0 0]:=by rw[<-t];exact(((((((af.out.1.setAt 0 _).setAt 1 _).setAt 2 _).setAt 3 _).setAt 4 _).setAt 5 _).setAt 6 _).setAt 7 _
  have C:Fr [o] w2 x:=by rw[<-t];exact(((((((((Fq [o] w2).st _).st _).st _).st _).st _).st _).st _).st _)
  try rw[t]
  obtain⟨T,t1,t2,t3,U,V,X,Y⟩:=N.m8;refine bodyPost_ret (v:=.tuple #[C6,.int .i64 2]) (by simp[results,results13,C6,go_sem,T,t1,t2,t3,U,V,X,Y]) rfl ?_;have Q:=aa.out;unfold kj;rw[Q];exact⟨rfl,(ac.out.then (Fq [] w2)).trans C (by simp;have:=HZ.out;omega)⟩
 obtain⟨n,rfl⟩:∃n:Nat,kk=(n:Int):=⟨kk.toNat,qo⟩
 rcases Nat.lt_or_ge m n with cb|cr
 ·have aR:decide (m<n)=true:=by simpa using cb
  have aa:=Hd (show lV xs nm P (n:Int)=.inl 2 by unfold lV;rw[if_pos (.inr (by rw[HM.out];omega))]);clear ag
  go_upto_region 4 with((go_at_call 19;(with_reducible refine HL.out.mono ?_);rintro e w3 ⟨rfl,rfl⟩))
  have h:=HN.out.2.fr (Fq [] w2) qs;have u0:=h.k0;have v0:=h.f 0;have u1:=h.k1;have v1:=h.f 1;have u2:=h.k2;have v2:=h.f 2;have u3:=h.k3;have v3:=h.f 3;have u4:=h.k4;have v4:=h.f 4;have u5:=h.k5;have v5:=h.f 5;have u6:=h.k6;have v6:=h.f 6;have u7:=h.k7;have v7:=h.f 7;have af:=Hd (An h (Fq [] w2));clear h
  go_wp2_with fail
  obtain⟨x,t⟩:=eR (((((((((w2.setCell ⟨o,0,none⟩ (.int .i64 0)).setCell ⟨o,1,none⟩ (.string ⟨#[]⟩)).setCell ⟨o,2,none⟩ (.int .i64 0)).setCell ⟨o,3,none⟩ (.int .i64 0)).setCell ⟨o,4,none⟩ (.string ⟨#[]⟩)).setCell ⟨o,5,none⟩ (.int .i64 0)).setCell ⟨o,6,none⟩ (.int .i64 0)).setCell ⟨o,7,none⟩ (.slice none 0 0)));have N:BoxN x o 39 #[.int .i64 0,.string ⟨#[]⟩,.int .i64 0,.int .i64 0,.string ⟨#[]⟩,.int .i64 0,.int .i64 0,.slice none 0 0]:=by rw[<-t];exact(((((((af.out.1.setAt 0 _).setAt 1 _).setAt 2 _).setAt 3 _).setAt 4 _).setAt 5 _).setAt 6 _).setAt 7 _
  have C:Fr [o] w2 x:=by rw[<-t];exact(((((((((Fq [o] w2).st _).st _).st _).st _).st _).st _).st _).st _)
  try rw[t]
  obtain⟨T,t1,t2,t3,U,V,X,Y⟩:=N.m8;refine bodyPost_ret (v:=.tuple #[C6,.int .i64 2]) (by simp[results,results13,C6,go_sem,T,t1,t2,t3,U,V,X,Y]) rfl ?_;have Q:=aa.out;unfold kj;rw[Q];exact⟨rfl,(ac.out.then (Fq [] w2)).trans C (by simp;have:=HZ.out;omega)⟩
 obtain⟨l,hl⟩:=eR ((xs.map AX.a).take n);have aR:decide (m<n)=false:=by simp;omega
 have ct:(n:Int)<=(m:Int):=qo
 have av:=HA.out;unfold q8 at av;rw[HM.out]at av;have b3:=Hd av;clear av ag
 go_upto_region 6 with(first
  | (go_at_call 19;(with_reducible refine HL.out.mono ?_);rintro e w' ⟨rfl,rfl⟩)
  | (go_at_call 41;(with_reducible refine b3.out.mono ?_);rintro e w3 ⟨be,ys,rfl,bS,hL,bp,bh⟩;have HY:=Hd (An bS (An hL bh));have aG:=Hd bp;clear bS hL bp bh))
 clear aR
 have cl:ys.length=m:=by
  have:=congrArg List.length HY.out.1;simpa [HM.out]using this
 have bK:Run xs:=by
  obtain⟨pb,pl,cp,co,c,F,ns,cq,cz,M,_⟩:=HH.out;exact M.run
 have a4:Run (ys.take n):=(Run.congr HY.out.1.symm bK).take n;obtain⟨aD,aC⟩:=eR (ys.take n);have bU:aD.length=n:=by rw[<-aC,List.length_take];omega
 have bT:aD.map AX.a=l:=by rw[<-aC,List.map_take,HY.out.1,hl]
 have aN:=HY.out.2.1.take n;rw[aC]at aN a4;have A:=Hd (An bU (An bT (An aN a4)));have HB:=Hd (EO b xs am w3 (HH.out.fr0 aG.out));clear cl bK a4 aC bU bT aN
 go_upto_region 9 with(first
  | (go_at_call 43;(with_reducible refine HB.out.mono ?_);rintro e w' ⟨p,rfl,bL,rfl⟩;have a6:=B5 p be m _ aD w3 (bc.out.fr0 aG.out) bL A.out.2.2.1 A.out.2.2.2;rw[A.out.1]at a6;have HV:=Hd a6;clear bL a6)
  | (go_at_call 42;(with_reducible refine HV.out.mono ?_);rintro e w4 ⟨vb,b6,zs,rfl,bW,bN,ak,cj⟩;have al:=Hd (An bW (An bN ak));clear bW bN ak cj))
 have ak:Fr [] w2 w4:=aG.out.then al.out.2.2;have ap:=HN.out.1.fr ak qs;obtain⟨x0,x1,x2,x3,x4,x5⟩:=ap.m6
 have bX:zs.length=n:=by
  have:=congrArg List.length al.out.1;rw[List.length_map,List.length_map,A.out.1]at this;exact this
 have aw:=Cc vb zs b6 nm P HC.out.2 w4 al.out.2.1 HC.out.1 E G ae.out.1;rw[al.out.1,A.out.2.1,bX,ae.out.2.1,ae.out.2.2.1,ae.out.2.2.2]at aw;have ao:l.length=n:=by rw[<-A.out.2.1,List.length_map,A.out.1]
 obtain⟨s,R⟩:=eR (pw l nm P)
 have bm:(s.fd=false \/ s.og=-1) \/ (s.fd=true/\∃v:Nat,v<n/\s.og=(v:Int)):=by
  cases aT:s.fd with
  | false=>exact .inl (.inl rfl)
  | true =>
   rcases Bj l nm P (by rw[R];exact aT)with u|⟨v,hv,u⟩
   ·exact .inl (.inr (by rw[<-R];exact u))
   ·exact .inr ⟨rfl,v,qo,by rw[<-R];exact u⟩
 have bx:lV xs nm P (n:Int)=if s.fd=false \/ s.og=-1 then .inl 8 else .inr (kZ (tA l) n s.og.toNat):=by
  unfold lV;rw[if_neg (by rw[HM.out];omega),Int.toNat_natCast,hl,R]
 rw[R]at aw;obtain⟨cn,b7,vl⟩:=s;have ba:=Hd bx;have aH:=Hd ak;have HO:=Hd aw;clear aw ak ap bX R bx hl ao;simp only at bm
 rcases bm with bk|⟨aT,v,bO,ck⟩
 ·have aa:=Hd (show lV xs nm P (n:Int)=.inl 8 by rw[ba.out,if_pos bk])
  cases b7 with
  | false =>
   simp only[Bool.false_eq_true,if_false]at HO
   go_upto_region 11 with(go_at_call 44;(with_reducible refine HO.out.mono ?_);rintro e Z ⟨rfl,O⟩;have K:=Hd (aH.out.then O);clear O)
   clear x0 x1 x2 x3 x4 x5;have h:=HN.out.2.fr K.out qs;have u0:=h.k0;have v0:=h.f 0;have u1:=h.k1;have v1:=h.f 1;have u2:=h.k2;have v2:=h.f 2;have u3:=h.k3;have v3:=h.f 3;have u4:=h.k4;have v4:=h.f 4;have u5:=h.k5;have v5:=h.f 5;have u6:=h.k6;have v6:=h.f 6;have u7:=h.k7;have v7:=h.f 7;have af:=Hd (An h K.out);clear h
   go_wp2_with fail
   obtain⟨x,t⟩:=eR (((((((((Z.setCell ⟨o,0,none⟩ (.int .i64 0)).setCell ⟨o,1,none⟩ (.string ⟨#[]⟩)).setCell ⟨o,2,none⟩ (.int .i64 0)).setCell ⟨o,3,none⟩ (.int .i64 0)).setCell ⟨o,4,none⟩ (.string ⟨#[]⟩)).setCell ⟨o,5,none⟩ (.int .i64 0)).setCell ⟨o,6,none⟩ (.int .i64 0)).setCell ⟨o,7,none⟩ (.slice none 0 0)));have N:BoxN x o 39 #[.int .i64 0,.string ⟨#[]⟩,.int .i64 0,.int .i64 0,.string ⟨#[]⟩,.int .i64 0,.int .i64 0,.slice none 0 0]:=by rw[<-t];exact(((((((af.out.1.setAt 0 _).setAt 1 _).setAt 2 _).setAt 3 _).setAt 4 _).setAt 5 _).setAt 6 _).setAt 7 _
   have C:Fr [o] Z x:=by rw[<-t];exact(((((((((Fq [o] Z).st _).st _).st _).st _).st _).st _).st _).st _)
   try rw[t]
   obtain⟨T,t1,t2,t3,U,V,X,Y⟩:=N.m8;refine bodyPost_ret (v:=.tuple #[C6,.int .i64 8]) (by simp[results,results13,C6,go_sem,T,t1,t2,t3,U,V,X,Y]) rfl ?_;have Q:=aa.out;unfold kj;rw[Q]
   exact⟨rfl,(ac.out.then K.out).trans C (by simp;have:=HZ.out;omega)⟩
  | true =>
   have cf:cn=-1:=by rcases bk with M|M;cases M;exact M
   subst cf;simp only[if_true]at HO
   go_upto_region 13 with(go_at_call 44;(with_reducible refine HO.out.mono ?_);rintro e Z ⟨rfl,O⟩;have K:=Hd (aH.out.then O);clear O)
   clear x0 x1 x2 x3 x4 x5;have h:=HN.out.2.fr K.out qs;have u0:=h.k0;have v0:=h.f 0;have u1:=h.k1;have v1:=h.f 1;have u2:=h.k2;have v2:=h.f 2;have u3:=h.k3;have v3:=h.f 3;have u4:=h.k4;have v4:=h.f 4;have u5:=h.k5;have v5:=h.f 5;have u6:=h.k6;have v6:=h.f 6;have u7:=h.k7;have v7:=h.f 7;have af:=Hd (An h K.out);clear h
   go_wp2_with fail
   obtain⟨x,t⟩:=eR (((((((((Z.setCell ⟨o,0,none⟩ (.int .i64 0)).setCell ⟨o,1,none⟩ (.string ⟨#[]⟩)).setCell ⟨o,2,none⟩ (.int .i64 0)).setCell ⟨o,3,none⟩ (.int .i64 0)).setCell ⟨o,4,none⟩ (.string ⟨#[]⟩)).setCell ⟨o,5,none⟩ (.int .i64 0)).setCell ⟨o,6,none⟩ (.int .i64 0)).setCell ⟨o,7,none⟩ (.slice none 0 0)));have N:BoxN x o 39 #[.int .i64 0,.string ⟨#[]⟩,.int .i64 0,.int .i64 0,.string ⟨#[]⟩,.int .i64 0,.int .i64 0,.slice none 0 0]:=by rw[<-t];exact(((((((af.out.1.setAt 0 _).setAt 1 _).setAt 2 _).setAt 3 _).setAt 4 _).setAt 5 _).setAt 6 _).setAt 7 _
   have C:Fr [o] Z x:=by rw[<-t];exact(((((((((Fq [o] Z).st _).st _).st _).st _).st _).st _).st _).st _)
   try rw[t]
   obtain⟨T,t1,t2,t3,U,V,X,Y⟩:=N.m8;refine bodyPost_ret (v:=.tuple #[C6,.int .i64 8]) (by simp[results,results13,C6,go_sem,T,t1,t2,t3,U,V,X,Y]) rfl ?_;have Q:=aa.out;unfold kj;rw[Q];exact⟨rfl,(ac.out.then K.out).trans C (by simp;have:=HZ.out;omega)⟩
 subst aT;subst ck;have cw:((v:Int) == -1)=false:=qs
 simp only[if_true]at HO
 go_upto_region 14 with(go_at_call 44;(with_reducible refine HO.out.mono ?_);rintro e Z ⟨rfl,O⟩;have K:=Hd (aH.out.then O);have b5:=Hd (al.out.2.2.then O);clear O)
 clear x0 x1 x2 x3 x4 x5 HO HV HB HA HL;have aQ:=CD be m _ aD Z (A.out.2.2.1.fr0 b5.out) A.out.2.2.2;rw[A.out.1,A.out.2.1]at aQ;have HD:=Hd aQ;clear aQ
 go_upto_region 17 with(go_at_call 45;(with_reducible refine HD.out.mono ?_);rintro e w6 ⟨g,mw,Lk,Us,KO,cm,ks,Rl,Ru,er,rfl,bt,bq⟩;have b4:=Hd (K.out.then bq);have aJ:=Hd bt;clear bt bq)
 have bI:∀a∈l,a.r.length<=10:=λa ha=>by
  rw[<-A.out.2.1]at ha;obtain⟨y,hy,rfl⟩:=List.mem_map.1 ha;exact(A.out.2.2.2.wf y hy).2.2.1
 have bw:∀(i:Nat) (r:LR),Rl[i]?=some r->r.xs=tA l i:=λi r hr=>by
  have u:=aJ.out.lk i r hr
  have h2:i<n:=by
   have h3:=(i9.1 hr).1;rw[aJ.out.s.ln.1]at h3;exact h3
  rw[if_pos h2]at u;exact u
 have az:=Bi w6.heap.size 1 g n v n (tA l) mw Lk Us cm KO ks Rl Ru er qo (CZ bI) (uE l) bw bO (w6.alloc (.cells #[.int .i64 (v:Int)] 3)) (Cs.of_box (BoxN.new w6 3 #[.int .i64 (v:Int)])) (aJ.out.s.fr0 ((Fq [] w6).alloc _)) rfl;obtain⟨L,ay⟩:=eR (kZ (tA l) n v);obtain⟨nc,aV⟩:=eR (L.length);have an:=yR (uE l) bO;rw[ay]at az an;rw[aV]at az an
 have bz:lV xs nm P (n:Int)=.inr L:=by
  rw[ba.out,if_neg (by simp only[Bool.true_eq_false,false_or];omega)];simp only[Int.toNat_natCast];rw[ay]
 have aa:=Hd bz;have ar:=Hd (An an (An aV ay));have a9:=Hd az;have cv:nc<=12:=by have:=an.1;omega
 have b9:decide (4096<nc)=false:=by simp;omega
 have ca:decide ((4096:Int)<(nc:Int))=false:=by simp;omega
 clear az an bz ay aV bw bI HD
 go_upto_region 22 with(go_at_call 46;(with_reducible refine a9.out.mono ?_);rintro e w7 ⟨r,rc,rfl,hr,br⟩;have aI:Hid (Fr [] w2 w7):=Hd ((b4.out.alloc _).then br);have bd:=Hd hr;clear hr br)
 clear b9 ca a9;have ap:=HN.out.1.fr aI.out qs;obtain⟨x0,x1,x2,x3,x4,x5⟩:=ap.m6
 go_upto_region 23 with fail
 obtain⟨w8,bR,n8,f8⟩:=kS w7 #[.int .i64 k,.string E,.int .i64 nu,.int .i64 ix,.string G,.int .i64 (P:Int),.int .i64 (n:Int),.slice none 0 0] 39;rw[bR];have bg:Fr [] w2 w8:=aI.out.then f8;have a8:=aI.out.size;obtain⟨D,hD⟩:=eR (w7.heap.size);rw[hD]at n8 a8 ⊢;have aF:=Hd (An hD a8);have aE:=Hd (An n8 (An bg (bd.out.fr0 f8)));clear bR x0 x1 x2 x3 x4 x5 ap hD a8 n8 f8 bg
 go_wp2_with fail
 go_loopw [89] (λjx W=>∃(j:Nat) (B:Option Addr) (S:Nat) (ps:List PF),j<=nc/\jx=.int .i64 (j:Int)/\BoxN W D 39 #[.int .i64 k,.string E,.int .i64 nu,.int .i64 ix,.string G,.int .i64 (P:Int),.int .i64 (n:Int),.slice B j S]/\PrL W n B S ps/\ps.length=j/\(ps.map λp=>(p.i,p.s,p.d))=(L.take j).map (tH xs n)/\Fr [] w2 W/\(∀q∈eV B,D<q)/\Cs W r (jZ L)) (λj _=>nc - (intOf j).toNat)
 case atStart=>exact⟨0,none,0,[],Nat.zero_le _,rfl,aE.out.1,⟨Own.nil _ _ _,qs⟩,rfl,rfl,aE.out.2.1,by simp[eV],aE.out.2.2⟩
 case round =>
  obtain⟨j,B,S,ps,hj,rfl,hb,aA,bE,ai,ah,aZ,aB⟩:=hrel
  by_cases cd:j<nc
  ·have cu:(j:Int)<(nc:Int):=qo
   have cy:IntKind.i64.wrap (j:Int)=(j:Int):=by simp only[IntKind.wrap_i64];omega
   obtain⟨i,hi⟩:∃y,L[j]?=some y:=⟨_,gx (by rw[ar.out.2.1];exact cd)⟩;have cc:i<n:=ar.out.1.2 i (iu hi);obtain⟨y,hy⟩:∃y,xs[i]?=some y:=⟨_,gx (by rw[HM.out];omega)⟩;have hP:=xS b xs am i n y wr (HH.out.fr0 ah) (bc.out.fr0 ah) hy cc (by rw[HM.out];omega);have a3:tH xs n i=(i,fL y.a,iz xs i n):=by unfold tH;rw[hy]
   obtain⟨sv,a5,_,_⟩:=eT (fL y.a);obtain⟨d,hd⟩:=eR (iz xs i n);obtain⟨nd,aW⟩:=eR (d.length);unfold mF at hP;rw[hd,aW,a5]at hP;rw[hd]at a3;have HP:=Hd hP;have zr:wr.cell? ⟨r,j,none⟩=some (.int .i64 (i:Int)):=aB.2 j _ (by rw[mz,List.getElem?_map,hi];rfl);have z:=Hd (An hb (An aA (An bE (An ai (An ah (An aZ aB))))));have HI:=Hd (An hi (An a3 (An a5 aW)));clear hb aA bE ai ah aZ aB hi hy hP a3 a5 hd aW
   go_upto_region 29 with(go_at_call 20;(with_reducible refine HP.out.mono ?_);rintro e v9 ⟨H,I,rfl,bC,bs,bv⟩;have bb:=Hd (An bC (An bs bv));clear bC bs bv)
   clear zr HP;obtain⟨b2,bM,b1,aL⟩:=kS v9 #[.int .i64 (i:Int),.int .i64 (n:Int),.string sv,.slice H nd I] 53;rw[bM];have au:=bb.out.2.1.then aL;have aS:=z.out.1.fr au qs;obtain⟨y0,y1,y2,y3⟩:=b1.m4;have y7:=aS.k7;have aY:=z.out.2.1.own;rw[z.out.2.2.1]at aY;have aK:=Hd (aY.fr au qs);have bf:D ∉ eV B:=λhm=>by have:=z.out.2.2.2.2.2.1 D hm;omega
   have ab:=Hd (An aS (An bf au));have HQ:=Hd (bb.out.1.fr aL qs);clear bM b1 aL au aS aY bf;obtain⟨ii,bu,bY,bZ,b0⟩:=qQ
   go_upto_region 30 with(at_builtin;(with_reducible refine fp (w:=b2) rfl (.tmp 105) (.tmp 107) 37 rfl 53 ii _ 4 56 underlying37 bu bY bZ b0 rfl qd B j S _ rfl aK.out 1 1 [.int .i64 (i:Int),.int .i64 (n:Int),.string sv,.slice H nd I] 53 rfl rfl (by simp[Value.oneCell']) (by unfold maxLen;omega) qo ?_);intro AN cN aq ho hf R;have ax:=ab.out.1.fr hf ab.out.2.1;have e0:aq.cell? ⟨D,7,none⟩=some (.slice B j S):=ax.c 7;have e1:=ax.f 7;have J:=Hd (An ho (An hf (An R ax)));clear ho hf R ax)
   obtain⟨aj,hY⟩:=eR (aq.setCell ⟨D,7,none⟩ (.slice AN (j+1) cN));have bj:BoxN aj D 39 #[.int .i64 k,.string E,.int .i64 nu,.int .i64 ix,.string G,.int .i64 (P:Int),.int .i64 (n:Int),.slice AN (j+1) cN]:=by rw[<-hY];exact J.out.2.2.2.setAt 7 _
   have fY:Fr [D] aq aj:=by rw[<-hY];exact(Fq [D] aq).st _
   try rw[hY]
   clear y0 y1 y2 y3 y7 e0 e1 hY bY bZ b0 bu
   have aM:∀q∈eV AN,D<q:=λq hq=>by
    rcases J.out.2.2.1 q hq with u|u
    ·exact z.out.2.2.2.2.2.1 q u
    ·have:=ab.out.1.lt;omega
   have aP:NoT [57] b2 (eV B):=NoT.own aK.out qd;have aO:NoT [57] aq [D]:=NoT.box J.out.2.2.2 qd;have bn:PF.cs n ⟨i,fL y.a,H,I,d⟩=[.int .i64 (i:Int),.int .i64 (n:Int),.string sv,.slice H nd I]:=by unfold PF.cs;simp only[HI.out.2.2.1,HI.out.2.2.2]
   have bH:PrL aj n AN cN (ps++[⟨i,fL y.a,H,I,d⟩]):=by
    refine⟨?_,λp hp=>?_⟩
    ·rw[gG,List.flatMap_append,z.out.2.2.1]
     have u:[PF.mk i (fL y.a) H I d].flatMap (PF.cs n)=[.int .i64 (i:Int),.int .i64 (n:Int),.string sv,.slice H nd I]:=by rw[<-bn];simp
     rw[u];exact J.out.1.fr fY (by intro q hq;simp only[gI];rintro rfl;exact absurd (aM _ hq) (Nat.lt_irrefl _))
    ·rcases List.mem_append.1 hp with hp|hp
     ·exact Own.frT (Own.frT ((z.out.2.1.ds p hp).fr ab.out.2.2 qs) J.out.2.1 aP qs) fY aO qs
     ·rw[gI]at hp
      subst hp;have u:=HQ.out
      show Own aj 57 32 H d.length I (d.flatMap eP)
      rw[HI.out.2.2.2];exact Own.frT (Own.frT u J.out.2.1 aP qs) fY aO qs
   have bF:(ps++[PF.mk i (fL y.a) H I d]).length=j+1:=by rw[gG,z.out.2.2.1];rfl
   have bG:((ps++[PF.mk i (fL y.a) H I d]).map λp=>(p.i,p.s,p.d))=(L.take (j+1)).map (tH xs n):=by
    rw[List.map_append,z.out.2.2.2.1,List.take_add_one,HI.out.1,List.map_append];simp[HI.out.2.1]
   have bo:Fr [] w2 aj:=((z.out.2.2.2.2.1.then ab.out.2.2).trans J.out.2.1 (λq hq=>.inr (by have u:=z.out.2.2.2.2.2.1 q hq;have h2:=aF.out.2;omega))).trans fY (by simp;have h2:=aF.out.2;omega);have ch:r<D:=by have u:=bd.out.1;have h2:=aF.out.1;omega
   have bJ:Cs aj r (jZ L):=((z.out.2.2.2.2.2.2.fr0 ab.out.2.2).fr J.out.2.1 (λhm=>by have:=z.out.2.2.2.2.2.1 r hm;omega)).fr fY (by simp;omega);have ad:=Hd (An bj (An bH (An bF (An bG (An bo (An aM bJ))))));clear bj bH bF bG bo aM bJ ch fY aP aO bn J HQ ab aK
   go_wp2_with fail
   go_roundw
   case rel=>exact⟨j+1,AN,cN,_,qo,by go_num,ad.out.1,ad.out.2.1,ad.out.2.2.1,ad.out.2.2.2.1,ad.out.2.2.2.2.1,ad.out.2.2.2.2.2.1,ad.out.2.2.2.2.2.2⟩
   case measure=>simp[intOf];omega
  ·obtain rfl:j=nc:=qo
   have h:=HN.out.2.fr ah qs;obtain⟨g0,g1,g2,g3,g4,g5,g6,g7⟩:=hb.m8;have u0:=h.k0;have v0:=h.f 0;have u1:=h.k1;have v1:=h.f 1;have u2:=h.k2;have v2:=h.f 2;have u3:=h.k3;have v3:=h.f 3;have u4:=h.k4;have v4:=h.f 4;have u5:=h.k5;have v5:=h.f 5;have u6:=h.k6;have v6:=h.f 6;have u7:=h.k7;have v7:=h.f 7;have HU:=Hd (An h (An aA (An ai ah)));clear h hb aA ai ah aZ aB
   go_wp2_with fail
   obtain⟨x,t⟩:=eR ((((((((((wr.setCell ⟨o,0,none⟩ (.int .i64 k)).setCell ⟨o,1,none⟩ (.string E)).setCell ⟨o,2,none⟩ (.int .i64 nu)).setCell ⟨o,3,none⟩ (.int .i64 ix)).setCell ⟨o,4,none⟩ (.string G)).setCell ⟨o,5,none⟩ (.int .i64 (P:Int))).setCell ⟨o,6,none⟩ (.int .i64 (n:Int))).setCell ⟨o,7,none⟩ (.slice B j S))));have N:BoxN x o 39 #[.int .i64 k,.string E,.int .i64 nu,.int .i64 ix,.string G,.int .i64 (P:Int),.int .i64 (n:Int),.slice B j S]:=by rw[<-t];exact(((((((HU.out.1.setAt 0 _).setAt 1 _).setAt 2 _).setAt 3 _).setAt 4 _).setAt 5 _).setAt 6 _).setAt 7 _
   have C:Fr [o] wr x:=by rw[<-t];exact(((((((((Fq [o] wr).st _).st _).st _).st _).st _).st _).st _).st _)
   try rw[t]
   obtain⟨T,t1,t2,t3,U,V,X,Y⟩:=N.m8;have bi:NoT [53,57] wr [o]:=NoT.box HU.out.1 qd;refine bodyPost_ret (v:=.tuple #[yS k E nu ix G (P:Int) (n:Int) (.slice B j S),.int .i64 0]) (by simp[results,results13,yS,go_sem,T,t1,t2,t3,U,V,X,Y]) rfl ?_;have Q:=aa.out;unfold kj;rw[Q];have ci:L.take j=L:=List.take_of_length_le (by rw[ar.out.2.1];exact fV _);have ai:=HU.out.2.2.1;rw[ci]at ai;exact⟨B,S,ps,by rw[ar.out.2.1,ae.out.2.1,ae.out.2.2.1,ae.out.2.2.2],⟨Own.frT HU.out.2.1.own C bi qs,λp hp=>Own.frT (HU.out.2.1.ds p hp) C bi qs⟩,ai,(ac.out.then HU.out.2.2.2).trans C (by simp;have:=HZ.out;omega)⟩
end Go.Proofs.YtlpmiimgacfmkaaGreatDoor
