/- Part of the proof. -/
import Derived.Sort.OwnSortedInts
import Derived.Laws.EntriesVeiled
import Derived.Test.YtlpmiimgacfmkaaGreatDoorCShelf2
import Derived.Test.YtlpmiimgacfmkaaGreatDoorCWf
set_option linter.all false
set_option maxHeartbeats 4000000
set_option maxRecDepth 100000
namespace Go.Proofs.YtlpmiimgacfmkaaGreatDoor
open Go.Proofs.Tryz List
open Go.RowKit
def uB(pm pr pf pv:Nat):Value:=.func (.func 165) #[] #[.pointer (some ⟨pm,0,none⟩),.pointer (some ⟨pr,0,none⟩),.pointer (some ⟨pf,0,none⟩),.pointer (some ⟨pv,0,none⟩)]
def EV(pg:Nat):Value:=.func (.func 107) #[] #[.pointer (some ⟨pg,0,none⟩)]
structure VSt(w0 w:World)(pm pr pf pv m pg:Nat)(A:Option Addr)(n c:Nat)(xs:List Value)(kvs:List (Value × Value)):Prop where
 bm:BoxN w pm 143 #[.map (some m)]
 br:BoxN w pr 36 #[.slice A n c]
 bf:BoxN w pf 211 #[EV pg]
 bv:BoxN w pv 130 #[uB pm pr pf pv]
 mm:MapIs prog 3 w m kvs
 own:Own w 3 1 A n c xs
 d1:pm≠pr/\pm≠m/\pr≠m/\pf≠pr/\pf≠m/\pv≠pr/\pv≠m
 d2:pm ∉ eX A/\pr ∉ eX A/\pf ∉ eX A/\pv ∉ eX A/\m ∉ eX A
 d3:w0.heap.size<=pr/\w0.heap.size<=m/\∀k∈eX A,w0.heap.size<=k
 f0:Fr [] w0 w
section
variable {w0 X Y Z:World} {pm pr pf pv m pg n c:Nat} {A:Option Addr} {xs:List Value} {kvs kvs':List (Value × Value)}
def VSt.fr0(h:VSt w0 X pm pr pf pv m pg A n c xs kvs)(a:Fr [] X Y):VSt w0 Y pm pr pf pv m pg A n c xs kvs :=
 ⟨h.bm.fr a qs,h.br.fr a qs,h.bf.fr a qs,h.bv.fr a qs,h.mm.fr a qs,h.own.fr a qs,h.d1,h.d2,h.d3,h.f0.then a⟩
def VSt.putM(h:VSt w0 X pm pr pf pv m pg A n c xs kvs)(a:Fr [m] X Y)(d:MapIs prog 3 Y m kvs'):VSt w0 Y pm pr pf pv m pg A n c xs kvs' :=
 ⟨h.bm.fr a (by simpa using h.d1.2.1),h.br.fr a (by simpa using h.d1.2.2.1),h.bf.fr a (by simpa using h.d1.2.2.2.2.1),h.bv.fr a (by simpa using h.d1.2.2.2.2.2.2),d,h.own.fr a (by intro k b;simp only[ip];rintro rfl;exact h.d2.2.2.2.2 b),h.d1,h.d2,h.d3,h.f0.trans a (by intro k b;simp only[ip]at b;subst b;exact .inr h.d3.2.1)⟩
def VSt.putR{A':Option Addr}{g c':Nat}{o:List Value}(h:VSt w0 X pm pr pf pv m pg A n c xs kvs)(d:Fr (eX A) X Y)(w:Own Y 3 1 A' g c' o)(l:∀k∈eX A',k∈eX A \/ X.heap.size<=k)(b:Fr [pr] Y Z)(u:BoxN Z pr 36 #[.slice A' g c']):
 VSt w0 Z pm pr pf pv m pg A' g c' o kvs:=by
 have e:∀k,k<X.heap.size->k ∉ eX A->k ∉ eX A':=λk f t v=>by
  rcases l k v with j|j
  ·exact t j
  ·omega
 have p:=e pm h.bm.lt h.d2.1;have i:=e pr h.br.lt h.d2.2.1;have q:=e pf h.bf.lt h.d2.2.2.1;have r:=e pv h.bv.lt h.d2.2.2.2.1;have s:=e m h.mm.lt h.d2.2.2.2.2
 exact⟨(h.bm.fr d h.d2.1).fr b (by simpa using h.d1.1),u,(h.bf.fr d h.d2.2.2.1).fr b (by simpa using h.d1.2.2.2.1),(h.bv.fr d h.d2.2.2.2.1).fr b (by simpa using h.d1.2.2.2.2.2.1),(h.mm.fr d h.d2.2.2.2.2).fr b (by simpa using Ne.symm h.d1.2.2.1),w.fr b (by intro k a;simp only[ip];rintro rfl;exact i a),h.d1,⟨p,i,q,r,s⟩,
  ⟨h.d3.1,h.d3.2.1,λk a=>(l k a).elim (λf=>h.d3.2.2 k f) (λf=>Nat.le_trans h.f0.size f)⟩,(h.f0.trans d (λk a=>.inr (h.d3.2.2 k a))).trans b (by intro k a;simp only[ip]at a;subst a;exact .inr h.d3.1)⟩
end
def Aw(k:Int)(w0 w:World)(pm pr pf pv m pg n c:Nat)(A:Option Addr)(xs:List Value)(kvs:List (Value × Value))(R:World->Prop)(h:VSt w0 w pm pr pf pv m pg A n c xs kvs)(K:∃l,keyOf prog 3 (.int .i64 k)=some l)(r:∀p∈kvs,p.1≠.int .i64 k)(hl:n+1<=1000)
 (y:∀W A' c',VSt w0 W pm pr pf pv m pg A' (n+1) c' (xs++[.int .i64 k]) (kvs++[(.int .i64 k,.bool true)])->Calls prog 107 #[.int .i64 k,uB pm pr pf pv,.pointer (some ⟨pg,0,none⟩)] W λe w'=>e=.returned (.tuple #[])/\R w') :
 Calls prog 165 #[.int .i64 k,.pointer (some ⟨pm,0,none⟩),.pointer (some ⟨pr,0,none⟩),.pointer (some ⟨pf,0,none⟩),.pointer (some ⟨pv,0,none⟩)] w λe w'=>e=.returned (.tuple #[])/\R w':=by
 obtain⟨kl,q⟩:=K;have L:=MapIs.look_none oE underlying143 h.mm q r (z:=.bool false) (by simp[go_sem]) false;have⟨S,M,u,D⟩:=MapIs.put_new (v:=.bool true) oE underlying143 h.mm q r;have j:=h.putM u D;have T:=h.bm.k0;have U:=j.br.k0;have a:=Hd j;have G:=Hd y;clear h j y u D r q;obtain⟨N,J,O,P,Q⟩:=oh
 go_enter func165,ntmps165
 go_upto_region 3 with(at_builtin;(with_reducible refine fC (w:=S) rfl (.tmp 12) (.tmp 14) 36 rfl 3 N _ 1 8 underlying36 J O P Q rfl qd A n c xs rfl a.out.own 1 1 [k] 3 rfl rfl (by simp[Value.oneCell']) (by unfold maxLen;omega) qo ?_);intro A' c' w2 E o F;have g:=a.br.fr o a.d2.2.1;have e0:=g.c 0;have I:=g.f 0;have b:=Hd (An E (An o (An F g)));clear E o F g)
 have⟨s,i⟩:=eR (w2.setCell ⟨pr,0,none⟩ (.slice A' (n+1) c'));have C:BoxN s pr 36 #[.slice A' (n+1) c']:=by rw[<-i];exact b.2.2.2.setAt 0 _
 have x:Fr [pr] w2 s:=by rw[<-i];exact(Fq [pr] w2).st _
 rw[i];have d:=a.putR b.2.1 b.1 b.2.2.1 x C;have V:=d.bf.k0;have y2:=d.bv.k0;have t:=Hd (G.out s A' c' d);unfold uB at y2 t;unfold EV at V;clear d x C i e0 I L M T U
 go_wp2_with ((go_at_call 107;(with_reducible refine t.out.mono ?_);rintro e w4 ⟨rfl,B⟩;have H:=Hd B;clear B))
 go_end0
 exact⟨rfl,H.out⟩
def vF(b:Nat->List LK):Nat->Nat->List Nat->List Nat
 | 0,_,xs=>xs
 | f+1,i,xs=>if i∈xs then xs else(b i).foldl (λa x=>if 0<=x.f then vF b f x.f.toNat a else a) (xs++[i])
def iK(b:Nat->List LK)(f:Nat)(a:List Nat)(x:LK):List Nat:=if 0<=x.f then vF b f x.f.toNat a else a
def qQ{a:Nat->List LK}{f i:Nat}{xs:List Nat}(h:i ∉ xs):vF a (f+1) i xs=(a i).foldl (iK a f) (xs++[i]):=by
 rw[vF,if_neg h];rfl
def uC{a:Nat->List LK}{f i:Nat}{xs:List Nat}(h:i∈xs):vF a (f+1) i xs=xs:=by rw[vF,if_pos h]
def rx:∀(n:Nat) (xs:List Nat),xs.Nodup->(∀x∈xs,x<n)->xs.length<=n
 | 0,xs,_,h=>by
  cases xs with
  | nil=>simp
  | cons a r=>have:=h a qs;omega
 | n+1,xs,c,h=>by
  by_cases d:n∈xs
  ·have g:=rx n (xs.erase n) (c.erase n) (λx b=>by
    have f:=(List.Nodup.mem_erase_iff c).1 b;have i:=h x f.2;have j:=f.1;omega)
   rw[length_erase_of_mem d]at g;have:0<xs.length:=length_pos_of_mem d;omega
  ·have:=rx n xs c (λx b=>by
    have i:=h x b;have:x≠n:=λe=>d (e ▸ b);omega)
   omega
def Idx(n:Nat)(xs:List Nat):Prop:=xs.Nodup/\∀x∈xs,x<n
def Idx.len{n:Nat}{xs:List Nat}(h:Idx n xs):xs.length<=n:=rx n xs h.1 h.2
def Idx.snoc{n i:Nat}{xs:List Nat}(h:Idx n xs)(j:i<n)(g:i ∉ xs):Idx n (xs++[i]):=by
 refine⟨?_,λx c=>?_⟩
 ·rw[nodup_append]
  refine⟨h.1,qs,?_⟩;intro a f b d;rw[ip]at d;subst d;exact λe=>g (e ▸ f)
 ·rcases mem_append.1 c with c|c
  ·exact h.2 x c
  ·rw[ip]at c
   omega
def xY(a:Nat->List LK):Prop:=∀i,∀x∈a i,x.f<(i:Int)
def qR{d:Nat->List LK}{n:Nat}(e:xY d):∀(f i:Nat) (xs:List Nat),Idx n xs->i<n->Idx n (vF d f i xs)
 | 0,_,xs,h,_=>h
 | f+1,i,xs,h,j=>by
  by_cases c:i∈xs
  ·rw[uC c];exact h
  ·rw[qQ c]
   have k:∀(l:List LK) (a:List Nat),(∀x∈l,x.f<(i:Int))->Idx n a->Idx n (l.foldl (iK d f) a):=by
    intro l
    induction l with
    | nil=>intro a _ b;exact b
    | cons x r o =>
     intro a g b;rw[foldl_cons];refine o _ (λz m=>g z (by simp[m])) ?_;unfold iK;have:=g x qs;split
     ·exact qR e f _ a b qo
     ·exact b
   exact k _ _ (e i) (h.snoc j c)
def ke(xs:List Nat):List Value:=xs.flatMap Ce
def lY(xs:List Nat):List (Value × Value):=xs.map λi:Nat=>(.int .i64 (i:Int),.bool true)
def Cu{xs:List Nat}{i:Nat}(h:i∈xs):(Value.int .i64 (i:Int),Value.bool true)∈lY xs:=mem_map.2 ⟨i,h,rfl⟩
def Cv{xs:List Nat}{i:Nat}(h:i ∉ xs):∀p∈lY xs,p.1≠.int .i64 (i:Int):=λp c a=>by
 obtain⟨j,b,rfl⟩:=mem_map.1 c;simp only[Value.int.injEq,true_and]at a;have:j=i:=qo
 exact h (this ▸ b)
def tz{i:Nat}(h:i<=1000000):∃l,keyOf prog 3 (.int .i64 (i:Int))=some l:=pB (jL qo qo)
def VI(g w:World)(d e a f m b:Nat)(A:Option Addr)(c:Nat)(xs:List Nat):Prop:=VSt g w d e a f m b A xs.length c (ke xs) (lY xs)
def VI.fr0{g X Y:World}{d e a f m b c:Nat}{A:Option Addr}{xs:List Nat}(h:VI g X d e a f m b A c xs)(i:Fr [] X Y):VI g Y d e a f m b A c xs:=VSt.fr0 h i
def uD(g:World)(c d a f m b:Nat)(h:List Nat)(e:Ending)(w':World):Prop:=e=.returned (.tuple #[])/\∃A' c',VI g w' c d a f m b A' c' h
def GP(f i n nk:Nat)(a:Nat->List LK)(s w:World)(B C x D m z g mw U B0 an c:Nat)(KO:Option Addr)(ks:List Value)(P Ru:List LR)(er:List (NE ON Nat))(T:Option Addr)(xs:List Nat)(hi:i<n)(av:n<=12)(ac:(a i).length<=10)(Z:xY a)(ai:∀(k:Nat) (r:LR),P[k]?=some r->r.xs=a k)(ap:i<=f)
 (J:VI s w B C x D m z T c xs) (hx:Idx n xs) (hg:BoxN s z 111 #[.pointer (some ⟨g,0,none⟩)]) (F:GS s g mw U B0 n KO nk an ks P Ru er)
 (hV:∀v,v<f->v<n->∀(W:World) (A':Option Addr) (c':Nat) (zs:List Nat),Idx n zs->VI s W B C x D m z A' c' zs->Calls prog 165 #[.int .i64 (v:Int),.pointer (some ⟨B,0,none⟩),.pointer (some ⟨C,0,none⟩),.pointer (some ⟨x,0,none⟩),.pointer (some ⟨D,0,none⟩)] W (uD s B C x D m z (vF a f v zs))) :
 Calls prog 107 #[.int .i64 (i:Int),uB B C x D,.pointer (some ⟨z,0,none⟩)] w (uD s B C x D m z ((a i).foldl (iK a f) xs)):=by
 have⟨l1,r,l2,hR,aq,S⟩:=pO (rs:=P) (k:=i) (by rw[F.ln.1];exact hi);have H:Own s 98 7 r.A r.xs.length r.c (r.xs.flatMap LK.cs):=F.rl.own r (gH S);have ad:=ai i r S;rw[ad]at H;have⟨l,hl⟩:=eR (a i);have⟨E,R⟩:=eR (l.length);have ab:=Z i;rw[hl]at H ac ab ⊢;rw[R]at H ac
 have ak:s.cell? ⟨U,i,none⟩=some (.slice r.A E r.c):=by
  have:=oV F.rl.box S
  rwa [ad,hl,R]at this
 have x0:=(hg.fr J.f0 qs).c 0;have x1:=(F.box.fr J.f0 qs).c 1;have x2:=(J.f0.fcell F.rl.box.lt qs i).trans ak;obtain⟨RA,rc,az⟩:=r;simp only at H x2;have ar:(i:Int)<(n:Int):=qo
 have ay:IntKind.i64.wrap (i:Int)=(i:Int):=by simp only[IntKind.wrap_i64];omega
 have V:=Hd (An J hx);have HV:=Hd hV;have ah:=Hd Z;have I:=Hd (An H (An R ab));unfold uB
 go_enter func107,ntmps107
 go_wp2
 go_loopw [15] (λix W=>∃(q:Nat) (A':Option Addr) (c':Nat) (zs:List Nat),q<=E/\ix=q/\VI s W B C x D m z A' c' zs/\Idx n zs/\(l.drop q).foldl (iK a f) zs=l.foldl (iK a f) xs) (λj _=>E - (intOf j).toNat)
 case atStart=>exact⟨0,T,c,xs,Nat.zero_le _,rfl,V.1,V.2,rfl⟩
 case round =>
  obtain⟨q,A',c',zs,hq,rfl,L,hz,G⟩:=hrel
  by_cases aj:q<E
  ·have au:(q:Int)<(E:Int):=qo
   obtain⟨y,M⟩:∃y,l[q]?=some y:=⟨_,gg (by rw[I.2.1];exact aj)⟩;have am:=I.2.2 y (gH M);obtain⟨b,rfl,Y⟩:=Cs.of_own I.1 qo;have h:=λo (ho:o<7)=>ia zo M ho
   have aa:l.drop q=y::l.drop (q+1):=by
    have⟨h1,Q⟩:=gV.1 M;rw[drop_eq_getElem_cons h1,Q]
   rw[aa,foldl_cons]at G;have t:=Y.fr0 L.f0;obtain⟨u,N,p⟩:=y;have⟨so,ae,_,_⟩:=eS p.owner;have⟨st,af,_,_⟩:=eS p.text;unfold LK.cs at h;simp only[ae,af]at h;simp only at am;have y0:wr.cell? ⟨b,q*7,none⟩=some (.int .i64 u):=t.2 _ _ (h 0 qo);have y1:wr.cell? ⟨b,q*7+1,none⟩=some (.int .i64 (N:Int)):=t.2 _ _ (h 1 qo);have y2:wr.cell? ⟨b,q*7+2,none⟩=some (.int .i64 p.kind):=t.2 _ _ (h 2 qo);have y3:wr.cell? ⟨b,q*7+3,none⟩=some (.string so):=t.2 _ _ (h 3 qo);have y4:wr.cell? ⟨b,q*7+4,none⟩=some (.int .i64 p.number):=t.2 _ _ (h 4 qo);have y5:wr.cell? ⟨b,q*7+5,none⟩=some (.int .i64 p.index):=t.2 _ _ (h 5 qo);have y6:wr.cell? ⟨b,q*7+6,none⟩=some (.string st):=t.2 _ _ (h 6 qo);have⟨w1,ag,n1,X⟩:=kJ wr #[.int .i64 u,.int .i64 (N:Int),.int .i64 p.kind,.string so,.int .i64 p.number,.int .i64 p.index,.string st] 98;have u0:=n1.k0;have d:=Hd (An (L.fr0 X) (An hz G));clear h t Y aa ae af L hz G n1 X M
   go_upto_region 3 with fail
   try rw[ag]
   clear y0 y1 y2 y3 y4 y5 y6 ag;obtain aw|ax:u<0 \/ 0<=u:=qo
   ·have ao:decide ((0:Int)<=u)=false:=by simp;omega
    have K:iK a f zs ⟨u,N,p⟩=zs:=by unfold iK;rw[if_neg (by simp only;omega)]
    have O:=Hd K;clear K
    go_wp2
    go_roundw
    case rel=>exact⟨q+1,A',c',zs,qo,by go_num,d.1,d.2.1,by have:=d.2.2;rw[O.out]at this;exact this⟩
    case measure=>simp[intOf];omega
   ·obtain⟨v,rfl⟩:∃v:Nat,u=(v:Int):=⟨u.toNat,qo⟩
    have K:iK a f zs ⟨(v:Int),N,p⟩=vF a f v zs:=by unfold iK;rw[if_pos (by simp only;omega)];rfl
    have HC:=Hd (HV.out v qo qo w1 A' c' zs d.2.1 d.1);have O:=Hd K
    go_wp2_with ((go_at_call 165;(with_reducible refine HC.out.mono ?_);rintro e w2 ⟨rfl,A2,c2,al⟩;have H2:=Hd al))
    go_roundw
    case rel=>exact⟨q+1,A2,c2,vF a f v zs,qo,by go_num,H2.out,qR ah.out f v zs d.2.1 qo,by have:=d.2.2;rw[O.out]at this;exact this⟩
    case measure=>simp[intOf];omega
  ·obtain rfl:q=E:=qo
   rw[drop_of_length_le (by rw[I.2.1];exact fW _)]at G;have d:=Hd (An L G)
   go_wp2
   go_end0
   refine⟨rfl,A',c',?_⟩;have Q:=d.2;rw[<-Q];exact d.1
def EW{g w:World}{d e a f m b c:Nat}{A:Option Addr}{xs:List Nat}{v:Nat}(h:VSt g w d e a f m b A (xs.length+1) c (ke xs++[.int .i64 (v:Int)]) (lY xs++[(.int .i64 (v:Int),.bool true)])):VI g w d e a f m b A c (xs++[v]):=by
 unfold VI;have i:(xs++[v]).length=xs.length+1:=qs
 have j:ke (xs++[v])=ke xs++[.int .i64 (v:Int)]:=by unfold ke;rw[flatMap_append];rfl
 have k:lY (xs++[v])=lY xs++[(.int .i64 (v:Int),.bool true)]:=by unfold lY;rw[map_append];rfl
 rw[i,j,k];exact h
def uE(n A:Nat)(b:Nat->List LK)(a:World)(e h c j m d g z q s x:Nat)(t:Option Addr)(y:List Value)(o u:List LR)(w:List (NE ON Nat))(G:n<=12)(F:∀i,(b i).length<=10)(C:xY b)(E:∀(k:Nat) (r:LR),o[k]?=some r->r.xs=b k)
 (D:BoxN a d 111 #[.pointer (some ⟨g,0,none⟩)]) (B:GS a g z q s n t A x y o u w):∀f v,v<f->v<n->∀(W:World) (A':Option Addr) (c':Nat) (zs:List Nat),Idx n zs->VI a W e h c j m d A' c' zs->Calls prog 165 #[.int .i64 (v:Int),.pointer (some ⟨e,0,none⟩),.pointer (some ⟨h,0,none⟩),.pointer (some ⟨c,0,none⟩),.pointer (some ⟨j,0,none⟩)] W (uD a e h c j m d (vF b f v zs))
 | 0,v,H,_,_,_,_,_,_,_=>absurd H (Nat.not_lt_zero v)
 | f+1,v,H,I,W,A',c',zs,J,p=>by
  by_cases l:v∈zs
  ·rw[uC l]
   have⟨R,O⟩:=tz (i:=v) qo;have Q:=MapIs.look_some oE underlying143 p.mm O (Cu l) false;have S:=p.bm.k0;have K:=Hd p
   go_enter func165,ntmps165
   go_wp2
   go_end0
   exact⟨rfl,A',c',K.out⟩
  ·rw[qQ l]
   have P:=J.len
   exact Aw (v:Int) a W e h c j m d zs.length c' A' (ke zs) (lY zs) _ p (tz qo) (Cv l) qo λL A2 M N =>
    GP f v n A b a L e h c j m d g z q s x M t y o u w A2 (zs++[v]) I G (F v) C E qo (EW N) (J.snoc I l) D B
     (uE n A b a e h c j m d g z q s x t y o u w G F C E D B f)
def Cw(xs:List Nat):List Nat:=((xs.map λx:Nat=>(x:Int)).mergeSort λx y=>decide (x<=y)).map Int.toNat
def uF(xs:List Nat):(Cw xs).length=xs.length:=by unfold Cw;rw[length_map,length_mergeSort,length_map]
def EX{xs:List Nat}:∀v∈Cw xs,v∈xs:=λv a=>by
 unfold Cw at a;obtain⟨z,b,rfl⟩:=mem_map.1 a;rw[mem_mergeSort]at b;obtain⟨x,c,rfl⟩:=mem_map.1 b;simpa using c
def mB:∀xs:List Nat,ke xs=xs.map λx:Nat=>(.int .i64 (x:Int):Value)
 | []=>rfl
 | a::r=>by
  have:=mB r;unfold ke at this ⊢;rw[flatMap_cons,this];rfl
def Ax{xs:List Nat}{j:Nat}{v:Value}(h:(ke xs)[j]?=some v):∃x,xs[j]?=some x/\v=.int .i64 (x:Int):=by
 rw[mB,List.getElem?_map]at h
 cases a:xs[j]? with
 | none=>rw[a]at h;simp at h
 | some x=>rw[a]at h;exact⟨x,rfl,by simpa using h.symm⟩
def EY(b c:Nat)(xs:List Nat)(w:World)(O:xs.length<=1000)(m:Own w 3 1 (some ⟨b,0,none⟩) xs.length c (ke xs)):
 Calls prog 166 #[.slice (some ⟨b,0,none⟩) xs.length c] w λe w'=>e=.returned (.tuple #[])/\Cs w' b (ke (Cw xs))/\Fr [b] w w':=by
 have l:=m.lt b (by simp[eX]);have⟨zs,i⟩:=eR (xs.map (λx:Nat=>(x:Int)));have t:zs.length=xs.length:=by rw[<-i,length_map]
 have E:ke xs=zs.map (Value.int .i64):=by rw[mB,<-i,map_map];rfl
 have o:Go.Sort.Holds (Value.int .i64) w b 0 zs.toArray:=by
  rcases m.2 with⟨k,_⟩|⟨g,M,N,k,_,D,_,_,_,r⟩
  ·simp at k
  ·injection k with u _ _
   injection u with A
   injection A with B
   subst B;refine holds_of_blockI D ?_;rw[E]at r;rw[t];simpa using r
 rw[<-t];refine(Tryz.slices_Sort_int b 0 c zs w o l qo).mono ?_;rintro e w' ⟨rfl,n,os,rfl⟩;have⟨a,h⟩:=eR ((zs.mergeSort λx y=>decide (x<=y)));have G:a.length=zs.length:=by rw[<-h,length_mergeSort]
 have I:Cw xs=a.map Int.toNat:=by unfold Cw;rw[i,h]
 have H:∀z∈a,0<=z:=λz s=>by
  rw[<-h,mem_mergeSort,<-i]at s;obtain⟨x,_,rfl⟩:=mem_map.1 s;omega
 rw[h];have p:Fr [b] w (Go.Sort.grow (Go.Sort.putRow (Value.int .i64) (Go.Sort.ahead w n) b 0 a.toArray) os):=(Fq [b] w).grown (grownBy_sortedI _) qs;have C:=Go.Sort.holds_grow (Value.int .i64) _ os b 0 _ (by simpa using l) (Go.Sort.holds_putRow (Value.int .i64) (Go.Sort.ahead w n) b 0 _ a.toArray o (by simpa using G));refine⟨rfl,⟨Nat.lt_of_lt_of_le l p.size,λj v J=>?_⟩,p⟩;obtain⟨x,d,rfl⟩:=Ax J;rw[I,List.getElem?_map]at d
 cases f:a[j]? with
 | none=>rw[f]at d;simp at d
 | some z =>
  rw[f]at d;have K:z.toNat=x:=by simpa using d
  have L:=H z (gH f);have⟨q,F⟩:=gV.1 f;have:=(C j (by simpa using q)).1;rw[Nat.zero_add]at this;rw[this,<-K,Int.toNat_of_nonneg L];simp[q,F]
def vG{c:Nat->List LK}:∀(f i:Nat) (xs:List Nat),xs.length<=(vF c f i xs).length
 | 0,_,xs=>fW _
 | f+1,i,xs=>by
  by_cases b:i∈xs
  ·rw[uC b];exact fW _
  ·rw[qQ b]
   have d:∀(l:List LK) (a:List Nat),a.length<=(l.foldl (iK c f) a).length:=by
    intro l
    induction l with
    | nil=>intro a;exact fW _
    | cons x r e =>
     intro a;rw[foldl_cons];refine Nat.le_trans ?_ (e _);unfold iK;split
     ·exact vG f _ a
     ·exact fW _
   refine Nat.le_trans ?_ (d _ _);simp
def zv{b:Nat->List LK}{f i:Nat}:1<=(vF b (f+1) i []).length:=by
 rw[qQ qs]
 have c:∀(l:List LK) (a:List Nat),a.length<=(l.foldl (iK b f) a).length:=by
  intro l
  induction l with
  | nil=>intro a;exact fW _
  | cons x r d =>
   intro a;rw[foldl_cons];refine Nat.le_trans ?_ (d _);unfold iK;split
   ·exact vG f _ a
   ·exact fW _
 exact c _ [i]
def kK(a:Nat->List LK)(n i:Nat):List Nat:=Cw (vF a n i [])
def oY{a:Nat->List LK}{n i:Nat}(b:xY a)(c:i<n):(kK a n i).length<=n/\∀v∈kK a n i,v<n:=by
 have h:=qR b n i [] ⟨qs,qs⟩ c;exact⟨by unfold kK;rw[uF];exact h.len,λv d=>h.2 v (EX v d)⟩
def EZ(b cl p g n o:Nat)(nk:Nat)(a:Nat->List LK)(mw A0 B0 aj:Nat)(KO:Option Addr)(ks:List Value)(L Ru:List LR)(er:List (NE ON Nat))(am:n<=12)(ae:∀i,(a i).length<=10)(O:xY a)(ad:∀(k:Nat) (r:LR),L[k]?=some r->r.xs=a k)(I:o<n)(w:World)(hb:Cs w b [.int .i64 (o:Int)])(hg:BoxN w p 111 #[.pointer (some ⟨g,0,none⟩)])(hd:GS w g mw A0 B0 n KO nk aj ks L Ru er):
 Calls prog 106 #[.slice (some ⟨b,0,none⟩) 1 cl,EV p] w λe w'=>∃r c,e=.returned (.slice (some ⟨r,0,none⟩) (kK a n o).length c)/\Cs w' r (ke (kK a n o))/\Fr [] w w'/\w.heap.size<=r:=by
 have ah:1<=(vF a n o []).length:=by
  obtain⟨f,hf⟩:∃f,n=f+1:=⟨n - 1,qo⟩;rw[hf];exact zv
 have ai:=(qR O n o [] ⟨qs,qs⟩ I).len;have an:=uE n nk a w;have⟨ys,J⟩:=eR (vF a n o []);have ac:kK a n o=Cw ys:=by unfold kK;rw[J]
 rw[ac,uF];rw[J]at ah ai;have⟨ny,Q⟩:=eR (ys.length);rw[Q]at ah ai ⊢;have j:=Hd (An J Q);have E:=Hd (An am (An ae (An O (An ad I))));clear J ac Q ae O ad an;have HB:=Hd hb;have ab:=Hd (An hg hd);clear hb hg hd;unfold EV;have⟨B,U,n1,f1⟩:=kJ w #[.func (.func 107) #[] #[.pointer (some ⟨p,0,none⟩)]] 211;have V:B.heap.size=w.heap.size+1:=by rw[<-U];simp
 have⟨w2,v⟩:=eR (B.alloc (.map #[] 0));have W:w2.heap.size=w.heap.size+1+1:=by rw[<-v,jZ,V]
 have n2:MapIs prog 3 w2 (w.heap.size+1) []:=by rw[<-v,<-V];exact MapIs.new B
 have M:Fr [] B w2:=by rw[<-v];exact(Fq [] B).alloc _
 have⟨d,x⟩:=eR (w2.alloc (.cells #[.map (some (w.heap.size+1))] 143));have X:d.heap.size=w.heap.size+1+1+1:=by rw[<-x,jZ,W]
 have n3:BoxN d (w.heap.size+1+1) 143 #[.map (some (w.heap.size+1))]:=by rw[<-x,<-W];exact BoxN.new w2 _ _
 have G:Fr [] w2 d:=by rw[<-x];exact(Fq [] w2).alloc _
 have⟨h,y⟩:=eR (d.alloc (.cells #[.slice none 0 0] 36));have Y:h.heap.size=w.heap.size+1+1+1+1:=by rw[<-y,jZ,X]
 have n4:BoxN h (w.heap.size+1+1+1) 36 #[.slice none 0 0]:=by rw[<-y,<-X];exact BoxN.new d _ _
 have u:Fr [] d h:=by rw[<-y];exact(Fq [] d).alloc _
 have⟨q,z⟩:=eR (h.alloc (.cells #[.nilFunc] 130));have ao:q.heap.size=w.heap.size+1+1+1+1+1:=by rw[<-z,jZ,Y]
 have K:BoxN q (w.heap.size+1+1+1+1) 130 #[.nilFunc]:=by rw[<-z,<-Y];exact BoxN.new h _ _
 have l:Fr [] h q:=by rw[<-z];exact(Fq [] h).alloc _
 have e0:=K.k0;have e1:=K.f 0;have t:=Hd (An U (An v (An x (An y z))));have s:=Hd (An ((((n1.fr M qs).fr G qs).fr u qs).fr l qs) (An (((n2.fr G qs).fr u qs).fr l qs) (An ((n3.fr u qs).fr l qs) (An (n4.fr l qs) K))));have HF:=Hd ((((f1.then M).then G).then u).then l);clear U v x y z n1 n2 n3 n4 K f1 M G u l V W X Y ao;have af:=gy (w.alloc (.cells #[.func (.func 107) #[] #[.pointer (some ⟨p,0,none⟩)]] 211)) 143;rw[jZ]at af
 go_enter func106,ntmps106
 go_upto_region 4 with fail
 rw[t.1,t.2.1,t.2.2.1,t.2.2.2.1,t.2.2.2.2]
 go_upto_region 5 with fail
 have⟨C,A⟩:=eR (q.setCell ⟨w.heap.size+1+1+1+1,0,none⟩ (uB (w.heap.size+1+1) (w.heap.size+1+1+1) w.heap.size (w.heap.size+1+1+1+1)));have Z:BoxN C (w.heap.size+1+1+1+1) 130 #[uB (w.heap.size+1+1) (w.heap.size+1+1+1) w.heap.size (w.heap.size+1+1+1+1)]:=by rw[<-A];exact s.2.2.2.2.setAt 0 _
 have m:Fr [w.heap.size+1+1+1+1] q C:=by rw[<-A];exact(Fq _ q).st _
 unfold uB at A;rw[A];have N:VSt w C (w.heap.size+1+1) (w.heap.size+1+1+1) w.heap.size (w.heap.size+1+1+1+1) (w.heap.size+1) p none 0 0 [] []:=⟨s.2.2.1.fr m qs,s.2.2.2.1.fr m qs,s.1.fr m (by simp;omega),Z,s.2.1.fr m qs,Own.nil _ _ _,qo,by simp[eX],by simp[eX];omega,HF.trans m (by simp;omega)⟩;have hx:C.cell? ⟨b,0,none⟩=some (.int .i64 (o:Int)):=(HB.fr0 N.f0).2 0 _ rfl;have hy:=Z.k0;unfold uB at hy;have T:=uE n nk a w (w.heap.size+1+1) (w.heap.size+1+1+1) w.heap.size (w.heap.size+1+1+1+1) (w.heap.size+1) p g mw A0 B0 aj KO ks L Ru er E.1 E.2.1 E.2.2.1 E.2.2.2.1 ab.1 ab.2 n o I I C none 0 [] ⟨qs,qs⟩ N;rw[j.1]at T;have HV:=Hd T;clear T;clear N Z m A e0 e1 af
 go_wp2
 refine wp_loop_rounds 2 ?_;rw[rounds_succ]
 go_wp2_with ((go_at_call 165;(with_reducible refine HV.out.mono ?_);rintro e w7 ⟨rfl,A7,F,H⟩;have R:=H.own;obtain⟨r,rfl,hr⟩:=Cs.of_own R (by rw[j.2];omega);have q0:w7.cell? ⟨w.heap.size+1+1+1,0,none⟩=some (.slice (some ⟨r,0,none⟩) ny F):=(by rw[<-j.2];exact H.br.c 0);have ak:=Hd R;have D:=Hd H;clear R H hr))
 rw[rounds_succ];have S:=EY r F ys w7 (by rw[j.2];omega) ak.out;rw[j.2]at S;have al:=Hd S;clear S
 go_wp2_with ((go_at_call 166;(with_reducible refine al.out.mono ?_);rintro e w8 ⟨rfl,h8,P⟩;have q1:w8.cell? ⟨w.heap.size+1+1+1,0,none⟩=some (.slice (some ⟨r,0,none⟩) ny F):=(by rw[<-j.2];exact(D.br.fr P (by have:=D.d2.2.1;simpa [eX]using this)).c 0);have aa:=Hd (An h8 P);clear h8 P))
 go_ret
 have ag:w.heap.size<=r:=D.d3.2.2 r (by simp[eX]);exact⟨r,F,rfl,aa.1,D.f0.trans aa.2 (by simp;exact ag),ag⟩
def Cx(b j g n o:Nat)(h:Nat)(a:Nat->List LK)(M x y u:Nat)(p:Option Addr)(L:List Value)(q A:List LR)(B:List (NE ON Nat))(S:n<=12)(H:∀i,(a i).length<=10)(E:xY a)(G:∀(k:Nat) (r:LR),q[k]?=some r->r.xs=a k)(I:o<n)(w:World)(s:Cs w b [.int .i64 (o:Int)])(D:GS w g M x y n p h u L q A B)(T:h=n):
 Calls prog 46 #[.pointer (some ⟨g,0,none⟩),.slice (some ⟨b,0,none⟩) 1 j] w λe w'=>∃r c,e=.returned (.tuple #[.slice (some ⟨r,0,none⟩) (kK a n o).length c,.int .i64 0])/\Cs w' r (ke (kK a n o))/\Fr [] w w':=by
 have⟨U,K,v,d⟩:=kJ w #[.pointer (some ⟨g,0,none⟩)] 111;have X:=v.k0;have t:=D.fr0 d;have C:=t.box;subst T;have O:=Hd (EI g b j u h o p _ _ _ U I qo C (s.fr0 d));have N:=Hd (s.fr0 d);have m:=Hd (An v (An t d));have l:=Hd (An H (An E G));have R:=Hd K;clear H E G K v d t C s D
 go_enter func46,ntmps46
 go_upto_region 1 with fail
 rw[R.out]
 go_wp2_with (first
  | (go_at_call 105;(with_reducible refine O.out.mono ?_);rintro e w2 ⟨rfl,f⟩;have Q:Hid (Calls prog 106 #[.slice b 1 j,.func (.func 107) #[] #[.pointer w.heap.size]] w2 _):=Hd (EZ b j w.heap.size g h o h a M x y u p L q A B S l.1 l.2.1 l.2.2 I w2 (N.fr0 f) (m.1.fr f qs) (m.2.1.fr0 f));have P:=Hd f;clear f)
  | (go_at_call 106;(with_reducible refine Q.out.mono ?_);rintro e W ⟨r,c,rfl,J,F,V⟩;have z:=Hd (An J F);clear J F))
 go_ret2
 exact⟨r,c,rfl,z.1,(m.2.2.then P.out).then z.2⟩
def jI:∃i,(prog).info? 53=some i/\i.zero=some (.agg #[.int .i64 0,.int .i64 0,.string ⟨#[]⟩,.slice none 0 0])/\i.size=4/\i.bytes=56:=info_parts qk
end Go.Proofs.YtlpmiimgacfmkaaGreatDoor
