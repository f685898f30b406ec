/- Part of the proof. -/
import Derived.Test.YtlpmiimgacfmkaaGreatDoorCWb
set_option linter.all false
set_option maxHeartbeats 16000000
set_option maxRecDepth 100000
namespace Go.Proofs.YtlpmiimgacfmkaaGreatDoor
open Go.Proofs.Tryz List
open Go.RowKit
def gU(n:Nat):Array Value:=((List.replicate n (LR.mk none 0 [])).map LR.v).toArray
def im(w:World)(n:Nat)(k:n<=1000):(Instr.makeSlice 203 (.int .i64 (n:Int)) (.int .i64 (n:Int))).run prog w=.ok (.slice (some ⟨w.heap.size,0,none⟩) n n) (w.alloc (.cells (gU n) 61)):=by
 obtain⟨i,c,e,a,b⟩:=zd;have h:=run_makeSlice (P:=prog) (w:=w) 203 61 i gz underlying203 c e .i64 .i64 n n qo qo (by rw[a];omega) (by rw[b];omega) qo
 have d:madeCells (Value.slice none 0 0).cells ((n:Int).toNat*1)=(gU n):=by
  rw[Nat.mul_one,Int.toNat_natCast];unfold gU
  apply Array.ext
  ·simp[madeCells]
  ·intro j f g
   simp[madeCells,LR.v,Nat.mod_one,Value.cells]
 rw[h,a,d,Int.toNat_natCast]
def Ap{w:World}{B n:Nat}(h:BoxN w B 61 (gU n)):RL w B (List.replicate n (LR.mk none 0 [])) :=
 ⟨h,λr a=>by rw[eq_of_mem_replicate a];exact Own.nil _ _ _,by
  rw[pairwise_replicate];exact .inr (by simp[eX])⟩
def uv(n:Nat):ka (List.replicate n (LR.mk none 0 []))=[]:=by
 unfold ka;rw[flatMap_eq_nil_iff];intro r a;rw[eq_of_mem_replicate a];rfl
def Aq{p:Option ON}:∀ {l:List CH},jp p l=true->∀x∈l.map CH.n,eY x=0:=λh x b=>by
 obtain⟨c,a,rfl⟩:=mem_map.1 b;exact(ox (gG h c a)).1
def xP:∀ {l:List CH} {p:Option ON},jp p l=true->Ci (l.map CH.n)
 | [],p,_=>λi x y a _=>by simp at a
 | [c],p,_=>λi x y a b=>by simp at b
 | c::d::l,p,h=>λi x y a b=>by
  rw[jp]at h;simp only[Bool.and_eq_true]at h
  rcases i with _|i
  ·simp only[map_cons,List.getElem?_cons_zero,List.getElem?_cons_succ,Option.some.injEq]at a b
   subst a;subst b;have e:=h.2.2;rw[jp]at e;simp only[Bool.and_eq_true,tQ,decide_eq_true_eq]at e;have:=tot_cmpO.anti c.n d.n;omega
  ·exact xP h.2.2 i x y (by simpa using a) (by simpa using b)
def Ar(l:List AG)(n:ON):List Nat:=(oT l n).map VX.i
def ux(l:List AG)(k:Nat):List LK:=match l[k]? with
 | none=>[]
 | some a=>a.r.map λc=>⟨oU (Ar (l.take k) c.n),k,c.n⟩
def pO{rs:List LR}{k:Nat}(h:k<rs.length):∃a r l2,rs=a++r::l2/\a.length=k/\rs[k]?=some r:=by
 refine⟨rs.take k,rs[k],rs.drop (k+1),?_,by rw[length_take];omega,gg h⟩;rw[getElem_cons_drop,take_append_drop]
def Gm{a l2:List LR}{r c s:LR}{k:Nat}(h:(a++c::l2)[k]?=some s):(k=a.length/\s=c) \/ (k≠a.length/\(a++r::l2)[k]?=some s):=by
 rcases Nat.lt_trichotomy k a.length with b|b|b
 ·rw[List.getElem?_append_left b]at h ⊢
  exact .inr ⟨qo,h⟩
 ·subst b
  simp at h;exact .inl ⟨rfl,h.symm⟩
 ·obtain⟨j,d⟩:∃j,k - a.length=j+1:=⟨k - a.length - 1,qo⟩
  rw[List.getElem?_append_right qo,d]at h ⊢;exact .inr ⟨qo,by simpa using h⟩
def oV{w:World}{B k:Nat}{rs:List LR}{r:LR}(h:BoxN w B 61 (rs.map LR.v).toArray)(a:rs[k]?=some r):w.cell? ⟨B,k,none⟩=some (.slice r.A r.xs.length r.c):=by
 rw[h.c k];simp[a,LR.v]
def xQ(n:ON):∀(l:List AG) (i:Nat),(∀a∈l,a.w.length<=10)->(mU i l n).length<=10*l.length
 | [],i,_=>by simp[mU]
 | a::r,i,h=>by
  rw[mU,gu];have c:=xQ n r (i+1) (λa b=>h a (by simp[b]));have d:=h a qs
  have e:(i8 i n a.w).length<=a.w.length:=by
   unfold i8;rw[length_map];exact length_filter_le _ _
  simp only[length_cons];omega
def As{l:List AG}(n:ON)(h:∀a∈l,a.w.length<=10):(Ar l n).length<=10*l.length:=by
 unfold Ar oT;rw[length_map];exact xQ n l 0 h
def zp{l:List AG}(n:ON):∀v∈Ar l n,v<l.length:=λv a=>by
 unfold Ar oT at a;obtain⟨x,b,rfl⟩:=mem_map.1 a;have:=rj n l 0 x b;omega
def qx(l:List Nat):oU l=-1 \/ ∃v∈l,oU l=(v:Int):=by
 unfold oU
 cases h:l.getLast? with
 | none=>exact .inl rfl
 | some v=>exact .inr ⟨v,mem_of_getLast? h,rfl⟩
structure GG(w:World)(g mw Lk Us n i:Nat)(l:List AG)(K:Option Addr)(kc:Nat)(ks:List Value)(Rl Ru:List LR)(er:List (NE ON Nat)):Prop where
 s:GS w g mw Lk Us n K i kc ks Rl Ru er
 wr:∀m,gM er m=Ar (l.take i) m
 lk:∀(k:Nat) (r:LR),Rl[k]?=some r->r.xs=if k<i then ux l k else []
 us:∀r∈Ru,r.xs.length<=10*i
def Gn{T:Prop}{G H:World->Nat->Nat->Nat->Prop}(b:(∀V A B M,H V A B M->G V A B M)->T)(a:∀V A B M,H V A B M->G V A B M):T:=b a
def EK(L cL cF:Nat)(ys:List AX)(w:World)(hL:ActL w L cF ys)(hr:Run ys):
 Calls prog 45 #[.slice (some ⟨L,0,none⟩) ys.length cL] w λe w'=>∃g mw Lk Us K aL ks Rl Ru er,e=.returned (.tuple #[.pointer (some ⟨g,0,none⟩),.int .i64 0])/\GG w' g mw Lk Us ys.length ys.length (ys.map AX.a) K aL ks Rl Ru er/\Fr [] w w':=by
 have HI:=Hd (vu L cL cF ys w hL hr);have⟨n,cl⟩:=eR (ys.length);have ec:=hr.len;rw[cl]at HI ec ⊢;have aR:=Hd (An hL (An hr cl));have aJ:n<=1000:=qo
 have dW:decide ((65536:Int)<(n:Int))=false:=by simp;omega
 have dX:decide (65536<n)=false:=by simp;omega
 clear hL hr cl
 go_enter func45,ntmps45
 go_upto_region 5 with((go_at_call 101;(with_reducible refine HI.out.mono ?_);rintro e w1 ⟨rfl,db⟩;have cw:=Hd db;clear db))
 clear dW dX;have t:Fr [] w w1.drew:=cw.drew;have HSS:=Hd (λ(W:World) (_:Fr [] w W)=>True.intro)
 refine jw (a:=?aa) (λa' w'=>∃A B m gb,a'={ tmps:=(((((((((((Act.tmps ?aa).setIfInBounds 21 (.slice (some ⟨L,0,none⟩) n cL)).setIfInBounds 22 (.int .i64 (n:Int))).setIfInBounds 24 (.slice (some ⟨L,0,none⟩) n cL)).setIfInBounds 25 (.int .i64 (n:Int))).setIfInBounds 23 (.slice (some ⟨A,0,none⟩) n n)).setIfInBounds 26 (.slice (some ⟨B,0,none⟩) n n)).setIfInBounds 27 (.map (some m))).setIfInBounds 28 (.agg #[.slice none 0 0,.slice (some ⟨A,0,none⟩) n n,.slice (some ⟨B,0,none⟩) n n,.map (some m)])).setIfInBounds 29 (.pointer (some ⟨gb,0,none⟩))).setIfInBounds 4 (.pointer (some ⟨gb,0,none⟩))),defers:=[] } /\
  BoxN w' gb 205 #[.slice none 0 0,.slice (some ⟨A,0,none⟩) n n,.slice (some ⟨B,0,none⟩) n n,.map (some m)]/\BoxN w' A 61 (gU n)/\BoxN w' B 61 (gU n)/\MapIs prog 31 w' m []/\Fr [] w w'/\A≠B/\A≠m/\B≠m/\A<gb/\B<gb/\m<gb/\w.heap.size<=A/\w.heap.size<=B/\w.heap.size<=m) ?_ ?_
 ·skip
  refine eU (λW=>Fr [] w W) 9 qk ?_ qd
  show fc 0 ..
  iterate 2 (refine gJ rfl ?_;try simp only[qq])
  show fc 3 ..
  iterate 2 (refine gJ rfl ?_;try simp only[qq])
  have ej:w.heap.size<=w1.drew.heap.size:=t.size;have⟨F,aV⟩:=eR (w1.drew);rw[aV]at t ej ⊢;clear aV;refine Gn (G:=?G) (H:=(λa3 A B aS=>BoxN a3 A 61 (gU n)/\BoxN a3 B 61 (gU n)/\MapIs prog 31 a3 aS []/\Fr [] w a3/\(A≠B/\A≠aS/\B≠aS)/\w.heap.size<=A/\w.heap.size<=B/\w.heap.size<=aS/\A<a3.heap.size/\B<a3.heap.size/\aS<a3.heap.size)) (λbc=>?go) ?fin
  case go =>
   refine xn (i:=2) (j:=5) (m:=6) qk qd qd qd rfl rfl rfl (λK b=>?_) (λK b=>?_) (λK b=>?_)
   ·rw[if_pos qr]
    have ac:=im F n aJ;go_simp
    have⟨O,z,Z,M⟩:=kJ F (gU n) 61;have zA:(O).heap.size=(F).heap.size+1:=by rw[<-z];simp
    rw[z];clear z ac;refine b _ _ (t.then M) ?_;have t:=t.then M;clear b K
    try simp only[qq]
    refine iy (i:=5) (j:=6) qk qd qd rfl rfl (λK b=>?_) (λK b=>?_)
    ·rw[if_pos qr]
     have ac:=im O n aJ;go_simp
     have⟨C,z,ab,J⟩:=kJ O (gU n) 61;have zB:(C).heap.size=(O).heap.size+1:=by rw[<-z];simp
     rw[z];clear z ac;refine b _ _ (t.then J) ?_;have t:=t.then J;clear b K
     try simp only[qq]
     refine hO (i:=6) rfl λK b=>?_;have ac:=gy (C) 194;go_simp
     have⟨N,z⟩:=eR ((C).alloc (.map #[] 0));have U:MapIs prog 31 N (C).heap.size []:=by rw[<-z];exact MapIs.new (C)
     have I:Fr [] (C) N:=by rw[<-z];exact(Fq [] (C)).alloc _
     have zM:(N).heap.size=(C).heap.size+1:=by rw[<-z];simp
     rw[z];clear z ac;refine b _ _ (t.then I) ?_;have t:=t.then I;clear b K
     try simp only[qq]
     have ao:BoxN N (F).heap.size 61 (gU n):=(Z.fr J qs).fr I qs;have ai:BoxN N (O).heap.size 61 (gU n):=ab.fr I qs;simp only[zA,zB]at ai U;have hd:(F.heap.size≠F.heap.size+1/\F.heap.size≠F.heap.size+1+1/\F.heap.size+1≠F.heap.size+1+1)/\w.heap.size<=F.heap.size/\w.heap.size<=F.heap.size+1/\w.heap.size<=F.heap.size+1+1/\F.heap.size<N.heap.size/\F.heap.size+1<N.heap.size/\F.heap.size+1+1<N.heap.size:=qo
     generalize F.heap.size+1+1=M' at U hd ⊢;generalize F.heap.size+1=B' at ai hd ⊢;generalize F.heap.size=A' at ao hd ⊢;exact bc N A' B' M' ⟨ao,ai,U,t,hd⟩
    ·rw[if_pos qr]
     have ac:=gy (O) 194;go_simp
     have⟨C,z⟩:=eR ((O).alloc (.map #[] 0));have U:MapIs prog 31 C (O).heap.size []:=by rw[<-z];exact MapIs.new (O)
     have I:Fr [] (O) C:=by rw[<-z];exact(Fq [] (O)).alloc _
     have zM:(C).heap.size=(O).heap.size+1:=by rw[<-z];simp
     rw[z];clear z ac;refine b _ _ (t.then I) ?_;have t:=t.then I;clear b K
     try simp only[qq]
     refine hO (i:=5) rfl λK b=>?_;have ac:=im C n aJ;go_simp
     have⟨N,z,ab,J⟩:=kJ C (gU n) 61;have zB:(N).heap.size=(C).heap.size+1:=by rw[<-z];simp
     rw[z];clear z ac;refine b _ _ (t.then J) ?_;have t:=t.then J;clear b K
     try simp only[qq]
     have ao:BoxN N (F).heap.size 61 (gU n):=by first|exact Z|exact Z.fr J qs|exact Z.fr I qs|exact(Z.fr J qs).fr I qs|exact(Z.fr I qs).fr J qs
     have ai:BoxN N (C).heap.size 61 (gU n):=by first|exact ab|exact ab.fr M qs|exact ab.fr I qs|exact(ab.fr M qs).fr I qs|exact(ab.fr I qs).fr M qs
     have aq:MapIs prog 31 N (O).heap.size []:=by first|exact U|exact U.fr M qs|exact U.fr J qs|exact(U.fr M qs).fr J qs|exact(U.fr J qs).fr M qs
     try simp only[zA,zB,zM]at ao ai aq
     exact bc _ _ _ _ ⟨ao,ai,aq,t,qo⟩
   ·rw[if_pos qr]
    have ac:=im F n aJ;go_simp
    have⟨O,z,ab,J⟩:=kJ F (gU n) 61;have zB:(O).heap.size=(F).heap.size+1:=by rw[<-z];simp
    rw[z];clear z ac;refine b _ _ (t.then J) ?_;have t:=t.then J;clear b K
    try simp only[qq]
    refine iy (i:=2) (j:=6) qk qd qd rfl rfl (λK b=>?_) (λK b=>?_)
    ·rw[if_pos qr]
     have ac:=im O n aJ;go_simp
     have⟨C,z,Z,M⟩:=kJ O (gU n) 61;have zA:(C).heap.size=(O).heap.size+1:=by rw[<-z];simp
     rw[z];clear z ac;refine b _ _ (t.then M) ?_;have t:=t.then M;clear b K
     try simp only[qq]
     refine hO (i:=6) rfl λK b=>?_;have ac:=gy (C) 194;go_simp
     have⟨N,z⟩:=eR ((C).alloc (.map #[] 0));have U:MapIs prog 31 N (C).heap.size []:=by rw[<-z];exact MapIs.new (C)
     have I:Fr [] (C) N:=by rw[<-z];exact(Fq [] (C)).alloc _
     have zM:(N).heap.size=(C).heap.size+1:=by rw[<-z];simp
     rw[z];clear z ac;refine b _ _ (t.then I) ?_;have t:=t.then I;clear b K
     try simp only[qq]
     have ao:BoxN N (O).heap.size 61 (gU n):=by first|exact Z|exact Z.fr J qs|exact Z.fr I qs|exact(Z.fr J qs).fr I qs|exact(Z.fr I qs).fr J qs
     have ai:BoxN N (F).heap.size 61 (gU n):=by first|exact ab|exact ab.fr M qs|exact ab.fr I qs|exact(ab.fr M qs).fr I qs|exact(ab.fr I qs).fr M qs
     have aq:MapIs prog 31 N (C).heap.size []:=by first|exact U|exact U.fr M qs|exact U.fr J qs|exact(U.fr M qs).fr J qs|exact(U.fr J qs).fr M qs
     try simp only[zA,zB,zM]at ao ai aq
     exact bc _ _ _ _ ⟨ao,ai,aq,t,qo⟩
    ·rw[if_pos qr]
     have ac:=gy (O) 194;go_simp
     have⟨C,z⟩:=eR ((O).alloc (.map #[] 0));have U:MapIs prog 31 C (O).heap.size []:=by rw[<-z];exact MapIs.new (O)
     have I:Fr [] (O) C:=by rw[<-z];exact(Fq [] (O)).alloc _
     have zM:(C).heap.size=(O).heap.size+1:=by rw[<-z];simp
     rw[z];clear z ac;refine b _ _ (t.then I) ?_;have t:=t.then I;clear b K
     try simp only[qq]
     refine hO (i:=2) rfl λK b=>?_;have ac:=im C n aJ;go_simp
     have⟨N,z,Z,M⟩:=kJ C (gU n) 61;have zA:(N).heap.size=(C).heap.size+1:=by rw[<-z];simp
     rw[z];clear z ac;refine b _ _ (t.then M) ?_;have t:=t.then M;clear b K
     try simp only[qq]
     have ao:BoxN N (C).heap.size 61 (gU n):=by first|exact Z|exact Z.fr J qs|exact Z.fr I qs|exact(Z.fr J qs).fr I qs|exact(Z.fr I qs).fr J qs
     have ai:BoxN N (F).heap.size 61 (gU n):=by first|exact ab|exact ab.fr M qs|exact ab.fr I qs|exact(ab.fr M qs).fr I qs|exact(ab.fr I qs).fr M qs
     have aq:MapIs prog 31 N (O).heap.size []:=by first|exact U|exact U.fr M qs|exact U.fr J qs|exact(U.fr M qs).fr J qs|exact(U.fr J qs).fr M qs
     try simp only[zA,zB,zM]at ao ai aq
     exact bc _ _ _ _ ⟨ao,ai,aq,t,qo⟩
   ·rw[if_pos qr]
    have ac:=gy (F) 194;go_simp
    have⟨O,z⟩:=eR ((F).alloc (.map #[] 0));have U:MapIs prog 31 O (F).heap.size []:=by rw[<-z];exact MapIs.new (F)
    have I:Fr [] (F) O:=by rw[<-z];exact(Fq [] (F)).alloc _
    have zM:(O).heap.size=(F).heap.size+1:=by rw[<-z];simp
    rw[z];clear z ac;refine b _ _ (t.then I) ?_;have t:=t.then I;clear b K
    try simp only[qq]
    refine iy (i:=2) (j:=5) qk qd qd rfl rfl (λK b=>?_) (λK b=>?_)
    ·rw[if_pos qr]
     have ac:=im O n aJ;go_simp
     have⟨C,z,Z,M⟩:=kJ O (gU n) 61;have zA:(C).heap.size=(O).heap.size+1:=by rw[<-z];simp
     rw[z];clear z ac;refine b _ _ (t.then M) ?_;have t:=t.then M;clear b K
     try simp only[qq]
     refine hO (i:=5) rfl λK b=>?_;have ac:=im C n aJ;go_simp
     have⟨N,z,ab,J⟩:=kJ C (gU n) 61;have zB:(N).heap.size=(C).heap.size+1:=by rw[<-z];simp
     rw[z];clear z ac;refine b _ _ (t.then J) ?_;have t:=t.then J;clear b K
     try simp only[qq]
     have ao:BoxN N (O).heap.size 61 (gU n):=by first|exact Z|exact Z.fr J qs|exact Z.fr I qs|exact(Z.fr J qs).fr I qs|exact(Z.fr I qs).fr J qs
     have ai:BoxN N (C).heap.size 61 (gU n):=by first|exact ab|exact ab.fr M qs|exact ab.fr I qs|exact(ab.fr M qs).fr I qs|exact(ab.fr I qs).fr M qs
     have aq:MapIs prog 31 N (F).heap.size []:=by first|exact U|exact U.fr M qs|exact U.fr J qs|exact(U.fr M qs).fr J qs|exact(U.fr J qs).fr M qs
     try simp only[zA,zB,zM]at ao ai aq
     exact bc _ _ _ _ ⟨ao,ai,aq,t,qo⟩
    ·rw[if_pos qr]
     have ac:=im O n aJ;go_simp
     have⟨C,z,ab,J⟩:=kJ O (gU n) 61;have zB:(C).heap.size=(O).heap.size+1:=by rw[<-z];simp
     rw[z];clear z ac;refine b _ _ (t.then J) ?_;have t:=t.then J;clear b K
     try simp only[qq]
     refine hO (i:=2) rfl λK b=>?_;have ac:=im C n aJ;go_simp
     have⟨N,z,Z,M⟩:=kJ C (gU n) 61;have zA:(N).heap.size=(C).heap.size+1:=by rw[<-z];simp
     rw[z];clear z ac;refine b _ _ (t.then M) ?_;have t:=t.then M;clear b K
     try simp only[qq]
     have ao:BoxN N (C).heap.size 61 (gU n):=by first|exact Z|exact Z.fr J qs|exact Z.fr I qs|exact(Z.fr J qs).fr I qs|exact(Z.fr I qs).fr J qs
     have ai:BoxN N (O).heap.size 61 (gU n):=by first|exact ab|exact ab.fr M qs|exact ab.fr I qs|exact(ab.fr M qs).fr I qs|exact(ab.fr I qs).fr M qs
     have aq:MapIs prog 31 N (F).heap.size []:=by first|exact U|exact U.fr M qs|exact U.fr J qs|exact(U.fr M qs).fr J qs|exact(U.fr J qs).fr M qs
     try simp only[zA,zB,zM]at ao ai aq
     exact bc _ _ _ _ ⟨ao,ai,aq,t,qo⟩
  intro N A B aS ⟨ao,ai,aq,t,hd⟩
  show fc 7 ..
  refine gJ rfl ?_;try simp only[qq];refine hO (i:=8) rfl λK b=>?_;go_simp
  have⟨V4,cW,nG,f4⟩:=kJ N #[.slice none 0 0,.slice (some ⟨A,0,none⟩) n n,.slice (some ⟨B,0,none⟩) n n,.map (some aS)] 205;rw[cW];have cG:=t.then f4;refine b _ _ cG ?_;clear b K cW t
  try simp only[qq]
  refine eV ⟨qk,?_⟩;simp only[qG,qH]
  go_wp2
  exact⟨A,B,aS,_,rfl,nG,ao.fr f4 qs,ai.fr f4 qs,aq.fr f4 qs,cG,hd.1.1,hd.1.2.1,hd.1.2.2,qo,qo,qo,hd.2.1,hd.2.2.1,hd.2.2.2.1⟩
 rintro a' w2 ⟨A,B,m,g,rfl,c6,c1,c2,dq,an,d1,d2,d3,d4,d5,d6,d7,d8,d9⟩;simp only[qA,qB,qC]
 have bH:GG w2 g m A B n 0 (ys.map AX.a) none 0 [] (List.replicate n (LR.mk none 0 [])) (List.replicate n (LR.mk none 0 [])) []:=⟨⟨c6,Own.nil _ _ _,Ap c1,Ap c2,ML.nil dq,d1,by rw[uv];simp,qs⟩,λk=>by simp[gM,Ar,oT,mU],λk r hr=>by
  rw[eq_of_mem_replicate (gH hr)];simp,λr hr=>by
  rw[eq_of_mem_replicate hr];simp⟩
 have b2:=Hd (An bH (An an (show ∀k∈GB g m A B none (List.replicate n (LR.mk none 0 [])) (List.replicate n (LR.mk none 0 [])) [],w.heap.size<=k from λk Y=>by
  simp only[GB,uv,eX,gh,flatMap_nil,Option.map_none,Option.toList_none,append_nil,nil_append,mem_cons,not_mem_nil,or_false]at Y;omega)))
 clear c6 c1 c2 dq an d1 d2 d3 d4 d5 d6 d7 d8 d9 cw HI HSS t bH
 go_wp2
 go_loopw [32] (λR W=>∃(i:Nat) (KO:Option Addr) (aL:Nat) (ks:List Value) (Rl Ru:List LR) (er:List (NE ON Nat)),i<=n/\R=.int .i64 (i:Int)/\GG W g m A B n i (ys.map AX.a) KO aL ks Rl Ru er/\Fr [] w W/\∀k∈GB g m A B KO Rl Ru er,w.heap.size<=k) (λi _=>n - (intOf i).toNat)
 case atStart=>exact⟨0,none,0,[],_,_,[],Nat.zero_le _,rfl,b2.1,b2.2.1,b2.2.2⟩
 case round =>
  obtain⟨i,KO,aL,ks,Rl,Ru,er,hi,rfl,bH,bm,c7⟩:=hrel;have ah:=Hd (An bH (An bm c7));clear bH bm c7
  by_cases ew:i<n
  ·have ex:(i:Int)<(n:Int):=qo
   obtain⟨x,hx⟩:∃x,ys[i]?=some x:=⟨_,gg (by rw[aR.2.2];omega)⟩;have aX:=aR.2.1.wf x (gH hx);have aU:=aR.1.fr0 ah.2.1;have⟨nr,cn⟩:=eR (x.a.r.length);have⟨nw,co⟩:=eR (x.a.w.length);have y0:wr.cell? ⟨L,i*6,none⟩=some (.int .i64 x.a.k.rnd):=aU.c hx 0 _ rfl;have y1:wr.cell? ⟨L,i*6+1,none⟩=some (.int .i64 x.a.k.phase):=aU.c hx 1 _ rfl;have y2:wr.cell? ⟨L,i*6+2,none⟩=some (.int .i64 x.a.k.idx):=aU.c hx 2 _ rfl;have y3:wr.cell? ⟨L,i*6+3,none⟩=some (.string x.sl):=aU.c hx 3 _ rfl;have y4:wr.cell? ⟨L,i*6+4,none⟩=some (.slice x.A nr x.c):=by rw[<-cn];exact aU.c hx 4 _ rfl
   have y5:wr.cell? ⟨L,i*6+5,none⟩=some (.slice x.B nw x.d):=by rw[<-co];exact aU.c hx 5 _ rfl
   have ez:nr<=10:=qo
   have eA:nw<=10:=qo
   have eE:IntKind.i64.wrap (i:Int)=(i:Int):=by simp only[IntKind.wrap_i64];omega
   have⟨Y0,cY,cr,nR,fY⟩:=ir wr #[.int .i64 x.a.k.rnd,.int .i64 x.a.k.phase,.int .i64 x.a.k.idx,.string x.sl,.slice x.A nr x.c,.slice x.B nw x.d] 91 wr.heap.size;have dg:=ah.1.s.fr0 fY;have HX:=Hd (An hx (An aX (An (aU.ok x (gH hx)) (An cn co))))
   go_upto_region 9 with fail
   try rw[cY]
   have⟨af,hR⟩:=eR (wr.heap.size);have cU:∀k∈GB g m A B KO Rl Ru er,k<af:=by rw[<-hR];exact ah.1.s.lt
   rw[hR]at nR cr ⊢;have dN:=Hd nR;have cD:=Hd cU;have bv:=Hd dg;have cz:=Hd (An fY (An cr hR));clear y0 y1 y2 y3 y4 y5 cY nR fY cr dg cU hR hx aX aU cn co;have HSS:=Hd (λ(W:World) (hW:W.cell? ⟨g,0,none⟩=some (.slice KO i aL)/\W.cell? ⟨af,0,none⟩=some (.int .i64 x.a.k.rnd)/\W.cell? ⟨af,1,none⟩=some (.int .i64 x.a.k.phase)/\W.cell? ⟨af,2,none⟩=some (.int .i64 x.a.k.idx)/\W.cell? ⟨af,3,none⟩=some (.string x.sl))=>hW);have ax:=bv.box;have aw:=dN.out;have t:(λW:World=>W.cell? ⟨g,0,none⟩=some (.slice KO i aL)/\W.cell? ⟨af,0,none⟩=some (.int .i64 x.a.k.rnd)/\W.cell? ⟨af,1,none⟩=some (.int .i64 x.a.k.phase)/\W.cell? ⟨af,2,none⟩=some (.int .i64 x.a.k.idx)/\W.cell? ⟨af,3,none⟩=some (.string x.sl)) Y0.drew:=⟨ax.c 0,aw.c 0,aw.c 1,aw.c 2,aw.c 3⟩;refine eU (λW:World=>W.cell? ⟨g,0,none⟩=some (.slice KO i aL)/\W.cell? ⟨af,0,none⟩=some (.int .i64 x.a.k.rnd)/\W.cell? ⟨af,1,none⟩=some (.int .i64 x.a.k.phase)/\W.cell? ⟨af,2,none⟩=some (.int .i64 x.a.k.idx)/\W.cell? ⟨af,3,none⟩=some (.string x.sl)) 11 qk ?_ qd
   show fc 0 ..
   iterate 7 (refine gJ rfl ?_;try simp only[qq])
   refine hO (i:=7) rfl λK b=>?_;go_simp
   have⟨Z1,cZ,n1,f1⟩:=vC Y0 #[.int .i64 x.a.k.rnd,.int .i64 x.a.k.phase,.int .i64 x.a.k.idx,.string x.sl] 89;rw[cZ];have cb:=ax.fr f1 qs;have bp:=aw.fr f1 qs;refine b _ _ ⟨cb.c 0,bp.c 0,bp.c 1,bp.c 2,bp.c 3⟩ ?_;clear b K cZ t
   try simp only[qq]
   refine hO (i:=8) rfl λK b=>?_;obtain⟨ii,aC,aD,aE,aF⟩:=xm;have cQ:=bv.own.fr f1 qs;refine ja (.tmp 41) (.tmp 44) 60 rfl 89 ii _ 4 40 underlying60 aC aD aE aF rfl qd KO i aL ks rfl cQ ⟨Y0.heap.size,0,none⟩ 1 1 [.int .i64 x.a.k.rnd,.int .i64 x.a.k.phase,.int .i64 x.a.k.idx,.string x.sl] rfl rfl (λj u hu=>by rw[fV,n1.c j];simpa using hu) (by simp[Value.oneCell']) (by unfold maxLen;omega) qo ?_;intro KN cN Z2 aW an cP
   have de:g ∉ eX KO:=λhm=>by
    have:=NoT.own (ts:=[205]) bv.own qd g hm _ _ _ bv.box;simp at this
   have cT:af ∉ eX KO:=λhm=>by have h1:=cD.out af (by simp[GB,hm]);omega
   have bi:=cb.fr an de;have bq:=bp.fr an cT;have t:(λW:World=>W.cell? ⟨g,0,none⟩=some (.slice KO i aL)/\W.cell? ⟨af,0,none⟩=some (.int .i64 x.a.k.rnd)/\W.cell? ⟨af,1,none⟩=some (.int .i64 x.a.k.phase)/\W.cell? ⟨af,2,none⟩=some (.int .i64 x.a.k.idx)/\W.cell? ⟨af,3,none⟩=some (.string x.sl)) Z2:=⟨bi.c 0,bq.c 0,bq.c 1,bq.c 2,bq.c 3⟩;refine b _ _ t ?_;clear b K
   try simp only[qq]
   show fc 9 ..
   iterate 2 (refine gJ rfl ?_;try simp only[qq])
   refine eV ⟨qk,?_⟩;simp only[qG,qH];have q0:=bi.k0;have q1:=bi.f 0;have aB:=Hd (An aW (An an (An cP (An bi (An bq f1)))));clear aW an cP bi bq f1 de cT ax aw cb bp n1 cQ t HSS aD aE aF aC
   go_upto_region 10 with fail
   have⟨bg,hZ⟩:=eR (Z2.setCell ⟨g,0,none⟩ (.slice KN (i+1) cN));have c3:BoxN bg g 205 #[.slice KN (i+1) cN,.slice (some ⟨A,0,none⟩) n n,.slice (some ⟨B,0,none⟩) n n,.map (some m)]:=by rw[<-hZ];exact aB.2.2.2.1.setAt 0 _
   have fZ:Fr [g] Z2 bg:=by rw[<-hZ];exact(Fq [g] Z2).st _
   try rw[hZ]
   have df:af≠g:=λh=>by have h1:=cD.out g (by simp[GB]);omega
   have dx:BoxN bg af 91 #[.int .i64 x.a.k.rnd,.int .i64 x.a.k.phase,.int .i64 x.a.k.idx,.string x.sl,.slice x.A nr x.c,.slice x.B nw x.d]:=aB.2.2.2.2.1.fr fZ (by simpa using df);have b9:=(bv.fr0 aB.2.2.2.2.2).putK aB.2.1 aB.1 aB.2.2.1 fZ c3;have dU:=cz.1.size;have dV:=aB.2.2.2.2.2.size;have ei:=ah.2.1.size;have dd:Fr [] w bg:=((ah.2.1.then cz.1).then aB.2.2.2.2.2).trans (S:=[]) ((aB.2.1.mono (T:=GB g m A B KO Rl Ru er) (λk Y=>.inl (by simp[GB,Y]))).trans fZ (by simp[GB])) (λk Y=>.inr (ah.2.2 k Y))
   have c8:∀k∈GB g m A B KN Rl Ru er,w.heap.size<=k:=λk Y=>by
    simp only[GB,mem_cons,mem_append]at Y
    rcases Y with h|h|h|h|h|h
    ·exact ah.2.2 k (by simp[GB,h])
    ·exact ah.2.2 k (by simp[GB,h])
    ·exact ah.2.2 k (by simp[GB,h])
    ·exact ah.2.2 k (by simp[GB,h])
    ·rcases aB.2.2.1 k h with h|h
     ·exact ah.2.2 k (by simp[GB,h])
     ·omega
    ·exact ah.2.2 k (by simp[GB,h])
   have⟨cu,dl⟩:=eR (ks++[.int .i64 x.a.k.rnd,.int .i64 x.a.k.phase,.int .i64 x.a.k.idx,.string x.sl]);rw[dl]at b9;have bf:=Hd (An b9 (An dx (An dd c8)));clear c3 fZ df dx b9 hZ q0 q1 aB dU dV ei dd c8 dl;have r4:=bf.2.1.k4
   go_wp2
   clear r4
   go_loopw [7,51] (λs R W=>∃(j:Nat) (NA:Option Addr) (nc:Nat),j<=nr/\R=.int .i64 (j:Int)/\s=.slice NA j nc/\Own W 31 5 NA j nc (((x.a.r.take j).map CH.n).flatMap ON.cs)/\Fr [] bg W/\∀k∈eX NA,bg.heap.size<=k) (λ_ i _=>nr - (intOf i).toNat)
   case atStart=>exact⟨0,none,0,Nat.zero_le _,rfl,rfl,Own.nil _ _ _,Fq _ _,by simp[eX]⟩
   case round =>
    obtain⟨j,NA,nc,hj,rfl,rfl,bo,bm,dt⟩:=hrel;have aX:=(aR.1.ok x (gH HX.1)).fr0 (bf.2.2.1.then bm);have HJ:=Hd (An bo (An bm dt));clear bo bm dt
    by_cases ea:j<nr
    ·have cj:(j:Int)<(nr:Int):=qo
     have aO:=aX.chr;unfold Chs Rd at aO;rw[HX.2.2.2.1]at aO;have⟨b5,off,hB,cc,bD⟩:=fK i9 aO qo;obtain⟨d,hd⟩:∃d,x.a.r[j]?=some d:=⟨_,gg (by rw[HX.2.2.2.1];exact ea)⟩;have ad:=bD j d hd;have⟨so,av,_,_⟩:=eS d.n.owner;have⟨st,az,_,_⟩:=eS d.n.text;have⟨sv,bM,_,_⟩:=eS d.v;have bK:d.n.cs=[.int .i64 d.n.kind,.string so,.int .i64 d.n.number,.int .i64 d.n.index,.string st]:=by unfold ON.cs;rw[av,az]
     unfold CH.cs at ad;rw[av,az,bM]at ad;generalize d.n.kind=k at ad bK;generalize d.n.number=nu at ad bK;generalize d.n.index=R at ad bK;generalize d.a=b4 at ad;have⟨y0,y1,y2,y3,y4,y5,y6⟩:=FT ad;rw[hB];have⟨F,aV,cp,n0,f0⟩:=ir wr #[.int .i64 k,.string so,.int .i64 nu,.int .i64 R,.string st,.string sv,.bool b4] 95 wr.heap.size;have aY:=Hd f0;have cC:=Hd (An hd bK);have⟨d0,d1,d2,d3,d4⟩:=n0.m5;clear ad bD aO aX hd hB av az bM bK cc f0 cp n0
     go_upto_region 14 with fail
     try rw[aV]
     clear y0 y1 y2 y3 y4 y5 y6 aV;obtain⟨ii,aC,aD,aE,aF⟩:=uk
     go_upto_region 15 with(at_builtin;(with_reducible refine fC (w:=F) rfl (.tmp 55) (.tmp 58) 101 rfl 31 ii _ 5 56 underlying101 aC aD aE aF rfl qd NA j nc _ rfl (HJ.out.1.fr aY.out qs) 1 1 [.int .i64 k,.string so,.int .i64 nu,.int .i64 R,.string st] 31 rfl rfl (by simp[Value.oneCell']) (by unfold maxLen;omega) qo ?_);intro A2 dP C ho hf hs;have HO:=Hd (An ho (An hf hs));clear ho hf hs)
     clear d0 d1 d2 d3 d4 aD aE aF aC
     go_wp2
     go_roundw
     case rel =>
      have eh:((x.a.r.take (j+1)).map CH.n).flatMap ON.cs=((x.a.r.take j).map CH.n).flatMap ON.cs++[.int .i64 k,.string so,.int .i64 nu,.int .i64 R,.string st]:=by
       rw[take_add_one,cC.1,map_append,flatMap_append,<-cC.2];simp
      have hb:=aY.size;have bi:=HJ.2.1.size;refine⟨j+1,A2,dP,qo,by go_num,rfl,by rw[eh];exact HO.1,(HJ.2.1.then aY.out).trans HO.2.1 (λq hq=>.inr (HJ.2.2 q hq)),λq hq=>?_⟩
      rcases HO.2.2 q hq with h|h
      ·exact HJ.2.2 q h
      ·omega
     case measure=>simp[intOf];omega
    ·obtain rfl:j=nr:=qo
     have ci:=gr HX.2.1.1;have bo:=HJ.1;rw[take_of_length_le (by rw[HX.2.2.2.1];omega)]at bo;have dO:=Hd (Cn j nc NA (x.a.r.map CH.n) wr (by rw[length_map,HX.2.2.2.1]) bo.rd (Aq ci.1) (xP ci.1) qo);clear ci bo
     go_upto_region 17 with((go_at_call 102;(with_reducible refine dO.out.mono ?_);rintro e Z2 ⟨SA,sc,rfl,av,dz,dy⟩;have cE:=Hd (An av (An dz dy));clear av dz dy))
     go_loopw [64] (λct W=>∃(q:Nat) (R1 R2:List LR),q<=j/\ct=.int .i64 (q:Int)/\GS W g m A B n KN (i+1) cN cu R1 R2 er/\BoxN W af 91 #[.int .i64 x.a.k.rnd,.int .i64 x.a.k.phase,.int .i64 x.a.k.idx,.string x.sl,.slice x.A j x.c,.slice x.B nw x.d]/\Fr [] w W/\(∀k∈GB g m A B KN R1 R2 er,w.heap.size<=k)/\Own W 31 5 SA j sc ((x.a.r.map CH.n).flatMap ON.cs)/\(∀k r,R1[k]?=some r->r.xs=if k<i then ux (ys.map AX.a) k else if k=i then(ux (ys.map AX.a) i).take q else [])/\∀r∈R2,r.xs.length<=10*i+q) (λi _=>j - (intOf i).toNat)
     case atStart =>
      have f0:=HJ.2.1.then cE.2.1
      exact⟨0,Rl,Ru,Nat.zero_le _,rfl,bf.1.fr0 f0,bf.2.1.fr f0 qs,bf.2.2.1.then f0,bf.2.2.2,cE.1,λk r hr=>by
       rw[ah.1.lk k r hr]
       by_cases Y:k<i
       ·simp[Y]
       ·simp[Y],λr hr=>by have:=ah.1.us r hr;omega⟩
     case round =>
      obtain⟨q,R1,R2,hq,rfl,au,bL,aI,aM,av,bW,b0⟩:=hrel
      by_cases ef:q<j
      ·have ey:(q:Int)<(j:Int):=qo
       have eF:IntKind.i64.wrap (q:Int)=(q:Int):=by simp only[IntKind.wrap_i64];omega
       obtain⟨sg,rfl,br⟩:=Cs.of_own av qo;obtain⟨d,hd⟩:∃d,x.a.r[q]?=some d:=⟨_,gg (by rw[HX.2.2.2.1];exact ef)⟩;have bS:(x.a.r.map CH.n)[q]?=some d.n:=by rw[List.getElem?_map,hd];rfl
       have bj:=Aq (gr HX.2.1.1).1 d.n (gH bS);have⟨nq,cm⟩:=eR (d.n);rw[cm]at bS bj;have ad:=λo (ho:o<5)=>ia pq bS ho;have⟨so,bY,_,_⟩:=eS nq.owner;have⟨st,az,_,_⟩:=eS nq.text;unfold ON.cs at ad;rw[bY,az]at ad;have bk:=gc bY az;have ch:∀f:Int,(LK.mk f i nq).cs=[.int .i64 f,.int .i64 (i:Int),.int .i64 nq.kind,.string so,.int .i64 nq.number,.int .i64 nq.index,.string st]:=λf=>by unfold LK.cs;rw[bY,az]
       have⟨k,Y⟩:=eR (nq.kind);have⟨nu,a9⟩:=eR (nq.number);have⟨R,a7⟩:=eR (nq.index);rw[Y,a9,a7]at ad bk;simp only[Y,a9,a7]at ch;have y0:wr.cell? ⟨sg,q*5,none⟩=some (.int .i64 k):=br.2 _ _ (ad 0 qo);have y1:wr.cell? ⟨sg,q*5+1,none⟩=some (.string so):=br.2 _ _ (ad 1 qo);have y2:wr.cell? ⟨sg,q*5+2,none⟩=some (.int .i64 nu):=br.2 _ _ (ad 2 qo);have y3:wr.cell? ⟨sg,q*5+3,none⟩=some (.int .i64 R):=br.2 _ _ (ad 3 qo);have y4:wr.cell? ⟨sg,q*5+4,none⟩=some (.string st):=br.2 _ _ (ad 4 qo);have HQ:=Hd (An hd (An cm (An bj bk)));have dM:=Hd ch;have X:=Hd (An au (An bL (An aI (An aM (An av (An bW b0))))));clear hd bS bj cm ad bY az bk ch Y a9 a7 au bL aI aM av bW b0 br;have⟨D4,cJ,cq,n4,f4⟩:=ir wr #[.int .i64 k,.string so,.int .i64 nu,.int .i64 R,.string st] 31 wr.heap.size
       go_upto_region 19 with fail
       try rw[cJ]
       have⟨NB,ca⟩:=eR (wr.heap.size);rw[ca]at n4 cq ⊢;have be:=Hd n4;have dK:=Hd (An f4 (An cq ca));have bt:=Hd (X.1.fr0 f4);clear y0 y1 y2 y3 y4 n4 f4 cq cJ ca;have⟨fq,bE⟩:=eR (oU (Ar ((ys.map AX.a).take i) nq))
       have dH:∀a∈(ys.map AX.a).take i,a.w.length<=10:=λa ha=>by
        obtain⟨y,V,rfl⟩:=mem_map.1 (mem_of_mem_take ha);exact(aR.2.1.wf y V).2.2.2
       have bZ:((ys.map AX.a).take i).length<=i:=by rw[length_take];omega
       have cX:∀W,Fr [] D4 W->Calls prog 104 #[.pointer (some ⟨g,0,none⟩),.agg #[.int .i64 k,.string so,.int .i64 nu,.int .i64 R,.string st],.int .i64 (i:Int)] W (fi W (.int .i64 fq)):=λW hW=>by
        have h:=EH g m _ _ _ er nq (i:Int) W (bt.fr0 hW).box (bt.fr0 hW).wm HQ.2.2.1 (λv hv=>by rw[ah.1.wr]at hv;have:=zp nq v hv;omega) (by rw[ah.1.wr];have:=As nq dH;omega);rw[ah.1.wr,bE,HQ.2.2.2]at h;exact h
       have dY:fq=-1 \/ ∃v:Nat,v<i/\fq=(v:Int):=by
        rcases qx (Ar ((ys.map AX.a).take i) nq)with h|⟨v,hv,h⟩
        ·exact .inl (by rw[<-bE];exact h)
        ·exact .inr ⟨v,by have:=zp nq v hv;omega,by rw[<-bE];exact h⟩
       have b3:=Hd cX;have dL:=Hd bE;have HSS:=Hd (λ(W:World) (hW:Fr [] D4 W)=>(show W.cell? ⟨NB,0,none⟩=some (.int .i64 k)/\W.cell? ⟨NB,1,none⟩=some (.string so)/\W.cell? ⟨NB,2,none⟩=some (.int .i64 nu)/\W.cell? ⟨NB,3,none⟩=some (.int .i64 R)/\W.cell? ⟨NB,4,none⟩=some (.string st)from⟨(be.fr hW qs).c 0,(be.fr hW qs).c 1,(be.fr hW qs).c 2,(be.fr hW qs).c 3,(be.fr hW qs).c 4⟩));clear cX bE dH bZ;have t:Fr [] D4 D4.drew:=(Fq _ D4).drew;refine jw (a:=?b5) (λa' W'=>∃D,a'={ tmps:=((((((((Act.tmps ?b5).setIfInBounds 68 (.pointer (some ⟨g,0,none⟩))).setIfInBounds 69 (.agg #[.int .i64 k,.string so,.int .i64 nu,.int .i64 R,.string st])).setIfInBounds 70 (.int .i64 (i:Int))).setIfInBounds 71 (.int .i64 fq)).setIfInBounds 72 (.int .i64 (i:Int))).setIfInBounds 73 (.agg #[.int .i64 k,.string so,.int .i64 nu,.int .i64 R,.string st])).setIfInBounds 74 (.agg #[.int .i64 fq,.int .i64 (i:Int),.int .i64 k,.string so,.int .i64 nu,.int .i64 R,.string st])).setIfInBounds 12 (.pointer (some ⟨D,0,none⟩)),defers:=[] }/\BoxN W' D 98 #[.int .i64 fq,.int .i64 (i:Int),.int .i64 k,.string so,.int .i64 nu,.int .i64 R,.string st]/\Fr [] D4 W'/\D4.heap.size<=D) ?_ ?_
       ·refine eU (λW=>Fr [] D4 W) 8 qk ?_ qd
        show fc 0 ..
        iterate 3 (refine gJ rfl ?_;try simp only[qq])
        show fc 4 ..
        iterate 2 (refine gJ rfl ?_;try simp only[qq])
        refine iy (i:=3) (j:=7) qk qd qd rfl rfl (λK b=>?_) (λK b=>?_)
        ·rw[if_pos qr]
         go_simp
         go_at_call 104
         (with_reducible refine(b3.out _ t).mono ?_);rintro e E1 ⟨rfl,hf⟩;have aH:=t.then hf;refine b _ _ aH ?_;clear b K t hf
         try simp only[qq]
         have t:=aH
         show fc 6 ..
         refine gJ rfl ?_;try simp only[qq];refine hO (i:=7) rfl λK b=>?_;go_simp
         have⟨E2,cO,n2,f2⟩:=kJ E1 #[.int .i64 0,.int .i64 0,.int .i64 0,.string ⟨#[]⟩,.int .i64 0,.int .i64 0,.string ⟨#[]⟩] 98;have bh:=aH.then f2;have hD:D4.heap.size<=E1.heap.size:=aH.size;rw[cO];refine b _ _ bh ?_;clear b K cO t aH f2
         try simp only[qq]
         refine eV ⟨qk,?_⟩;simp only[qG,qH];have⟨u0,u1,u2,u3,u4,u5,u6⟩:=n2.m7;have v0:=n2.f 0;have v1:=n2.f 1;have v2:=n2.f 2;have v3:=n2.f 3;have v4:=n2.f 4;have v5:=n2.f 5;have v6:=n2.f 6
         go_wp2
         exact⟨_,rfl,((((((n2.setAt 0 _).setAt 1 _).setAt 2 _).setAt 3 _).setAt 4 _).setAt 5 _).setAt 6 _,((((((bh.set (.inr hD) _).set (.inr hD) _).set (.inr hD) _).set (.inr hD) _).set (.inr hD) _).set (.inr hD) _).set (.inr hD) _,hD⟩
        ·rw[if_pos qr]
         go_simp
         have⟨E1,cM,n1,aH⟩:=vC D4 #[.int .i64 0,.int .i64 0,.int .i64 0,.string ⟨#[]⟩,.int .i64 0,.int .i64 0,.string ⟨#[]⟩] 98;rw[cM];refine b _ _ aH ?_;clear b K cM t
         try simp only[qq]
         refine hO (i:=3) rfl λK b=>?_;go_simp
         go_at_call 104
         (with_reducible refine(b3.out _ aH).mono ?_);rintro e E2 ⟨rfl,hf⟩;have bh:=aH.then hf;have n2:=n1.fr hf qs;have hD:D4.heap.size<=D4.heap.size:=fW _;refine b _ _ bh ?_;clear b K aH hf n1
         try simp only[qq]
         have t:=bh
         show fc 6 ..
         refine gJ rfl ?_;try simp only[qq];refine eV ⟨qk,?_⟩;simp only[qG,qH];have⟨u0,u1,u2,u3,u4,u5,u6⟩:=n2.m7;have v0:=n2.f 0;have v1:=n2.f 1;have v2:=n2.f 2;have v3:=n2.f 3;have v4:=n2.f 4;have v5:=n2.f 5;have v6:=n2.f 6
         go_wp2
         exact⟨_,rfl,((((((n2.setAt 0 _).setAt 1 _).setAt 2 _).setAt 3 _).setAt 4 _).setAt 5 _).setAt 6 _,((((((bh.set (.inr hD) _).set (.inr hD) _).set (.inr hD) _).set (.inr hD) _).set (.inr hD) _).set (.inr hD) _).set (.inr hD) _,hD⟩
       rintro a' E ⟨D,rfl,cK,cf,dT⟩;simp only[qA,qB,qC];have aP:=Hd (bt.fr0 cf);have cj:=bt.lt;have aj:=Hd (An cK (show ∀y∈GB g m A B KN R1 R2 er,y≠D from λy V e=>by have:=cj y V;omega));have cx:=Hd (dK.1.then cf);have cA:=Hd (dM.out fq);clear t HSS b3 bt be cK cf dT cj
       go_upto_region 20 with fail
       have⟨ep,P,eq,cR,dn,ap⟩:=pO (rs:=R1) (k:=i) (by rw[aP.ln.1];omega);have ay:P∈R1:=gH ap;have aw:Own E 98 7 P.A P.xs.length P.c (P.xs.flatMap LK.cs):=aP.rl.own P ay;have ax:=aP.box;have ba:=aP.rl.box;have ak:=aj.1;have bX:P.xs.length<=1000:=by rw[X.2.2.2.2.2.1 i P ap,if_neg (Nat.lt_irrefl i),if_pos rfl,length_take];omega
       have bI:g ∉ eX P.A:=λhm=>by
        have:=NoT.own (ts:=[205]) aw qd g hm _ _ _ ax;simp at this
       have bx:A ∉ eX P.A:=λhm=>aP.rl.nB (mem_flatMap.2 ⟨P,ay,hm⟩);have a4:D ∉ eX P.A:=λhm=>aj.2 D (by simp only[GB,mem_cons,mem_append];exact .inr (.inr (.inr (.inr (.inr (.inl (mem_flatMap.2 ⟨P,ay,hm⟩))))))) rfl;have ar:=Hd (An ap (An cR (An dn ay)));have HSS:=Hd (λ(W:World) (hW:W.cell? ⟨g,1,none⟩=some (.slice (some ⟨A,0,none⟩) n n)/\W.cell? ⟨A,i,none⟩=some (.slice P.A P.xs.length P.c)/\W.cell? ⟨D,0,none⟩=some (.int .i64 fq)/\W.cell? ⟨D,1,none⟩=some (.int .i64 (i:Int))/\W.cell? ⟨D,2,none⟩=some (.int .i64 k)/\W.cell? ⟨D,3,none⟩=some (.string so)/\W.cell? ⟨D,4,none⟩=some (.int .i64 nu)/\W.cell? ⟨D,5,none⟩=some (.int .i64 R)/\W.cell? ⟨D,6,none⟩=some (.string st))=>hW);have t:(λW:World=>W.cell? ⟨g,1,none⟩=some (.slice (some ⟨A,0,none⟩) n n)/\W.cell? ⟨A,i,none⟩=some (.slice P.A P.xs.length P.c)/\W.cell? ⟨D,0,none⟩=some (.int .i64 fq)/\W.cell? ⟨D,1,none⟩=some (.int .i64 (i:Int))/\W.cell? ⟨D,2,none⟩=some (.int .i64 k)/\W.cell? ⟨D,3,none⟩=some (.string so)/\W.cell? ⟨D,4,none⟩=some (.int .i64 nu)/\W.cell? ⟨D,5,none⟩=some (.int .i64 R)/\W.cell? ⟨D,6,none⟩=some (.string st)) E.drew:=⟨ax.c 1,oV ba ap,ak.c 0,ak.c 1,ak.c 2,ak.c 3,ak.c 4,ak.c 5,ak.c 6⟩;refine eU (λW:World=>W.cell? ⟨g,1,none⟩=some (.slice (some ⟨A,0,none⟩) n n)/\W.cell? ⟨A,i,none⟩=some (.slice P.A P.xs.length P.c)/\W.cell? ⟨D,0,none⟩=some (.int .i64 fq)/\W.cell? ⟨D,1,none⟩=some (.int .i64 (i:Int))/\W.cell? ⟨D,2,none⟩=some (.int .i64 k)/\W.cell? ⟨D,3,none⟩=some (.string so)/\W.cell? ⟨D,4,none⟩=some (.int .i64 nu)/\W.cell? ⟨D,5,none⟩=some (.int .i64 R)/\W.cell? ⟨D,6,none⟩=some (.string st)) 16 qk ?_ qd
       show fc 0 ..
       iterate 13 (refine gJ rfl ?_;try simp only[qq])
       refine hO (i:=13) rfl λK b=>?_;go_simp
       have⟨G1,bB,n1,f1⟩:=vC E #[.int .i64 fq,.int .i64 (i:Int),.int .i64 k,.string so,.int .i64 nu,.int .i64 R,.string st] 98;rw[bB];have a6:=ax.fr f1 qs;have bb:=ba.fr f1 qs;have al:=ak.fr f1 qs;refine b _ _ ⟨a6.c 1,oV bb ap,al.c 0,al.c 1,al.c 2,al.c 3,al.c 4,al.c 5,al.c 6⟩ ?_;clear b K bB t
       try simp only[qq]
       refine hO (i:=14) rfl λK b=>?_;obtain⟨ii,aC,aD,aE,aF⟩:=pK;refine ja (.tmp 86) (.tmp 88) 61 rfl 98 ii _ 7 72 underlying61 aC aD aE aF rfl qd P.A P.xs.length P.c (P.xs.flatMap LK.cs) rfl (aw.fr f1 qs) ⟨E.heap.size,0,none⟩ 1 1 [.int .i64 fq,.int .i64 (i:Int),.int .i64 k,.string so,.int .i64 nu,.int .i64 R,.string st] rfl rfl (λj u hu=>by rw[fV,n1.c j];simpa using hu) (by simp[Value.oneCell']) (by unfold maxLen;omega) qo ?_;intro LA lc G2 aW an bw;have bC:=a6.fr an bI;have aN:=bb.fr an bx;have am:=al.fr an a4;have t:(λW:World=>W.cell? ⟨g,1,none⟩=some (.slice (some ⟨A,0,none⟩) n n)/\W.cell? ⟨A,i,none⟩=some (.slice P.A P.xs.length P.c)/\W.cell? ⟨D,0,none⟩=some (.int .i64 fq)/\W.cell? ⟨D,1,none⟩=some (.int .i64 (i:Int))/\W.cell? ⟨D,2,none⟩=some (.int .i64 k)/\W.cell? ⟨D,3,none⟩=some (.string so)/\W.cell? ⟨D,4,none⟩=some (.int .i64 nu)/\W.cell? ⟨D,5,none⟩=some (.int .i64 R)/\W.cell? ⟨D,6,none⟩=some (.string st)) G2:=⟨bC.c 1,oV aN ap,am.c 0,am.c 1,am.c 2,am.c 3,am.c 4,am.c 5,am.c 6⟩;refine b _ _ t ?_;clear b K
       try simp only[qq]
       show fc 15 ..
       refine gJ rfl ?_;try simp only[qq];refine eV ⟨qk,?_⟩;simp only[qG,qH];have q0:G2.cell? ⟨A,i,none⟩=some (.slice P.A P.xs.length P.c):=oV aN ap;have q1:=aN.f i;have aT:∀y∈eX LA,y∈eX P.A \/ E.heap.size<=y:=λy V=>(bw y V).imp id (λh=>Nat.le_trans f1.size h);have aA:=Hd (An aW (An aT (An ((f1.mono qs).then an:Fr (eX P.A) E G2) am)));have bs:=Hd a4;clear ap ay aw ax ba ak bX bI bx a4 cR dn t n1 f1 a6 bb al aW an bw aT bC aN am HSS aD aE aF aC
       go_upto_region 21 with fail
       have⟨E2,a5⟩:=eR (G2.setCell ⟨A,i,none⟩ (.slice LA (P.xs.length+1) lc));have a8:=aP.rl;rw[ar.2.1]at a8;have aK:=aA.1;rw[<-cA.out]at aK;have ag:=RL.put (w2:=E2) (x:=LK.mk fq i nq) a8 aA.2.2.1 aK aA.2.1 (by simp only[ar.2.2.1];exact a5);have⟨R3,bQ⟩:=eR (ep++LR.mk LA lc (P.xs++[LK.mk fq i nq])::eq);rw[bQ]at ag
       have bJ:R3.length=n:=by
        have h1:=aP.ln.1;rw[ar.2.1]at h1;rw[<-bQ];simpa using h1
       have au:=aP.putL ag.2.1 ar.2.2.2 ag.1 (by rw[<-ar.2.1]at ag;exact ag.2.2) bJ;have bz:D≠A:=λe=>aj.2 D (by simp[GB,e]) rfl;have bA:BoxN E2 D 98 #[.int .i64 fq,.int .i64 (i:Int),.int .i64 k,.string so,.int .i64 nu,.int .i64 R,.string st]:=aj.1.fr ag.2.1 (by simp only[mem_cons,not_or];exact⟨bz,bs.out⟩);have bN:=ag.2.1.size;have aG:=Hd (An au (An ag.2.1 (An ag.2.2 (An bQ bA))));have aZ:=Hd (An ar.out aA.2.1)
       try rw[a5]
       clear a5 a8 aK ag bJ au bz bA bN bQ aA ar bs q0 q1;have aQ:=Hd aG.1;have dS:=aj.1.lt
       have cI:∀y∈GB g m A B KN R3 R2 er,y≠D:=λy V e=>by
        simp only[GB,mem_cons,mem_append]at V
        rcases V with h|h|h|h|h|h|h|h
        ·exact aj.2 y (by simp[GB,h]) e
        ·exact aj.2 y (by simp[GB,h]) e
        ·exact aj.2 y (by simp[GB,h]) e
        ·exact aj.2 y (by simp[GB,h]) e
        ·exact aj.2 y (by simp[GB,h]) e
        ·rcases aG.2.2.1 y h with h2|h2
         ·rw[<-aZ.1.2.1]at h2
          exact aj.2 y (by simp[GB,h2]) e
         ·omega
        ·exact aj.2 y (by simp[GB,h]) e
        ·exact aj.2 y (by simp[GB,h]) e
       have dh:∀y∈GB g m A B KN R3 R2 er,w.heap.size<=y:=λy V=>by
        simp only[GB,mem_cons,mem_append]at V;have eg:=X.2.2.1.size;have eB:=cx.size
        rcases V with h|h|h|h|h|h|h|h
        ·exact X.2.2.2.1 y (by simp[GB,h])
        ·exact X.2.2.2.1 y (by simp[GB,h])
        ·exact X.2.2.2.1 y (by simp[GB,h])
        ·exact X.2.2.2.1 y (by simp[GB,h])
        ·exact X.2.2.2.1 y (by simp[GB,h])
        ·rcases aG.2.2.1 y h with h2|h2
         ·rw[<-aZ.1.2.1]at h2
          exact X.2.2.2.1 y (by simp[GB,h2])
         ·omega
        ·exact X.2.2.2.1 y (by simp[GB,h])
        ·exact X.2.2.2.1 y (by simp[GB,h])
       have bT:Fr (GB g m A B KN R1 R2 er) wr E2:=(cx.mono qs).trans aG.2.1 (λy V=>.inl (by
        rcases mem_cons.1 V with h|h
        ·simp[GB,h]
        ·have:y∈ka R1:=mem_flatMap.2 ⟨P,aZ.1.2.2.2,h⟩
         simp[GB,this]))
       have dv:=X.2.1.frT bT X.1.noS qs;have dA:=Own.frT X.2.2.2.2.1 bT (X.1.noT (ts:=[31]) qd qd qd qd qd) qs;have dc:Fr [] w E2:=X.2.2.1.trans bT (λy V=>.inr (X.2.2.2.1 y V))
       have bn:(ux (ys.map AX.a) i).take (q+1)=(ux (ys.map AX.a) i).take q++[LK.mk fq i nq]:=by
        have h1:(ys.map AX.a)[i]?=some x.a:=by rw[List.getElem?_map,HX.1];rfl
        have h2:ux (ys.map AX.a) i=x.a.r.map λc=>⟨oU (Ar ((ys.map AX.a).take i) c.n),i,c.n⟩:=by unfold ux;rw[h1]
        rw[take_add_one,h2,List.getElem?_map,HQ.1];simp[HQ.2.1,dL.out]
       have dm:∀k r,R3[k]?=some r->r.xs=if k<i then ux (ys.map AX.a) k else if k=i then(ux (ys.map AX.a) i).take (q+1)else []:=λk r hr=>by
        rw[<-aG.2.2.2.1]at hr
        rcases Gm (r:=P) hr with⟨Y,hr⟩|⟨Y,hr⟩
        ·rw[aZ.1.2.2.1]at Y
         subst Y;rw[hr,if_neg (Nat.lt_irrefl k),if_pos rfl,bn,X.2.2.2.2.2.1 k P aZ.1.1,if_neg (Nat.lt_irrefl k),if_pos rfl]
        ·rw[aZ.1.2.2.1]at Y
         rw[<-aZ.1.2.1]at hr;rw[X.2.2.2.2.2.1 k r hr,if_neg Y,if_neg Y]
       have H3:=Hd (An dv (An dc (An dh (An dA (An dm cI)))));clear dv dc dh dA dm bn bT dS cI;have l0:=aG.2.2.2.2.k0
       rcases dY with rfl|⟨v,eD,rfl⟩
       ·go_wp2
        go_roundw
        case rel=>exact⟨q+1,R3,R2,qo,by go_num,aG.1,H3.1,H3.2.1,H3.2.2.1,H3.2.2.2.1,H3.2.2.2.2.1,λr hr=>by have:=X.2.2.2.2.2.2 r hr;omega⟩
        case measure=>simp[intOf];omega
       ·have eC:(0:Int)<=(v:Int):=qo
        have eG:IntKind.i64.wrap (v:Int)=(v:Int):=by simp only[IntKind.wrap_i64];omega
        have ed:(v:Int)<(n:Int):=qo
        clear aj;have aj:=Hd (An aG.2.2.2.2 H3.2.2.2.2.2)
        go_upto_region 22 with fail
        clear l0;have⟨es,Q,et,cS,dp,ap⟩:=pO (rs:=R2) (k:=v) (by rw[aQ.ln.2];omega);have ay:Q∈R2:=gH ap;have aw:Own E2 98 7 Q.A Q.xs.length Q.c (Q.xs.flatMap LK.cs):=aQ.ru.own Q ay;have ax:=aQ.box;have ba:=aQ.ru.box;have ak:=aj.1;have bX:Q.xs.length<=1000:=by have:=X.2.2.2.2.2.2 Q ay;omega
        have bI:g ∉ eX Q.A:=λhm=>by
         have:=NoT.own (ts:=[205]) aw qd g hm _ _ _ ax;simp at this
        have bx:B ∉ eX Q.A:=λhm=>aQ.ru.nB (mem_flatMap.2 ⟨Q,ay,hm⟩);have a4:D ∉ eX Q.A:=λhm=>aj.2 D (by simp only[GB,mem_cons,mem_append];exact .inr (.inr (.inr (.inr (.inr (.inr (.inl (mem_flatMap.2 ⟨Q,ay,hm⟩)))))))) rfl;have ar:=Hd (An ap (An cS (An dp ay)));have HSS:=Hd (λ(W:World) (hW:W.cell? ⟨g,2,none⟩=some (.slice (some ⟨B,0,none⟩) n n)/\W.cell? ⟨B,v,none⟩=some (.slice Q.A Q.xs.length Q.c)/\W.cell? ⟨D,0,none⟩=some (.int .i64 (v:Int))/\W.cell? ⟨D,1,none⟩=some (.int .i64 (i:Int))/\W.cell? ⟨D,2,none⟩=some (.int .i64 k)/\W.cell? ⟨D,3,none⟩=some (.string so)/\W.cell? ⟨D,4,none⟩=some (.int .i64 nu)/\W.cell? ⟨D,5,none⟩=some (.int .i64 R)/\W.cell? ⟨D,6,none⟩=some (.string st))=>hW);have t:(λW:World=>W.cell? ⟨g,2,none⟩=some (.slice (some ⟨B,0,none⟩) n n)/\W.cell? ⟨B,v,none⟩=some (.slice Q.A Q.xs.length Q.c)/\W.cell? ⟨D,0,none⟩=some (.int .i64 (v:Int))/\W.cell? ⟨D,1,none⟩=some (.int .i64 (i:Int))/\W.cell? ⟨D,2,none⟩=some (.int .i64 k)/\W.cell? ⟨D,3,none⟩=some (.string so)/\W.cell? ⟨D,4,none⟩=some (.int .i64 nu)/\W.cell? ⟨D,5,none⟩=some (.int .i64 R)/\W.cell? ⟨D,6,none⟩=some (.string st)) E2.drew:=⟨ax.c 2,oV ba ap,ak.c 0,ak.c 1,ak.c 2,ak.c 3,ak.c 4,ak.c 5,ak.c 6⟩;refine eU (λW:World=>W.cell? ⟨g,2,none⟩=some (.slice (some ⟨B,0,none⟩) n n)/\W.cell? ⟨B,v,none⟩=some (.slice Q.A Q.xs.length Q.c)/\W.cell? ⟨D,0,none⟩=some (.int .i64 (v:Int))/\W.cell? ⟨D,1,none⟩=some (.int .i64 (i:Int))/\W.cell? ⟨D,2,none⟩=some (.int .i64 k)/\W.cell? ⟨D,3,none⟩=some (.string so)/\W.cell? ⟨D,4,none⟩=some (.int .i64 nu)/\W.cell? ⟨D,5,none⟩=some (.int .i64 R)/\W.cell? ⟨D,6,none⟩=some (.string st)) 18 qk ?_ qd
        show fc 0 ..
        iterate 15 (refine gJ rfl ?_;try simp only[qq])
        refine hO (i:=15) rfl λK b=>?_;go_simp
        have⟨G1,bB,n1,f1⟩:=vC E2 #[.int .i64 (v:Int),.int .i64 (i:Int),.int .i64 k,.string so,.int .i64 nu,.int .i64 R,.string st] 98;rw[bB];have a6:=ax.fr f1 qs;have bb:=ba.fr f1 qs;have al:=ak.fr f1 qs;refine b _ _ ⟨a6.c 2,oV bb ap,al.c 0,al.c 1,al.c 2,al.c 3,al.c 4,al.c 5,al.c 6⟩ ?_;clear b K bB t
        try simp only[qq]
        refine hO (i:=16) rfl λK b=>?_;obtain⟨ii,aC,aD,aE,aF⟩:=pK;refine ja (.tmp 107) (.tmp 109) 61 rfl 98 ii _ 7 72 underlying61 aC aD aE aF rfl qd Q.A Q.xs.length Q.c (Q.xs.flatMap LK.cs) rfl (aw.fr f1 qs) ⟨E2.heap.size,0,none⟩ 1 1 [.int .i64 (v:Int),.int .i64 (i:Int),.int .i64 k,.string so,.int .i64 nu,.int .i64 R,.string st] rfl rfl (λj u hu=>by rw[fV,n1.c j];simpa using hu) (by simp[Value.oneCell']) (by unfold maxLen;omega) qo ?_;intro LA lc G2 aW an bw;have bC:=a6.fr an bI;have aN:=bb.fr an bx;have am:=al.fr an a4;have t:(λW:World=>W.cell? ⟨g,2,none⟩=some (.slice (some ⟨B,0,none⟩) n n)/\W.cell? ⟨B,v,none⟩=some (.slice Q.A Q.xs.length Q.c)/\W.cell? ⟨D,0,none⟩=some (.int .i64 (v:Int))/\W.cell? ⟨D,1,none⟩=some (.int .i64 (i:Int))/\W.cell? ⟨D,2,none⟩=some (.int .i64 k)/\W.cell? ⟨D,3,none⟩=some (.string so)/\W.cell? ⟨D,4,none⟩=some (.int .i64 nu)/\W.cell? ⟨D,5,none⟩=some (.int .i64 R)/\W.cell? ⟨D,6,none⟩=some (.string st)) G2:=⟨bC.c 2,oV aN ap,am.c 0,am.c 1,am.c 2,am.c 3,am.c 4,am.c 5,am.c 6⟩;refine b _ _ t ?_;clear b K
        try simp only[qq]
        show fc 17 ..
        refine gJ rfl ?_;try simp only[qq];refine eV ⟨qk,?_⟩;simp only[qG,qH];have q0:G2.cell? ⟨B,v,none⟩=some (.slice Q.A Q.xs.length Q.c):=oV aN ap;have q1:=aN.f v;have aT:∀y∈eX LA,y∈eX Q.A \/ E2.heap.size<=y:=λy V=>(bw y V).imp id (λh=>Nat.le_trans f1.size h);have aA:=Hd (An aW (An aT (An ((f1.mono qs).then an:Fr (eX Q.A) E2 G2) am)));have bs:=Hd a4;clear ap ay aw ax ba ak bX bI bx a4 cS dp t n1 f1 a6 bb al aW an bw aT bC aN am HSS aD aE aF aC
        go_upto_region 23 with fail
        have⟨E3,a5⟩:=eR (G2.setCell ⟨B,v,none⟩ (.slice LA (Q.xs.length+1) lc));have a8:=aQ.ru;rw[ar.2.1]at a8;have aK:=aA.1;rw[<-cA.out]at aK;have ag:=RL.put (w2:=E3) (x:=LK.mk (v:Int) i nq) a8 aA.2.2.1 aK aA.2.1 (by simp only[ar.2.2.1];exact a5);have⟨R4,bR⟩:=eR (es++LR.mk LA lc (Q.xs++[LK.mk (v:Int) i nq])::et);rw[bR]at ag
        have bJ:R4.length=n:=by
         have h1:=aQ.ln.2;rw[ar.2.1]at h1;rw[<-bR];simpa using h1
        have au:=aQ.putU ag.2.1 ar.2.2.2 ag.1 (by rw[<-ar.2.1]at ag;exact ag.2.2) bJ;have bz:D≠B:=λe=>aj.2 D (by simp[GB,e]) rfl;have bA:BoxN E3 D 98 #[.int .i64 (v:Int),.int .i64 (i:Int),.int .i64 k,.string so,.int .i64 nu,.int .i64 R,.string st]:=aj.1.fr ag.2.1 (by simp only[mem_cons,not_or];exact⟨bz,bs.out⟩);have bN:=ag.2.1.size;have bO:=Hd (An au (An ag.2.1 (An ag.2.2 (An bR bA))));have bu:=Hd (An ar.out aA.2.1)
        try rw[a5]
        clear a5 a8 aK ag bJ au bz bA bN bR aA ar bs q0 q1
        have bG:∀y∈GB g m A B KN R3 R4 er,w.heap.size<=y:=λy V=>by
         simp only[GB,mem_cons,mem_append]at V;have eg:=H3.2.1.size
         rcases V with h|h|h|h|h|h|h|h
         ·exact H3.2.2.1 y (by simp[GB,h])
         ·exact H3.2.2.1 y (by simp[GB,h])
         ·exact H3.2.2.1 y (by simp[GB,h])
         ·exact H3.2.2.1 y (by simp[GB,h])
         ·exact H3.2.2.1 y (by simp[GB,h])
         ·exact H3.2.2.1 y (by simp[GB,h])
         ·rcases bO.2.2.1 y h with h2|h2
          ·rw[<-bu.1.2.1]at h2
           exact H3.2.2.1 y (by simp[GB,h2])
          ·omega
         ·exact H3.2.2.1 y (by simp[GB,h])
        have bU:Fr (GB g m A B KN R3 R2 er) E2 E3:=bO.2.1.mono (λy V=>.inl (by
         rcases mem_cons.1 V with h|h
         ·simp[GB,h]
         ·have:y∈ka R2:=mem_flatMap.2 ⟨Q,bu.1.2.2.2,h⟩
          simp[GB,this]))
        have dw:=H3.1.frT bU aG.1.noS qs;have dB:=Own.frT H3.2.2.2.1 bU (aG.1.noT (ts:=[31]) qd qd qd qd qd) qs;have bF:Fr [] w E3:=H3.2.1.trans bU (λy V=>.inr (H3.2.2.1 y V))
        have dE:∀r∈R4,r.xs.length<=10*i+(q+1):=λr hr=>by
         rw[<-bO.2.2.2.1]at hr;have hb:=X.2.2.2.2.2.2 Q bu.1.2.2.2
         rcases mem_append.1 hr with h|h
         ·have:=X.2.2.2.2.2.2 r (by rw[bu.1.2.1];simp[h]);omega
         ·rcases mem_cons.1 h with rfl|h
          ·simp only[gu,length_cons,length_nil]
           omega
          ·have:=X.2.2.2.2.2.2 r (by rw[bu.1.2.1];simp[h]);omega
        have H4:=Hd (An dw (An bF (An bG (An dB dE))));clear dw bF bG dB dE bU
        go_wp2
        go_roundw
        case rel=>exact⟨q+1,R3,R4,qo,by go_num,bO.1,H4.1,H4.2.1,H4.2.2.1,H4.2.2.2.1,H3.2.2.2.2.1,H4.2.2.2.2⟩
        case measure=>simp[intOf];omega
      ·obtain rfl:q=j:=qo
       have X:=Hd (An au (An bL (An aI (An aM (An bW b0)))));have r5:=bL.k5;clear au bL aI aM av bW b0
       go_wp2
       clear r5
       go_loopw [116] (λct W=>∃(p:Nat) (e2:List (NE ON Nat)),p<=nw/\ct=.int .i64 (p:Int)/\GS W g m A B n KN (i+1) cN cu R1 R2 e2/\Fr [] w W/\(∀k∈GB g m A B KN R1 R2 e2,w.heap.size<=k)/\∀y,gM e2 y=Ar ((ys.map AX.a).take i) y++(i8 i y (x.a.w.take p)).map VX.i) (λi _=>nw - (intOf i).toNat)
       case atStart=>exact⟨0,er,Nat.zero_le _,rfl,X.1,X.2.2.1,X.2.2.2.1,λy=>by rw[ah.1.wr];simp[i8]⟩
       case round =>
        obtain⟨p,e2,hp,rfl,au,aI,aM,bV⟩:=hrel
        by_cases ee:p<nw
        ·have ed:(p:Int)<(nw:Int):=qo
         have aX:=(aR.1.ok x (gH HX.1)).fr0 aI;have aO:=aX.chw;unfold Chs Rd at aO;rw[HX.2.2.2.2]at aO;have⟨b5,off,hB,cc,bD⟩:=fK i9 aO qo;obtain⟨d,hd⟩:∃d,x.a.w[p]?=some d:=⟨_,gg (by rw[HX.2.2.2.2];exact ee)⟩;have bj:=ox (gG (gr HX.2.1.1).2 d (gH hd));have⟨kl,eb⟩:=gx bj.1;have ad:=bD p d hd;have⟨so,av,_,_⟩:=eS d.n.owner;have⟨st,az,_,_⟩:=eS d.n.text;have⟨sv,bM,_,_⟩:=eS d.v;have⟨k,Y⟩:=eR (d.n.kind);have⟨nu,a9⟩:=eR (d.n.number);have⟨R,a7⟩:=eR (d.n.index);have⟨b4,c0⟩:=eR (d.a);have bk:fu d.n=.agg #[.int .i64 k,.string so,.int .i64 nu,.int .i64 R,.string st]:=by rw[gc av az,Y,a9,a7]
         unfold CH.cs at ad;rw[av,az,bM,Y,a9,a7,c0]at ad;have⟨y0,y1,y2,y3,y4,y5,y6⟩:=FT ad;rw[hB];have ae:=Hd (An au (An aI (An aM bV)));have HD:=Hd hd;clear au aI aM bV;have⟨F,aV,cp,n0,f0⟩:=ir wr #[.int .i64 k,.string so,.int .i64 nu,.int .i64 R,.string st,.string sv,.bool b4] 95 wr.heap.size;have⟨B9,b8⟩:=eR (wr.heap.size);rw[b8]at n0;have dF:=ae.1.box.fr f0 qs;have cv:=Hd b8;have HK:=Hd bk;have cB:=Hd (show Hh F m e2 from ML.fr0 ae.1.wm f0);have aY:=Hd f0;clear ad bD aO aX hd bj hB av az bM Y a9 a7 c0 bk b8 cc
         go_upto_region 27 with fail
         try rw[aV]
         try rw[cv.out]
         clear y0 y1 y2 y3 y4 y5 y6 aV cp
         have bX:(gM e2 d.n).length<=200:=by
          rw[ae.2.2.2,gu,length_map]
          have h1:=As (l:=(ys.map AX.a).take i) d.n (λa ha=>by
           obtain⟨y,V,rfl⟩:=mem_map.1 (mem_of_mem_take ha);exact(aR.2.1.wf y V).2.2.2)
          have h2:(i8 i d.n (x.a.w.take p)).length<=p:=by
           unfold i8;rw[length_map];have:=length_filter_le (λc=>decide (CH.n c=d.n)) (x.a.w.take p);rw[length_take]at this;omega
          rw[length_take]at h1;omega
         have dI:=ae.1.lt;have cd:∀q∈GB g m A B KN R1 R2 e2,q≠B9:=λq hq he=>by have:=dI q hq;have:=cv.out;omega
         have da:g≠m:=λhe=>by
          have⟨eu,clock,h3,_⟩:=ae.1.wm.map;rw[<-he,show wr.heap[g]?=_ from ae.1.box]at h3
          cases h3
         have b1:=Hd (An (cd m (by simp[GB])) (An da (λq (hq:q∈gh e2)=>cd q (by simp[GB,hq]))))
         have c5:g ∉ gh e2:=λhm=>by
          have:=ML.noT (ts:=[205]) ae.1.wm qd g hm _ _ _ ae.1.box;simp at this
         have dJ:=Hd c5
         have cH:∀W,Fr (m::gh e2) F W->W.cell? ⟨g,3,none⟩=some (.map (some m))/\W.cell? ⟨B9,0,none⟩=some (.int .i64 k)/\W.cell? ⟨B9,1,none⟩=some (.string so)/\W.cell? ⟨B9,2,none⟩=some (.int .i64 nu)/\W.cell? ⟨B9,3,none⟩=some (.int .i64 R)/\W.cell? ⟨B9,4,none⟩=some (.string st):=λW hW=>by
          have h1:=dF.fr hW (by simp only[mem_cons,not_or];exact⟨b1.2.1,dJ.out⟩);have h2:=n0.fr hW (by simp only[mem_cons,not_or];exact⟨Ne.symm b1.1,λhm=>b1.2.2 _ hm rfl⟩);exact⟨h1.c 3,h2.c 0,h2.c 1,h2.c 2,h2.c 3,h2.c 4⟩
         have t:Fr (m::gh e2) F F.drew:=(Fq _ F).drew;have HSS:=Hd cH;clear cH dI cd da c5 n0 f0 dF;refine eU (λW:World=>Fr (m::gh e2) F W) 12 qk ?_ qd
         show fc 0 ..
         iterate 7 (refine gJ rfl ?_;try simp only[qq])
         refine hO (i:=7) rfl λK b=>?_;go_simp
         have⟨O,cV,n1,f1⟩:=vC F #[.int .i64 (i:Int)] 3;rw[cV];refine b _ _ (f1.mono qs) ?_;clear b K t cV
         try simp only[qq]
         refine hO (i:=8) rfl λK b=>?_;have⟨sm,Ae,dR,C,ds,f2,du,c4,dC⟩:=ML.step je jB underlying194 o7 (ML.fr0 cB.out f1) d.n eb;rw[HK.out]at ds;go_simp
         have bP:Fr (m::gh e2) F C:=(f1.mono qs).trans f2 qs;refine b _ _ bP ?_;clear b K ds;have t:=bP
         try simp only[qq]
         show fc 9 ..
         refine gJ rfl ?_;try simp only[qq]
         show fc 11 ..
         refine gJ rfl ?_;try simp only[qq];refine hO (i:=10) rfl λK b=>?_;obtain⟨jj,dZ,em,en,eo⟩:=oh;have n2:=n1.fr f2 (by have:=cB.map.lt;simp;omega);refine ja (.tmp 126) (.tmp 128) 36 rfl 3 jj _ 1 8 underlying36 dZ em en eo rfl qd Ae _ dR _ rfl du ⟨F.heap.size,0,none⟩ 1 1 [.int .i64 (i:Int)] rfl rfl (λj u hu=>by rw[fV,n2.c j];simpa using hu) (by simp[Value.oneCell']) (by unfold maxLen;omega) qo ?_;intro AA dQ N aK ce aT;have b6:Fr (m::gh e2) F N:=bP.trans ce (λq hq=>.inl (by simp[c4 q hq]));refine b _ _ b6 ?_;clear b K t
         try simp only[qq]
         refine eV ⟨qk,?_⟩;simp only[qG,qH];have⟨V4,e3,ev,f4,dr,di,c9⟩:=dC i N AA dQ ce aK aT;have b7:Fr (m::gh e2) F V4:=b6.trans f4 qs;have dG:=(ae.1.fr0 aY.out).putW b7 dr;have bN:=aY.size
         have bF:Fr [] w V4:=(ae.2.1.then aY.out).trans b7 (λy V=>.inr (ae.2.2.1 y (by
          rcases mem_cons.1 V with h|h <;> simp[GB,h])))
         have ek:=ae.2.1.size;have el:=f1.size
         have bG:∀y∈GB g m A B KN R1 R2 e3,w.heap.size<=y:=λy V=>by
          simp only[GB,mem_cons,mem_append]at V
          rcases V with h|h|h|h|h|h|h|h
          ·exact ae.2.2.1 y (by simp[GB,h])
          ·exact ae.2.2.1 y (by simp[GB,h])
          ·exact ae.2.2.1 y (by simp[GB,h])
          ·exact ae.2.2.1 y (by simp[GB,h])
          ·exact ae.2.2.1 y (by simp[GB,h])
          ·exact ae.2.2.1 y (by simp[GB,h])
          ·exact ae.2.2.1 y (by simp[GB,h])
          ·rcases c9 y h with h2|h2
           ·exact ae.2.2.1 y (by simp[GB,h2])
           ·omega
         have dj:∀y,gM e3 y=Ar ((ys.map AX.a).take i) y++(i8 i y (x.a.w.take (p+1))).map VX.i:=λy=>by
          rw[di,take_add_one,HD.out]
          show _=_++(i8 i y (x.a.w.take p++[d])).map VX.i
          rw[sN]
          by_cases ck:y=d.n
          ·subst ck
           rw[if_pos rfl,if_pos rfl,ae.2.2.2,append_assoc,map_append];rfl
          ·rw[if_neg ck,if_neg (λe=>ck e.symm),ae.2.2.2,append_nil]
         have bd:=Hd (An dG (An bF (An bG dj)));clear dG bF bG dj b7 b6 bP f4 dr di c9 aK ce aT dC du c4 n1 n2 f1 f2 HSS bN ek el
         go_wp2
         go_roundw
         case rel=>exact⟨p+1,e3,qo,by go_num,bd.1,bd.2.1,bd.2.2.1,bd.2.2.2⟩
         case measure=>simp[intOf];omega
        ·obtain rfl:p=nw:=qo
         have bn:(ys.map AX.a)[i]?=some x.a:=by rw[List.getElem?_map,HX.1];rfl
         have bZ:((ys.map AX.a).take i).length=i:=by rw[length_take,length_map,aR.2.2];omega
         have dD:x.a.w.take p=x.a.w:=take_of_length_le (by rw[HX.2.2.2.2];exact fW _)
         have bd:=Hd (GG.mk au (λy=>by
          rw[bV,dD];unfold Ar oT;rw[take_add_one,bn]
          show _=(mU 0 ((ys.map AX.a).take i++[x.a]) y).map VX.i
          rw[pM,map_append,bZ,Nat.zero_add]) (λk r hr=>by
          rw[X.2.2.2.2.1 k r hr]
          by_cases Y:k<i
          ·rw[if_pos Y,if_pos qo]
          ·by_cases dk:k=i
           ·subst dk
            rw[if_neg Y,if_pos rfl,if_pos qo,take_of_length_le];unfold ux;rw[bn,length_map,HX.2.2.2.1];omega
           ·rw[if_neg Y,if_neg dk,if_neg qo]) (λr hr=>by have:=X.2.2.2.2.2 r hr;omega))
         have cy:=Hd (An aI aM);clear au bV aI aM bn bZ dD
         go_wp2
         go_roundw
         case rel=>exact⟨i+1,KN,cN,cu,R1,R2,e2,qo,by go_num,bd.out,cy.1,cy.2⟩
         case measure=>simp[intOf];omega
  ·obtain rfl:i=n:=qo
   go_wp2
   go_ret2
   exact⟨g,m,A,B,KO,aL,ks,Rl,Ru,er,rfl,ah.1,ah.2.1⟩
end Go.Proofs.YtlpmiimgacfmkaaGreatDoor
