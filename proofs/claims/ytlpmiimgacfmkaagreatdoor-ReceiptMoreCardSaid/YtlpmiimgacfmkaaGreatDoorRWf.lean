/- Part of the proof. -/
import Derived.Test.YtlpmiimgacfmkaaGreatDoorRDe4
set_option linter.all false
set_option maxHeartbeats 16000000
set_option maxRecDepth 100000
namespace Go.Proofs.YtlpmiimgacfmkaaGreatDoor
open Go.Proofs.Tryz
open Go.RowKit
def ij(n:Nat):Array Value:=((List.replicate n (LR.mk none 0 [])).map LR.v).toArray
theorem g9(w:World)(n:Nat)(k:n<=1000):(Instr.makeSlice 203 (.int .i64 (n:Int)) (.int .i64 (n:Int))).run prog w=.ok (.slice (some ⟨w.heap.size,0,none⟩) n n) (w.alloc (.cells (ij n) 61)):=by
 obtain⟨i,c,e,a,b⟩:=wJ;have h:=run_makeSlice (P:=prog) (w:=w) 203 61 i gz underlying203 c e .i64 .i64 n n qo qo (by rw[a];omega) (by rw[b];omega) qo
 have d:madeCells (Value.slice none 0 0).cells ((n:Int).toNat*1)=(ij n):=by
  rw[Nat.mul_one,Int.toNat_natCast];unfold ij
  apply Array.ext
  ·simp[madeCells]
  ·intro j f g
   simp[madeCells,LR.v,Nat.mod_one,Value.cells]
 rw[h,a,d,Int.toNat_natCast]
theorem yD{w:World}{B n:Nat}(h:BoxN w B 61 (ij n)):RL w B (List.replicate n (LR.mk none 0 [])) :=
 ⟨h,λr a=>by rw[List.eq_of_mem_replicate a];exact Own.nil _ _ _,by
  rw[List.pairwise_replicate];exact .inr (by simp[eV])⟩
theorem tz(n:Nat):jU (List.replicate n (LR.mk none 0 []))=[]:=by
 unfold jU;rw[List.flatMap_eq_nil_iff];intro r a;rw[List.eq_of_mem_replicate a];rfl
theorem yE{p:Option ON}:∀ {l:List CH},iL p l=true->∀x∈l.map CH.n,eX x=0:=λh x b=>by
 obtain⟨c,a,rfl⟩:=List.mem_map.1 b;exact(ot (gC h c a)).1
theorem wd:∀ {l:List CH} {p:Option ON},iL p l=true->uk (l.map CH.n)
 | [],p,_=>λi x y a _=>by simp at a
 | [c],p,_=>λi x y a b=>by simp at b
 | c::d::l,p,h=>λi x y a b=>by
  rw[iL]at h;simp only[Bool.and_eq_true]at h
  rcases i with _|i
  ·simp only[List.map_cons,List.getElem?_cons_zero,List.getElem?_cons_succ,Option.some.injEq]at a b
   subst a;subst b;have e:=h.2.2;rw[iL]at e;simp only[Bool.and_eq_true,sK,decide_eq_true_eq]at e;have:=tot_cmpO.anti c.n d.n;omega
  ·exact wd h.2.2 i x y (by simpa using a) (by simpa using b)
def yF(l:List AG)(n:ON):List Nat:=(oz l n).map VX.i
def tA(l:List AG)(k:Nat):List LK:=match l[k]? with
 | none=>[]
 | some a=>a.r.map λc=>⟨nZ (yF (l.take k) c.n),k,c.n⟩
theorem pE{rs:List LR}{k:Nat}(h:k<rs.length):∃a r l2,rs=a++r::l2/\a.length=k/\rs[k]?=some r:=by
 refine⟨rs.take k,rs[k],rs.drop (k+1),?_,by rw[List.length_take];omega,gx h⟩;rw[List.getElem_cons_drop,List.take_append_drop]
theorem DX{a l2:List LR}{r c s:LR}{k:Nat}(h:(a++c::l2)[k]?=some s):(k=a.length/\s=c) \/ (k≠a.length/\(a++r::l2)[k]?=some s):=by
 rcases Nat.lt_trichotomy k a.length with b|b|b
 ·rw[List.getElem?_append_left b]at h ⊢
  exact .inr ⟨qo,h⟩
 ·subst b
  simp at h;exact .inl ⟨rfl,h.symm⟩
 ·obtain⟨j,d⟩:∃j,k - a.length=j+1:=⟨k - a.length - 1,qo⟩
  rw[List.getElem?_append_right qo,d]at h ⊢;exact .inr ⟨qo,by simpa using h⟩
theorem oS{w:World}{B k:Nat}{rs:List LR}{r:LR}(h:BoxN w B 61 (rs.map LR.v).toArray)(a:rs[k]?=some r):w.cell? ⟨B,k,none⟩=some (.slice r.A r.xs.length r.c):=by
 rw[h.c k];simp[a,LR.v]
theorem we(n:ON):∀(l:List AG) (i:Nat),(∀a∈l,a.w.length<=10)->(mP i l n).length<=10*l.length
 | [],i,_=>by simp[mP]
 | a::r,i,h=>by
  rw[mP,gG];have c:=we n r (i+1) (λa b=>h a (by simp[b]));have d:=h a qs
  have e:(i7 i n a.w).length<=a.w.length:=by
   unfold i7;rw[List.length_map];exact List.length_filter_le _ _
  simp only[List.length_cons];omega
theorem yG{l:List AG}(n:ON)(h:∀a∈l,a.w.length<=10):(yF l n).length<=10*l.length:=by
 unfold yF oz;rw[List.length_map];exact we n l 0 h
theorem xN{l:List AG}(n:ON):∀v∈yF l n,v<l.length:=λv a=>by
 unfold yF oz at a;obtain⟨x,b,rfl⟩:=List.mem_map.1 a;have:=qK n l 0 x b;omega
theorem qa(l:List Nat):nZ l=-1 \/ ∃v∈l,nZ l=(v:Int):=by
 unfold nZ
 cases h:l.getLast? with
 | none=>exact .inl rfl
 | some v=>exact .inr ⟨v,List.mem_of_getLast? h,rfl⟩
structure GG(w:World)(g mw Lk Us n i:Nat)(l:List AG)(K:Option Addr)(kc:Nat)(ks:List Value)(Rl Ru:List LR)(er:List (NE ON Nat)):Prop where
 s:GS w g mw Lk Us n K i kc ks Rl Ru er
 wr:∀m,gJ er m=yF (l.take i) m
 lk:∀(k:Nat) (r:LR),Rl[k]?=some r->r.xs=if k<i then tA l k else []
 us:∀r∈Ru,r.xs.length<=10*i
theorem CD(aE cL cG:Nat)(ys:List AX)(w:World)(hL:ActL w aE cG ys)(hr:Run ys):
 Calls prog 45 #[.slice (some ⟨aE,0,none⟩) ys.length cL] w λe w'=>∃g mw Lk Us K aP ks Rl Ru er,e=.returned (.tuple #[.pointer (some ⟨g,0,none⟩),.int .i64 0])/\GG w' g mw Lk Us ys.length ys.length (ys.map AX.a) K aP ks Rl Ru er/\Fr [] w w':=by
 have HI:=Hd (tK aE cL cG ys w hL hr);obtain⟨n,cm⟩:=eR (ys.length);have eb:=hr.len;rw[cm]at HI eb ⊢;have aV:=Hd (An hL (An hr cm));have aN:n<=1000:=qo
 have dV:decide ((65536:Int)<(n:Int))=false:=by simp;omega
 have dW:decide (65536<n)=false:=by simp;omega
 clear hL hr cm
 go_enter func45,ntmps45
 go_upto_region 5 with((go_at_call 101;(with_reducible refine HI.out.mono ?_);rintro e w1 ⟨rfl,da⟩;have cx:=Hd da;clear da))
 clear dV dW;have z:Fr [] w w1.drew:=cx.out.drew;have HSS:=Hd (λ(W:World) (_:Fr [] w W)=>True.intro)
 refine jk (a:=?aa) (λa' w'=>∃L B m gb,a'={ tmps:=(((((((((((Act.tmps ?aa).setIfInBounds 21 (.slice (some ⟨aE,0,none⟩) n cL)).setIfInBounds 22 (.int .i64 (n:Int))).setIfInBounds 24 (.slice (some ⟨aE,0,none⟩) n cL)).setIfInBounds 25 (.int .i64 (n:Int))).setIfInBounds 23 (.slice (some ⟨L,0,none⟩) n n)).setIfInBounds 26 (.slice (some ⟨B,0,none⟩) n n)).setIfInBounds 27 (.map (some m))).setIfInBounds 28 (.agg #[.slice none 0 0,.slice (some ⟨L,0,none⟩) n n,.slice (some ⟨B,0,none⟩) n n,.map (some m)])).setIfInBounds 29 (.pointer (some ⟨gb,0,none⟩))).setIfInBounds 4 (.pointer (some ⟨gb,0,none⟩))),defers:=[] } /\
  BoxN w' gb 205 #[.slice none 0 0,.slice (some ⟨L,0,none⟩) n n,.slice (some ⟨B,0,none⟩) n n,.map (some m)]/\BoxN w' L 61 (ij n)/\BoxN w' B 61 (ij n)/\MapIs prog 31 w' m []/\Fr [] w w'/\L≠B/\L≠m/\B≠m/\L<gb/\B<gb/\m<gb/\w.heap.size<=L/\w.heap.size<=B/\w.heap.size<=m) ?_ ?_
 ·skip
  refine eZ (λW=>Fr [] w W) 9 qk ?_ qd
  show fb 0 ..
  iterate 2 (refine gB rfl ?_;try simp only[qq])
  show fb 3 ..
  iterate 2 (refine gB rfl ?_;try simp only[qq])
  have ei:w.heap.size<=w1.drew.heap.size:=z.size;obtain⟨t,aY⟩:=eR (w1.drew);rw[aY]at z ei ⊢;clear aY;refine uG (i:=2) (j:=5) (m:=6) qk qd qd qd rfl rfl rfl (λK b=>?_) (λK b=>?_) (λK b=>?_)
  ·rw[if_pos qr]
   have ad:=g9 t n aN;go_simp
   obtain⟨M,C,N,H⟩:=kS t (ij n) 61;have zA:(M).heap.size=(t).heap.size+1:=by rw[<-C];simp
   rw[C];clear C ad;refine b _ _ (z.then H) ?_;have z:=z.then H;clear b K
   try simp only[qq]
   refine gO (i:=5) (j:=6) qk qd qd rfl rfl (λK b=>?_) (λK b=>?_)
   ·rw[if_pos qr]
    have ad:=g9 M n aN;go_simp
    obtain⟨G,C,O,I⟩:=kS M (ij n) 61;have zB:(G).heap.size=(M).heap.size+1:=by rw[<-C];simp
    rw[C];clear C ad;refine b _ _ (z.then I) ?_;have z:=z.then I;clear b K
    try simp only[qq]
    refine hO (i:=6) rfl λK b=>?_;have ad:=gm (G) 194;go_simp
    obtain⟨F,C⟩:=eR ((G).alloc (.map #[] 0));have P:MapIs prog 31 F (G).heap.size []:=by rw[<-C];exact MapIs.new (G)
    have J:Fr [] (G) F:=by rw[<-C];exact(Fq [] (G)).alloc _
    have zM:(F).heap.size=(G).heap.size+1:=by rw[<-C];simp
    rw[C];clear C ad;refine b _ _ (z.then J) ?_;have z:=z.then J;clear b K
    try simp only[qq]
    have ap:BoxN F (t).heap.size 61 (ij n):=by first|exact N|exact N.fr I qs|exact N.fr J qs|exact(N.fr I qs).fr J qs|exact(N.fr J qs).fr I qs
    have aq:BoxN F (M).heap.size 61 (ij n):=by first|exact O|exact O.fr H qs|exact O.fr J qs|exact(O.fr H qs).fr J qs|exact(O.fr J qs).fr H qs
    have ar:MapIs prog 31 F (G).heap.size []:=by first|exact P|exact P.fr H qs|exact P.fr I qs|exact(P.fr H qs).fr I qs|exact(P.fr I qs).fr H qs
    clear N O P
    show fb 7 ..
    refine gB rfl ?_;try simp only[qq];refine hO (i:=8) rfl λK b=>?_;go_simp
    obtain⟨V4,ac⟩:=eR (F.alloc (.cells #[.slice none 0 0,.slice (some ⟨t.heap.size,0,none⟩) n n,.slice (some ⟨t.heap.size+1,0,none⟩) n n,.map (some (t.heap.size+1+1))] 205));have aG:F.heap.size=t.heap.size+1+1+1:=qo
    have nG:BoxN V4 (t.heap.size+1+1+1) 205 #[.slice none 0 0,.slice (some ⟨t.heap.size,0,none⟩) n n,.slice (some ⟨t.heap.size+1,0,none⟩) n n,.map (some (t.heap.size+1+1))]:=by rw[<-ac,<-aG];exact BoxN.new F _ _
    have U:Fr [] F V4:=by rw[<-ac];exact(Fq [] F).alloc _
    rw[ac];have ao:=z.then U;refine b _ _ ao ?_;clear b K ac z
    try simp only[qq]
    refine eW ⟨qk,?_⟩;simp only[qG,qH]
    try simp only[zA,zB,zM]at ap aq ar
    go_wp2_with fail
    exact⟨t.heap.size,t.heap.size+1,t.heap.size+1+1,_,rfl,nG,ap.fr U qs,aq.fr U qs,ar.fr U qs,ao,qo,qo,qo,qo,qo,qo,qo,qo,qo⟩
   ·rw[if_pos qr]
    have ad:=gm (M) 194;go_simp
    obtain⟨G,C⟩:=eR ((M).alloc (.map #[] 0));have P:MapIs prog 31 G (M).heap.size []:=by rw[<-C];exact MapIs.new (M)
    have J:Fr [] (M) G:=by rw[<-C];exact(Fq [] (M)).alloc _
    have zM:(G).heap.size=(M).heap.size+1:=by rw[<-C];simp
    rw[C];clear C ad;refine b _ _ (z.then J) ?_;have z:=z.then J;clear b K
    try simp only[qq]
    refine hO (i:=5) rfl λK b=>?_;have ad:=g9 G n aN;go_simp
    obtain⟨F,C,O,I⟩:=kS G (ij n) 61;have zB:(F).heap.size=(G).heap.size+1:=by rw[<-C];simp
    rw[C];clear C ad;refine b _ _ (z.then I) ?_;have z:=z.then I;clear b K
    try simp only[qq]
    have ap:BoxN F (t).heap.size 61 (ij n):=by first|exact N|exact N.fr I qs|exact N.fr J qs|exact(N.fr I qs).fr J qs|exact(N.fr J qs).fr I qs
    have aq:BoxN F (G).heap.size 61 (ij n):=by first|exact O|exact O.fr H qs|exact O.fr J qs|exact(O.fr H qs).fr J qs|exact(O.fr J qs).fr H qs
    have ar:MapIs prog 31 F (M).heap.size []:=by first|exact P|exact P.fr H qs|exact P.fr I qs|exact(P.fr H qs).fr I qs|exact(P.fr I qs).fr H qs
    clear N O P
    show fb 7 ..
    refine gB rfl ?_;try simp only[qq];refine hO (i:=8) rfl λK b=>?_;go_simp
    obtain⟨V4,ac⟩:=eR (F.alloc (.cells #[.slice none 0 0,.slice (some ⟨t.heap.size,0,none⟩) n n,.slice (some ⟨t.heap.size+1+1,0,none⟩) n n,.map (some (t.heap.size+1))] 205));have aG:F.heap.size=t.heap.size+1+1+1:=qo
    have nG:BoxN V4 (t.heap.size+1+1+1) 205 #[.slice none 0 0,.slice (some ⟨t.heap.size,0,none⟩) n n,.slice (some ⟨t.heap.size+1+1,0,none⟩) n n,.map (some (t.heap.size+1))]:=by rw[<-ac,<-aG];exact BoxN.new F _ _
    have U:Fr [] F V4:=by rw[<-ac];exact(Fq [] F).alloc _
    rw[ac];have ao:=z.then U;refine b _ _ ao ?_;clear b K ac z
    try simp only[qq]
    refine eW ⟨qk,?_⟩;simp only[qG,qH]
    try simp only[zA,zB,zM]at ap aq ar
    go_wp2_with fail
    exact⟨t.heap.size,t.heap.size+1+1,t.heap.size+1,_,rfl,nG,ap.fr U qs,aq.fr U qs,ar.fr U qs,ao,qo,qo,qo,qo,qo,qo,qo,qo,qo⟩
  ·rw[if_pos qr]
   have ad:=g9 t n aN;go_simp
   obtain⟨M,C,O,I⟩:=kS t (ij n) 61;have zB:(M).heap.size=(t).heap.size+1:=by rw[<-C];simp
   rw[C];clear C ad;refine b _ _ (z.then I) ?_;have z:=z.then I;clear b K
   try simp only[qq]
   refine gO (i:=2) (j:=6) qk qd qd rfl rfl (λK b=>?_) (λK b=>?_)
   ·rw[if_pos qr]
    have ad:=g9 M n aN;go_simp
    obtain⟨G,C,N,H⟩:=kS M (ij n) 61;have zA:(G).heap.size=(M).heap.size+1:=by rw[<-C];simp
    rw[C];clear C ad;refine b _ _ (z.then H) ?_;have z:=z.then H;clear b K
    try simp only[qq]
    refine hO (i:=6) rfl λK b=>?_;have ad:=gm (G) 194;go_simp
    obtain⟨F,C⟩:=eR ((G).alloc (.map #[] 0));have P:MapIs prog 31 F (G).heap.size []:=by rw[<-C];exact MapIs.new (G)
    have J:Fr [] (G) F:=by rw[<-C];exact(Fq [] (G)).alloc _
    have zM:(F).heap.size=(G).heap.size+1:=by rw[<-C];simp
    rw[C];clear C ad;refine b _ _ (z.then J) ?_;have z:=z.then J;clear b K
    try simp only[qq]
    have ap:BoxN F (M).heap.size 61 (ij n):=by first|exact N|exact N.fr I qs|exact N.fr J qs|exact(N.fr I qs).fr J qs|exact(N.fr J qs).fr I qs
    have aq:BoxN F (t).heap.size 61 (ij n):=by first|exact O|exact O.fr H qs|exact O.fr J qs|exact(O.fr H qs).fr J qs|exact(O.fr J qs).fr H qs
    have ar:MapIs prog 31 F (G).heap.size []:=by first|exact P|exact P.fr H qs|exact P.fr I qs|exact(P.fr H qs).fr I qs|exact(P.fr I qs).fr H qs
    clear N O P
    show fb 7 ..
    refine gB rfl ?_;try simp only[qq];refine hO (i:=8) rfl λK b=>?_;go_simp
    obtain⟨V4,ac⟩:=eR (F.alloc (.cells #[.slice none 0 0,.slice (some ⟨t.heap.size+1,0,none⟩) n n,.slice (some ⟨t.heap.size,0,none⟩) n n,.map (some (t.heap.size+1+1))] 205));have aG:F.heap.size=t.heap.size+1+1+1:=qo
    have nG:BoxN V4 (t.heap.size+1+1+1) 205 #[.slice none 0 0,.slice (some ⟨t.heap.size+1,0,none⟩) n n,.slice (some ⟨t.heap.size,0,none⟩) n n,.map (some (t.heap.size+1+1))]:=by rw[<-ac,<-aG];exact BoxN.new F _ _
    have U:Fr [] F V4:=by rw[<-ac];exact(Fq [] F).alloc _
    rw[ac];have ao:=z.then U;refine b _ _ ao ?_;clear b K ac z
    try simp only[qq]
    refine eW ⟨qk,?_⟩;simp only[qG,qH]
    try simp only[zA,zB,zM]at ap aq ar
    go_wp2_with fail
    exact⟨t.heap.size+1,t.heap.size,t.heap.size+1+1,_,rfl,nG,ap.fr U qs,aq.fr U qs,ar.fr U qs,ao,qo,qo,qo,qo,qo,qo,qo,qo,qo⟩
   ·rw[if_pos qr]
    have ad:=gm (M) 194;go_simp
    obtain⟨G,C⟩:=eR ((M).alloc (.map #[] 0));have P:MapIs prog 31 G (M).heap.size []:=by rw[<-C];exact MapIs.new (M)
    have J:Fr [] (M) G:=by rw[<-C];exact(Fq [] (M)).alloc _
    have zM:(G).heap.size=(M).heap.size+1:=by rw[<-C];simp
    rw[C];clear C ad;refine b _ _ (z.then J) ?_;have z:=z.then J;clear b K
    try simp only[qq]
    refine hO (i:=2) rfl λK b=>?_;have ad:=g9 G n aN;go_simp
    obtain⟨F,C,N,H⟩:=kS G (ij n) 61;have zA:(F).heap.size=(G).heap.size+1:=by rw[<-C];simp
    rw[C];clear C ad;refine b _ _ (z.then H) ?_;have z:=z.then H;clear b K
    try simp only[qq]
    have ap:BoxN F (G).heap.size 61 (ij n):=by first|exact N|exact N.fr I qs|exact N.fr J qs|exact(N.fr I qs).fr J qs|exact(N.fr J qs).fr I qs
    have aq:BoxN F (t).heap.size 61 (ij n):=by first|exact O|exact O.fr H qs|exact O.fr J qs|exact(O.fr H qs).fr J qs|exact(O.fr J qs).fr H qs
    have ar:MapIs prog 31 F (M).heap.size []:=by first|exact P|exact P.fr H qs|exact P.fr I qs|exact(P.fr H qs).fr I qs|exact(P.fr I qs).fr H qs
    clear N O P
    show fb 7 ..
    refine gB rfl ?_;try simp only[qq];refine hO (i:=8) rfl λK b=>?_;go_simp
    obtain⟨V4,ac⟩:=eR (F.alloc (.cells #[.slice none 0 0,.slice (some ⟨t.heap.size+1+1,0,none⟩) n n,.slice (some ⟨t.heap.size,0,none⟩) n n,.map (some (t.heap.size+1))] 205));have aG:F.heap.size=t.heap.size+1+1+1:=qo
    have nG:BoxN V4 (t.heap.size+1+1+1) 205 #[.slice none 0 0,.slice (some ⟨t.heap.size+1+1,0,none⟩) n n,.slice (some ⟨t.heap.size,0,none⟩) n n,.map (some (t.heap.size+1))]:=by rw[<-ac,<-aG];exact BoxN.new F _ _
    have U:Fr [] F V4:=by rw[<-ac];exact(Fq [] F).alloc _
    rw[ac];have ao:=z.then U;refine b _ _ ao ?_;clear b K ac z
    try simp only[qq]
    refine eW ⟨qk,?_⟩;simp only[qG,qH]
    try simp only[zA,zB,zM]at ap aq ar
    go_wp2_with fail
    exact⟨t.heap.size+1+1,t.heap.size,t.heap.size+1,_,rfl,nG,ap.fr U qs,aq.fr U qs,ar.fr U qs,ao,qo,qo,qo,qo,qo,qo,qo,qo,qo⟩
  ·rw[if_pos qr]
   have ad:=gm (t) 194;go_simp
   obtain⟨M,C⟩:=eR ((t).alloc (.map #[] 0));have P:MapIs prog 31 M (t).heap.size []:=by rw[<-C];exact MapIs.new (t)
   have J:Fr [] (t) M:=by rw[<-C];exact(Fq [] (t)).alloc _
   have zM:(M).heap.size=(t).heap.size+1:=by rw[<-C];simp
   rw[C];clear C ad;refine b _ _ (z.then J) ?_;have z:=z.then J;clear b K
   try simp only[qq]
   refine gO (i:=2) (j:=5) qk qd qd rfl rfl (λK b=>?_) (λK b=>?_)
   ·rw[if_pos qr]
    have ad:=g9 M n aN;go_simp
    obtain⟨G,C,N,H⟩:=kS M (ij n) 61;have zA:(G).heap.size=(M).heap.size+1:=by rw[<-C];simp
    rw[C];clear C ad;refine b _ _ (z.then H) ?_;have z:=z.then H;clear b K
    try simp only[qq]
    refine hO (i:=5) rfl λK b=>?_;have ad:=g9 G n aN;go_simp
    obtain⟨F,C,O,I⟩:=kS G (ij n) 61;have zB:(F).heap.size=(G).heap.size+1:=by rw[<-C];simp
    rw[C];clear C ad;refine b _ _ (z.then I) ?_;have z:=z.then I;clear b K
    try simp only[qq]
    have ap:BoxN F (M).heap.size 61 (ij n):=by first|exact N|exact N.fr I qs|exact N.fr J qs|exact(N.fr I qs).fr J qs|exact(N.fr J qs).fr I qs
    have aq:BoxN F (G).heap.size 61 (ij n):=by first|exact O|exact O.fr H qs|exact O.fr J qs|exact(O.fr H qs).fr J qs|exact(O.fr J qs).fr H qs
    have ar:MapIs prog 31 F (t).heap.size []:=by first|exact P|exact P.fr H qs|exact P.fr I qs|exact(P.fr H qs).fr I qs|exact(P.fr I qs).fr H qs
    clear N O P
    show fb 7 ..
    refine gB rfl ?_;try simp only[qq];refine hO (i:=8) rfl λK b=>?_;go_simp
    obtain⟨V4,ac⟩:=eR (F.alloc (.cells #[.slice none 0 0,.slice (some ⟨t.heap.size+1,0,none⟩) n n,.slice (some ⟨t.heap.size+1+1,0,none⟩) n n,.map (some (t.heap.size))] 205));have aG:F.heap.size=t.heap.size+1+1+1:=qo
    have nG:BoxN V4 (t.heap.size+1+1+1) 205 #[.slice none 0 0,.slice (some ⟨t.heap.size+1,0,none⟩) n n,.slice (some ⟨t.heap.size+1+1,0,none⟩) n n,.map (some (t.heap.size))]:=by rw[<-ac,<-aG];exact BoxN.new F _ _
    have U:Fr [] F V4:=by rw[<-ac];exact(Fq [] F).alloc _
    rw[ac];have ao:=z.then U;refine b _ _ ao ?_;clear b K ac z
    try simp only[qq]
    refine eW ⟨qk,?_⟩;simp only[qG,qH]
    try simp only[zA,zB,zM]at ap aq ar
    go_wp2_with fail
    exact⟨t.heap.size+1,t.heap.size+1+1,t.heap.size,_,rfl,nG,ap.fr U qs,aq.fr U qs,ar.fr U qs,ao,qo,qo,qo,qo,qo,qo,qo,qo,qo⟩
   ·rw[if_pos qr]
    have ad:=g9 M n aN;go_simp
    obtain⟨G,C,O,I⟩:=kS M (ij n) 61;have zB:(G).heap.size=(M).heap.size+1:=by rw[<-C];simp
    rw[C];clear C ad;refine b _ _ (z.then I) ?_;have z:=z.then I;clear b K
    try simp only[qq]
    refine hO (i:=2) rfl λK b=>?_;have ad:=g9 G n aN;go_simp
    obtain⟨F,C,N,H⟩:=kS G (ij n) 61;have zA:(F).heap.size=(G).heap.size+1:=by rw[<-C];simp
    rw[C];clear C ad;refine b _ _ (z.then H) ?_;have z:=z.then H;clear b K
    try simp only[qq]
    have ap:BoxN F (G).heap.size 61 (ij n):=by first|exact N|exact N.fr I qs|exact N.fr J qs|exact(N.fr I qs).fr J qs|exact(N.fr J qs).fr I qs
    have aq:BoxN F (M).heap.size 61 (ij n):=by first|exact O|exact O.fr H qs|exact O.fr J qs|exact(O.fr H qs).fr J qs|exact(O.fr J qs).fr H qs
    have ar:MapIs prog 31 F (t).heap.size []:=by first|exact P|exact P.fr H qs|exact P.fr I qs|exact(P.fr H qs).fr I qs|exact(P.fr I qs).fr H qs
    clear N O P
    show fb 7 ..
    refine gB rfl ?_;try simp only[qq];refine hO (i:=8) rfl λK b=>?_;go_simp
    obtain⟨V4,ac⟩:=eR (F.alloc (.cells #[.slice none 0 0,.slice (some ⟨t.heap.size+1+1,0,none⟩) n n,.slice (some ⟨t.heap.size+1,0,none⟩) n n,.map (some (t.heap.size))] 205));have aG:F.heap.size=t.heap.size+1+1+1:=qo
    have nG:BoxN V4 (t.heap.size+1+1+1) 205 #[.slice none 0 0,.slice (some ⟨t.heap.size+1+1,0,none⟩) n n,.slice (some ⟨t.heap.size+1,0,none⟩) n n,.map (some (t.heap.size))]:=by rw[<-ac,<-aG];exact BoxN.new F _ _
    have U:Fr [] F V4:=by rw[<-ac];exact(Fq [] F).alloc _
    rw[ac];have ao:=z.then U;refine b _ _ ao ?_;clear b K ac z
    try simp only[qq]
    refine eW ⟨qk,?_⟩;simp only[qG,qH]
    try simp only[zA,zB,zM]at ap aq ar
    go_wp2_with fail
    exact⟨t.heap.size+1+1,t.heap.size+1,t.heap.size,_,rfl,nG,ap.fr U qs,aq.fr U qs,ar.fr U qs,ao,qo,qo,qo,qo,qo,qo,qo,qo,qo⟩
 rintro a' w2 ⟨L,B,m,g,rfl,c5,c0,c1,dp,an,d1,d2,d3,d4,d5,d6,d7,d8,d9⟩;simp only[qA,qB,qC]
 have bI:GG w2 g m L B n 0 (ys.map AX.a) none 0 [] (List.replicate n (LR.mk none 0 [])) (List.replicate n (LR.mk none 0 [])) []:=⟨⟨c5,Own.nil _ _ _,yD c0,yD c1,ML.nil dp,d1,by rw[tz];simp,qs⟩,λk=>by simp[gJ,yF,oz,mP],λk r hr=>by
  rw[List.eq_of_mem_replicate (iu hr)];simp,λr hr=>by
  rw[List.eq_of_mem_replicate hr];simp⟩
 have b3:=Hd (An bI (An an (show ∀k∈GB g m L B none (List.replicate n (LR.mk none 0 [])) (List.replicate n (LR.mk none 0 [])) [],w.heap.size<=k from λk hk=>by
  simp only[GB,tz,eV,gj,List.flatMap_nil,Option.map_none,Option.toList_none,List.append_nil,List.nil_append,List.mem_cons,List.not_mem_nil,or_false]at hk;omega)))
 clear c5 c0 c1 dp an d1 d2 d3 d4 d5 d6 d7 d8 d9 cx HI HSS z bI
 go_wp2_with fail
 go_loopw [32] (λV W=>∃(i:Nat) (KO:Option Addr) (aP:Nat) (ks:List Value) (Rl Ru:List LR) (er:List (NE ON Nat)),i<=n/\V=.int .i64 (i:Int)/\GG W g m L B n i (ys.map AX.a) KO aP ks Rl Ru er/\Fr [] w W/\∀k∈GB g m L B KO Rl Ru er,w.heap.size<=k) (λi _=>n - (intOf i).toNat)
 case atStart=>exact⟨0,none,0,[],_,_,[],Nat.zero_le _,rfl,b3.out.1,b3.out.2.1,b3.out.2.2⟩
 case round =>
  obtain⟨i,KO,aP,ks,Rl,Ru,er,hi,rfl,bI,bn,c6⟩:=hrel;have ai:=Hd (An bI (An bn c6));clear bI bn c6
  by_cases ev:i<n
  ·have ew:(i:Int)<(n:Int):=qo
   obtain⟨x,hx⟩:∃x,ys[i]?=some x:=⟨_,gx (by rw[aV.out.2.2];omega)⟩;have a3:=aV.out.2.1.wf x (iu hx);have aX:=aV.out.1.fr0 ai.out.2.1;obtain⟨nr,co⟩:=eR (x.a.r.length);obtain⟨nw,cp⟩:=eR (x.a.w.length);have y0:wr.cell? ⟨aE,i*6,none⟩=some (.int .i64 x.a.k.rnd):=aX.c hx 0 _ rfl;have y1:wr.cell? ⟨aE,i*6+1,none⟩=some (.int .i64 x.a.k.phase):=aX.c hx 1 _ rfl;have y2:wr.cell? ⟨aE,i*6+2,none⟩=some (.int .i64 x.a.k.idx):=aX.c hx 2 _ rfl;have y3:wr.cell? ⟨aE,i*6+3,none⟩=some (.string x.sl):=aX.c hx 3 _ rfl;have y4:wr.cell? ⟨aE,i*6+4,none⟩=some (.slice x.A nr x.c):=by rw[<-co];exact aX.c hx 4 _ rfl
   have y5:wr.cell? ⟨aE,i*6+5,none⟩=some (.slice x.B nw x.d):=by rw[<-cp];exact aX.c hx 5 _ rfl
   have ey:nr<=10:=qo
   have ez:nw<=10:=qo
   have eD:IntKind.i64.wrap (i:Int)=(i:Int):=by simp only[IntKind.wrap_i64];omega
   obtain⟨Y0,cX,ct,nR,fY⟩:=il wr #[.int .i64 x.a.k.rnd,.int .i64 x.a.k.phase,.int .i64 x.a.k.idx,.string x.sl,.slice x.A nr x.c,.slice x.B nw x.d] 91 wr.heap.size;have df:=ai.out.1.s.fr0 fY;have HX:=Hd (An hx (An a3 (An (aX.ok x (iu hx)) (An co cp))))
   go_upto_region 9 with fail
   try rw[cX]
   obtain⟨ag,hR⟩:=eR (wr.heap.size);have cU:∀k∈GB g m L B KO Rl Ru er,k<ag:=by rw[<-hR];exact ai.out.1.s.lt
   rw[hR]at nR ct ⊢;have dM:=Hd nR;have cE:=Hd cU;have bw:=Hd df;have cA:=Hd (An fY (An ct hR));clear y0 y1 y2 y3 y4 y5 cX nR fY ct df cU hR hx a3 aX co cp;have HSS:=Hd (λ(W:World) (hW:W.cell? ⟨g,0,none⟩=some (.slice KO i aP)/\W.cell? ⟨ag,0,none⟩=some (.int .i64 x.a.k.rnd)/\W.cell? ⟨ag,1,none⟩=some (.int .i64 x.a.k.phase)/\W.cell? ⟨ag,2,none⟩=some (.int .i64 x.a.k.idx)/\W.cell? ⟨ag,3,none⟩=some (.string x.sl))=>hW);have az:=bw.out.box;have ay:=dM.out;have z:(λW:World=>W.cell? ⟨g,0,none⟩=some (.slice KO i aP)/\W.cell? ⟨ag,0,none⟩=some (.int .i64 x.a.k.rnd)/\W.cell? ⟨ag,1,none⟩=some (.int .i64 x.a.k.phase)/\W.cell? ⟨ag,2,none⟩=some (.int .i64 x.a.k.idx)/\W.cell? ⟨ag,3,none⟩=some (.string x.sl)) Y0.drew:=⟨az.c 0,ay.c 0,ay.c 1,ay.c 2,ay.c 3⟩;refine eZ (λW:World=>W.cell? ⟨g,0,none⟩=some (.slice KO i aP)/\W.cell? ⟨ag,0,none⟩=some (.int .i64 x.a.k.rnd)/\W.cell? ⟨ag,1,none⟩=some (.int .i64 x.a.k.phase)/\W.cell? ⟨ag,2,none⟩=some (.int .i64 x.a.k.idx)/\W.cell? ⟨ag,3,none⟩=some (.string x.sl)) 11 qk ?_ qd
   show fb 0 ..
   iterate 7 (refine gB rfl ?_;try simp only[qq])
   refine hO (i:=7) rfl λK b=>?_;go_simp
   obtain⟨Z1,cY,n1,f1⟩:=sf Y0 #[.int .i64 x.a.k.rnd,.int .i64 x.a.k.phase,.int .i64 x.a.k.idx,.string x.sl] 89;rw[cY];have cc:=az.fr f1 qs;have bq:=ay.fr f1 qs;refine b _ _ ⟨cc.c 0,bq.c 0,bq.c 1,bq.c 2,bq.c 3⟩ ?_;clear b K cY z
   try simp only[qq]
   refine hO (i:=8) rfl λK b=>?_;obtain⟨ii,aF,aH,aI,aJ⟩:=lX;have cQ:=bw.out.own.fr f1 qs;refine gF (.tmp 41) (.tmp 44) 60 rfl 89 ii _ 4 40 underlying60 aF aH aI aJ rfl qd KO i aP ks rfl cQ ⟨Y0.heap.size,0,none⟩ 1 1 [.int .i64 x.a.k.rnd,.int .i64 x.a.k.phase,.int .i64 x.a.k.idx,.string x.sl] rfl rfl (λj u hu=>by rw[fx,n1.c j];simpa using hu) (by simp[Value.oneCell']) (by unfold maxLen;omega) qo ?_;intro KN cN Z2 aZ an cP
   have dd:g ∉ eV KO:=λhm=>by
    have:=NoT.own (ts:=[205]) bw.out.own qd g hm _ _ _ bw.out.box;simp at this
   have cT:ag ∉ eV KO:=λhm=>by have h1:=cE.out ag (by simp[GB,hm]);omega
   have bj:=cc.fr an dd;have br:=bq.fr an cT;have z:(λW:World=>W.cell? ⟨g,0,none⟩=some (.slice KO i aP)/\W.cell? ⟨ag,0,none⟩=some (.int .i64 x.a.k.rnd)/\W.cell? ⟨ag,1,none⟩=some (.int .i64 x.a.k.phase)/\W.cell? ⟨ag,2,none⟩=some (.int .i64 x.a.k.idx)/\W.cell? ⟨ag,3,none⟩=some (.string x.sl)) Z2:=⟨bj.c 0,br.c 0,br.c 1,br.c 2,br.c 3⟩;refine b _ _ z ?_;clear b K
   try simp only[qq]
   show fb 9 ..
   iterate 2 (refine gB rfl ?_;try simp only[qq])
   refine eW ⟨qk,?_⟩;simp only[qG,qH];have q0:=bj.k0;have q1:=bj.f 0;have aD:=Hd (An aZ (An an (An cP (An bj (An br f1)))));clear aZ an cP bj br f1 dd cT az ay cc bq n1 cQ z HSS aH aI aJ aF
   go_upto_region 10 with fail
   obtain⟨bh,hZ⟩:=eR (Z2.setCell ⟨g,0,none⟩ (.slice KN (i+1) cN));have c2:BoxN bh g 205 #[.slice KN (i+1) cN,.slice (some ⟨L,0,none⟩) n n,.slice (some ⟨B,0,none⟩) n n,.map (some m)]:=by rw[<-hZ];exact aD.out.2.2.2.1.setAt 0 _
   have fZ:Fr [g] Z2 bh:=by rw[<-hZ];exact(Fq [g] Z2).st _
   try rw[hZ]
   have de:ag≠g:=λh=>by have h1:=cE.out g (by simp[GB]);omega
   have dw:BoxN bh ag 91 #[.int .i64 x.a.k.rnd,.int .i64 x.a.k.phase,.int .i64 x.a.k.idx,.string x.sl,.slice x.A nr x.c,.slice x.B nw x.d]:=aD.out.2.2.2.2.1.fr fZ (by simpa using de);have ca:=(bw.out.fr0 aD.out.2.2.2.2.2).putK aD.out.2.1 aD.out.1 aD.out.2.2.1 fZ c2;have dT:=cA.out.1.size;have dU:=aD.out.2.2.2.2.2.size;have eh:=ai.out.2.1.size;have dc:Fr [] w bh:=((ai.out.2.1.then cA.out.1).then aD.out.2.2.2.2.2).trans (S:=[]) ((aD.out.2.1.mono (T:=GB g m L B KO Rl Ru er) (λk hk=>.inl (by simp[GB,hk]))).trans fZ (by simp[GB])) (λk hk=>.inr (ai.out.2.2 k hk))
   have c7:∀k∈GB g m L B KN Rl Ru er,w.heap.size<=k:=λk hk=>by
    simp only[GB,List.mem_cons,List.mem_append]at hk
    rcases hk with h|h|h|h|h|h
    ·exact ai.out.2.2 k (by simp[GB,h])
    ·exact ai.out.2.2 k (by simp[GB,h])
    ·exact ai.out.2.2 k (by simp[GB,h])
    ·exact ai.out.2.2 k (by simp[GB,h])
    ·rcases aD.out.2.2.1 k h with h|h
     ·exact ai.out.2.2 k (by simp[GB,h])
     ·omega
    ·exact ai.out.2.2 k (by simp[GB,h])
   obtain⟨cv,dk⟩:=eR (ks++[.int .i64 x.a.k.rnd,.int .i64 x.a.k.phase,.int .i64 x.a.k.idx,.string x.sl]);rw[dk]at ca;have bg:=Hd (An ca (An dw (An dc c7)));clear c2 fZ de dw ca hZ q0 q1 aD dT dU eh dc c7 dk;have r4:=bg.out.2.1.k4
   go_wp2_with fail
   clear r4
   go_loopw [7,51] (λs V W=>∃(j:Nat) (NA:Option Addr) (nc:Nat),j<=nr/\V=.int .i64 (j:Int)/\s=.slice NA j nc/\Own W 31 5 NA j nc (((x.a.r.take j).map CH.n).flatMap ON.cs)/\Fr [] bh W/\∀k∈eV NA,bh.heap.size<=k) (λ_ i _=>nr - (intOf i).toNat)
   case atStart=>exact⟨0,none,0,Nat.zero_le _,rfl,rfl,Own.nil _ _ _,Fq _ _,by simp[eV]⟩
   case round =>
    obtain⟨j,NA,nc,hj,rfl,rfl,bp,bn,ds⟩:=hrel;have a3:=(aV.out.1.ok x (iu HX.out.1)).fr0 (bg.out.2.2.1.then bn);have HJ:=Hd (An bp (An bn ds));clear bp bn ds
    by_cases dZ:j<nr
    ·have ck:(j:Int)<(nr:Int):=qo
     have aS:=a3.chr;unfold Chs Rd at aS;rw[HX.out.2.2.2.1]at aS;obtain⟨b6,off,hB,cd,bE⟩:=fo ip aS qo;obtain⟨d,hd⟩:∃d,x.a.r[j]?=some d:=⟨_,gx (by rw[HX.out.2.2.2.1];exact dZ)⟩;have ae:=bE j d hd;obtain⟨X,ax,_,_⟩:=eT d.n.owner;obtain⟨Y,aB,_,_⟩:=eT d.n.text;obtain⟨sv,bN,_,_⟩:=eT d.v;have bL:d.n.cs=[.int .i64 d.n.kind,.string X,.int .i64 d.n.number,.int .i64 d.n.index,.string Y]:=by unfold ON.cs;rw[ax,aB]
     unfold CH.cs at ae;rw[ax,aB,bN]at ae;generalize d.n.kind=k at ae bL;generalize d.n.number=nu at ae bL;generalize d.n.index=V at ae bL;generalize d.a=b5 at ae;obtain⟨y0,y1,y2,y3,y4,y5,y6⟩:=AR ae;rw[hB];obtain⟨t,aY,cq,n0,f0⟩:=il wr #[.int .i64 k,.string X,.int .i64 nu,.int .i64 V,.string Y,.string sv,.bool b5] 95 wr.heap.size;have a4:=Hd f0;have cD:=Hd (An hd bL);obtain⟨d0,d1,d2,d3,d4⟩:=n0.m5;clear ae bE aS a3 hd hB ax aB bN bL cd f0 cq n0
     go_upto_region 14 with fail
     try rw[aY]
     clear y0 y1 y2 y3 y4 y5 y6 aY;obtain⟨ii,aF,aH,aI,aJ⟩:=oY
     go_upto_region 15 with(at_builtin;(with_reducible refine fp (w:=t) rfl (.tmp 55) (.tmp 58) 101 rfl 31 ii _ 5 56 underlying101 aF aH aI aJ rfl qd NA j nc _ rfl (HJ.out.1.fr a4.out qs) 1 1 [.int .i64 k,.string X,.int .i64 nu,.int .i64 V,.string Y] 31 rfl rfl (by simp[Value.oneCell']) (by unfold maxLen;omega) qo ?_);intro A2 dO G ho hf hs;have HO:=Hd (An ho (An hf hs));clear ho hf hs)
     clear d0 d1 d2 d3 d4 aH aI aJ aF
     go_wp2_with fail
     go_roundw
     case rel =>
      have eg:((x.a.r.take (j+1)).map CH.n).flatMap ON.cs=((x.a.r.take j).map CH.n).flatMap ON.cs++[.int .i64 k,.string X,.int .i64 nu,.int .i64 V,.string Y]:=by
       rw[List.take_add_one,cD.out.1,List.map_append,List.flatMap_append,<-cD.out.2];simp
      have hb:=a4.out.size;have bj:=HJ.out.2.1.size;refine⟨j+1,A2,dO,qo,by go_num,rfl,by rw[eg];exact HO.out.1,(HJ.out.2.1.then a4.out).trans HO.out.2.1 (λq hq=>.inr (HJ.out.2.2 q hq)),λq hq=>?_⟩
      rcases HO.out.2.2 q hq with h|h
      ·exact HJ.out.2.2 q h
      ·omega
     case measure=>simp[intOf];omega
    ·obtain rfl:j=nr:=qo
     have cj:=gr HX.out.2.1.1;have bp:=HJ.out.1;rw[List.take_of_length_le (by rw[HX.out.2.2.2.1];omega)]at bp;have dN:=Hd (yY j nc NA (x.a.r.map CH.n) wr (by rw[List.length_map,HX.out.2.2.2.1]) bp.rd (yE cj.1) (wd cj.1) qo);clear cj bp
     go_upto_region 17 with((go_at_call 102;(with_reducible refine dN.out.mono ?_);rintro e Z2 ⟨SA,sc,rfl,ax,dy,dx⟩;have cF:=Hd (An ax (An dy dx));clear ax dy dx))
     go_loopw [64] (λcu W=>∃(q:Nat) (R1 R2:List LR),q<=j/\cu=.int .i64 (q:Int)/\GS W g m L B n KN (i+1) cN cv R1 R2 er/\BoxN W ag 91 #[.int .i64 x.a.k.rnd,.int .i64 x.a.k.phase,.int .i64 x.a.k.idx,.string x.sl,.slice x.A j x.c,.slice x.B nw x.d]/\Fr [] w W/\(∀k∈GB g m L B KN R1 R2 er,w.heap.size<=k)/\Own W 31 5 SA j sc ((x.a.r.map CH.n).flatMap ON.cs)/\(∀k r,R1[k]?=some r->r.xs=if k<i then tA (ys.map AX.a) k else if k=i then(tA (ys.map AX.a) i).take q else [])/\∀r∈R2,r.xs.length<=10*i+q) (λi _=>j - (intOf i).toNat)
     case atStart =>
      have f0:=HJ.out.2.1.then cF.out.2.1
      exact⟨0,Rl,Ru,Nat.zero_le _,rfl,bg.out.1.fr0 f0,bg.out.2.1.fr f0 qs,bg.out.2.2.1.then f0,bg.out.2.2.2,cF.out.1,λk r hr=>by
       rw[ai.out.1.lk k r hr]
       by_cases hk:k<i
       ·simp[hk]
       ·simp[hk],λr hr=>by have:=ai.out.1.us r hr;omega⟩
     case round =>
      obtain⟨q,R1,R2,hq,rfl,aw,bM,aM,aQ,ax,bX,b1⟩:=hrel
      by_cases ee:q<j
      ·have ex:(q:Int)<(j:Int):=qo
       have eE:IntKind.i64.wrap (q:Int)=(q:Int):=by simp only[IntKind.wrap_i64];omega
       obtain⟨sg,rfl,bs⟩:=Cs.of_own ax qo;obtain⟨d,hd⟩:∃d,x.a.r[q]?=some d:=⟨_,gx (by rw[HX.out.2.2.2.1];exact ee)⟩;have bT:(x.a.r.map CH.n)[q]?=some d.n:=by rw[List.getElem?_map,hd];rfl
       have bk:=yE (gr HX.out.2.1.1).1 d.n (iu bT);obtain⟨nq,cn⟩:=eR (d.n);rw[cn]at bT bk;have ae:=λo (ho:o<5)=>jz me bT ho;obtain⟨X,bZ,_,_⟩:=eT nq.owner;obtain⟨Y,aB,_,_⟩:=eT nq.text;unfold ON.cs at ae;rw[bZ,aB]at ae;have bm:=gc bZ aB;have ci:∀f:Int,(LK.mk f i nq).cs=[.int .i64 f,.int .i64 (i:Int),.int .i64 nq.kind,.string X,.int .i64 nq.number,.int .i64 nq.index,.string Y]:=λf=>by unfold LK.cs;rw[bZ,aB]
       obtain⟨k,hk⟩:=eR (nq.kind);obtain⟨nu,bb⟩:=eR (nq.number);obtain⟨V,a9⟩:=eR (nq.index);rw[hk,bb,a9]at ae bm;simp only[hk,bb,a9]at ci;have y0:wr.cell? ⟨sg,q*5,none⟩=some (.int .i64 k):=bs.2 _ _ (ae 0 qo);have y1:wr.cell? ⟨sg,q*5+1,none⟩=some (.string X):=bs.2 _ _ (ae 1 qo);have y2:wr.cell? ⟨sg,q*5+2,none⟩=some (.int .i64 nu):=bs.2 _ _ (ae 2 qo);have y3:wr.cell? ⟨sg,q*5+3,none⟩=some (.int .i64 V):=bs.2 _ _ (ae 3 qo);have y4:wr.cell? ⟨sg,q*5+4,none⟩=some (.string Y):=bs.2 _ _ (ae 4 qo);have HQ:=Hd (An hd (An cn (An bk bm)));have dL:=Hd ci;have ab:=Hd (An aw (An bM (An aM (An aQ (An ax (An bX b1))))));clear hd bT bk cn ae bZ aB bm ci hk bb a9 aw bM aM aQ ax bX b1 bs;obtain⟨D4,cJ,cr,n4,U⟩:=il wr #[.int .i64 k,.string X,.int .i64 nu,.int .i64 V,.string Y] 31 wr.heap.size
       go_upto_region 19 with fail
       try rw[cJ]
       obtain⟨NB,cb⟩:=eR (wr.heap.size);rw[cb]at n4 cr ⊢;have bf:=Hd n4;have dJ:=Hd (An U (An cr cb));have bu:=Hd (ab.out.1.fr0 U);clear y0 y1 y2 y3 y4 n4 U cr cJ cb;obtain⟨fq,bF⟩:=eR (nZ (yF ((ys.map AX.a).take i) nq))
       have dG:∀a∈(ys.map AX.a).take i,a.w.length<=10:=λa ha=>by
        obtain⟨y,Z,rfl⟩:=List.mem_map.1 (List.mem_of_mem_take ha);exact(aV.out.2.1.wf y Z).2.2.2
       have b0:((ys.map AX.a).take i).length<=i:=by rw[List.length_take];omega
       have cW:∀W,Fr [] D4 W->Calls prog 104 #[.pointer (some ⟨g,0,none⟩),.agg #[.int .i64 k,.string X,.int .i64 nu,.int .i64 V,.string Y],.int .i64 (i:Int)] W (fm W (.int .i64 fq)):=λW hW=>by
        have h:=Bn g m _ _ _ er nq (i:Int) W (bu.out.fr0 hW).box (bu.out.fr0 hW).wm HQ.out.2.2.1 (λv hv=>by rw[ai.out.1.wr]at hv;have:=xN nq v hv;omega) (by rw[ai.out.1.wr];have:=yG nq dG;omega);rw[ai.out.1.wr,bF,HQ.out.2.2.2]at h;exact h
       have dX:fq=-1 \/ ∃v:Nat,v<i/\fq=(v:Int):=by
        rcases qa (yF ((ys.map AX.a).take i) nq)with h|⟨v,hv,h⟩
        ·exact .inl (by rw[<-bF];exact h)
        ·exact .inr ⟨v,by have:=xN nq v hv;omega,by rw[<-bF];exact h⟩
       have b4:=Hd cW;have dK:=Hd bF;have HSS:=Hd (λ(W:World) (hW:Fr [] D4 W)=>(show W.cell? ⟨NB,0,none⟩=some (.int .i64 k)/\W.cell? ⟨NB,1,none⟩=some (.string X)/\W.cell? ⟨NB,2,none⟩=some (.int .i64 nu)/\W.cell? ⟨NB,3,none⟩=some (.int .i64 V)/\W.cell? ⟨NB,4,none⟩=some (.string Y)from⟨(bf.out.fr hW qs).c 0,(bf.out.fr hW qs).c 1,(bf.out.fr hW qs).c 2,(bf.out.fr hW qs).c 3,(bf.out.fr hW qs).c 4⟩));clear cW bF dG b0;have z:Fr [] D4 D4.drew:=(Fq _ D4).drew;refine jk (a:=?b6) (λa' W'=>∃D,a'={ tmps:=((((((((Act.tmps ?b6).setIfInBounds 68 (.pointer (some ⟨g,0,none⟩))).setIfInBounds 69 (.agg #[.int .i64 k,.string X,.int .i64 nu,.int .i64 V,.string Y])).setIfInBounds 70 (.int .i64 (i:Int))).setIfInBounds 71 (.int .i64 fq)).setIfInBounds 72 (.int .i64 (i:Int))).setIfInBounds 73 (.agg #[.int .i64 k,.string X,.int .i64 nu,.int .i64 V,.string Y])).setIfInBounds 74 (.agg #[.int .i64 fq,.int .i64 (i:Int),.int .i64 k,.string X,.int .i64 nu,.int .i64 V,.string Y])).setIfInBounds 12 (.pointer (some ⟨D,0,none⟩)),defers:=[] }/\BoxN W' D 98 #[.int .i64 fq,.int .i64 (i:Int),.int .i64 k,.string X,.int .i64 nu,.int .i64 V,.string Y]/\Fr [] D4 W'/\D4.heap.size<=D) ?_ ?_
       ·refine eZ (λW=>Fr [] D4 W) 8 qk ?_ qd
        show fb 0 ..
        iterate 3 (refine gB rfl ?_;try simp only[qq])
        show fb 4 ..
        iterate 2 (refine gB rfl ?_;try simp only[qq])
        refine gO (i:=3) (j:=7) qk qd qd rfl rfl (λK b=>?_) (λK b=>?_)
        ·rw[if_pos qr]
         go_simp
         go_at_call 104
         (with_reducible refine(b4.out _ z).mono ?_);rintro e E1 ⟨rfl,hf⟩;have aL:=z.then hf;refine b _ _ aL ?_;clear b K z hf
         try simp only[qq]
         have z:=aL
         show fb 6 ..
         refine gB rfl ?_;try simp only[qq];refine hO (i:=7) rfl λK b=>?_;go_simp
         obtain⟨E2,cO,n2,f2⟩:=kS E1 #[.int .i64 0,.int .i64 0,.int .i64 0,.string ⟨#[]⟩,.int .i64 0,.int .i64 0,.string ⟨#[]⟩] 98;have bi:=aL.then f2;have hD:D4.heap.size<=E1.heap.size:=aL.size;rw[cO];refine b _ _ bi ?_;clear b K cO z aL f2
         try simp only[qq]
         refine eW ⟨qk,?_⟩;simp only[qG,qH];obtain⟨u0,u1,u2,u3,u4,u5,u6⟩:=n2.m7;have v0:=n2.f 0;have v1:=n2.f 1;have v2:=n2.f 2;have v3:=n2.f 3;have v4:=n2.f 4;have v5:=n2.f 5;have v6:=n2.f 6
         go_wp2_with fail
         exact⟨_,rfl,((((((n2.setAt 0 _).setAt 1 _).setAt 2 _).setAt 3 _).setAt 4 _).setAt 5 _).setAt 6 _,((((((bi.set (.inr hD) _).set (.inr hD) _).set (.inr hD) _).set (.inr hD) _).set (.inr hD) _).set (.inr hD) _).set (.inr hD) _,hD⟩
        ·rw[if_pos qr]
         go_simp
         obtain⟨E1,cM,n1,aL⟩:=sf D4 #[.int .i64 0,.int .i64 0,.int .i64 0,.string ⟨#[]⟩,.int .i64 0,.int .i64 0,.string ⟨#[]⟩] 98;rw[cM];refine b _ _ aL ?_;clear b K cM z
         try simp only[qq]
         refine hO (i:=3) rfl λK b=>?_;go_simp
         go_at_call 104
         (with_reducible refine(b4.out _ aL).mono ?_);rintro e E2 ⟨rfl,hf⟩;have bi:=aL.then hf;have n2:=n1.fr hf qs;have hD:D4.heap.size<=D4.heap.size:=fV _;refine b _ _ bi ?_;clear b K aL hf n1
         try simp only[qq]
         have z:=bi
         show fb 6 ..
         refine gB rfl ?_;try simp only[qq];refine eW ⟨qk,?_⟩;simp only[qG,qH];obtain⟨u0,u1,u2,u3,u4,u5,u6⟩:=n2.m7;have v0:=n2.f 0;have v1:=n2.f 1;have v2:=n2.f 2;have v3:=n2.f 3;have v4:=n2.f 4;have v5:=n2.f 5;have v6:=n2.f 6
         go_wp2_with fail
         exact⟨_,rfl,((((((n2.setAt 0 _).setAt 1 _).setAt 2 _).setAt 3 _).setAt 4 _).setAt 5 _).setAt 6 _,((((((bi.set (.inr hD) _).set (.inr hD) _).set (.inr hD) _).set (.inr hD) _).set (.inr hD) _).set (.inr hD) _).set (.inr hD) _,hD⟩
       rintro a' E ⟨D,rfl,cK,ch,dS⟩;simp only[qA,qB,qC];have aT:=Hd (bu.out.fr0 ch);have ck:=bu.out.lt;have aj:=Hd (An cK (show ∀y∈GB g m L B KN R1 R2 er,y≠D from λy Z e=>by have:=ck y Z;omega));have cy:=Hd (dJ.out.1.then ch);have cB:=Hd (dL.out fq);clear z HSS b4 bu bf cK ch dS ck
       go_upto_region 20 with fail
       obtain⟨eo,Q,ep,cR,dm,au⟩:=pE (rs:=R1) (k:=i) (by rw[aT.out.ln.1];omega);have aA:Q∈R1:=iu au;have ay:Own E 98 7 Q.A Q.xs.length Q.c (Q.xs.flatMap LK.cs):=aT.out.rl.own Q aA;have az:=aT.out.box;have bc:=aT.out.rl.box;have ak:=aj.out.1;have bY:Q.xs.length<=1000:=by rw[ab.out.2.2.2.2.2.1 i Q au,if_neg (Nat.lt_irrefl i),if_pos rfl,List.length_take];omega
       have bJ:g ∉ eV Q.A:=λhm=>by
        have:=NoT.own (ts:=[205]) ay qd g hm _ _ _ az;simp at this
       have bz:L ∉ eV Q.A:=λhm=>aT.out.rl.nB (List.mem_flatMap.2 ⟨Q,aA,hm⟩);have a6:D ∉ eV Q.A:=λhm=>aj.out.2 D (by simp only[GB,List.mem_cons,List.mem_append];exact .inr (.inr (.inr (.inr (.inr (.inl (List.mem_flatMap.2 ⟨Q,aA,hm⟩))))))) rfl;have av:=Hd (An au (An cR (An dm aA)));have HSS:=Hd (λ(W:World) (hW:W.cell? ⟨g,1,none⟩=some (.slice (some ⟨L,0,none⟩) n n)/\W.cell? ⟨L,i,none⟩=some (.slice Q.A Q.xs.length Q.c)/\W.cell? ⟨D,0,none⟩=some (.int .i64 fq)/\W.cell? ⟨D,1,none⟩=some (.int .i64 (i:Int))/\W.cell? ⟨D,2,none⟩=some (.int .i64 k)/\W.cell? ⟨D,3,none⟩=some (.string X)/\W.cell? ⟨D,4,none⟩=some (.int .i64 nu)/\W.cell? ⟨D,5,none⟩=some (.int .i64 V)/\W.cell? ⟨D,6,none⟩=some (.string Y))=>hW);have z:(λW:World=>W.cell? ⟨g,1,none⟩=some (.slice (some ⟨L,0,none⟩) n n)/\W.cell? ⟨L,i,none⟩=some (.slice Q.A Q.xs.length Q.c)/\W.cell? ⟨D,0,none⟩=some (.int .i64 fq)/\W.cell? ⟨D,1,none⟩=some (.int .i64 (i:Int))/\W.cell? ⟨D,2,none⟩=some (.int .i64 k)/\W.cell? ⟨D,3,none⟩=some (.string X)/\W.cell? ⟨D,4,none⟩=some (.int .i64 nu)/\W.cell? ⟨D,5,none⟩=some (.int .i64 V)/\W.cell? ⟨D,6,none⟩=some (.string Y)) E.drew:=⟨az.c 1,oS bc au,ak.c 0,ak.c 1,ak.c 2,ak.c 3,ak.c 4,ak.c 5,ak.c 6⟩;refine eZ (λW:World=>W.cell? ⟨g,1,none⟩=some (.slice (some ⟨L,0,none⟩) n n)/\W.cell? ⟨L,i,none⟩=some (.slice Q.A Q.xs.length Q.c)/\W.cell? ⟨D,0,none⟩=some (.int .i64 fq)/\W.cell? ⟨D,1,none⟩=some (.int .i64 (i:Int))/\W.cell? ⟨D,2,none⟩=some (.int .i64 k)/\W.cell? ⟨D,3,none⟩=some (.string X)/\W.cell? ⟨D,4,none⟩=some (.int .i64 nu)/\W.cell? ⟨D,5,none⟩=some (.int .i64 V)/\W.cell? ⟨D,6,none⟩=some (.string Y)) 16 qk ?_ qd
       show fb 0 ..
       iterate 13 (refine gB rfl ?_;try simp only[qq])
       refine hO (i:=13) rfl λK b=>?_;go_simp
       obtain⟨G1,bC,n1,f1⟩:=sf E #[.int .i64 fq,.int .i64 (i:Int),.int .i64 k,.string X,.int .i64 nu,.int .i64 V,.string Y] 98;rw[bC];have a8:=az.fr f1 qs;have bd:=bc.fr f1 qs;have al:=ak.fr f1 qs;refine b _ _ ⟨a8.c 1,oS bd au,al.c 0,al.c 1,al.c 2,al.c 3,al.c 4,al.c 5,al.c 6⟩ ?_;clear b K bC z
       try simp only[qq]
       refine hO (i:=14) rfl λK b=>?_;obtain⟨ii,aF,aH,aI,aJ⟩:=mB;refine gF (.tmp 86) (.tmp 88) 61 rfl 98 ii _ 7 72 underlying61 aF aH aI aJ rfl qd Q.A Q.xs.length Q.c (Q.xs.flatMap LK.cs) rfl (ay.fr f1 qs) ⟨E.heap.size,0,none⟩ 1 1 [.int .i64 fq,.int .i64 (i:Int),.int .i64 k,.string X,.int .i64 nu,.int .i64 V,.string Y] rfl rfl (λj u hu=>by rw[fx,n1.c j];simpa using hu) (by simp[Value.oneCell']) (by unfold maxLen;omega) qo ?_;intro LA lc G2 aZ an bx;have bD:=a8.fr an bJ;have aR:=bd.fr an bz;have am:=al.fr an a6;have z:(λW:World=>W.cell? ⟨g,1,none⟩=some (.slice (some ⟨L,0,none⟩) n n)/\W.cell? ⟨L,i,none⟩=some (.slice Q.A Q.xs.length Q.c)/\W.cell? ⟨D,0,none⟩=some (.int .i64 fq)/\W.cell? ⟨D,1,none⟩=some (.int .i64 (i:Int))/\W.cell? ⟨D,2,none⟩=some (.int .i64 k)/\W.cell? ⟨D,3,none⟩=some (.string X)/\W.cell? ⟨D,4,none⟩=some (.int .i64 nu)/\W.cell? ⟨D,5,none⟩=some (.int .i64 V)/\W.cell? ⟨D,6,none⟩=some (.string Y)) G2:=⟨bD.c 1,oS aR au,am.c 0,am.c 1,am.c 2,am.c 3,am.c 4,am.c 5,am.c 6⟩;refine b _ _ z ?_;clear b K
       try simp only[qq]
       show fb 15 ..
       refine gB rfl ?_;try simp only[qq];refine eW ⟨qk,?_⟩;simp only[qG,qH];have q0:G2.cell? ⟨L,i,none⟩=some (.slice Q.A Q.xs.length Q.c):=oS aR au;have q1:=aR.f i;have aW:∀y∈eV LA,y∈eV Q.A \/ E.heap.size<=y:=λy Z=>(bx y Z).imp id (λh=>Nat.le_trans f1.size h);have aC:=Hd (An aZ (An aW (An ((f1.mono qs).then an:Fr (eV Q.A) E G2) am)));have bt:=Hd a6;clear au aA ay az bc ak bY bJ bz a6 cR dm z n1 f1 a8 bd al aZ an bx aW bD aR am HSS aH aI aJ aF
       go_upto_region 21 with fail
       obtain⟨E2,a7⟩:=eR (G2.setCell ⟨L,i,none⟩ (.slice LA (Q.xs.length+1) lc));have ba:=aT.out.rl;rw[av.out.2.1]at ba;have aO:=aC.out.1;rw[<-cB.out]at aO;have ah:=RL.put (w2:=E2) (x:=LK.mk fq i nq) ba aC.out.2.2.1 aO aC.out.2.1 (by simp only[av.out.2.2.1];exact a7);obtain⟨R3,bR⟩:=eR (eo++LR.mk LA lc (Q.xs++[LK.mk fq i nq])::ep);rw[bR]at ah
       have bK:R3.length=n:=by
        have h1:=aT.out.ln.1;rw[av.out.2.1]at h1;rw[<-bR];simpa using h1
       have aw:=aT.out.putL ah.2.1 av.out.2.2.2 ah.1 (by rw[<-av.out.2.1]at ah;exact ah.2.2) bK;have bA:D≠L:=λe=>aj.out.2 D (by simp[GB,e]) rfl;have bB:BoxN E2 D 98 #[.int .i64 fq,.int .i64 (i:Int),.int .i64 k,.string X,.int .i64 nu,.int .i64 V,.string Y]:=aj.out.1.fr ah.2.1 (by simp only[List.mem_cons,not_or];exact⟨bA,bt.out⟩);have bO:=ah.2.1.size;have aK:=Hd (An aw (An ah.2.1 (An ah.2.2 (An bR bB))));have a5:=Hd (An av.out aC.out.2.1)
       try rw[a7]
       clear a7 ba aO ah bK aw bA bB bO bR aC av bt q0 q1;have aU:=Hd aK.out.1;have dR:=aj.out.1.lt
       have cI:∀y∈GB g m L B KN R3 R2 er,y≠D:=λy Z e=>by
        simp only[GB,List.mem_cons,List.mem_append]at Z
        rcases Z with h|h|h|h|h|h|h|h
        ·exact aj.out.2 y (by simp[GB,h]) e
        ·exact aj.out.2 y (by simp[GB,h]) e
        ·exact aj.out.2 y (by simp[GB,h]) e
        ·exact aj.out.2 y (by simp[GB,h]) e
        ·exact aj.out.2 y (by simp[GB,h]) e
        ·rcases aK.out.2.2.1 y h with h2|h2
         ·rw[<-a5.out.1.2.1]at h2
          exact aj.out.2 y (by simp[GB,h2]) e
         ·omega
        ·exact aj.out.2 y (by simp[GB,h]) e
        ·exact aj.out.2 y (by simp[GB,h]) e
       have dg:∀y∈GB g m L B KN R3 R2 er,w.heap.size<=y:=λy Z=>by
        simp only[GB,List.mem_cons,List.mem_append]at Z;have ef:=ab.out.2.2.1.size;have eA:=cy.out.size
        rcases Z with h|h|h|h|h|h|h|h
        ·exact ab.out.2.2.2.1 y (by simp[GB,h])
        ·exact ab.out.2.2.2.1 y (by simp[GB,h])
        ·exact ab.out.2.2.2.1 y (by simp[GB,h])
        ·exact ab.out.2.2.2.1 y (by simp[GB,h])
        ·exact ab.out.2.2.2.1 y (by simp[GB,h])
        ·rcases aK.out.2.2.1 y h with h2|h2
         ·rw[<-a5.out.1.2.1]at h2
          exact ab.out.2.2.2.1 y (by simp[GB,h2])
         ·omega
        ·exact ab.out.2.2.2.1 y (by simp[GB,h])
        ·exact ab.out.2.2.2.1 y (by simp[GB,h])
       have bU:Fr (GB g m L B KN R1 R2 er) wr E2:=(cy.out.mono qs).trans aK.out.2.1 (λy Z=>.inl (by
        rcases List.mem_cons.1 Z with h|h
        ·simp[GB,h]
        ·have:y∈jU R1:=List.mem_flatMap.2 ⟨Q,a5.out.1.2.2.2,h⟩
         simp[GB,this]))
       have du:=ab.out.2.1.frT bU ab.out.1.noS qs;have dz:=Own.frT ab.out.2.2.2.2.1 bU (ab.out.1.noT (ts:=[31]) qd qd qd qd qd) qs;have db:Fr [] w E2:=ab.out.2.2.1.trans bU (λy Z=>.inr (ab.out.2.2.2.1 y Z))
       have bo:(tA (ys.map AX.a) i).take (q+1)=(tA (ys.map AX.a) i).take q++[LK.mk fq i nq]:=by
        have h1:(ys.map AX.a)[i]?=some x.a:=by rw[List.getElem?_map,HX.out.1];rfl
        have h2:tA (ys.map AX.a) i=x.a.r.map λc=>⟨nZ (yF ((ys.map AX.a).take i) c.n),i,c.n⟩:=by unfold tA;rw[h1]
        rw[List.take_add_one,h2,List.getElem?_map,HQ.out.1];simp[HQ.out.2.1,dK.out]
       have dl:∀k r,R3[k]?=some r->r.xs=if k<i then tA (ys.map AX.a) k else if k=i then(tA (ys.map AX.a) i).take (q+1)else []:=λk r hr=>by
        rw[<-aK.out.2.2.2.1]at hr
        rcases DX (r:=Q) hr with⟨hk,hr⟩|⟨hk,hr⟩
        ·rw[a5.out.1.2.2.1]at hk
         subst hk;rw[hr,if_neg (Nat.lt_irrefl k),if_pos rfl,bo,ab.out.2.2.2.2.2.1 k Q a5.out.1.1,if_neg (Nat.lt_irrefl k),if_pos rfl]
        ·rw[a5.out.1.2.2.1]at hk
         rw[<-a5.out.1.2.1]at hr;rw[ab.out.2.2.2.2.2.1 k r hr,if_neg hk,if_neg hk]
       have H3:=Hd (An du (An db (An dg (An dz (An dl cI)))));clear du db dg dz dl bo bU dR cI;have l0:=aK.out.2.2.2.2.k0
       rcases dX with rfl|⟨v,eC,rfl⟩
       ·go_wp2_with fail
        go_roundw
        case rel=>exact⟨q+1,R3,R2,qo,by go_num,aK.out.1,H3.out.1,H3.out.2.1,H3.out.2.2.1,H3.out.2.2.2.1,H3.out.2.2.2.2.1,λr hr=>by have:=ab.out.2.2.2.2.2.2 r hr;omega⟩
        case measure=>simp[intOf];omega
       ·have eB:(0:Int)<=(v:Int):=qo
        have eF:IntKind.i64.wrap (v:Int)=(v:Int):=by simp only[IntKind.wrap_i64];omega
        have ec:(v:Int)<(n:Int):=qo
        clear aj;have aj:=Hd (An aK.out.2.2.2.2 H3.out.2.2.2.2.2)
        go_upto_region 22 with fail
        clear l0;obtain⟨eq,R,es,cS,dn,au⟩:=pE (rs:=R2) (k:=v) (by rw[aU.out.ln.2];omega);have aA:R∈R2:=iu au;have ay:Own E2 98 7 R.A R.xs.length R.c (R.xs.flatMap LK.cs):=aU.out.ru.own R aA;have az:=aU.out.box;have bc:=aU.out.ru.box;have ak:=aj.out.1;have bY:R.xs.length<=1000:=by have:=ab.out.2.2.2.2.2.2 R aA;omega
        have bJ:g ∉ eV R.A:=λhm=>by
         have:=NoT.own (ts:=[205]) ay qd g hm _ _ _ az;simp at this
        have bz:B ∉ eV R.A:=λhm=>aU.out.ru.nB (List.mem_flatMap.2 ⟨R,aA,hm⟩);have a6:D ∉ eV R.A:=λhm=>aj.out.2 D (by simp only[GB,List.mem_cons,List.mem_append];exact .inr (.inr (.inr (.inr (.inr (.inr (.inl (List.mem_flatMap.2 ⟨R,aA,hm⟩)))))))) rfl;have av:=Hd (An au (An cS (An dn aA)));have HSS:=Hd (λ(W:World) (hW:W.cell? ⟨g,2,none⟩=some (.slice (some ⟨B,0,none⟩) n n)/\W.cell? ⟨B,v,none⟩=some (.slice R.A R.xs.length R.c)/\W.cell? ⟨D,0,none⟩=some (.int .i64 (v:Int))/\W.cell? ⟨D,1,none⟩=some (.int .i64 (i:Int))/\W.cell? ⟨D,2,none⟩=some (.int .i64 k)/\W.cell? ⟨D,3,none⟩=some (.string X)/\W.cell? ⟨D,4,none⟩=some (.int .i64 nu)/\W.cell? ⟨D,5,none⟩=some (.int .i64 V)/\W.cell? ⟨D,6,none⟩=some (.string Y))=>hW);have z:(λW:World=>W.cell? ⟨g,2,none⟩=some (.slice (some ⟨B,0,none⟩) n n)/\W.cell? ⟨B,v,none⟩=some (.slice R.A R.xs.length R.c)/\W.cell? ⟨D,0,none⟩=some (.int .i64 (v:Int))/\W.cell? ⟨D,1,none⟩=some (.int .i64 (i:Int))/\W.cell? ⟨D,2,none⟩=some (.int .i64 k)/\W.cell? ⟨D,3,none⟩=some (.string X)/\W.cell? ⟨D,4,none⟩=some (.int .i64 nu)/\W.cell? ⟨D,5,none⟩=some (.int .i64 V)/\W.cell? ⟨D,6,none⟩=some (.string Y)) E2.drew:=⟨az.c 2,oS bc au,ak.c 0,ak.c 1,ak.c 2,ak.c 3,ak.c 4,ak.c 5,ak.c 6⟩;refine eZ (λW:World=>W.cell? ⟨g,2,none⟩=some (.slice (some ⟨B,0,none⟩) n n)/\W.cell? ⟨B,v,none⟩=some (.slice R.A R.xs.length R.c)/\W.cell? ⟨D,0,none⟩=some (.int .i64 (v:Int))/\W.cell? ⟨D,1,none⟩=some (.int .i64 (i:Int))/\W.cell? ⟨D,2,none⟩=some (.int .i64 k)/\W.cell? ⟨D,3,none⟩=some (.string X)/\W.cell? ⟨D,4,none⟩=some (.int .i64 nu)/\W.cell? ⟨D,5,none⟩=some (.int .i64 V)/\W.cell? ⟨D,6,none⟩=some (.string Y)) 18 qk ?_ qd
        show fb 0 ..
        iterate 15 (refine gB rfl ?_;try simp only[qq])
        refine hO (i:=15) rfl λK b=>?_;go_simp
        obtain⟨G1,bC,n1,f1⟩:=sf E2 #[.int .i64 (v:Int),.int .i64 (i:Int),.int .i64 k,.string X,.int .i64 nu,.int .i64 V,.string Y] 98;rw[bC];have a8:=az.fr f1 qs;have bd:=bc.fr f1 qs;have al:=ak.fr f1 qs;refine b _ _ ⟨a8.c 2,oS bd au,al.c 0,al.c 1,al.c 2,al.c 3,al.c 4,al.c 5,al.c 6⟩ ?_;clear b K bC z
        try simp only[qq]
        refine hO (i:=16) rfl λK b=>?_;obtain⟨ii,aF,aH,aI,aJ⟩:=mB;refine gF (.tmp 107) (.tmp 109) 61 rfl 98 ii _ 7 72 underlying61 aF aH aI aJ rfl qd R.A R.xs.length R.c (R.xs.flatMap LK.cs) rfl (ay.fr f1 qs) ⟨E2.heap.size,0,none⟩ 1 1 [.int .i64 (v:Int),.int .i64 (i:Int),.int .i64 k,.string X,.int .i64 nu,.int .i64 V,.string Y] rfl rfl (λj u hu=>by rw[fx,n1.c j];simpa using hu) (by simp[Value.oneCell']) (by unfold maxLen;omega) qo ?_;intro LA lc G2 aZ an bx;have bD:=a8.fr an bJ;have aR:=bd.fr an bz;have am:=al.fr an a6;have z:(λW:World=>W.cell? ⟨g,2,none⟩=some (.slice (some ⟨B,0,none⟩) n n)/\W.cell? ⟨B,v,none⟩=some (.slice R.A R.xs.length R.c)/\W.cell? ⟨D,0,none⟩=some (.int .i64 (v:Int))/\W.cell? ⟨D,1,none⟩=some (.int .i64 (i:Int))/\W.cell? ⟨D,2,none⟩=some (.int .i64 k)/\W.cell? ⟨D,3,none⟩=some (.string X)/\W.cell? ⟨D,4,none⟩=some (.int .i64 nu)/\W.cell? ⟨D,5,none⟩=some (.int .i64 V)/\W.cell? ⟨D,6,none⟩=some (.string Y)) G2:=⟨bD.c 2,oS aR au,am.c 0,am.c 1,am.c 2,am.c 3,am.c 4,am.c 5,am.c 6⟩;refine b _ _ z ?_;clear b K
        try simp only[qq]
        show fb 17 ..
        refine gB rfl ?_;try simp only[qq];refine eW ⟨qk,?_⟩;simp only[qG,qH];have q0:G2.cell? ⟨B,v,none⟩=some (.slice R.A R.xs.length R.c):=oS aR au;have q1:=aR.f v;have aW:∀y∈eV LA,y∈eV R.A \/ E2.heap.size<=y:=λy Z=>(bx y Z).imp id (λh=>Nat.le_trans f1.size h);have aC:=Hd (An aZ (An aW (An ((f1.mono qs).then an:Fr (eV R.A) E2 G2) am)));have bt:=Hd a6;clear au aA ay az bc ak bY bJ bz a6 cS dn z n1 f1 a8 bd al aZ an bx aW bD aR am HSS aH aI aJ aF
        go_upto_region 23 with fail
        obtain⟨E3,a7⟩:=eR (G2.setCell ⟨B,v,none⟩ (.slice LA (R.xs.length+1) lc));have ba:=aU.out.ru;rw[av.out.2.1]at ba;have aO:=aC.out.1;rw[<-cB.out]at aO;have ah:=RL.put (w2:=E3) (x:=LK.mk (v:Int) i nq) ba aC.out.2.2.1 aO aC.out.2.1 (by simp only[av.out.2.2.1];exact a7);obtain⟨R4,bS⟩:=eR (eq++LR.mk LA lc (R.xs++[LK.mk (v:Int) i nq])::es);rw[bS]at ah
        have bK:R4.length=n:=by
         have h1:=aU.out.ln.2;rw[av.out.2.1]at h1;rw[<-bS];simpa using h1
        have aw:=aU.out.putU ah.2.1 av.out.2.2.2 ah.1 (by rw[<-av.out.2.1]at ah;exact ah.2.2) bK;have bA:D≠B:=λe=>aj.out.2 D (by simp[GB,e]) rfl;have bB:BoxN E3 D 98 #[.int .i64 (v:Int),.int .i64 (i:Int),.int .i64 k,.string X,.int .i64 nu,.int .i64 V,.string Y]:=aj.out.1.fr ah.2.1 (by simp only[List.mem_cons,not_or];exact⟨bA,bt.out⟩);have bO:=ah.2.1.size;have bP:=Hd (An aw (An ah.2.1 (An ah.2.2 (An bS bB))));have bv:=Hd (An av.out aC.out.2.1)
        try rw[a7]
        clear a7 ba aO ah bK aw bA bB bO bS aC av bt q0 q1
        have bH:∀y∈GB g m L B KN R3 R4 er,w.heap.size<=y:=λy Z=>by
         simp only[GB,List.mem_cons,List.mem_append]at Z;have ef:=H3.out.2.1.size
         rcases Z with h|h|h|h|h|h|h|h
         ·exact H3.out.2.2.1 y (by simp[GB,h])
         ·exact H3.out.2.2.1 y (by simp[GB,h])
         ·exact H3.out.2.2.1 y (by simp[GB,h])
         ·exact H3.out.2.2.1 y (by simp[GB,h])
         ·exact H3.out.2.2.1 y (by simp[GB,h])
         ·exact H3.out.2.2.1 y (by simp[GB,h])
         ·rcases bP.out.2.2.1 y h with h2|h2
          ·rw[<-bv.out.1.2.1]at h2
           exact H3.out.2.2.1 y (by simp[GB,h2])
          ·omega
         ·exact H3.out.2.2.1 y (by simp[GB,h])
        have bV:Fr (GB g m L B KN R3 R2 er) E2 E3:=bP.out.2.1.mono (λy Z=>.inl (by
         rcases List.mem_cons.1 Z with h|h
         ·simp[GB,h]
         ·have:y∈jU R2:=List.mem_flatMap.2 ⟨R,bv.out.1.2.2.2,h⟩
          simp[GB,this]))
        have dv:=H3.out.1.frT bV aK.out.1.noS qs;have dA:=Own.frT H3.out.2.2.2.1 bV (aK.out.1.noT (ts:=[31]) qd qd qd qd qd) qs;have bG:Fr [] w E3:=H3.out.2.1.trans bV (λy Z=>.inr (H3.out.2.2.1 y Z))
        have dD:∀r∈R4,r.xs.length<=10*i+(q+1):=λr hr=>by
         rw[<-bP.out.2.2.2.1]at hr;have hb:=ab.out.2.2.2.2.2.2 R bv.out.1.2.2.2
         rcases List.mem_append.1 hr with h|h
         ·have:=ab.out.2.2.2.2.2.2 r (by rw[bv.out.1.2.1];simp[h]);omega
         ·rcases List.mem_cons.1 h with rfl|h
          ·simp only[gG,List.length_cons,List.length_nil]
           omega
          ·have:=ab.out.2.2.2.2.2.2 r (by rw[bv.out.1.2.1];simp[h]);omega
        have H4:=Hd (An dv (An bG (An bH (An dA dD))));clear dv bG bH dA dD bV
        go_wp2_with fail
        go_roundw
        case rel=>exact⟨q+1,R3,R4,qo,by go_num,bP.out.1,H4.out.1,H4.out.2.1,H4.out.2.2.1,H4.out.2.2.2.1,H3.out.2.2.2.2.1,H4.out.2.2.2.2⟩
        case measure=>simp[intOf];omega
      ·obtain rfl:q=j:=qo
       have ab:=Hd (An aw (An bM (An aM (An aQ (An bX b1)))));have r5:=bM.k5;clear aw bM aM aQ ax bX b1
       go_wp2_with fail
       clear r5
       go_loopw [116] (λcu W=>∃(p:Nat) (e2:List (NE ON Nat)),p<=nw/\cu=.int .i64 (p:Int)/\GS W g m L B n KN (i+1) cN cv R1 R2 e2/\Fr [] w W/\(∀k∈GB g m L B KN R1 R2 e2,w.heap.size<=k)/\∀y,gJ e2 y=yF ((ys.map AX.a).take i) y++(i7 i y (x.a.w.take p)).map VX.i) (λi _=>nw - (intOf i).toNat)
       case atStart=>exact⟨0,er,Nat.zero_le _,rfl,ab.out.1,ab.out.2.2.1,ab.out.2.2.2.1,λy=>by rw[ai.out.1.wr];simp[i7]⟩
       case round =>
        obtain⟨p,e2,hp,rfl,aw,aM,aQ,bW⟩:=hrel
        by_cases ed:p<nw
        ·have ec:(p:Int)<(nw:Int):=qo
         have a3:=(aV.out.1.ok x (iu HX.out.1)).fr0 aM;have aS:=a3.chw;unfold Chs Rd at aS;rw[HX.out.2.2.2.2]at aS;obtain⟨b6,off,hB,cd,bE⟩:=fo ip aS qo;obtain⟨d,hd⟩:∃d,x.a.w[p]?=some d:=⟨_,gx (by rw[HX.out.2.2.2.2];exact ed)⟩;have bk:=ot (gC (gr HX.out.2.1.1).2 d (iu hd));obtain⟨kl,ea⟩:=fU bk.1;have ae:=bE p d hd;obtain⟨X,ax,_,_⟩:=eT d.n.owner;obtain⟨Y,aB,_,_⟩:=eT d.n.text;obtain⟨sv,bN,_,_⟩:=eT d.v;obtain⟨k,hk⟩:=eR (d.n.kind);obtain⟨nu,bb⟩:=eR (d.n.number);obtain⟨V,a9⟩:=eR (d.n.index);obtain⟨b5,cZ⟩:=eR (d.a);have bm:fg d.n=.agg #[.int .i64 k,.string X,.int .i64 nu,.int .i64 V,.string Y]:=by rw[gc ax aB,hk,bb,a9]
         unfold CH.cs at ae;rw[ax,aB,bN,hk,bb,a9,cZ]at ae;obtain⟨y0,y1,y2,y3,y4,y5,y6⟩:=AR ae;rw[hB];have af:=Hd (An aw (An aM (An aQ bW)));have HD:=Hd hd;clear aw aM aQ bW;obtain⟨t,aY,cq,n0,f0⟩:=il wr #[.int .i64 k,.string X,.int .i64 nu,.int .i64 V,.string Y,.string sv,.bool b5] 95 wr.heap.size;obtain⟨B9,b9⟩:=eR (wr.heap.size);rw[b9]at n0;have dE:=af.out.1.box.fr f0 qs;have cw:=Hd b9;have HK:=Hd bm;have cC:=Hd (show EK t m e2 from ML.fr0 af.out.1.wm f0);have a4:=Hd f0;clear ae bE aS a3 hd bk hB ax aB bN hk bb a9 cZ bm b9 cd
         go_upto_region 27 with fail
         try rw[aY]
         try rw[cw.out]
         clear y0 y1 y2 y3 y4 y5 y6 aY cq
         have bY:(gJ e2 d.n).length<=200:=by
          rw[af.out.2.2.2,gG,List.length_map]
          have h1:=yG (l:=(ys.map AX.a).take i) d.n (λa ha=>by
           obtain⟨y,Z,rfl⟩:=List.mem_map.1 (List.mem_of_mem_take ha);exact(aV.out.2.1.wf y Z).2.2.2)
          have h2:(i7 i d.n (x.a.w.take p)).length<=p:=by
           unfold i7;rw[List.length_map];have:=List.length_filter_le (λc=>decide (CH.n c=d.n)) (x.a.w.take p);rw[List.length_take]at this;omega
          rw[List.length_take]at h1;omega
         have dH:=af.out.1.lt;have ce:∀q∈GB g m L B KN R1 R2 e2,q≠B9:=λq hq he=>by have:=dH q hq;have:=cw.out;omega
         have c9:g≠m:=λhe=>by
          obtain⟨et,clock,h3,_⟩:=af.out.1.wm.map;rw[<-he,show wr.heap[g]?=_ from af.out.1.box]at h3
          cases h3
         have b2:=Hd (An (ce m (by simp[GB])) (An c9 (λq (hq:q∈gj e2)=>ce q (by simp[GB,hq]))))
         have c4:g ∉ gj e2:=λhm=>by
          have:=ML.noT (ts:=[205]) af.out.1.wm qd g hm _ _ _ af.out.1.box;simp at this
         have dI:=Hd c4
         have cH:∀W,Fr (m::gj e2) t W->W.cell? ⟨g,3,none⟩=some (.map (some m))/\W.cell? ⟨B9,0,none⟩=some (.int .i64 k)/\W.cell? ⟨B9,1,none⟩=some (.string X)/\W.cell? ⟨B9,2,none⟩=some (.int .i64 nu)/\W.cell? ⟨B9,3,none⟩=some (.int .i64 V)/\W.cell? ⟨B9,4,none⟩=some (.string Y):=λW hW=>by
          have h1:=dE.fr hW (by simp only[List.mem_cons,not_or];exact⟨b2.out.2.1,dI.out⟩);have h2:=n0.fr hW (by simp only[List.mem_cons,not_or];exact⟨Ne.symm b2.out.1,λhm=>b2.out.2.2 _ hm rfl⟩);exact⟨h1.c 3,h2.c 0,h2.c 1,h2.c 2,h2.c 3,h2.c 4⟩
         have z:Fr (m::gj e2) t t.drew:=(Fq _ t).drew;have HSS:=Hd cH;clear cH dH ce c9 c4 n0 f0 dE;refine eZ (λW:World=>Fr (m::gj e2) t W) 12 qk ?_ qd
         show fb 0 ..
         iterate 7 (refine gB rfl ?_;try simp only[qq])
         refine hO (i:=7) rfl λK b=>?_;go_simp
         obtain⟨M,cV,n1,f1⟩:=sf t #[.int .i64 (i:Int)] 3;rw[cV];refine b _ _ (f1.mono qs) ?_;clear b K z cV
         try simp only[qq]
         refine hO (i:=8) rfl λK b=>?_;obtain⟨sm,Ae,dQ,G,dr,f2,dt,c3,dB⟩:=ML.step ir iA underlying194 pa (ML.fr0 cC.out f1) d.n ea;rw[HK.out]at dr;go_simp
         have bQ:Fr (m::gj e2) t G:=(f1.mono qs).trans f2 qs;refine b _ _ bQ ?_;clear b K dr;have z:=bQ
         try simp only[qq]
         show fb 9 ..
         refine gB rfl ?_;try simp only[qq]
         show fb 11 ..
         refine gB rfl ?_;try simp only[qq];refine hO (i:=10) rfl λK b=>?_;obtain⟨jj,dY,el,em,en⟩:=kt;have n2:=n1.fr f2 (by have:=cC.out.map.lt;simp;omega);refine gF (.tmp 126) (.tmp 128) 36 rfl 3 jj _ 1 8 underlying36 dY el em en rfl qd Ae _ dQ _ rfl dt ⟨t.heap.size,0,none⟩ 1 1 [.int .i64 (i:Int)] rfl rfl (λj u hu=>by rw[fx,n2.c j];simpa using hu) (by simp[Value.oneCell']) (by unfold maxLen;omega) qo ?_;intro AA dP F aO cf aW;have b7:Fr (m::gj e2) t F:=bQ.trans cf (λq hq=>.inl (by simp[c3 q hq]));refine b _ _ b7 ?_;clear b K z
         try simp only[qq]
         refine eW ⟨qk,?_⟩;simp only[qG,qH];obtain⟨V4,e3,eu,U,dq,dh,c8⟩:=dB i F AA dP cf aO aW;have b8:Fr (m::gj e2) t V4:=b7.trans U qs;have dF:=(af.out.1.fr0 a4.out).putW b8 dq;have bO:=a4.out.size
         have bG:Fr [] w V4:=(af.out.2.1.then a4.out).trans b8 (λy Z=>.inr (af.out.2.2.1 y (by
          rcases List.mem_cons.1 Z with h|h <;> simp[GB,h])))
         have ej:=af.out.2.1.size;have ek:=f1.size
         have bH:∀y∈GB g m L B KN R1 R2 e3,w.heap.size<=y:=λy Z=>by
          simp only[GB,List.mem_cons,List.mem_append]at Z
          rcases Z with h|h|h|h|h|h|h|h
          ·exact af.out.2.2.1 y (by simp[GB,h])
          ·exact af.out.2.2.1 y (by simp[GB,h])
          ·exact af.out.2.2.1 y (by simp[GB,h])
          ·exact af.out.2.2.1 y (by simp[GB,h])
          ·exact af.out.2.2.1 y (by simp[GB,h])
          ·exact af.out.2.2.1 y (by simp[GB,h])
          ·exact af.out.2.2.1 y (by simp[GB,h])
          ·rcases c8 y h with h2|h2
           ·exact af.out.2.2.1 y (by simp[GB,h2])
           ·omega
         have di:∀y,gJ e3 y=yF ((ys.map AX.a).take i) y++(i7 i y (x.a.w.take (p+1))).map VX.i:=λy=>by
          rw[dh,List.take_add_one,HD.out]
          show _=_++(i7 i y (x.a.w.take p++[d])).map VX.i
          rw[rk]
          by_cases cl:y=d.n
          ·subst cl
           rw[if_pos rfl,if_pos rfl,af.out.2.2.2,List.append_assoc,List.map_append];rfl
          ·rw[if_neg cl,if_neg (λe=>cl e.symm),af.out.2.2.2,List.append_nil]
         have be:=Hd (An dF (An bG (An bH di)));clear dF bG bH di b8 b7 bQ U dq dh c8 aO cf aW dB dt c3 n1 n2 f1 f2 HSS bO ej ek
         go_wp2_with fail
         go_roundw
         case rel=>exact⟨p+1,e3,qo,by go_num,be.out.1,be.out.2.1,be.out.2.2.1,be.out.2.2.2⟩
         case measure=>simp[intOf];omega
        ·obtain rfl:p=nw:=qo
         have bo:(ys.map AX.a)[i]?=some x.a:=by rw[List.getElem?_map,HX.out.1];rfl
         have b0:((ys.map AX.a).take i).length=i:=by rw[List.length_take,List.length_map,aV.out.2.2];omega
         have dC:x.a.w.take p=x.a.w:=List.take_of_length_le (by rw[HX.out.2.2.2.2];exact fV _)
         have be:=Hd (GG.mk aw (λy=>by
          rw[bW,dC];unfold yF oz;rw[List.take_add_one,bo]
          show _=(mP 0 ((ys.map AX.a).take i++[x.a]) y).map VX.i
          rw[pk,List.map_append,b0,Nat.zero_add]) (λk r hr=>by
          rw[ab.out.2.2.2.2.1 k r hr]
          by_cases hk:k<i
          ·rw[if_pos hk,if_pos qo]
          ·by_cases dj:k=i
           ·subst dj
            rw[if_neg hk,if_pos rfl,if_pos qo,List.take_of_length_le];unfold tA;rw[bo,List.length_map,HX.out.2.2.2.1];omega
           ·rw[if_neg hk,if_neg dj,if_neg qo]) (λr hr=>by have:=ab.out.2.2.2.2.2 r hr;omega))
         have cz:=Hd (An aM aQ);clear aw bW aM aQ bo b0 dC
         go_wp2_with fail
         go_roundw
         case rel=>exact⟨i+1,KN,cN,cv,R1,R2,e2,qo,by go_num,be.out,cz.out.1,cz.out.2⟩
         case measure=>simp[intOf];omega
  ·obtain rfl:i=n:=qo
   go_wp2_with fail
   go_ret2
   exact⟨g,m,L,B,KO,aP,ks,Rl,Ru,er,rfl,ai.out.1,ai.out.2.1⟩
end Go.Proofs.YtlpmiimgacfmkaaGreatDoor
