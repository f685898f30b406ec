/- Part of the proof. -/
import Derived.Test.YtlpmiimgacfmkaaGreatDoorCCd7
set_option linter.all false
set_option maxHeartbeats 4000000
set_option maxRecDepth 100000
namespace Go.Proofs.YtlpmiimgacfmkaaGreatDoor
open Go.Proofs.Tryz List
open Go.RowKit
def mE(W:World){d e:Nm}(a:d.length=32)(b:e.length=32)(k:Nat):(Op.equalIn (k+2) 57 (.agg (eO d).toArray) (.agg (eO e).toArray)).run prog W=.ok (d == e) W :=
 run_equalIn_bytes (P:=prog) W k 57 5 32 underlying57 underlying5 (λw=>by simp[go_sem]) d e a b
def vO(W:World){l r c d:Nm}(e:l.length=32)(i:r.length=32)(f:c.length=32)(j:d.length=32):(Op.equalIn 10000 308 (.agg (fF l r).toArray) (.agg (fF c d).toArray)).run prog W=.ok (l == c && r == d) W:=by
 rw[run_equalIn_struct W 9999 308 _ _ qk qk];have t1:∀ {a b:Nm},a.length=32->(fF a b).take 32=eO a:=fun {a b} h=>by unfold fF;rw[take_append_of_le_length (by rw[eP,h];exact fW _),take_of_length_le (by rw[eP,h];exact fW _)]
 have t2:∀ {a b:Nm},a.length=32->b.length=32->((fF a b).drop 32).take 32=eO b:=fun {a b} h g=>by unfold fF;rw[drop_append_of_le_length (by rw[eP,h];exact fW _),drop_of_length_le (by rw[eP,h];exact fW _),nil_append,take_of_length_le (by rw[eP,g];exact fW _)]
 simp[go_sem,Op.eqFields];rw[t1 e,t1 f,t2 e i,t2 f j,mE W e f 9997]
 cases k:l == c with
 | false=>simp[Result.andThen]
 | true =>
  simp[Result.andThen];rw[mE W i j 9997]
  cases g:r == d <;> simp[Result.andThen]
def uK(W:World){l r a b:Nm}(c:l.length=32)(e:r.length=32)(d:a.length=32)(f:b.length=32):(binOp .neq 308 (.agg (fF l r).toArray) (.agg (fF a b).toArray)).run prog W=.ok (.bool (!(l == a && r == b))) W:=by
 rw[run_neq_struct,vO W c e d f];rfl
def uL(W:World){d e:Nm}(a:d.length=32)(b:e.length=32):(binOp .neq 57 (.agg (eO d).toArray) (.agg (eO e).toArray)).run prog W=.ok (.bool (!(d == e))) W:=by
 rw[run_neq_struct,mE W a b 9998];rfl
def kX(d:Nm)(bs:List Bool)(ps:List Nm)(k:Nat):Nm × Nm:=if bs.getD k false then(iE d bs ps k,ps.getD k [])else(ps.getD k [],iE d bs ps k)
def zz(d:Nm)(bs:List Bool)(ps:List Nm)(k:Nat):iE d bs ps (k+1)=iO (kX d bs ps k).1 (kX d bs ps k).2:=by
 rw[iE,kX];split <;> rfl
def CJ(d:Nm)(bs:List Bool)(ps:List Nm)(k:Nat):xV d bs ps (k+1)=xV d bs ps k++fF (kX d bs ps k).1 (kX d bs ps k).2:=by
 rw[xV,kX];split <;> rfl
def uM{d:Nm}{bs:List Bool}{ps:List Nm}(e:d.length=32)(f:∀p∈ps,p.length=32){k:Nat}(c:k<ps.length):(kX d bs ps k).1.length=32/\(kX d bs ps k).2.length=32:=by
 have a:=mi bs ps e k;have b:(ps.getD k []).length=32:=by rw[getD_eq_getElem?_getD,gg c];exact f _ (getElem_mem c)
 unfold kX;split
 ·exact⟨a,b⟩
 ·exact⟨b,a⟩
def zF{d:Nm}{bs:List Bool}{ps:List Nm}(a:d.length=32)(b:∀p∈ps,p.length=32):∀ {k:Nat},k<=ps.length->(xV d bs ps k).length=k*64
 | 0,_=>by rw[xV];rfl
 | k+1,f=>by
  have⟨c,e⟩:=uM (bs:=bs) a b (show k<ps.length by omega);rw[CJ,gu,zF a b qo,iZ c e];omega
def yg{d:Nm}{bs:List Bool}{ps:List Nm}(b:d.length=32)(c:∀p∈ps,p.length=32){k o:Nat}(f:o<64):∀ {m:Nat},m<=ps.length->k<m->(xV d bs ps m)[k*64+o]?=(fF (kX d bs ps k).1 (kX d bs ps k).2)[o]?
 | 0,_,h=>absurd h qo
 | m+1,g,e=>by
  have a:=zF (bs:=bs) b c (show m<=ps.length by omega);rw[CJ]
  rcases Nat.lt_or_eq_of_le (Nat.le_of_lt_succ e)with h|rfl
  ·rw[List.getElem?_append_left (by rw[a];omega)]
   exact yg b c f qo h
  ·rw[List.getElem?_append_right (by rw[a];omega),a]
   congr 1
   omega
def CK{l r a b:Nm}(d:l.length=32)(j:r.length=32)(e:a.length=32)(k:b.length=32)(h:gB 1 [l,r]=gB 1 [a,b]):l=a/\r=b:=by
 simp only[gB,kf,flatMap_cons,flatMap_nil,append_nil,d,j,e,k,length_cons,length_nil]at h;have c:=append_cancel_left h;rw[append_assoc,append_assoc]at c;have f:=append_cancel_left c;have⟨g,i⟩:=append_inj f (by rw[d,e]);exact⟨g,append_cancel_left i⟩
def CM(w:World)(e:Ending)(w':World):Prop:=∃x y:Nm,e=.returned (.tuple #[fg x,fg y,.bool true])/\Fr [] w w'/\x≠y/\j7 x=j7 y/\x.length<=5000000/\y.length<=5000000
def lX(d:Nm)(v:Value):List Value:=eO d++[v]
def oZ{w:World}{d:Nm}{A:Option Addr}{n c B:Nat}(e:d.length=32)(h:BoxN w B 258 (lX d (.slice A n c)).toArray):w.rangeAt B 0 (eO d)/\w.cell? ⟨B,32,none⟩=some (.slice A n c):=by
 have a:(eO d).length=32:=by rw[eP,e]
 refine⟨λj v b=>?_,?_⟩
 ·have f:=(gV.1 b).1
  rw[Nat.zero_add,h.c j];simp only[lX,List.getElem?_toArray];rw[List.getElem?_append_left f];exact b
 ·rw[h.c 32]
  simp only[lX,List.getElem?_toArray];rw[List.getElem?_append_right (by rw[a];exact fW _),a];rfl
def uN(b lb rt:Nm)(f g:List Nm)(i d N:Nat)(A1 A2:Option Addr)(H I:Nat)(w:World)(aq:Ok w)(hi:i<d)(aR:d<=1000)(V:0<N)(aH:N<=1000)(ak:(bl i d).length=N)(c:f.length=N)(l2:g.length=N)(z:b.length=32)(A:lb.length=32)(p1:∀p∈f,p.length=32)(p2:∀p∈g,p.length=32)(o1:Own w 57 32 A1 N H (f.flatMap eO))(o2:Own w 57 32 A2 N I (g.flatMap eO))(ad:iE b (bl i d) f N=rt)(ar:iE lb (bl i d) g N=rt)(aP:b≠lb):
 Calls prog 142 #[.int .i64 (i:Int),.int .i64 (d:Int),.agg (lX b (.slice A1 N H)).toArray,.agg (lX lb (.slice A2 N I)).toArray] w (CM w):=by
 have a9:(eO b).length=32:=by rw[eP,z]
 have bc:(eO lb).length=32:=by rw[eP,A]
 have af:rt.length=32:=by rw[<-ad];exact mi _ _ z _
 have am:(eO rt).length=32:=by rw[eP,af]
 have⟨w1,aW,bj,n1,y⟩:=ir w (lX b (.slice A1 N H)).toArray 258 w.heap.size;have⟨w2,aX,bk,n2,s⟩:=ir w1 (lX lb (.slice A2 N I)).toArray 258 (w.heap.size+1);have m1:=n1.fr s qs;have⟨bs,aI⟩:=eR (bl i d);have Y:∀W,Fr [] w2 W->Calls prog 178 #[fo b,i,d,.slice A1 N H] W (nM W b (bl i d) f):=λW hW=>uG b f i d N A1 H W (aq.fr0 ((y.then s).then hW)) hi aR V aH qo c z p1 (o1.fr ((y.then s).then hW) qs);have Z:∀W,Fr [] w2 W->Calls prog 178 #[fo lb,i,d,.slice A2 N I] W (nM W lb (bl i d) g):=λW hW=>uG lb g i d N A2 I W (aq.fr0 ((y.then s).then hW)) hi aR V aH qo l2 A p2 (o2.fr ((y.then s).then hW) qs);rw[aI]at Y Z ad ar ak;unfold fo at Y Z;have ay:=Hd Y;have az:=Hd Z;have HW:=Hd (An aW aX);have HF:=Hd (y.then s);have HB:=Hd (An m1 n2);have a:=Hd (An c (An l2 (An p1 (An p2 (An ad (An ar (An aP ak)))))));have q1:=oZ z m1;have E:=oZ A n2;have HQ:=Hd (An q1.1 E.1);have x1:=q1.2;clear aW aX n1 n2 m1 y s bj bk Y Z aI c l2 p1 p2 ad ar aP ak o1 o2 aq q1 E
 go_enter func142,ntmps142
 go_upto_region 1 with fail
 rw[HW.1,HW.2];have R:=Hd (An af am)
 go_upto_region 2 with(first
  | (with_reducible refine wpList_load_mid rfl 57 (.tmp 18) rfl w.heap.size 0 rfl (eO b) (.array 32 5) HQ.out.1 qk rfl (by rw[a9];kernel_rfl) ?_)
  | (go_at_call 178;(with_reducible refine(ay.out _ (Fq _ _)).mono ?_);rintro e w3 L;obtain⟨A3,c3,rfl,aJ,ao⟩:=L.1 (by rw[a.1,a.2.2.2.2.2.2.2]);rw[a.2.2.2.2.2.2.2]at ao ⊢;rw[a.2.2.2.2.1];unfold fo;have⟨w4,bi,aK,B⟩:=mL w3 rt af;have u:=Hd (An ao (An aJ (An aK B)));clear L ao aJ aK B))
 clear x1
 go_upto_region 4 with fail
 have⟨D1,ai⟩:=eR (w3.heap.size);rw[ai];have an:=u.2.1.then u.2.2.1;have E:=oZ A (HB.2.fr an qs);have y1:=E.2;have aD:=Hd E.1;have ag:=Hd an;have aT:=u.1.fr u.2.2.1 qs;have aA:=Hd aT;have B:=u.2.2.2;rw[ai]at B;have aE:=Hd B;clear E an aT B bi u ai
 go_upto_region 5 with(first
  | (with_reducible refine wpList_load_mid rfl 57 (.tmp 31) rfl (w.heap.size+1) 0 rfl (eO lb) (.array 32 5) aD.out qk rfl (by rw[bc];kernel_rfl) ?_)
  | (go_at_call 178;(with_reducible refine(az.out _ ag.out).mono ?_);rintro e w5 L;obtain⟨A4,c4,rfl,aL,ap⟩:=L.1 (by rw[a.2.1,a.2.2.2.2.2.2.2]);rw[a.2.2.2.2.2.2.2]at ap ⊢;rw[a.2.2.2.2.2.1];unfold fo;have⟨w6,bq,aM,C⟩:=mL w5 rt af;have x:=Hd (An ap (An aL (An aM C)));clear L ap aL aM C))
 clear y1;have⟨D2,aj⟩:=eR (w5.heap.size);have aa:=x.2.1.then x.2.2.1;have C:=x.2.2.2;rw[aj]at C;have a5:=Hd (fw (eT aE.out aa qs) R.1);have a6:=Hd (fw C R.1);have aB:=Hd (aA.fr aa qs);have aC:=Hd (x.1.fr x.2.2.1 qs);have aY:=Hd (HF.then (ag.then aa))
 have bo:∀W,(binOp .neq 57 (.agg (eO rt).toArray) (.agg (eO rt).toArray)).run prog W=.ok (.bool false) W:=λW=>by
  have h:=uL W R.1 R.1;simpa using h
 rw[aj];clear aa C aj aE aA x HQ aD HB HW HF ag ay az
 go_upto_region 7 with(first
  | (refine fG qr ?_;(with_reducible refine wp_load_mid 57 (.tmp 11) rfl D1 0 rfl (eO rt) (.array 32 5) a5.out qk rfl (by rw[am];kernel_rfl) ?_))
  | (refine fG qr ?_;(with_reducible refine wp_load_mid 57 (.tmp 14) rfl D2 0 rfl (eO rt) (.array 32 5) a6.out qk rfl (by rw[am];kernel_rfl) ?_)))
 obtain⟨S,rfl,aN⟩:=Cs.of_own aB.out V;obtain⟨T,rfl,aO⟩:=Cs.of_own aC.out V;have a3:=Hd aN;have a4:=Hd aO;clear aN aO aB aC;have br:IntKind.i64.wrap ((N:Int) - 1)=(N:Int) - 1:=by simp[IntKind.wrap,IntKind.bits,IntKind.signed];omega
 go_wp2
 go_loopw [16] (λaw W=>∃k:Nat,k<=N/\aw=.int .i64 ((k:Int) - 1)/\iE b bs f k=iE lb bs g k/\Fr [] w6 W) (λaw _=>(intOf aw+1).toNat)
 case atStart=>exact⟨N,fW _,rfl,by rw[a.2.2.2.2.1,a.2.2.2.2.2.1],Fq _ _⟩
 case round =>
  obtain⟨k,hk,rfl,au,ab⟩:=hrel
  have bp:0<k:=by
   rcases Nat.eq_zero_or_pos k with rfl|h
   ·exact absurd au a.2.2.2.2.2.2.1
   ·exact h
  obtain⟨j,rfl⟩:∃j,k=j+1:=⟨k - 1,qo⟩;have ba:((j+1:Nat):Int) - 1=(j:Int):=qo
  rw[ba];have⟨l,m⟩:=uM (bs:=bs) z a.2.2.1 (show j<f.length by rw[a.1];omega);have⟨n,r⟩:=uM (bs:=bs) A a.2.2.2.1 (show j<g.length by rw[a.2.1];omega);have D:=au;rw[zz,zz]at D
  have M:∀X,Fr [] wr X->X.rangeAt S (j*64) (fF (kX b bs f j).1 (kX b bs f j).2):=λX t o v P=>by
   have ho:o<64:=by have:=(gV.1 P).1;rw[iZ l m]at this;exact this
   exact(a3.fr0 (ab.then t)).2 _ _ ((yg z a.2.2.1 ho (by rw[a.1];exact fW _) qo).trans P)
  have O:∀X,Fr [] wr X->X.rangeAt T (j*64) (fF (kX lb bs g j).1 (kX lb bs g j).2):=λX t o v P=>by
   have ho:o<64:=by have:=(gV.1 P).1;rw[iZ n r]at this;exact this
   exact(a4.fr0 (ab.then t)).2 _ _ ((yg A a.2.2.2.1 ho (by rw[a.2.1];exact fW _) qo).trans P)
  have ae:(kX b bs f j=kX lb bs g j)->iE b bs f j=iE lb bs g j:=λh=>by
   unfold kX at h;split at h
   ·exact congrArg Prod.fst h
   ·exact congrArg Prod.snd h
  obtain⟨⟨c,r1⟩,aU⟩:∃q,kX b bs f j=q:=⟨_,rfl⟩;obtain⟨⟨l2,r2⟩,aV⟩:∃q,kX lb bs g j=q:=⟨_,rfl⟩;rw[aU]at M l m D ae;rw[aV]at O n r D ae;simp only at M l m O n r D;have aF:=iZ l m;have aG:=iZ n r;have G:=Hd (An D (An ae ab));have bm:(0:Int)<=(j:Int):=qo
  have bn:(j:Int)<(N:Int):=qo
  have bt:IntKind.i64.wrap (j:Int)=(j:Int):=by simp only[IntKind.wrap_i64];omega
  clear au D ae ab aU aV
  go_upto_region 10 with fail
  have HSS:=Hd (λ(X:World) (_:Fr [] wr X)=>trivial);have hC:=(Fq [] wr).drew;refine eU (λW:World=>Fr [] wr W) 8 qk ?_ qd
  show fc 0 ..
  iterate 3 (refine gJ rfl ?_;try simp only[qq])
  refine fm (i:=3) (v:=.agg (fF c r1).toArray) qk fh rfl qd qk (λ_ _ _ h=>h) (yieldsIf_load_mid qr 308 (.tmp 57) rfl S (j*64) rfl (fF c r1) _ (M) underlying308 rfl (by rw[aF];kernel_rfl)) (by assumption) ?_
  try simp only[qq]
  show fc 4 ..
  iterate 3 (refine gJ rfl ?_;try simp only[qq])
  refine fm (i:=7) (v:=.agg (fF l2 r2).toArray) qk fh rfl qd qk (λ_ _ _ h=>h) (yieldsIf_load_mid qr 308 (.tmp 61) rfl T (j*64) rfl (fF l2 r2) _ (O) underlying308 rfl (by rw[aG];kernel_rfl)) (by assumption) ?_
  try simp only[qq]
  refine eV ⟨qk,?_⟩;simp only[qG,qH];have aS:=λW=>uK W l m n r;have⟨bb,al⟩:=eR ((!(c == l2 && r1 == r2)));rw[al]at aS;have ax:=Hd al;clear al
  cases bb with
  | false =>
   go_wp2
   have bu:IntKind.i64.wrap ((j:Int) - 1)=(j:Int) - 1:=by simp only[IntKind.wrap_i64];omega
   go_roundw
   case rel =>
    refine⟨j,qo,rfl,G.2.1 ?_,G.2.2.drew⟩;have h:=ax.out;simp at h;rw[h.1,h.2]
   case measure=>simp[intOf]
  | true =>
   have aQ:gB 1 [c,r1]≠gB 1 [l2,r2]:=λh=>by
    have⟨J,U⟩:=CK l m n r h;have hb:=ax.out;rw[J,U]at hb;simp at hb
   go_upto_region 11 with fail
   have bf:=G.2.2.drew;have⟨F,av⟩:=eR (wr.drew);have ac:Fr [] wr F:=by rw[<-av];exact(Fq [] wr).drew
   rw[av];have bg:∀X,Fr [] F X->X.rangeAt S (j*64) (fF c r1):=λX t=>M X (ac.then t);have bh:∀X,Fr [] F X->X.rangeAt T (j*64) (fF l2 r2):=λX t=>O X (ac.then t);have a7:=Hd (λ(X:World)=>nN c r1 X l m);have a8:=Hd (λ(X:World)=>nN l2 r2 X n r);have aZ:=Hd (aY.then (G.2.2.then ac));have HSS:=Hd (λ(X:World) (_:Fr [] F X)=>trivial);have Q:=Hd (An aQ (An (show j7 (gB 1 [c,r1])=j7 (gB 1 [l2,r2])from G.1) (show (gB 1 [c,r1]).length<=5000000/\(gB 1 [l2,r2]).length<=5000000 from by simp[gB,mJ,gS,l,m,n,r])));clear av ac M O aS aQ bf;have hC:=(Fq [] F).drew;refine kj ?_;refine eU (λW:World=>Fr [] F W) 10 qk ?_ qd
   show fc 0 ..
   iterate 3 (refine gJ rfl ?_;try simp only[qq])
   refine fm (i:=3) (v:=.agg (fF c r1).toArray) qk fh rfl qd qk (λ_ _ _ h=>h) (yieldsIf_load_mid qr 308 (.tmp 66) rfl S (j*64) rfl (fF c r1) _ (bg) underlying308 rfl (by rw[aF];kernel_rfl)) (by assumption) ?_
   try simp only[qq]
   show fc 5 ..
   iterate 3 (refine gJ rfl ?_;try simp only[qq])
   refine fm (i:=8) (v:=.agg (fF l2 r2).toArray) qk fh rfl qd qk (λ_ _ _ h=>h) (yieldsIf_load_mid qr 308 (.tmp 71) rfl T (j*64) rfl (fF l2 r2) _ (bh) underlying308 rfl (by rw[aG];kernel_rfl)) (by assumption) ?_
   try simp only[qq]
   refine hO (i:=4) rfl λah K=>?_;go_simp
   go_at_call 181
   (with_reducible refine(a7.out _).mono ?_);rintro e X1 ⟨rfl,bd⟩;have J:=hC.then bd;refine K _ _ J ?_;clear K ah hC
   try simp only[qq]
   refine hO (i:=9) rfl λah K=>?_;go_simp
   go_at_call 181
   (with_reducible refine(a8.out _).mono ?_);rintro e X2 ⟨rfl,be⟩;have U:=J.then be;refine K _ _ U ?_;clear K ah J
   try simp only[qq]
   refine eV ⟨qk,?_⟩;simp only[qG,qH]
   go_wp2
   refine bodyPost_ret (v:=.tuple #[fg (gB 1 [c,r1]),fg (gB 1 [l2,r2]),.bool true]) (by simp[results,results142,go_sem]) rfl ?_;exact⟨_,_,rfl,aZ.then U,Q.1,Q.2.1,Q.2.2.1,Q.2.2.2⟩
section
variable {w X Y:World} {c mu ms ma:Nat} {C C':Array Value} {ku ks ku' ks':List (Value × Value)}
end
def CN(u:World):(zeroValue 95).run prog u=.ok (.agg #[.int .i64 0,.string ⟨#[]⟩,.int .i64 0,.int .i64 0,.string ⟨#[]⟩,.string ⟨#[]⟩,.bool false]) u:=by simp[go_sem]
open Go.RowKit Go.Shelf
section
variable {κ α:Type} [DecidableEq κ]
def jd(es:List (κ × α))(n:κ):Option α:=(es.find? λe=>decide (e.1=n)).map Prod.snd
def kY{es:List (κ × α)}{n:κ}(h:jd es n=none):∀e∈es,e.1≠n:=by
 unfold jd at h;rw[Option.map_eq_none_iff,List.find?_eq_none]at h;intro e a;simpa using h e a
def km{es:List (κ × α)}{n:κ}{v:α}(h:jd es n=some v):∃a l2,es=a++(n,v)::l2:=by
 unfold jd at h;obtain⟨e,b,rfl⟩:=Option.map_eq_some_iff.1 h;have c:=List.find?_some b;have d:e.1=n:=by simpa using c
 have⟨a,l2,g⟩:=append_of_mem (mem_of_find?_eq_some b);exact⟨a,l2,by rw[g,<-d]⟩
def lZ{a l2:List (κ × α)}{n:κ}(h:∀e∈a,e.1≠n):jd (a++l2) n=jd l2 n:=by
 unfold jd;rw[List.find?_append,List.find?_eq_none.2 (λe b=>by simpa using h e b)];rfl
def kZ(k:κ)(v:α)(l:List (κ × α))(n:κ):jd ((k,v)::l) n=if k=n then some v else jd l n:=by
 unfold jd;rw[List.find?_cons]
 by_cases h:k=n
 ·simp[h]
 ·simp[h]
structure MM(k:TypeId)(q:κ->Value)(f:α->Value)(w:World)(r:Nat)(es:List (κ × α)):Prop where
 map:MapIs prog k w r (es.map λe=>(q e.1,f e.2))
 nd:(es.map Prod.fst).Nodup
variable {k t e:TypeId} {q:κ->Value} {f:α->Value} {w w':World} {r:Nat} {es:List (κ × α)} {S:List Nat}
def MM.fr(h:MM k q f w r es)(a:Fr S w w')(b:r ∉ S):MM k q f w' r es:=⟨h.map.fr a b,h.nd⟩
def MM.fr0(h:MM k q f w r es)(a:Fr [] w w'):MM k q f w' r es:=h.fr a qs
def MM.nil(h:MapIs prog k w r []):MM k q f w r ([]:List (κ × α)):=⟨h,qs⟩
def MM.look(m:∀a b,q a=q b->a=b)(K:Maps.Keyed prog k)(i:prog.underlying t=some (.map k e))(h:MM k q f w r es)(n:κ){u:Lit}(g:keyOf prog k (q n)=some u){z:Value}(s:(zeroValue e).run prog w=.ok z w):
 (Instr.lookup t (.map (some r)) (q n) true).run prog w=.ok (.tuple #[(match jd es n with|some v=>f v|none=>z),.bool (jd es n).isSome]) w:=by
 cases d:jd es n with
 | none =>
  have c:=MapIs.look_none K i h.map g (λp l=>by
   obtain⟨x,o,rfl⟩:=mem_map.1 l;exact λj=>kY d x o (m _ _ j)) s true
  simpa using c
 | some v =>
  obtain⟨y,l2,rfl⟩:=km d;have c:=MapIs.look_some K i h.map g (v:=f v) qs true;simpa using c
def MM.put(M:∀a b,q a=q b->a=b)(K:Maps.Keyed prog k)(F:prog.underlying t=some (.map k e))(h:MM k q f w r es)(n:κ)(v:α){N:Lit}(D:keyOf prog k (q n)=some N):
 ∃w' u,(Instr.mapUpdate t (.map (some r)) (q n) (f v)).run prog w=.ok () w'/\Fr [r] w w'/\MM k q f w' r u/\∀x,jd u x=if n=x then some v else jd es x:=by
 cases C:jd es n with
 | none =>
  have s:=kY C
  have⟨w',i,j,l⟩:=MapIs.put_new (v:=f v) K F h.map D (λp L=>by
   obtain⟨x,c,rfl⟩:=mem_map.1 L;exact λI=>s x c (M _ _ I))
  refine⟨w',es++[(n,v)],i,j,⟨by simpa using l,?_⟩,λx=>?_⟩
  ·rw[map_append,nodup_append]
   refine⟨h.nd,qs,?_⟩;intro a G b H;obtain⟨y,g,rfl⟩:=mem_map.1 G;obtain rfl:b=n:=by simpa using H
   exact s y g
  ·by_cases c:n=x
   ·subst c
    rw[lZ s,kZ];simp
   ·rw[if_neg c]
    unfold jd;rw[List.find?_append];have:([(n,v)]:List (κ × α)).find? (λe=>decide (e.1=x))=none:=by simp[c]
    rw[this]
    simp
 | some O =>
  obtain⟨d,l2,rfl⟩:=km C;have E:=h.map;rw[map_append,map_cons]at E;have⟨w',i,j,l⟩:=MapIs.put_old (v:=f v) K F E D;have o:=h.nd;rw[map_append,map_cons]at o
  have J:∀y∈d,y.1≠n:=λy g=>by
   have:=(nodup_append.1 o).2.2 y.1 (mem_map.2 ⟨y,g,rfl⟩) n qs;exact this
  refine⟨w',d++(n,v)::l2,i,j,⟨by rw[map_append,map_cons];exact l,by rw[map_append,map_cons];exact o⟩,λx=>?_⟩
  by_cases c:n=x
  ·subst c
   rw[lZ J,kZ];simp
  ·rw[if_neg c]
   by_cases m:∀y∈d,y.1≠x
   ·rw[lZ m,lZ m,kZ,kZ,if_neg c,if_neg c]
   ·have A:∀l2:List (κ × α),jd (d++l2) x=jd d x:=λl2=>by
     unfold jd;rw[List.find?_append]
     cases B:d.find? (λe=>decide (e.1=x))with
     | none =>
      rw[List.find?_eq_none]at B
      exact absurd (λy g=>by simpa using B y g) m
     | some z=>rfl
    rw[A,A]
end
instance:DecidableEq CH:=λa b=>if h:a.n=b.n/\a.v=b.v/\a.a=b.a then .isTrue (by cases a;cases b;simp only at h;obtain⟨rfl,rfl,rfl⟩:=h;rfl)else .isFalse (by rintro rfl;exact h ⟨rfl,rfl,rfl⟩)
def i7(l:List AG):Nat->ON->Option (Nat × CH)
 | 0,_=>none
 | i+1,n=>match (l[i]?).bind λa=>uo a.w n with
  | some c=>some (i,c)
  | none=>i7 l i n
structure LS where
 used:List Nat
 asm:ON->Option CH
 lks:List LK
def GQ:LS:=⟨[],λ_=>none,[]⟩
def tC(l:List AG)(a:List Nat)(i:Nat)(s:LS)(c:CH):Option LS :=
 match i7 l i c.n with
 | some (m,y)=>if y=c then some ⟨m::s.used,s.asm,s.lks++[⟨(a.getD m 0:Nat),a.getD i 0,c.n⟩]⟩else none
 | none=>if(match s.asm c.n with|some y=>decide (y=c)|none=>true)then some ⟨s.used,λx=>if c.n=x then some c else s.asm x,s.lks++[⟨-1,a.getD i 0,c.n⟩]⟩else none
def kB(l:List AG)(a:List Nat)(i:Nat):List CH->LS->Option LS
 | [],s=>some s
 | c::r,s=>(tC l a i s c).bind (kB l a i r)
def j0(l:List AG)(b:List Nat):Nat->Option LS
 | 0=>some GQ
 | i+1=>(j0 l b i).bind λs=>kB l b i (match l[i]? with|some a=>a.r|none=>[]) s
def rA(l:List AG)(d:List Nat)(i:Nat):∀(a b:List CH) (s:LS),kB l d i (a++b) s=(kB l d i a s).bind (kB l d i b)
 | [],b,s=>rfl
 | c::r,b,s=>by
  rw[cons_append,kB,kB]
  cases tC l d i s c with
  | none=>rfl
  | some g=>exact rA l d i r b g
def AD{l:List AG}{a:List Nat}{i j:Nat}{r:List CH}{b s:LS}{c:CH}(h:kB l a i (r.take j) b=some s)(d:r[j]?=some c):kB l a i (r.take (j+1)) b=tC l a i s c:=by
 rw[take_add_one,d,rA,h]
 show (kB l a i [c] s)=_
 rw[kB]
 cases tC l a i s c <;> rfl
def AE{l:List AG}{a:List Nat}{i j:Nat}{r:List CH}{b:LS}(h:kB l a i (r.take j) b=none):kB l a i r b=none:=by
 rw[<-take_append_drop j r,rA,h];rfl
def tD{l:List AG}{b:List Nat}:∀ {i m:Nat},i<=m->j0 l b i=none->j0 l b m=none
 | i,0,h,a=>by rw[show i=0 by omega]at a;cases a
 | i,m+1,h,a=>by
  rcases Nat.lt_or_eq_of_le h with c|rfl
  ·rw[j0,tD (Nat.le_of_lt_succ c) a];rfl
  ·exact a
def uO:∀ {l:List CH} {p:Option ON},jp p l=true->l.Pairwise λa b=>gD a.n b.n<0
 | [],_,_=>List.Pairwise.nil
 | c::r,p,h=>by
  rw[jp,Bool.and_eq_true,Bool.and_eq_true]at h;have m:=uO h.2.2;refine List.Pairwise.cons (λx g=>?_) m;have o:=h.2.2
  cases r with
  | nil=>simp at g
  | cons d r2 =>
   rw[jp,Bool.and_eq_true,Bool.and_eq_true]at o;have j:ltO c.n d.n:=by have i:=o.2.1;simp[tQ]at i;exact i
   rcases mem_cons.1 g with rfl|g
   ·exact j
   ·exact j.trans (rel_of_pairwise_cons m g)
def yh{P:Program}{d:Nat}{t:TypeId}{b:Bool}(h:P.underlying t=some .bool)(a:0<d):P.keyLits d t [.bool b]=some [.bool b]:=by
 obtain⟨d,rfl⟩:∃e,d=e+1:=⟨d - 1,qo⟩;unfold Program.keyLits;rw[h]
def yi {P : Program} {k : TypeId} {fs : Array Field} {cs : Array Value} (h : P.underlying k = some (.struct fs)) (hk : P.keyType k = true) (hc : cs.toList.length = P.cellsOf k) (hn : fs.all (·.name != "_") = true)
 (c:1<P.types.size) (e:∀d,1<d->∃a,(fs.toList.mapM λf=>P.keyLits d f.type ((cs.toList.drop f.offset).take (P.cellsOf f.type)))=some a):∃l,keyOf P k (.agg cs)=some l:=by
 have⟨a,b⟩:=e P.types.size c;unfold keyOf;rw[h];simp only[hk,Value.formed,h,Bool.true_and,show (Value.agg cs).cells=cs from rfl];rw[if_pos (by simpa using hc)];unfold Program.keyLits;rw[h];simp only;rw[if_pos ⟨hc,hn⟩,b];exact⟨_,rfl⟩
def uP {P : Program} {d : Nat} {t : TypeId} {fs : Array Field} {cs : List Value} (h : P.underlying t = some (.struct fs)) (hc : cs.length = P.cellsOf t) (hn : fs.all (·.name != "_") = true) (hd : 1 < d)
 (c:∀d,0<d->∃a,(fs.toList.mapM λf=>P.keyLits d f.type ((cs.drop f.offset).take (P.cellsOf f.type)))=some a):∃a,P.keyLits d t cs=some a:=by
 obtain⟨d,rfl⟩:∃e,d=e+1:=⟨d - 1,qo⟩;have⟨a,b⟩:=c d qo;unfold Program.keyLits;rw[h];simp only;rw[if_pos ⟨hc,hn⟩,b];exact⟨_,rfl⟩
def CO{n:ON}(h:eY n=0):(0<=n.kind/\n.kind<=20)/\(0<=n.number/\n.number<=1073741824)/\(0<=n.index/\n.index<=1073741824):=by
 have⟨k,j,_,l,a⟩:=vd h;have m:=mO (k:=k) qo;have⟨d,f,o⟩:=ju a;have⟨g,b,c,i⟩:=mb a;refine⟨qo,?_,?_⟩
 ·cases e:(us k).number with
  | true =>
   have:=d e;simp only[fM,decide_eq_true_eq]at this
   exact this
  | false=>rw[b e];omega
 ·cases e:(us k).index with
  | true =>
   have:=f e;simp only[fM,decide_eq_true_eq]at this
   omega
  | false=>rw[c e];omega
def sZ(c:CH):Value:=.agg c.cs.toArray
def nS{c:CH}(h:eY c.n=0)(I:c.v.length<=140737488355328):∃l,keyOf prog 95 (sZ c)=some l:=by
 have y:=underlying95;have J:=iw (fI h);have H:=Gq h;have⟨B,C,D⟩:=CO h;have⟨g,t,_,E⟩:=eS c.n.owner;have⟨j,u,_,F⟩:=eS c.n.text;have⟨A,w,_,G⟩:=eS c.v;unfold sZ CH.cs;rw[t,u,w];have m:(prog).cellsOf 31=5:=qk
 have f:(prog).cellsOf 9=1:=qk
 have o:(prog).cellsOf 4=1:=qk
 have k:(prog).cellsOf 3=1:=qk
 have p:(prog).cellsOf 29=1:=qk
 have b:=underlying3;have r:g.size<=maxLen:=by unfold maxLen;omega
 have x:j.size<=maxLen:=by unfold maxLen;omega
 have z:A.size<=maxLen:=by unfold maxLen;omega
 refine yi y qk qk qk (of_decide_eq_true qk) (λd q=>?_)
 have⟨K,s⟩:=uP (P:=prog) (d:=d) (cs:=[c.n.kind,g,c.n.number,c.n.index,j]) underlying31 qk qk q (λe a=>by
  simp only[mapM_cons,mapM_nil,k,p,f,qG,qH,take_succ_cons,take_zero,jt b a (jL (i:=c.n.kind) qo qo),jt b a (jL (i:=c.n.number) qo qo),jt b a (jL (i:=c.n.index) qo qo),lj underlying29 a r,lj underlying9 a x];exact⟨_,rfl⟩)
 simp only[mapM_cons,mapM_nil,m,f,o,qG,qH,take_succ_cons,take_zero,s,lj underlying9 (by omega:0<d) z,yh underlying4 (by omega:0<d)];exact⟨_,rfl⟩
def E5{a b:CH}(h:sZ a=sZ b):a=b:=by
 unfold sZ CH.cs at h;simp only[Value.agg.injEq,toArray_inj]at h;obtain⟨⟨o,s,q,m,t1⟩,u,c⟩:=a;obtain⟨⟨p,t,r,n,t2⟩,v,d⟩:=b;simp only[List.cons.injEq,Value.int.injEq,Value.bool.injEq,and_true,true_and]at h;obtain⟨e,f,g,i,j,k,l⟩:=h;rfl
def AF{a b:CH}(k:eY a.n=0)(l:eY b.n=0)(p:a.v.length<=140737488355328)(q:b.v.length<=140737488355328)(w:World):(binOp .neq 95 (sZ a) (sZ b)).run prog w=.ok (.bool (!decide (a=b))) w:=by
 have⟨s,e⟩:=nS k p;have⟨lb,c⟩:=nS l q;have⟨r,h,g⟩:=run_equal_deep (P:=prog) w (m:=5) qo qk qk e c
 have o:r=decide (a=b):=by
  by_cases d:a=b
  ·subst d
   rw[e]at c;rw[decide_eq_true rfl];exact g.2 (Option.some.inj c)
  ·rw[decide_eq_false d]
   cases r with
   | false=>rfl
   | true =>
    have i:=g.1 rfl;subst i;exact absurd (E5 (keyOf_inj_deep (P:=prog) (m:=5) qk qk e c)) d
 subst o;have j:∀xs f:Array Value,(binOp .neq 95 (.agg xs) (.agg f)).run prog w=((Op.equal 95 (.agg xs) (.agg f)).run prog w).andThen λb w'=>.ok (.bool !b) w':=λxs f=>by simp[binOp]
 unfold sZ at h ⊢;rw[j,h];simp[Result.andThen]
def EP:CH:=⟨⟨0,[],0,0,[]⟩,[],false⟩
def vP(p:Nat × CH):Value:=.agg ((.int .i64 (p.1:Int))::p.2.cs).toArray
structure LIg(w W:World)(c mu ms ma:Nat)(v0 v1 v2 v3:Value)(LA:Option Addr)(lc:Nat)(s:LS)(src:ON->Option (Nat × CH)):Prop where
 box:BoxN W c 64 #[v0,v1,v2,v3,.slice LA s.lks.length lc,.slice none 0 0]
 own:Own W 98 7 LA s.lks.length lc (s.lks.flatMap LK.cs)
 um:∃es,MM 3 (λm:Nat=>.int .i64 (m:Int)) (λ_:Unit=>.bool true) W mu es/\∀j,jd es j=if j∈s.used then some ()else none
 sm:∃es,MM 31 fu vP W ms es/\∀n,jd es n=src n
 am:∃es,MM 31 fu sZ W ma es/\(∀n,jd es n=s.asm n)/\∀e∈es,e.2.n=e.1/\e.2.v.length<=65536/\eY e.1=0
 d:c<w.heap.size/\w.heap.size<=mu/\mu<ms/\ms<ma
 la:∀q∈eX LA,ma<q
 fr:Fr [c] w W
section
variable {w X Y Z:World} {c mu ms ma b lc:Nat} {v0 v1 v2 v3:Value} {LA:Option Addr} {s:LS} {src src':ON->Option (Nat × CH)}
def LIg.young(h:LIg w X c mu ms ma v0 v1 v2 v3 LA lc s src):ma<X.heap.size:=by have⟨es,a,_⟩:=h.am;exact a.map.lt
def LIg.putB(h:LIg w X c mu ms ma v0 v1 v2 v3 LA lc s src)(a:Fr [b] X Y)(v:ma<b)(n:b ∉ eX LA):LIg w Y c mu ms ma v0 v1 v2 v3 LA lc s src:=by
 have m:=h.d;have⟨f,r,j⟩:=h.um;have⟨g,t,k⟩:=h.sm;have⟨i,u,l⟩:=h.am;exact⟨h.box.fr a (by simp;omega),h.own.fr a (λq o e=>n (by rw[ip]at e;rw[<-e];exact o)),⟨f,r.fr a (by simp;omega),j⟩,⟨g,t.fr a (by simp;omega),k⟩,⟨i,u.fr a (by simp;omega),l⟩,m,h.la,h.fr.trans a (λx p=>.inr (by simp at p;omega))⟩
def LIg.fr0(h:LIg w X c mu ms ma v0 v1 v2 v3 LA lc s src)(a:Fr [] X Y):LIg w Y c mu ms ma v0 v1 v2 v3 LA lc s src:=by
 have⟨e,l,i⟩:=h.um;have⟨f,m,j⟩:=h.sm;have⟨g,n,k⟩:=h.am;exact⟨h.box.fr a qs,h.own.fr a qs,⟨e,l.fr0 a,i⟩,⟨f,m.fr0 a,j⟩,⟨g,n.fr0 a,k⟩,h.d,h.la,h.fr.trans a qs⟩
def LIg.congr(h:LIg w X c mu ms ma v0 v1 v2 v3 LA lc s src)(e:∀n,src n=src' n):LIg w X c mu ms ma v0 v1 v2 v3 LA lc s src':=by
 have⟨a,g,f⟩:=h.sm;exact⟨h.box,h.own,h.um,⟨a,g,λn=>(f n).trans (e n)⟩,h.am,h.d,h.la,h.fr⟩
def LIg.putS(h:LIg w X c mu ms ma v0 v1 v2 v3 LA lc s src)(n:ON)(v:Nat × CH)(t:eY n=0):
 ∃Y,(Instr.mapUpdate 241 (.map (some ms)) (fu n) (vP v)).run prog X=.ok () Y/\Fr [ms] X Y/\LIg w Y c mu ms ma v0 v1 v2 v3 LA lc s (λx=>if n=x then some v else src x):=by
 have l:=h.d;have⟨e,A,i⟩:=h.um;have⟨D,B,j⟩:=h.sm;have⟨f,C,k⟩:=h.am;have⟨E,o⟩:=gx t;have⟨Y,g,u,a,p,m⟩:=B.put je jB underlying241 n v o;refine⟨Y,u,a,h.box.fr a (by simp;omega),h.own.fr a (λq y r=>?_),⟨e,A.fr a (by simp;omega),i⟩,⟨g,p,λx=>by rw[m x,j x]⟩,⟨f,C.fr a (by simp;omega),k⟩,l,h.la,h.fr.trans a (λx z=>.inr (by simp at z;omega))⟩;have:=h.la q y;simp at r;omega
def LIg.putU(h:LIg w X c mu ms ma v0 v1 v2 v3 LA lc s src)(m:Nat)(H:m<=1000000):
 ∃Y,(Instr.mapUpdate 143 (.map (some mu)) (.int .i64 (m:Int)) (.bool true)).run prog X=.ok () Y/\Fr [mu] X Y/\LIg w Y c mu ms ma v0 v1 v2 v3 LA lc ⟨m::s.used,s.asm,s.lks⟩ src:=by
 have t:=h.d;have⟨G,D,n⟩:=h.um;have⟨j,E,o⟩:=h.sm;have⟨k,F,p⟩:=h.am;have⟨I,v⟩:=pB (i:=(m:Int)) (jL qo qo);have⟨Y,l,A,f,y,u⟩:=D.put (λa b r=>by simp at r;omega) oE underlying143 m () v;refine⟨Y,A,f,h.box.fr f (by simp;omega),h.own.fr f (λq B z=>?_),⟨l,y,λx=>?_⟩,⟨j,E.fr f (by simp;omega),o⟩,⟨k,F.fr f (by simp;omega),p⟩,t,h.la,h.fr.trans f (λx g=>.inr (by simp at g;omega))⟩
 ·have:=h.la q B
  simp at z;omega
 ·rw[u x,n x]
  by_cases g:m=x
  ·simp[g]
  ·have C:x≠m:=λe=>g e.symm
   simp[g,C]
def LIg.putA(h:LIg w X c mu ms ma v0 v1 v2 v3 LA lc s src)(x:CH)(l:eY x.n=0)(G:x.v.length<=65536):
 ∃Y,(Instr.mapUpdate 149 (.map (some ma)) (fu x.n) (sZ x)).run prog X=.ok () Y/\Fr [ma] X Y/\LIg w Y c mu ms ma v0 v1 v2 v3 LA lc ⟨s.used,λy=>if x.n=y then some x else s.asm y,s.lks⟩ src:=by
 have z:=h.d;have⟨o,K,r⟩:=h.um;have⟨p,L,t⟩:=h.sm;have⟨N,M,u,I⟩:=h.am;have⟨O,B⟩:=gx l;have⟨Y,i,E,a,k,j⟩:=M.put je jB underlying149 x.n x B;refine⟨Y,E,a,h.box.fr a (by simp;omega),h.own.fr a (λq F D=>?_),⟨o,K.fr a (by simp;omega),r⟩,⟨p,L.fr a (by simp;omega),t⟩,⟨i,k,λy=>by rw[j y,u y],λe A=>?_⟩,z,h.la,h.fr.trans a (λx f=>.inr (by simp at f;omega))⟩
 ·have:=h.la q F
  simp at D;omega
 ·have g:jd i e.1=some e.2:=by
   obtain⟨J,l2,rfl⟩:=append_of_mem A;have m:=k.nd;rw[map_append,map_cons]at m;rw[lZ (λy H=>(nodup_append.1 m).2.2 y.1 (mem_map.2 ⟨y,H,rfl⟩) e.1 qs),kZ,if_pos rfl]
  rw[j e.1]at g
  by_cases f:x.n=e.1
  ·rw[if_pos f]at g
   rw[<-Option.some.inj g];exact⟨f,G,by rw[<-f];exact l⟩
  ·rw[if_neg f]at g
   have⟨J,l2,C⟩:=km g;exact I (e.1,e.2) (by rw[C];simp)
def LIg.putL(h:LIg w X c mu ms ma v0 v1 v2 v3 LA lc s src){e:Option Addr}{l:Nat}(x:LK)(i:Fr (eX LA) X Y)(A:Own Y 98 7 e (s.lks.length+1) l (s.lks.flatMap LK.cs++x.cs))(v:∀q∈eX e,q∈eX LA \/ X.heap.size<=q)
 (f:Fr [c] Y Z) (y:BoxN Z c 64 #[v0,v1,v2,v3,.slice e (s.lks.length+1) l,.slice none 0 0]):LIg w Z c mu ms ma v0 v1 v2 v3 e l ⟨s.used,s.asm,s.lks++[x]⟩ src:=by
 have z:=h.d;have E:=h.young;have⟨n,B,r⟩:=h.um;have⟨o,C,t⟩:=h.sm;have⟨p,D,u⟩:=h.am
 have m:∀q∈eX e,ma<q:=λq a=>by
  rcases v q a with g|g
  ·exact h.la q g
  ·omega
 have k:∀q,q<=ma->q ∉ eX LA:=λq a j=>by have:=h.la q j;omega
 refine⟨by rw[gu];exact y,?_,⟨n,(B.fr i (k _ qo)).fr f (by simp;omega),r⟩,⟨o,(C.fr i (k _ qo)).fr f (by simp;omega),t⟩,⟨p,(D.fr i (k _ qo)).fr f (by simp;omega),u⟩,z,m,(h.fr.trans i (λq a=>.inr (by have:=h.la q a;omega))).then f⟩;have g:=A.fr f (λq a j=>by have:=m q a;simp at j;omega);rw[gu,flatMap_append];simpa using g
def CP(h:LIg w X c mu ms ma v0 v1 v2 v3 LA lc s src)(n:ON)(f:eY n=0)(i:(zeroValue 243).run prog X=.ok (vP (0,EP)) X):
 (Instr.lookup 241 (.map (some ms)) (fu n) true).run prog X=.ok (.tuple #[vP ((src n).getD (0,EP)),.bool (src n).isSome]) X:=by
 have⟨k,j,d⟩:=h.sm;have⟨l,e⟩:=gx f;have a:=j.look je jB underlying241 n e i;rw[d]at a
 cases g:src n <;> rw[g]at a <;> exact a
def CQ(h:LIg w X c mu ms ma v0 v1 v2 v3 LA lc s src)(n:ON)(f:eY n=0):
 (Instr.lookup 149 (.map (some ma)) (fu n) true).run prog X=.ok (.tuple #[sZ ((s.asm n).getD EP),.bool (s.asm n).isSome]) X:=by
 have⟨j,i,d,_⟩:=h.am;have⟨k,e⟩:=gx f;have a:=i.look je jB underlying149 n e (z:=sZ EP) (CN X);rw[d]at a
 cases g:s.asm n <;> rw[g]at a <;> exact a
def LIg.asm_ok(h:LIg w X c mu ms ma v0 v1 v2 v3 LA lc s src){n:ON}{y:CH}(a:s.asm n=some y):y.n=n/\y.v.length<=65536:=by
 have⟨g,j,d,f⟩:=h.am;rw[<-d]at a;have⟨i,l2,e⟩:=km a;have h:=f (n,y) (by rw[e];simp);exact⟨h.1,h.2.1⟩
end
def yl(d:Option (Nat × CH))(a:Option CH):Bool:=d.isSome || a.isSome
def ym(d:Option (Nat × CH))(a:Option CH):CH:=match d with|some p=>p.2|none=>a.getD EP
def tb(a:List Nat)(d:Option (Nat × CH)):Int:=match d with|some p=>((a.getD p.1 0:Nat):Int)|none=>-1
def AH(d:List Nat)(i:Nat)(s:LS)(a:Option (Nat × CH))(x:CH):LS:=match a with
 | some p=>⟨p.1::s.used,s.asm,s.lks⟩
 | none=>⟨s.used,λy=>if x.n=y then some x else s.asm y,s.lks⟩
def nT(l:List AG)(a:List Nat)(i:Nat)(s:LS)(x:CH):tC l a i s x=if(yl (i7 l i x.n) (s.asm x.n) && !decide (ym (i7 l i x.n) (s.asm x.n)=x))=true then none
 else some ⟨(AH a i s (i7 l i x.n) x).used,(AH a i s (i7 l i x.n) x).asm,s.lks++[⟨tb a (i7 l i x.n),a.getD i 0,x.n⟩]⟩:=by
 unfold tC yl ym tb AH
 cases i7 l i x.n with
 | some p =>
  obtain⟨m,y⟩:=p
  by_cases h:y=x <;> simp[h]
 | none =>
  cases s.asm x.n with
  | none=>simp
  | some y=>by_cases h:y=x <;> simp[h]
def rB{l:List AG}(f:∀a∈l,l6 a=true):∀ {i:Nat} {n:ON} {p:Nat × CH},i7 l i n=some p->p.1<i/\p.2.n=n/\eY p.2.n=0/\p.2.v.length<=65536
 | 0,n,p,h=>by simp[i7]at h
 | i+1,n,p,h=>by
  rw[i7]at h
  cases e:(l[i]?).bind λa=>uo a.w n with
  | none =>
   rw[e]at h;have:=rB f h
   exact⟨qo,this.2⟩
  | some c =>
   rw[e]at h
   injection h with h
   subst h;have⟨a,g,d⟩:=Option.bind_eq_some_iff.1 e;unfold uo at d;have j:=List.find?_some d;have k:c.n=n:=by simpa using j
   have m:=iT (gG (gr (f a (gH g))).2 c (mem_of_find?_eq_some d));exact⟨Nat.lt_succ_self _,k,m⟩
open Go.ChangeMaps (setBlock)
section
variable {κ α:Type}
def CR(W:World)(ri ma:Nat):Nat:=match W.heap[ri]?,W.heap[ma]? with
 | some (.mapIter _ _ a _),some (.map es _)=>(leftOf es a).size
 | _,_=>0
def RgM(q:κ->Value)(f:α->Value)(W:World)(ri ma:Nat)(es done:List (κ × α)):Prop :=
 ∃(left:List (κ × α)) (a:Array MapEntry) (clock b c:Nat) (d:Array Nat),(done++left).Perm es/\W.heap[ma]?=some (.map a clock)/\W.heap[ri]?=some (.mapIter (some ma) b d c)/\(∀x∈a.toList,x.born<b)/\b<=c/\b<=clock/\(a.toList.map (·.born)).Nodup/\(leftOf a d).toList.map (λx=>(x.key,x.val))=left.map λe=>(q e.1,f e.2)
variable {q:κ->Value} {f:α->Value} {W W':World} {ri ma:Nat} {es done:List (κ × α)} {S:List Nat}
def RgM.fr(h:RgM q f W ri ma es done)(a:Fr S W W')(g:ri ∉ S)(i:ma ∉ S):RgM q f W' ri ma es done:=by
 obtain⟨left,e,clock,l,d,k,j,b,c,h⟩:=h;exact⟨left,e,clock,l,d,k,j,(a.block _ (Array.getElem?_eq_some_iff.1 b).1 i).trans b,(a.block _ (Array.getElem?_eq_some_iff.1 c).1 g).trans c,h⟩
def RgM.left(h:RgM q f W ri ma es done):CR W ri ma+done.length=es.length:=by
 obtain⟨left,j,clock,l,i,k,e,d,g,_,_,_,_,c⟩:=h;unfold CR;rw[d,g];have a:=congrArg List.length c;have b:=e.length_eq;simp only[length_map,gu,Array.length_toList]at a b;simp only;omega
def RgM.lt(h:RgM q f W ri ma es done):ri<W.heap.size/\ma<W.heap.size:=by
 obtain⟨left,d,clock,i,c,g,e,a,b,_⟩:=h;exact⟨(Array.getElem?_eq_some_iff.1 b).1,(Array.getElem?_eq_some_iff.1 a).1⟩
def vQ(W:World)(r:Nat)(o:Obj):Fr [r] W (setBlock W r o):=⟨rfl,rfl,rfl,by simp[setBlock],λk b a=>by
 simp only[ip]at a;simp[setBlock,Array.getElem?_setIfInBounds,Ne.symm a]⟩
def yn{P:Program}{t k e:TypeId}(i:P.underlying t=some (.map k e))(h:∃b clock,W.heap[ma]?=some (.map b clock)/\MapKept.Stamped b clock/\b.toList.map (λx=>(x.key,x.val))=es.map λe=>(q e.1,f e.2)):
 ∃W',(Instr.range t (.map (some ma))).run P W=.ok (.pointer (some ⟨W.heap.size,0,none⟩)) W'/\Fr [] W W'/\RgM q f W' W.heap.size ma es []:=by
 obtain⟨b,clock,c,d,g⟩:=h;refine⟨_,run_range_map W t k e ma b clock i c,(Fq [] W).alloc _,es,b,clock,clock,clock,#[],qs,?_,heap_alloc_new _ _,d.1,fW _,fW _,d.2.1,?_⟩
 ·first|rw[heap_alloc_old W _ (Array.getElem?_eq_some_iff.1 c).1,c]|rw[heap_alloc_old W _ _ (Array.getElem?_eq_some_iff.1 c).1,c]
 ·rw[<-g]
  unfold leftOf;rw[Array.toList_filter,filter_eq_self.2 (λa _=>by simp)]
def RgM.step{P:Program}(h:RgM q f W ri ma es done):(es.Perm done/\∀ty:TypeId,(Instr.next (.pointer (some ⟨ri,0,none⟩)) false ty).run P W=.ok (.tuple #[.bool false]) W) \/
 ∃(e:κ × α) (W':World),e∈es/\(∀ty:TypeId,(Instr.next (.pointer (some ⟨ri,0,none⟩)) false ty).run P W=.ok (.tuple #[.bool true,q e.1,f e.2]) W')/\(Instr.entry (.pointer (some ⟨ri,0,none⟩))).run P W'=.ok (.tuple #[q e.1,f e.2]) W'/\Fr [ri] W W'/\RgM q f W' ri ma es (done++[e]):=by
 obtain⟨left,c,clock,d,J,b,i,g,n,C,aa,r,m,w⟩:=h
 rcases run_next_at (P:=P) W 0 ri ma d J b c clock n g C aa with⟨h0,j⟩|⟨x,F,p,ab,E⟩
 ·left
  have:left=[]:=by
   have k:=congrArg List.length w;simp only[length_map,Array.length_toList]at k;exact eq_nil_of_length_eq_zero qo
  subst this;rw[append_nil]at i;exact⟨i.symm,λty=>j⟩
 ·right
  have⟨G,l2,l⟩:=append_of_mem F;have z:=w;rw[l,map_append,map_cons]at z;obtain⟨H,m2,rfl,U,V⟩:=map_eq_append_iff.1 z.symm;obtain⟨e,I,rfl,N,X⟩:=map_eq_cons_iff.1 V
  injection N with O Q
  have T:=mem_left F
  have u:Fr [] W p:=by
   rcases ab with rfl|rfl
   ·exact Fq _ _
   ·exact(Fq _ W).drew
  have Z:=Nat.lt_of_lt_of_le (Array.getElem?_eq_some_iff.1 n).1 u.size;have Y:ma≠ri:=λh=>by rw[h,n]at g;cases g
  have D:(setBlock p ri (.mapIter (some ma) d (b.push x.born) clock)).heap[ri]?=some (.mapIter (some ma) d (b.push x.born) clock):=by simp[setBlock,Z]
  have R:=vQ p ri (.mapIter (some ma) d (b.push x.born) clock);have v:=(u.mono qs).then R;have A:=(v.block _ (Array.getElem?_eq_some_iff.1 g).1 (by simpa using Y)).trans g;have t:=run_entry_at (P:=P) _ ri ma d b c clock x D A T.1 m;rw[<-O,<-Q]at E t;refine⟨e,_,?_,λty=>E,t,v,H++I,c,clock,d,clock,b.push x.born,?_,A,D,C,r,r,m,?_⟩
  ·exact i.subset qs
  ·refine List.Perm.trans ?_ i
   rw[append_assoc];refine List.Perm.append_left _ ?_;simpa using (perm_middle (a:=e) (l₁:=H) (l₂:=I)).symm
  ·have M:(leftOf c (b.push x.born)).toList=G++l2:=by
    have B:((leftOf c b).toList.map (·.born)).Nodup:=by
     unfold leftOf;rw[Array.toList_filter];exact List.Nodup.sublist (List.Sublist.map _ filter_sublist) m
    have j:(leftOf c (b.push x.born)).toList=(leftOf c b).toList.filter λy=>!(y.born == x.born):=by
     unfold leftOf;rw[Array.toList_filter,Array.toList_filter,filter_filter]
     congr 1
     funext y
     rw[contains_push]
     cases b.contains y.born <;> cases (y.born == x.born) <;> rfl
    rw[j,l,filter_append,filter_cons];rw[l,map_append,map_cons]at B;have s:=(nodup_append.1 B).2
    have K:∀y∈G,(!(y.born == x.born))=true:=λy o=>by
     have:=s.2 y.born (mem_map.2 ⟨y,o,rfl⟩) x.born qs;simpa using this
    have L:∀y∈l2,(!(y.born == x.born))=true:=λy o=>by
     have:=(nodup_cons.1 s.1).1;have k:y.born≠x.born:=λh=>this (by rw[<-h];exact mem_map.2 ⟨y,o,rfl⟩);simpa using k
    rw[filter_eq_self.2 K,filter_eq_self.2 L];simp
   rw[M,map_append,map_append,U,X]
end
end Go.Proofs.YtlpmiimgacfmkaaGreatDoor
