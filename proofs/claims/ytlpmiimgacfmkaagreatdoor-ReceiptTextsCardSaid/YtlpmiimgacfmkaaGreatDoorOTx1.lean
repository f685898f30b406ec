/- strings.Builder: its writes, of a builder made by a world. -/
import Derived.Lib.Builder
import Derived.Lib.ItoaLen
import Derived.LoopN
import Derived.Deep.CutBlock
import Derived.Test.YtlpmiimgacfmkaaGreatDoorOGq
import Derived.Test.YtlpmiimgacfmkaaGreatDoorOShelf4
import Derived.Test.YtlpmiimgacfmkaaGreatDoorONg2
import Derived.Test.YtlpmiimgacfmkaaGreatDoorOWr4
set_option linter.all false
namespace Go.Proofs.YtlpmiimgacfmkaaGreatDoor
set_option maxRecDepth 100000
set_option maxHeartbeats 4000000
open Go.Proofs.Tryz
open Go.RowKit Go.Shelf
theorem Own.base{w:World}{e:TypeId}{size n c:Nat}{A:Option Addr}{xs:List Value}{base:Nat}(h:Own w e size A n c xs)(hb:∀k∈blk A,base<=k):w.ownsRow base e size (.slice A n c) n xs:=by
 obtain⟨h1,h2⟩:=h;refine⟨h1,?_⟩
 rcases h2 with h2|⟨g,cap,cur,hv,_,r⟩
 ·exact .inl h2
 ·refine .inr ⟨g,cap,cur,hv,hb g ?_,r⟩
  injection hv with hv
  rw[hv];simp[blk]
def SB(a:World)(b:Nat)(bs:Nm)(w:World):Prop:=∃(p:Value) (A:Option Addr) (c:Nat),(p=.pointer none \/ p=.pointer (some ⟨b,0,none⟩))/\BoxN w b 172 #[p,.slice A bs.length c]/\Own w 5 1 A bs.length c (dCells bs)/\b ∉ blk A/\a.heap.size<=b/\(∀k∈blk A,a.heap.size<=k)/\Fr [] a w
theorem SB.fr0{a w w':World}{b:Nat}{bs:Nm}(h:SB a b bs w)(d:Fr [] w w'):SB a b bs w':=by
 obtain⟨p,A,c,l,i,k,j,e,f,g⟩:=h;exact⟨p,A,c,l,i.fr d qs,k.fr d qs,j,e,f,g.then d⟩
theorem SB.new(a w:World)(h:Fr [] a w):SB a w.heap.size [] (w.alloc (.cells #[.pointer none,.slice none 0 0] 172)) :=
 ⟨_,none,0,.inl rfl,BoxN.new w _ _,Own.nil _ _ _,by simp[blk],h.size,by simp[blk],h.alloc _⟩
theorem fC(b:Nat)(p v:Value)(w:World)(a:BoxN w b 172 #[p,v])(m:p=.pointer none \/ p=.pointer (some ⟨b,0,none⟩)):
 Calls prog 147 #[.pointer (some ⟨b,0,none⟩)] w λe w'=>e=.returned (.tuple #[])/\BoxN w' b 172 #[.pointer (some ⟨b,0,none⟩),v]/\Fr [b] w w':=by
 rcases m with rfl|rfl
 ·have l:=a.c 0
  have n:=a.f 0
  have i:w.shape? b=some (172,2):=by
   unfold BoxN at a;simp[World.shape?,a]
  obtain⟨j,d,k⟩:∃j,(prog).info? 172=some j/\j.size=2:=by
   have h:((prog).info? 172).map (·.size)=some 2:=qk
   exact Option.map_eq_some_iff.1 h
  have r1:=Lib.run_to_unsafe (P:=prog) (src:=170) (dst:=312) w ⟨b,0,none⟩ underlying170 underlying312 d (by rw[k];decide) i (Nat.zero_lt_succ 1);have r2:=Lib.run_from_unsafe (P:=prog) (src:=312) (dst:=170) w ⟨b,0,none⟩ underlying312 underlying170 d i qk;have r3:=run_callFunc_extern (P:=prog) func184 qk qk qk (e:=Extern.AbiNoEscape.same) qk #[.pointer b] w;rw[Lib.run_noEscape]at r3;have g:=Hd a;clear a i d k
  go_enter func147,ntmps147
  go_wp2_with fail
  go_end0
  exact⟨rfl,g.out.setAt 0 _,(Fq [b] w).st _⟩
 ·have l:=a.c 0
  have g:=Hd a
  obtain⟨j,d,_⟩:∃j,(prog).info? 172=some j/\j.size=2:=by
   have h:((prog).info? 172).map (·.size)=some 2:=qk
   exact Option.map_eq_some_iff.1 h
  have r1:=Lib.run_neq_ptr_same (P:=prog) w ⟨b,0,none⟩ underlying170 d;clear a d
  go_enter func147,ntmps147
  go_wp2_with fail
  go_end0
  exact⟨rfl,g.out,Fq _ _⟩
def iS(a:World)(b:Nat)(bs:Nm)(v:Value)(e:Ending)(w':World):Prop:=e=.returned v/\SB a b bs w'
theorem eX(a:World)(b:Nat)(bs:Nm)(s:ByteArray)(w:World)(h:SB a b bs w)(M:bs.length+s.size<=1000000000):
 Calls prog 83 #[.pointer (some ⟨b,0,none⟩),.string s] w (iS a b (bs++s.data.toList) (.tuple #[.int .i64 (s.size:Int),.nilIface])):=by
 obtain⟨p,A,c,E,m,o,D,B,C,l⟩:=h;obtain⟨n,y⟩:=nmd (bs.length);rw[y]at m o M;have H:=Hd (fC b p (.slice A n c) w m E);have d:=Hd (An o (An D (An B (An C (An l y)))));clear E m o D B C l y;obtain⟨O,L,P,Q,R⟩:=info_u8
 go_enter func83,ntmps83
 go_upto_region 2 with(go_at_call 147;(with_reducible refine H.out.mono ?_);rintro e G ⟨rfl,m,i⟩;have j:=Hd (An m (An i (d.out.1.fr i (by intro k g;simp only[lms];rintro rfl;exact d.out.2.1 g))));clear m i)
 have I:=j.out.1.k1
 go_upto_region 3 with(at_builtin;(with_reducible refine wpList_app_str (w:=G) rfl (.tmp 12) (.tmp 13) 49 9 rfl 5 O underlying49 underlying9 L P Q R A n c _ rfl j.out.2.2 s rfl (by unfold maxLen;omega) qo ?_);intro A2 v w2 o i F;have r:=j.out.1.fr i d.out.2.1;have J:=r.c 1;have K:=r.f 1;have q:=Hd (An o (An i (An F r)));clear o i F r)
 have l:=q.out.2.2.2.setAt 1 (.slice A2 (n+s.size) v);obtain⟨S,t⟩:=nmd (w2.setCell ⟨b,1,none⟩ (.slice A2 (n+s.size) v));have z:Fr [b] w2 S:=by rw[<-t];exact(Fq [b] w2).st _
 rw[t]at l
 try rw[t]
 have u:=Hd (An l z);clear I J K l z t
 go_wp2_with fail
 go_ret2
 have T:=j.out.1.lt;have U:a.heap.size<=G.heap.size:=by have:=d.out.2.2.2.2.1.size;have:=j.out.2.1.size;omega
 have x:∀k∈blk A2,k≠b/\a.heap.size<=k:=λk g=>by
  rcases q.out.2.2.1 k g with h|h
  ·exact⟨λe=>d.out.2.1 (e ▸ h),d.out.2.2.2.1 k h⟩
  ·exact⟨qo,qo⟩
 refine⟨rfl,.pointer b,A2,v,.inr rfl,?_,?_,λN=>(x b N).1 rfl,d.out.2.2.1,λk g=>(x k g).2,?_⟩
 ·rw[lla,d.out.2.2.2.2.2,Array.length_toList,ByteArray.size_data]
  exact u.out.1
 ·rw[lla,d.out.2.2.2.2.2,Array.length_toList,ByteArray.size_data]
  have h:=q.out.1.fr u.out.2 (λk g=>by simp only[lms];exact(x k g).1);rw[show dCells (bs++s.data.toList)=dCells bs++dCells s.data.toList from by unfold dCells;rw[List.map_append]];exact h
 ·exact((d.out.2.2.2.2.1.trans j.out.2.1 (by simp;exact d.out.2.2.1)).trans q.out.2.1 (λk g=>.inr (d.out.2.2.2.1 k g))).trans u.out.2 (by simp;exact d.out.2.2.1)
theorem gI(a:World)(b:Nat)(bs:Nm)(u:UInt8)(w:World)(h:SB a b bs w)(M:bs.length+1<=1000000000):
 Calls prog 85 #[.pointer (some ⟨b,0,none⟩),.int .u8 (u.toNat:Int)] w (iS a b (bs++[u]) .nilIface):=by
 obtain⟨p,A,c,E,m,o,D,B,C,l⟩:=h;obtain⟨n,y⟩:=nmd (bs.length);rw[y]at m o M;have H:=Hd (fC b p (.slice A n c) w m E);have d:=Hd (An o (An D (An B (An C (An l y)))));clear E m o D B C l y;obtain⟨O,L,P,Q,R⟩:=info_u8
 go_enter func85,ntmps85
 go_upto_region 2 with(go_at_call 147;(with_reducible refine H.out.mono ?_);rintro e G ⟨rfl,m,i⟩;have j:=Hd (An m (An i (d.out.1.fr i (by intro k g;simp only[lms];rintro rfl;exact d.out.2.1 g))));clear m i)
 have I:=j.out.1.k1
 go_upto_region 3 with(at_builtin;(with_reducible refine wpList_app_tmp (w:=G) rfl (.tmp 11) (.tmp 13) 49 rfl 5 O _ 1 1 underlying49 L P Q R rfl qd A n c _ rfl j.out.2.2 1 1 [.int .u8 (u.toNat:Int)] 5 rfl rfl (by simp[Value.oneCell']) (by unfold maxLen;omega) qo ?_);intro A2 v w2 o i F;have r:=j.out.1.fr i d.out.2.1;have J:=r.c 1;have K:=r.f 1;have q:=Hd (An o (An i (An F r)));clear o i F r)
 have l:=q.out.2.2.2.setAt 1 (.slice A2 (n+1) v);obtain⟨S,s⟩:=nmd (w2.setCell ⟨b,1,none⟩ (.slice A2 (n+1) v));have z:Fr [b] w2 S:=by rw[<-s];exact(Fq [b] w2).st _
 rw[s]at l
 try rw[s]
 have t:=Hd (An l z);clear I J K l z s
 go_wp2_with fail
 go_ret
 have T:=j.out.1.lt;have U:a.heap.size<=G.heap.size:=by have:=d.out.2.2.2.2.1.size;have:=j.out.2.1.size;omega
 have x:∀k∈blk A2,k≠b/\a.heap.size<=k:=λk g=>by
  rcases q.out.2.2.1 k g with h|h
  ·exact⟨λe=>d.out.2.1 (e ▸ h),d.out.2.2.2.1 k h⟩
  ·exact⟨qo,qo⟩
 refine⟨rfl,.pointer b,A2,v,.inr rfl,?_,?_,λN=>(x b N).1 rfl,d.out.2.2.1,λk g=>(x k g).2,?_⟩
 ·rw[lla,d.out.2.2.2.2.2]
  exact t.out.1
 ·rw[lla,d.out.2.2.2.2.2]
  have h:=q.out.1.fr t.out.2 (λk g=>by simp only[lms];exact(x k g).1);rw[show dCells (bs++[u])=dCells bs++[.int .u8 (u.toNat:Int)]from by unfold dCells;rw[List.map_append];rfl];exact h
 ·exact((d.out.2.2.2.2.1.trans j.out.2.1 (by simp;exact d.out.2.2.1)).trans q.out.2.1 (λk g=>.inr (d.out.2.2.2.1 k g))).trans t.out.2 (by simp;exact d.out.2.2.1)
theorem iT(a:World)(b:Nat)(bs:Nm)(w:World)(i:SB a b bs w):
 Calls prog 86 #[.pointer (some ⟨b,0,none⟩)] w λe w'=>e=.returned (.string ⟨bs.toArray⟩)/\Fr [] a w':=by
 obtain⟨p,A,c,s,m,r,q,j,l,d⟩:=i
 have h:Lib.BuilderAt 172 5 a.heap.size b p (Lib.byteCells bs) w:=by
  have o:(Lib.byteCells bs).length=bs.length:=by unfold Lib.byteCells;rw[List.length_map]
  refine⟨j,.slice A bs.length c,m,?_,?_⟩
  ·rw[o]
   exact r.base l
  ·intro e
   exact q (mem_blk.1 e)
 have n:Lib.IsBuilderF 172 5 a.heap.size b (Lib.byteCells bs) w:=by
  rcases s with rfl|rfl
  ·exact .inl (.of h)
  ·exact .inr (.of h)
 refine(Tryz.Builder_String_any_k a.heap.size b bs w n d.size).mono ?_;rintro e w' ⟨rfl,_,f,_⟩;exact⟨rfl,⟨f.os.trans d.os,f.tape.trans d.tape,f.output.trans d.output,Nat.le_trans d.size f.size,λk g _=>(f.block k g).trans (d.block k g qs)⟩⟩
set_option maxHeartbeats 8000000
structure Pw(w:World):Prop where
 tab : Lib.TabIs prog w "internal/strconv.uint64pow10" .u64 Lib.pow10Tab
 low:6<=w.heap.size
theorem Pw.fr0{w w':World}(h:Pw w)(b:Fr [] w w'):Pw w':=by
 refine⟨?_,Nat.le_trans h.low b.size⟩;have a:=h.tab;have c:=b.block 3 (Nat.lt_of_lt_of_le qd h.low) qs;have d : (prog).globalNamed "internal/strconv.uint64pow10" = some 3 := by kernel_rfl
 unfold Lib.TabIs World.var? at a ⊢;rw[d]at a ⊢;simp only[Option.bind_some]at a ⊢;rw[c];exact a
def eU(n:Int):Nm:=Lib.itoa n
theorem eR{n:Int}(a:-9223372036854775808<=n)(b:n<=9223372036854775807):(eU n).length<=21:=Lib.itoa_length_le n a b
theorem fK(n:Int)(w:World)(a:-9223372036854775808<=n)(b:n<=9223372036854775807)(d:Pw w):Calls prog 81 #[.int .i64 n] w (RetPost w (encN (eU n))):=by
 refine(Tryz.strconv_Itoa n a b w d.tab).mono ?_;rintro e w' ⟨rfl,k,os,rfl⟩;exact⟨rfl,⟨rfl,rfl,rfl,by show w.heap.size<=(w.heap++os).size;rw[Array.size_append];omega,λj c _=>Array.getElem?_append_left c⟩⟩
def im(u:Usage)(b d:Nm)(a c:Int):Nm :=
 (((u.word++(if u.owner then 32::(if b=[]then [48]else b)else []))++(if u.number && u.owner then 35::eU a else if u.number then 32::eU a else []))++(if u.index then 32::eU c else []))++(if u.text then 32::d else [])
def fL(n:ON):Nm:=im (us n.kind.toNat) n.owner n.text n.number n.index
theorem jJ(s t:ByteArray)(g:Nat)(w:World)(f:w.cell? ⟨g,0,none⟩=some (.string s))(h:w.cell? ⟨g,1,none⟩=some (.string t)):Calls prog 146 #[.slice (some ⟨g,0,none⟩) 2 2] w λe w'=>e=.returned (if s.data.toList=[]then(if t.data.toList=[]then .string ⟨#[]⟩else .string t)else .string s)/\w=w':=by
 go_enter func146,ntmps146
 by_cases a:s.data.toList=[]
 ·have c:(s.toList == [])=true:=by rw[ByteArray.toList_eq,a];rfl
  by_cases b:t.data.toList=[]
  ·have d:(t.toList == [])=true:=by rw[ByteArray.toList_eq,b];rfl
   rw[if_pos a,if_pos b]
   go_wp2_with fail
   refine wp_loop_rounds 3 ?_;rw[rounds_succ]
   go_wp2_with fail
   rw[rounds_succ]
   go_wp2_with fail
   rw[rounds_succ]
   go_wp2_with fail
   go_ret
   exact⟨rfl,rfl⟩
  ·have d:(t.toList == [])=false:=beq_eq_false_iff_ne.2 (by rw[ByteArray.toList_eq];exact b)
   rw[if_pos a,if_neg b]
   go_wp2_with fail
   refine wp_loop_rounds 2 ?_;rw[rounds_succ]
   go_wp2_with fail
   rw[rounds_succ]
   go_wp2_with fail
   go_ret
   exact⟨rfl,rfl⟩
 ·have c:(s.toList == [])=false:=beq_eq_false_iff_ne.2 (by rw[ByteArray.toList_eq];exact a)
  rw[if_neg a]
  go_wp2_with fail
  refine wp_loop_rounds 1 ?_;rw[rounds_succ]
  go_wp2_with fail
  go_ret
  exact⟨rfl,rfl⟩
theorem ip:∀k,k<21->(us k).word.length<=20:=qd
theorem eP{a b:Nm}{x y:ByteArray}(c:encN a=.string x)(d:encN b=.string y):Value.string (x++y)=encN (a++b):=by
 unfold encN at c d ⊢
 injection c with c
 injection d with d
 rw[<-c,<-d]
 congr 1
theorem eS(l:Nm):encN l=.string ⟨l.toArray⟩:=rfl
theorem fj(n:ON)(w:World)(aa:Ok w)(hp:Pw w)(J:checkO n=0)(ap:n.text.length<=1000000):Calls prog 82 #[encO n] w (RetPost w (encN (fL n))):=by
 have aB:=valid_len (valid_of_check J);have v:=λW h=>Check_any n W h qo qo;rw[J]at v;obtain⟨k,hk,aK,aL,aq⟩:=kind_of J;have G:=checkU_zero aq;have ak:=us_most (k:=k) qo;unfold fL;obtain⟨a3,o,f,i,ae⟩:=n;simp only at hk aB ap G;subst hk
 try simp only[show ((k:Nat):Int).toNat=k from rfl]
 clear aq J;unfold encO at v ⊢
 try simp only at v ⊢
 obtain⟨os,al,aC,aP⟩:=str_of o;obtain⟨ts,ao,aW,aD⟩:=str_of ae;rw[al,ao]at v ⊢;obtain⟨w1,au,aF,n1,A⟩:=bxz w #[k,os,f,i,ts] 31 w.heap.size;obtain⟨x0,x1,x2,x3,x4⟩:=n1.m5;have af:=Hd (v w1 (aa.fr0 A));have R:=Hd (An (aa.fr0 A) (hp.fr0 A));have Q:=Hd (An n1 A);have ag:=Hd au;have aJ:(k:Int)<21:=qo
 have aj:k<21:=qo
 clear v au n1 A aF aa hp
 go_enter func82,ntmps82
 go_upto_region 1 with fail
 rw[ag.out]
 go_upto_region 3 with((go_at_call 53;(with_reducible refine af.out.mono ?_);rintro e w2 ⟨rfl,C⟩;have r:=Hd (An (Q.out.1.fr C qs) (An (Q.out.2.then C) (An (R.out.1.fr0 C) (R.out.2.fr0 C))));clear C))
 clear af x0 x1 x2 x3 x4;obtain⟨e0,S,T,U,V,X⟩:=us_cells r.out.2.2.1 aj;have ar:=ip k aj;obtain⟨u,hu⟩:=nmd (us k);rw[hu]at e0 S T U V X G ak ar ⊢;have HU:=Hd hu;clear hu;obtain⟨uw,q,p,y,O,um⟩:=u;simp only at e0 S T U V X G ak ar;obtain⟨us,ad,aY,aZ⟩:=str_of uw;rw[ad]at e0;have aE:=r.out.1.k0
 go_upto_region 4 with fail
 obtain⟨H,av,aG,n3,B⟩:=bxz w2 #[us,.bool q,.bool p,.bool y,.bool O,um] 216 w2.heap.size
 try rw[av]
 obtain⟨aI,hU⟩:=nmd (w2.heap.size);rw[hU]at n3 ⊢;have t:=Hd (An (r.out.1.fr B qs) (An n3 (An (r.out.2.1.then B) (An (r.out.2.2.1.fr0 B) (r.out.2.2.2.fr0 B)))));clear e0 S T U V X aE n3 B av aG hU Q R ag;obtain⟨aH,z1⟩:=t.out.2.1.m2;have x1:=t.out.1.k1
 go_upto_if 15 with fail
 obtain⟨N,K⟩:∃l:Nm,uw++(if q then 32::(if o=[]then [48]else o)else [])=l:=⟨_,rfl⟩
 have aM:N.length<=200:=by
  rw[<-K,lla];split
  ·split <;> simp <;> omega
  ·simp;omega
 go_cut [4]from 4 to 22 (λs W=>s=encN N/\Fr [] H W)
 case first =>
  cases q with
  | false =>
   go_wp2_with fail
   go_meet
   exact⟨by rw[<-K,if_neg qs,List.append_nil];exact ad.symm,Fq _ _⟩
  | true =>
   obtain⟨rs,d,am,F⟩:=str_of (if o=[]then [48]else o);have an:rs.size<=100:=by rw[F];split;exact qd;omega
   have ah:∀(W:World) (g:Nat),W.cell? ⟨g,0,none⟩=some os->W.cell? ⟨g,1,none⟩=some (.string ⟨#[48]⟩)->Calls prog 146 #[.slice g 2 2] W λe w'=>e=.returned rs/\W=w':=λW g h0 h1=>by
    have h:=jJ os ⟨#[48]⟩ g W h0 h1;rw[aC]at h
    have e:(if o=[]then(if(⟨#[48]⟩:ByteArray).data.toList=[]then Value.string ⟨#[]⟩else .string ⟨#[48]⟩)else os)=rs:=by
     rw[<-d];split
     ·rfl
     ·exact al.symm
    rw[e]at h;exact h
   have HO:=Hd ah;clear ah
   go_wp2_with (go_at_call 146;(with_reducible refine(HO.out _ H.heap.size ((BoxN.new H 9 #[os,.string ⟨#[48]⟩]).c 0) ((BoxN.new H 9 #[os,.string ⟨#[48]⟩]).c 1)).mono ?_);rintro e w4 ⟨rfl,rfl⟩)
   go_meet
   exact⟨by rw[<-K];exact eP ad (eP (eS [32]) d).symm,(Fq [] H).alloc _⟩
 obtain⟨rfl,D⟩:=hcut;obtain⟨s1,M,aQ,aR⟩:=str_of N;rw[M];have a:=Hd (An (t.out.1.fr D qs) (An (t.out.2.1.fr D qs) (An (t.out.2.2.1.then D) (t.out.2.2.2.2.fr0 D))));obtain⟨w4,aw⟩:=nmd (wc);rw[aw]at a ⊢;clear aH z1 x1 D aw;have Z:p=true->0<=f/\f<=1073741824:=λh=>by have:=G.1 h;simp only[withinB,decide_eq_true_eq,Bool.and_eq_true]at this;omega
 have Y:y=true->0<=i/\i<=1073741824:=λh=>by have:=G.2.1 h;simp only[withinB,decide_eq_true_eq,Bool.and_eq_true]at this;omega
 have z1:=a.out.2.1.k1;have z2:=a.out.2.1.k2;have x2:=a.out.1.k2;obtain⟨l2,E⟩:∃l:Nm,N++(if p && q then 35::eU f else if p then 32::eU f else [])=l:=⟨_,rfl⟩
 have aN:l2.length<=300:=by
  rw[<-E,lla];have h:=λh=>eR (n:=f) (by have:=Z h;omega) (by have:=Z h;omega)
  cases p with
  | false=>simp;omega
  | true =>
   have:=h rfl
   cases q <;> simp <;> omega
 go_upto_block 0 with fail
 go_cut [4]from 4 to 44 (λs W=>s=encN l2/\Fr [] w4 W)
 case first =>
  cases p with
  | false =>
   go_wp2_with fail
   go_meet
   exact⟨by rw[<-E];simp[M],Fq _ _⟩
  | true =>
   obtain⟨az,aA⟩:=Z rfl;obtain⟨rs,d,am,F⟩:=str_of (eU f);have an:rs.size<=21:=by rw[F];exact eR qo qo
   have m:=fK f w4 qo qo a.out.2.2.2;rw[d]at m;have I:=Hd m;clear m
   cases q with
   | false =>
    go_wp2_with (go_at_call 81;(with_reducible refine I.out.mono ?_);rintro e P ⟨rfl,b⟩)
    go_meet
    exact⟨by rw[<-E];exact eP M (eP (eS [32]) d).symm,b⟩
   | true =>
    go_wp2_with (go_at_call 81;(with_reducible refine I.out.mono ?_);rintro e P ⟨rfl,b⟩)
    go_meet
    exact⟨by rw[<-E];exact eP M (eP (eS [35]) d).symm,b⟩
 obtain⟨rfl,b⟩:=hcut;obtain⟨s2,ab,aS,aT⟩:=str_of l2;rw[ab];have j:=Hd (An (a.out.1.fr b qs) (An (a.out.2.1.fr b qs) (An (a.out.2.2.1.then b) (a.out.2.2.2.fr0 b))));obtain⟨P,ax⟩:=nmd (wc);rw[ax]at j ⊢;clear z1 z2 x2 b ax;have z3:=j.out.2.1.k3;have x3:=j.out.1.k3;obtain⟨l3,L⟩:∃l:Nm,l2++(if y then 32::eU i else [])=l:=⟨_,rfl⟩
 have aO:l3.length<=400:=by
  rw[<-L,lla];have h:=λh=>eR (n:=i) (by have:=Y h;omega) (by have:=Y h;omega)
  cases y with
  | false=>simp;omega
  | true=>have:=h rfl;simp;omega
 go_upto_if 46 with fail
 go_cut [4]from 4 to 52 (λs W=>s=encN l3/\Fr [] P W)
 case first =>
  cases y with
  | false =>
   go_wp2_with fail
   go_meet
   exact⟨by rw[<-L];simp[ab],Fq _ _⟩
  | true =>
   obtain⟨az,aA⟩:=Y rfl;obtain⟨rs,d,am,F⟩:=str_of (eU i);have an:rs.size<=21:=by rw[F];exact eR qo qo
   have m:=fK i P qo qo j.out.2.2.2;rw[d]at m;have I:=Hd m;clear m
   go_wp2_with (go_at_call 81;(with_reducible refine I.out.mono ?_);rintro e w6 ⟨rfl,x⟩)
   go_meet
   exact⟨by rw[<-L];exact eP ab (eP (eS [32]) d).symm,x⟩
 obtain⟨rfl,x⟩:=hcut;obtain⟨s3,ac,aU,aV⟩:=str_of l3;rw[ac];have z:=Hd (An (j.out.1.fr x qs) (An (j.out.2.1.fr x qs) (j.out.2.2.1.then x)));obtain⟨w6,ay⟩:=nmd (wc);rw[ay]at z ⊢;clear z3 x3 x ay;have z4:=z.out.2.1.k4;have x4:=z.out.1.k4
 have ai:im ⟨uw,q,p,y,O,um⟩ o ae f i=l3++(if O then 32::ae else []):=by
  unfold im;rw[K,E,L]
 have aX:ts.size<=1000000:=by rw[aD];exact ap
 cases O with
 | false =>
  go_wp2_with fail
  go_ret
  exact⟨by rw[HU.out,ai,if_neg qs,List.append_nil,ac];rfl,z.out.2.2⟩
 | true =>
  go_wp2_with fail
  go_ret
  exact⟨by rw[HU.out,ai];exact congrArg Ending.returned (eP ac (eP (eS [32]) ao).symm),z.out.2.2⟩
set_option maxHeartbeats 4000000
def fb(k:KY):Nm:=((((eU k.rnd++[46])++eU k.phase)++[46])++eU k.idx)++(if k.lin=[]then []else 47::k.lin)
def gc(n:Int):Prop:=-9223372036854775808<=n/\n<=9223372036854775807
structure KeyOk(k:KY):Prop where
 a:gc k.rnd
 b:gc k.phase
 c:gc k.idx
 l:k.lin.length<=1000
theorem fM{k:KY}(h:KeyOk k):(fb k).length<=2000:=by
 have d:=eR h.a.1 h.a.2;have e:=eR h.b.1 h.b.2;have f:=eR h.c.1 h.c.2;have g:=h.l;unfold fb;simp only[lla,List.length_cons,List.length_nil];split <;> simp <;> omega
theorem iB(k:KY)(w:World)(Q:Pw w)(hk:KeyOk k):Calls prog 84 #[encK k] w (RetPost w (encN (fb k))):=by
 obtain⟨m,o,p,G⟩:=hk;obtain⟨f,d,b,u⟩:=k;simp only at m o p G;unfold encK;simp only;obtain⟨j,M,N,O⟩:=str_of u;rw[M];obtain⟨g,R,_,X⟩:=str_of (eU f);obtain⟨l,S,_,Y⟩:=str_of (eU d);obtain⟨v,T,_,Z⟩:=str_of (eU b);have ae:g.size<=21:=by rw[X];exact eR m.1 m.2
 have af:l.size<=21:=by rw[Y];exact eR o.1 o.2
 have ag:v.size<=21:=by rw[Z];exact eR p.1 p.2
 have ah:j.size<=1000:=by rw[O];exact G
 obtain⟨y,U,ad,n1,A⟩:=bxz w #[f,d,b,j] 89 w.heap.size
 have HSS:=Hd (λ(W:World) (hW:Fr [] y W)=>(show W.cell? ⟨w.heap.size,0,none⟩=some f/\W.cell? ⟨w.heap.size,1,none⟩=some d/\W.cell? ⟨w.heap.size,2,none⟩=some b/\W.cell? ⟨w.heap.size,3,none⟩=some j from by
  have h:=n1.fr hW qs;exact⟨h.c 0,h.c 1,h.c 2,h.c 3⟩))
 have H:∀(n:Int) (s:ByteArray) (W:World),gc n->encN (eU n)=s->Fr [] y W->Calls prog 81 #[n] W (RetPost W s):=λn s W P hs hW=>by
  have h:=fK n W P.1 P.2 (Q.fr0 (A.then hW));rw[hs]at h;exact h
 have z:=Hd H;have aa:=Hd A;have ab:=Hd U;have B:=(Fq [] y).drew;clear H A U n1 ad Q
 go_enter func84,ntmps84
 go_upto_region 1 with fail
 rw[ab.out];clear X Y Z O;have c1:¬ 9223372036854775807<g.size+1:=qo
 have c2:¬ 9223372036854775807<g.size+1+l.size:=qo
 have c3:¬ 9223372036854775807<g.size+1+l.size+1:=qo
 have c4:¬ 9223372036854775807<g.size+1+l.size+1+v.size:=qo
 refine wp_region_head (λW:World=>Fr [] y W) 13 qk ?_ qd
 show headJ 0 ..
 iterate 2 (refine hdL rfl ?_;try simp only[qq])
 show headJ 4 ..
 iterate 2 (refine hdL rfl ?_;try simp only[qq])
 show headJ 9 ..
 iterate 2 (refine hdL rfl ?_;try simp only[qq])
 refine hO (i:=2) rfl λK a=>?_;go_simp
 go_at_call 81
 (with_reducible refine(z.out f g _ m R B).mono ?_);rintro e y1 ⟨rfl,I⟩;have r:=B.then I;refine a _ _ r ?_;clear a K
 try simp only[qq]
 show headJ 3 ..
 refine hdL rfl ?_;try simp only[qq];refine hO (i:=6) rfl λK a=>?_;go_simp
 go_at_call 81
 (with_reducible refine(z.out d l _ o S r).mono ?_);rintro e y2 ⟨rfl,J⟩;have t:=r.then J;refine a _ _ t ?_;clear a K
 try simp only[qq]
 show headJ 7 ..
 iterate 2 (refine hdL rfl ?_;try simp only[qq])
 refine hO (i:=11) rfl λK a=>?_;go_simp
 go_at_call 81
 (with_reducible refine(z.out b v _ p T t).mono ?_);rintro e y3 ⟨rfl,L⟩;have E:=t.then L;refine a _ _ E ?_;clear a K
 try simp only[qq]
 show headJ 12 ..
 refine hdL rfl ?_;try simp only[qq];refine headI_done ⟨qk,?_⟩;simp only[qG,qH];obtain⟨q0,q1,q2,q3⟩:=HSS.out y3 E;obtain⟨x,D⟩:=nmd ((((g++⟨#[46]⟩)++l)++⟨#[46]⟩)++v)
 have ai:x.size<=100:=by
  have ac:(⟨#[46]⟩:ByteArray).size=1:=rfl;rw[<-D];simp only[ByteArray.size_append,ac];omega
 have V:encN ((((eU f++[46])++eU d)++[46])++eU b)=x:=by
  rw[<-D];exact(eP (eP (eP (eP R (eS [46])).symm S).symm (eS [46])).symm T).symm
 rw[D];clear B r t I J L c1 c2 c3 c4 HSS;have F:=Hd (aa.out.then E)
 by_cases q:u=[]
 ·have e1:(j.toList == [])=true:=by rw[ByteArray.toList_eq,N,q];rfl
  go_wp2_with fail
  go_ret
  have C:encN (fb ⟨f,d,b,u⟩)=.string x:=by unfold fb;rw[if_pos q,List.append_nil];exact V
  exact⟨by rw[C];rfl,F.out⟩
 ·have e1:(j.toList == [])=false:=beq_eq_false_iff_ne.2 (by rw[ByteArray.toList_eq,N];exact q)
  go_wp2_with fail
  go_ret
  have C:encN (fb ⟨f,d,b,u⟩)=.string (x++(⟨#[47]⟩++j)):=by unfold fb;rw[if_neg q];exact(eP V (eP (eS [47]) M).symm).symm
  exact⟨by rw[C];rfl,F.out⟩
end Go.Proofs.YtlpmiimgacfmkaaGreatDoor
