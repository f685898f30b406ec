/- Part of the proof. -/
import Derived.Stop.BytesEq
import Derived.Test.YtlpmiimgacfmkaaGreatDoorRNg2
set_option linter.all false
set_option maxHeartbeats 4000000
set_option maxRecDepth 100000
namespace Go.Proofs.YtlpmiimgacfmkaaGreatDoor
open Go.Proofs.Tryz
open Go.RowKit
def km(w:World)(a:AG)(e:Ending)(w':World):Prop :=
 ∃x:AX,x.a=a/\e=.returned (.tuple #[x.v,.int .i64 0])/\x.ok w'/\Fr [] w w'/\(∀k∈eV x.A,w.heap.size<=k)/\∀k∈eV x.B,w.heap.size<=k
theorem yW(s:ByteArray)(a:AG)(w:World)(ae:Ok w)(hs:s.size<=70368744177664)(hd:FA s.data.toList a)(a8:mN a=true)(hg:a.fit):Calls prog 134 #[.string s] w (km w a):=by
 obtain⟨r1,r2,r3,g,aW,aX,aS⟩:=hd;obtain⟨w1,a6,az,aU⟩:=kS w (rG) 91;obtain⟨bf,w2,bk,ac,a4⟩:=yJ s w1;have bo:w.heap.size<w2.heap.size:=by have:=az.lt;have:=ac.size;omega
 have aM:=oU _ s.size bf _ _ w2 a4 (by rintro a ao;injection ao with ao;rw[<-ao]) hs;have HZ:=Hd (az.fr ac qs);have HF:=Hd (aU.then ac);have HN:=Hd aM;have an:=Hd a6;have W:=Hd (An g (An aW (An aX aS)));obtain⟨C,ay⟩:=eR (a.k.rnd);obtain⟨z,aw⟩:=eR (a.k.phase);obtain⟨y,x⟩:=eR (a.k.idx);obtain⟨q,ax,_,_⟩:=eT a.k.lin;have aT:lK a.k=.agg #[.int .i64 C,.int .i64 z,.int .i64 y,.string q]:=by unfold lK;rw[ay,aw,x,ax]
 have t:=Hd (An ay (An aw (An x ax)));have X:=Hd (An a8 hg);have bb:=Hd aT;clear a6 az aU ac a4 aM g aW aX aS aT ay aw x ax a8 hg;unfold rG at an
 go_enter func134,ntmps134
 go_upto_region 1 with fail
 rw[an.out]
 go_upto_region 2 with((go_at_call 47;(with_reducible refine HN.out.mono ?_);rintro e w3 ⟨b,rfl,af,au⟩))
 obtain⟨Y,aP⟩:=eR (w2.heap.size);obtain⟨E,bj⟩:=eR (w3.heap.size);rw[aP,bj]at af;rw[aP]at bo;have bq:Y<=b/\b<E:=by obtain⟨A,_,h1,h2,_⟩:=af;exact⟨h1,h2⟩
 have aH:=Hd (HZ.out.fr au qs);have aC:=Hd (HF.out.then au);have bs:=ae.low;have hK:=xy Y E b _ w3 af qo;rw[W.out.1,bb.out]at hK;have HK:=Hd hK;clear hK af HN an HZ HF au bk
 go_upto_region 3 with((go_at_call 176;(with_reducible refine HK.out.mono ?_);rintro e V ⟨rfl,a5,ad⟩))
 obtain⟨F,a7,aa,R⟩:=kS V #[.int .i64 C,.int .i64 z,.int .i64 y,.string q,.slice none 0 0,.slice none 0 0] 91;have bt:=ad.size;have br:E<=F.heap.size:=by have:=R.size;omega
 have aL:Fr [b] w F:=(aC.out.trans ad (by simp;omega)).then (R.mono qs) |>.mono qs;have ar:V.heap.size≠b:=qo
 have bg:E<=V.heap.size:=qo
 have bh:=aa.lt;have bi:w.heap.size≠V.heap.size:=qo
 have aN:=(aH.out.fr ad (by simp;omega)).fr R qs;rw[a7];generalize V.heap.size=D at aa ar bg bh bi ⊢;have ak:=Hd aL;have aE:=Hd (a5.fr0 R);have ah:=Hd aa;have aI:=Hd aN;clear a7 aa R aL aN a5 ad HK aC aH
 go_wp2_with fail
 refine wp_loop_rounds 3 ?_;rw[rounds_succ];have x:(Instr.index 300 (.agg #[.pointer (some ⟨D,4,none⟩),.pointer (some ⟨D,5,none⟩)]) (.int .i64 0)).run prog F=.ok (.pointer (some ⟨D,4,none⟩)) F:=pV F _ _ _ 0 qo rfl
 go_upto_region 7 with fail
 clear x;have aY:=ah.out.lt;have O:=mU Y E b r1 r2 a.r F (ae.fr (S:=[b]) ak.out (by simp;omega)) aE.out qo qo X.out.2.rl W.out.2.1;have M:=Hd O;clear O
 go_upto_region 8 with((go_at_call 177;(with_reducible refine M.out.mono ?_);rintro e x6 ⟨A,c,rfl,T,i,Q,u⟩;obtain⟨n,av⟩:∃n,(a.r).length=n:=⟨_,rfl⟩;rw[av];have K:=Hd av;clear av;have o:=ah.out.fr i (by simpa using ar);have d4:(x6).cell? ⟨D,4,none⟩=some _:=o.c 4;have df:=o.f 4;have I:=Hd o;clear o))
 obtain⟨G,p⟩:=eR ((x6).setCell ⟨D,4,none⟩ (.slice A n c));have h:Fr [D] x6 G:=by rw[<-p];exact(Fq [D] x6).st _
 have P:BoxN G D 91 #[.int .i64 C,.int .i64 z,.int .i64 y,.string q,.slice A n c,.slice none 0 0]:=by rw[<-p];exact I.out.setAt 4 _
 rw[p]
 have N:∀k∈eV A,k ∉ [D]:=by
  intro k g;have:=u k g;simp only[gI];omega
 have l:=Hd (An (Q.fr h N) (An u aY));have aF:=Hd (T.fr h (by simp;omega));have al:=Hd ((ak.out.then i).trans h (by simp;omega));have ai:=Hd P;have aJ:=Hd ((aI.out.fr i (by simp;omega)).fr h (by simp;omega));clear p P h N i Q u T d4 df I M aY ak aE ah aI
 go_wp2_with fail
 rw[rounds_succ];have x:(Instr.index 300 (.agg #[.pointer (some ⟨D,4,none⟩),.pointer (some ⟨D,5,none⟩)]) (.int .i64 1)).run prog G=.ok (.pointer (some ⟨D,5,none⟩)) G:=pV G _ _ _ 1 qo rfl
 go_upto_region 7 with fail
 clear x;have aZ:=ai.out.lt;have O:=mU Y E b r2 r3 a.w G (ae.fr (S:=[b]) al.out (by simp;omega)) aF.out qo qo X.out.2.wl W.out.2.2.1;have M:=Hd O;clear O
 go_upto_region 8 with((go_at_call 177;(with_reducible refine M.out.mono ?_);rintro e x8 ⟨B,d,rfl,T,i,Q,u⟩;obtain⟨m,hm⟩:∃n,(a.w).length=n:=⟨_,rfl⟩;rw[hm];have L:=Hd hm;clear hm;have o:=ai.out.fr i (by simpa using ar);have d4:(x8).cell? ⟨D,5,none⟩=some _:=o.c 5;have df:=o.f 5;have I:=Hd o;clear o))
 obtain⟨H,p⟩:=eR ((x8).setCell ⟨D,5,none⟩ (.slice B m d));have h:Fr [D] x8 H:=by rw[<-p];exact(Fq [D] x8).st _
 have P:BoxN H D 91 #[.int .i64 C,.int .i64 z,.int .i64 y,.string q,.slice A n c,.slice B m d]:=by rw[<-p];exact I.out.setAt 5 _
 rw[p]
 have N:∀k∈eV B,k ∉ [D]:=by
  intro k g;have:=u k g;simp only[gI];omega
 have J:=Hd (An (Q.fr h N) (An u aZ));have bc:=Hd (T.fr h (by simp;omega));have aD:=Hd ((al.out.then i).trans h (by simp;omega));have aB:=Hd P;have be:=Hd ((aJ.out.fr i (by simp;omega)).fr h (by simp;omega));have aG:=Hd (An i h);clear p P h N i Q u T d4 df I M aZ al aF ai aJ;have ap:Own H 95 7 A n c (a.r.flatMap CH.cs):=by rw[<-K.out];exact(l.out.1.fr aG.out.1 (by intro k g;have:=l.out.2.1 k g;have:=l.out.2.2;simp only[gI];omega)).fr aG.out.2 (by intro k g;have:=l.out.2.1 k g;have:=l.out.2.2;simp only[gI];omega)
 have bm:∀k∈eV A,w.heap.size<=k/\k≠b:=by intro k g;have:=l.out.2.1 k g;have:=l.out.2.2;omega
 have bn:∀k∈eV B,w.heap.size<=k/\k≠b:=by intro k g;have:=J.out.2.1 k g;have:=J.out.2.2;omega
 have aq:Own H 95 7 B m d (a.w.flatMap CH.cs):=by rw[<-L.out];exact J.out.1
 have a3:Ok H:=ae.fr (S:=[b]) aD.out (by simp;omega);have hW:=l4 a q A B c d H a3 t.out.2.2.2 (by unfold Chs;rw[K.out];exact ap.rd) (by unfold Chs;rw[L.out];exact aq.rd) X.out.2;rw[X.out.1]at hW;unfold AG.val at hW;rw[K.out,L.out,t.out.1,t.out.2.1,t.out.2.2.1]at hW;have hC:=ws bc.out;rw[W.out.2.2.2]at hC;obtain⟨y0,y1,y2,y3,y4,y5⟩:=aB.out.m6;have HC:=Hd hC;have HW:=Hd hW;have a9:=Hd ap;have ba:=Hd aq;clear hC hW ap aq a3
 go_wp2_with fail
 rw[rounds_succ]
 go_upto_region 13 with(first
  | (go_at_call 52;(with_reducible refine HC.out.mono ?_);rintro e bu ⟨rfl,rfl⟩)
  | (go_at_call 120;(with_reducible refine HW.out.mono ?_);rintro e aA ⟨rfl,ab⟩))
 have j:=be.out.fr ab qs;have aO:=aB.out.fr ab qs;clear y0 y1 y2 y3 y4 y5;obtain⟨y0,y1,y2,y3,y4,y5⟩:=aO.m6;unfold rG at j;obtain⟨bp,z1,z2,z3,z4,z5⟩:=j.m6;have g0:=j.f 0;have g1:=j.f 1;have g2:=j.f 2;have g3:=j.f 3;have g4:=j.f 4;have g5:=j.f 5;have bd:=Hd j;have aj:=Hd ab;clear j aO ab HC HW
 go_wp2_with fail
 obtain⟨U,ag⟩:=eR (((((((aA.setCell ⟨w.heap.size,0,none⟩ (.int .i64 C)).setCell ⟨w.heap.size,1,none⟩ (.int .i64 z)).setCell ⟨w.heap.size,2,none⟩ (.int .i64 y)).setCell ⟨w.heap.size,3,none⟩ (.string q)).setCell ⟨w.heap.size,4,none⟩ (.slice A n c)).setCell ⟨w.heap.size,5,none⟩ (.slice B m d)));have aK:BoxN U w.heap.size 91 #[.int .i64 C,.int .i64 z,.int .i64 y,.string q,.slice A n c,.slice B m d]:=by rw[<-ag];exact((((((bd.out.setAt 0 _).setAt 1 _).setAt 2 _).setAt 3 _).setAt 4 _).setAt 5 _)
 have Z:Fr [w.heap.size] aA U:=by rw[<-ag];exact((((((Fq [w.heap.size] aA).st _).st _).st _).st _).st _).st _
 have aQ:Own U 95 7 A n c (a.r.flatMap CH.cs):=(a9.out.fr aj.out qs).fr Z (by intro k g;have:=l.out.2.1 k g;have:=l.out.2.2;simp only[gI];omega);have aR:Own U 95 7 B m d (a.w.flatMap CH.cs):=(ba.out.fr aj.out qs).fr Z (by intro k g;have:=J.out.2.1 k g;have:=J.out.2.2;simp only[gI];omega);have aV:Fr [] w U:=((aD.out.trans aj.out qs).trans Z qs).mono (by simp;omega);obtain⟨t0,t1,t2,t3,t4,t5⟩:=aK.m6;have am:=Hd (An aQ (An aR aV));rw[ag];clear ag aK Z aQ aR aV bp z1 z2 z3 z4 z5 y0 y1 y2 y3 y4 y5 g0 g1 g2 g3 g4 g5;refine bodyPost_ret (v:=.tuple #[.agg #[.int .i64 C,.int .i64 z,.int .i64 y,.string q,.slice A n c,.slice B m d],.int .i64 0]) (by simp[results,results134,go_sem,t0,t1,t2,t3,t4,t5]) rfl ⟨⟨a,q,A,c,B,d⟩,rfl,?_,⟨t.out.2.2.2,by simp only;rw[K.out];exact am.out.1,by simp only;rw[L.out];exact am.out.2.1⟩,am.out.2.2,λk g=>(bm k g).1,λk g=>(bn k g).1⟩;unfold AX.v AG.val;simp only;rw[K.out,L.out,t.out.1,t.out.2.1,t.out.2.2.1]
theorem na(W:World){d:Nm}(b:d.length=32):(Op.equalIn 10000 57 (.agg (eP d).toArray) (.agg (eP d).toArray)).run prog W=.ok true W:=by
 have h:=run_equalIn_bytes (P:=prog) W 9998 57 5 32 underlying57 underlying5 (λw=>by simp[go_sem]) d d b b;have c:(Op.equalIn 10000 57 (.agg (eP d).toArray) (.agg (eP d).toArray)).run prog W=.ok (d == d) W:=h;rw[c];simp
section
variable {P:Program} {ops:Array Oper} {rest:List Oper} {o:Oper} {a:Act} {Q:Exit->Act->World->Prop} {w:World}
theorem fF(b:Region.wanted o (yielded ops a.tmps)=true)(h:o.wp P a w (wpList P ops Q rest) Q):wpList P ops Q (o::rest) a w:=by
 unfold wpList;rw[if_pos b];exact .inl h
end
theorem Ez(d:Nm)(h:List Nm)(i a N:Nat)(A:Option Addr)(c:Nat)(w:World)(R:Ok w)(O:i<a)(P:a<=1000)(G:0<N)(H:N<=1000)(J:(bl i a).length=N)(T:h.length=N)(q:d.length=32)(S:∀p∈h,p.length=32)(Q:Own w 57 32 A N c (h.flatMap eP)):
 Calls prog 135 #[fu d,.int .i64 (i:Int),.int .i64 (a:Int),.slice A N c] w (mH w (jR d (bl i a) h N)):=by
 have K:(eP d).length=32:=by rw[eU,q]
 obtain⟨g,m⟩:=eR (w.alloc (.cells (eP d).toArray 57));have F:g.rowIs w.heap.size 57 32 (λj=>.int .u8 ((d.getD j 0).toNat:Int)):=by rw[<-m];exact gS w K
 have s:Fr [] w g:=by rw[<-m];exact(Fq [] w).alloc _
 have V:g.heap.size=w.heap.size+1:=by rw[<-m];simp
 obtain⟨w2,t⟩:=eR (g.alloc (.cells (qm) 57));obtain⟨fR,I⟩:∃f,w2.rowIs (w.heap.size+1) 57 32 f:=by rw[<-t,<-V];exact⟨_,gn g _ _⟩
 have k:Fr [] g w2:=by rw[<-t];exact(Fq [] g).alloc _
 have n:=Dl d h i a N A c w2 (R.fr0 (s.then k)) O P G H J T q S (Q.fr (s.then k) qs);obtain⟨r,B⟩:=eR (jR d (bl i a) h N);have l:r.length=32:=by rw[<-B];exact oB _ _ q _
 have L:(eP r).length=32:=by rw[eU,l]
 rw[B]at n ⊢;unfold fu at n;have HN:=Hd n;have HL:=Hd (fH (eS F k qs) q);have ab:=Hd I;have Y:=Hd (s.then k);have E:=Hd (An m t);unfold fu;clear F s V m t I k n B Q R O P G H J T S
 go_enter func135,ntmps135
 go_upto_region 1 with fail
 rw[E.out.1,E.out.2]
 go_wp2_with (first
  | (with_reducible refine wpList_load_mid rfl 57 (.tmp 4) rfl w.heap.size 0 rfl (eP d) (.array 32 5) HL.out qk rfl (by rw[K];kernel_rfl) ?_)
  | (go_at_call 178;(with_reducible refine HN.out.mono ?_);rintro e W ⟨v,rfl,y⟩;unfold fu;obtain⟨w4,ad,z,U⟩:=qI W r l;have aa:=Hd (fH U l);have x:=eS (eS ab.out y qs) z qs;have ac:=fc (d:=r) x l;have C:=fh (d:=r) x l;obtain⟨w5,D⟩:∃X,w4.setCells (w.heap.size+1) 0 (eP r)=X:=⟨_,rfl⟩;have M:Fr [] w w5:=(by rw[<-D];exact((Y.out.then y).then z).setCells (.inr qs) _ _);rw[D]at ac C;have HRD:=Hd C.1;have Z:=Hd M;clear D C M x y z U)
  | (with_reducible refine wpList_load_mid rfl 57 (.tmp 10) rfl W.heap.size 0 rfl (eP r) (.array 32 5) aa.out qk rfl (by rw[L];kernel_rfl) ?_))
 exact bodyPost_ret (v:=.tuple #[fu r,.int .i64 0]) (iK (d:=.array 32 5) (p:=8) (u:=9) (ty:=57) (b:=w.heap.size+1) (o:=0) rfl rfl rfl HRD.out qk rfl (by rw[L];rfl)) rfl ⟨rfl,Z.out⟩
theorem yX(a:AG)(av:List Nm)(i n N:Nat)(m:Nm)(al:Option Addr)(c:Nat)(w:World)(aM:Ok w)(aP:mN a=true)(aC:a.fit)(bx:a.r.length<=10)(bB:a.w.length<=10)(bN:i<n)(bO:n<=12)(bg:0<N)(bh:N<=1000)(bo:(bl (i+1) (n+1)).length=N)(bw:av.length=N)(hp:∀p∈av,p.length=32)(aN:jR (jo (1::fL a)) (bl (i+1) (n+1)) av N=m)(ho:Own w 57 32 al N c (av.flatMap eP)):
 Calls prog 66 #[fu m,.agg #[.int .i64 (i:Int),.int .i64 (n:Int),ft (fL a),.slice al N c]] w (km w a):=by
 have I:m.length=32:=by rw[<-aN];exact oB _ _ (fw _) _
 have bt:=sP aP aC bx bB;have bp:=BP aP aC.rl aC.wl;have am:(eP m).length=32:=by rw[eU,I]
 obtain⟨w1,aD⟩:=eR (w.alloc (.cells (eP m).toArray 57));have bf:w1.rowIs w.heap.size 57 32 (λj=>.int .u8 ((m.getD j 0).toNat:Int)):=by rw[<-aD];exact gS w am
 have bq:Fr [] w w1:=by rw[<-aD];exact(Fq [] w).alloc _
 have ba:w1.heap.size=w.heap.size+1:=by rw[<-aD];simp
 obtain⟨w2,ao⟩:=eR (w1.alloc (.cells #[i,n,ft (fL a),.slice al N c] 53));have bm:BoxN w2 (w.heap.size+1) 53 #[i,n,ft (fL a),.slice al N c]:=by rw[<-ao,<-ba];exact BoxN.new w1 _ _
 have aZ:Fr [] w1 w2:=by rw[<-ao];exact(Fq [] w1).alloc _
 have bD:w2.heap.size=w.heap.size+2:=by rw[<-ao];simp[ba]
 obtain⟨w3,aE⟩:=eR (w2.alloc (.cells rG 91));have bn:BoxN w3 (w.heap.size+2) 91 rG:=by rw[<-aE,<-bD];exact BoxN.new w2 _ _
 have aK:Fr [] w2 w3:=by rw[<-aE];exact(Fq [] w2).alloc _
 have au:=(bq.then aZ).then aK;have aB:=bm.fr aK qs;obtain⟨tx,aO⟩:=eR ((⟨(fL a).toArray⟩:ByteArray));have bz:tx.data.toList=fL a:=by rw[<-aO]
 have bP:tx.size<=2000000:=by rw[<-aO];simpa [<-ByteArray.size_data]using bt
 have hD:=yW tx a w3 (aM.fr0 au) qo (by rw[bz];exact bp) aP aC;have aA:∀W,Fr [] w3 W->Calls prog 93 #[ft (fL a)] W (gh W (jo (1::fL a))):=λW hW=>sW (fL a) W (aM.fr0 (au.then hW)) qo;have ar:∀W,Fr [] w3 W->Calls prog 135 #[fu (jo (1::fL a)),((i+1:Nat):Int),((n+1:Nat):Int),.slice al N c] W (mH W (jR (jo (1::fL a)) (bl (i+1) (n+1)) av N)):=λW hW=>Ez (jo (1::fL a)) av (i+1) (n+1) N al c W (aM.fr0 (au.then hW)) qo qo bg bh bo bw (fw _) hp (ho.fr (au.then hW) qs);rw[aN]at ar;obtain⟨i1,bs⟩:=eR (i+1);obtain⟨n1,bu⟩:=eR (n+1);rw[bs,bu]at ar;obtain⟨ti,a8⟩:=eR (a.k.rnd);obtain⟨Z,a7⟩:=eR (a.k.phase);obtain⟨V,a4⟩:=eR (a.k.idx);obtain⟨X,a5⟩:=eR (a.r.length);obtain⟨Y,a6⟩:=eR (a.w.length);have bA:∀x:AX,x.a=a->x.v=.agg #[ti,Z,V,x.sl,.slice x.A X x.c,.slice x.B Y x.d]:=λx hx=>by unfold AX.v AG.val;rw[hx,a8,a7,a4,a5,a6]
 have be:=Hd bA;have aa:=Hd (An a8 (An a7 (An a4 (An a5 a6))));have bI:decide ((n:Int)<1)=false:=by simp;omega
 have bJ:decide ((65536:Int)<(n:Int))=false:=by simp;omega
 have bK:decide ((i:Int)<0)=false:=qs
 have bL:decide (n<=i)=false:=by simp;omega
 have bM:decide ((n:Int)<=(i:Int))=false:=by simp;omega
 have bQ:IntKind.i64.wrap ((i:Int)+1)=(i1:Int):=by simp[IntKind.wrap,IntKind.bits,IntKind.signed];omega
 have bR:IntKind.i64.wrap ((n:Int)+1)=(n1:Int):=by simp[IntKind.wrap,IntKind.bits,IntKind.signed];omega
 generalize jo (1::fL a)=dl at aA ar aN;clear aN;unfold ft at aB ao aA ⊢;rw[aO]at aB ao aA ⊢;unfold fu at ar;unfold fu;obtain⟨x0,x1,x2⟩:=aB.m3;unfold rG at aE;have HD:=Hd hD;have bG:=Hd aA;have bF:=Hd ar;have aU:=Hd (eS bf (aZ.then aK) qs);have bE:=Hd aB;have ap:=Hd bn;have aq:=Hd au;have HW:=Hd (An aD (An ao aE));clear bf bq ba aD bm aZ bD ao bn aK au aB hD aA ar aE aO bz ho aM aP aC bx bB bg bh bo bw hp bs bu a8 a7 a4 a5 a6 bA bt bp
 go_enter func66,ntmps66
 go_upto_region 1 with fail
 rw[HW.out.1,HW.out.2.1,HW.out.2.2];simp only[Nat.add_assoc,Nat.reduceAdd]
 go_upto_region 6 with((go_at_call 134;(with_reducible refine HD.out.mono ?_);rintro e w4 ⟨xx,a9,rfl,aQ,br,aW,aX⟩;rw[be.out xx a9];obtain⟨bH,J,A2,G,E,H⟩:=xx;simp only at a9 aW aX ⊢;obtain rfl:a=bH:=a9.symm;have aI:=aQ.r;have aJ:=aQ.w;simp only at aI aJ;rw[aa.out.2.2.2.1]at aI;rw[aa.out.2.2.2.2]at aJ;have h:=Hd (An aa.out.1 (An aa.out.2.1 (An aa.out.2.2.1 (An aa.out.2.2.2.1 (An aa.out.2.2.2.2 aQ.s)))));have q:=Hd (An aI (An aJ (An aW aX)));have bc:=Hd br;clear br aI aJ aW aX aQ be aa x0 x1 x2))
 obtain⟨y,bC,M,a3⟩:=kS w4 #[ti,Z,V,J,.slice A2 X G,.slice E Y H] 91;rw[bC];clear bC;have bb:=bc.out.size;obtain⟨B6,aY⟩:=eR (w4.heap.size);rw[aY]at M bb ⊢;have aR:=Hd M;have aV:=Hd (An aY bb);have L:=Hd (bc.out.then a3);have aS:=Hd a3;have bd:=Hd (λ(W:World) (hW:Fr [] y W)=>bG.out W (L.out.then hW));have aT:=Hd (λ(W:World) (hW:Fr [] y W)=>bF.out W (L.out.then hW))
 have HSS:=Hd (λ(W:World) (hW:Fr [] y W)=>(show W.cell? ⟨w.heap.size+1,0,none⟩=some i/\W.cell? ⟨w.heap.size+1,1,none⟩=some n/\W.cell? ⟨w.heap.size+1,2,none⟩=some tx/\W.cell? ⟨w.heap.size+1,3,none⟩=some (.slice al N c)from by
  have aH:=bE.out.fr (L.out.then hW) qs;exact⟨aH.c 0,aH.c 1,aH.c 2,aH.c 3⟩))
 clear M a3 aY bb;have hC:=(Fq [] y).drew;clear bI bJ bK bL bM;refine eZ (λW:World=>Fr [] y W) 17 qk ?_ qd
 show fb 0 ..
 iterate 2 (refine gB rfl ?_;try simp only[qq])
 show fb 3 ..
 iterate 8 (refine gB rfl ?_;try simp only[qq])
 refine gO (i:=2) (j:=15) qk qd qd rfl rfl (λK b=>?_) (λK b=>?_)
 ·rw[if_pos qr]
  go_simp
  go_at_call 93
  (with_reducible refine(bd.out _ hC).mono ?_);rintro e X1 ⟨rfl,aL⟩;have h1:=(hC).then aL;refine b _ _ h1 ?_;clear b K
  try simp only[qq]
  unfold fu;refine gO (i:=11) (j:=15) qk qd qd rfl rfl (λK b=>?_) (λK b=>?_)
  ·rw[if_pos qr]
   go_simp
   go_at_call 135
   (with_reducible refine(aT.out _ h1).mono ?_);rintro e X2 ⟨rfl,an⟩;have P:=(h1).then an;refine b _ _ P ?_;clear b K
   try simp only[qq]
   unfold fu
   show fb 12 ..
   iterate 3 (refine gB rfl ?_;try simp only[qq])
   refine hO (i:=15) rfl λK b=>?_;go_simp
   obtain⟨F,D⟩:=eR ((X2).alloc (.cells (qm) 57));obtain⟨fz,bk⟩:∃f,(F).rowIs (X2).heap.size 57 32 f:=by rw[<-D];exact⟨_,gn (X2) _ _⟩
   have h3:Fr [] y F:=by rw[<-D];exact(P).alloc _
   rw[D];refine b _ _ h3 ?_;clear b K D;obtain⟨t,R⟩:=eR ((X2).heap.size);have ae:y.heap.size<=t:=by rw[<-R];exact(P).size
   rw[R]at bk ⊢;have ay:=Hd ae;clear R ae
   try simp only[qq]
   have Q:=bk;have ai:=fc (d:=m) Q I;have U:=fh (d:=m) Q I;obtain⟨u,S⟩:=eR ((F).setCells t 0 (eP m));have f5:Fr [t] (F) u:=by rw[<-S];exact(Fq [t] (F)).setCells (.inl qs) _ _
   rw[S]at ai U;have o:=(h3).trans f5 (by simp;exact ay.out);refine hO (i:=16) rfl λK b=>?_;go_simp
   refine b _ _ o ?_;clear b K S f5
   try simp only[qq]
   refine eW ⟨qk,?_⟩;simp only[qG,qH];have ax:=Hd U.1;have az:=Hd (fH (eS aU.out (L.out.then o) qs) I);have bv:=na u I;have M:=aR.out.fr o qs;obtain⟨aG,z1,z2,z3,z4,z5⟩:=M.m6;have g:=ap.out.fr (L.out.then o) qs;obtain⟨u0,u1,u2,u3,u4,u5⟩:=g.m6;have g0:=g.f 0;have g1:=g.f 1;have g2:=g.f 2;have g3:=g.f 3;have g4:=g.f 4;have g5:=g.f 5;have aw:=Hd g;have H5:=Hd o;clear M g U o ai Q
   go_wp2_with (first
    | (refine fF qr ?_;(with_reducible refine wp_load_mid 57 (.tmp 8) rfl t 0 rfl (eP m) (.array 32 5) ax.out qk rfl (by rw[am];kernel_rfl) ?_))
    | (refine fF qr ?_;(with_reducible refine wp_load_mid 57 (.tmp 2) rfl w.heap.size 0 rfl (eP m) (.array 32 5) az.out qk rfl (by rw[am];kernel_rfl) ?_)))
   obtain⟨Y6,C⟩:=eR ((((((u.setCell ⟨w.heap.size+2,0,none⟩ ti).setCell ⟨w.heap.size+2,1,none⟩ Z).setCell ⟨w.heap.size+2,2,none⟩ V).setCell ⟨w.heap.size+2,3,none⟩ J).setCell ⟨w.heap.size+2,4,none⟩ (.slice A2 X G)).setCell ⟨w.heap.size+2,5,none⟩ (.slice E Y H));have ac:BoxN Y6 (w.heap.size+2) 91 #[ti,Z,V,J,.slice A2 X G,.slice E Y H]:=by rw[<-C];exact((((((aw.out.setAt 0 _).setAt 1 _).setAt 2 _).setAt 3 _).setAt 4 _).setAt 5 _)
   have z:Fr [w.heap.size+2] u Y6:=by rw[<-C];exact((((((Fq [w.heap.size+2] u).st _).st _).st _).st _).st _).st _
   have aF:=aV.out;have ak:=ap.out.lt;have aj:=aq.out.size;have ad:=aS.out.then H5.out;have af:=(q.out.1.fr ad qs).fr z (by intro k l;have:=q.out.2.2.1 k l;simp only[gI];omega);have ag:=(q.out.2.1.fr ad qs).fr z (by intro k l;have:=q.out.2.2.2 k l;simp only[gI];omega);have ah:=((aq.out.then L.out).then H5.out).trans z (T:=[w.heap.size+2]) qs;obtain⟨t0,t1,t2,t3,t4,t5⟩:=ac.m6;have O:=Hd (An af (An ag ah));have ab:=Hd (An ak aj);rw[C];clear C ac z af ag ah aG z1 z2 z3 z4 z5 u0 u1 u2 u3 u4 u5 g0 g1 g2 g3 g4 g5 aF ak aj;refine bodyPost_ret (v:=.tuple #[.agg #[ti,Z,V,J,.slice A2 X G,.slice E Y H],L0]) (by simp[results,results66,go_sem,t0,t1,t2,t3,t4,t5]) rfl ⟨⟨a,J,A2,G,E,H⟩,rfl,?_,⟨h.out.2.2.2.2.2,by simp only;rw[h.out.2.2.2.1];exact O.out.1,by simp only;rw[h.out.2.2.2.2.1];exact O.out.2.1⟩,O.out.2.2,λk l=>?_,λk l=>?_⟩
   ·unfold AX.v AG.val
    simp only;rw[h.out.1,h.out.2.1,h.out.2.2.1,h.out.2.2.2.1,h.out.2.2.2.2.1]
   ·have:=q.out.2.2.1 k l;have:=ab.out;omega
   ·have:=q.out.2.2.2 k l;have:=ab.out;omega
  ·rw[if_pos qr]
   go_simp
   obtain⟨X2,D⟩:=eR ((X1).alloc (.cells (qm) 57));obtain⟨fz,bj⟩:∃f,(X2).rowIs (X1).heap.size 57 32 f:=by rw[<-D];exact⟨_,gn (X1) _ _⟩
   have P:Fr [] y X2:=by rw[<-D];exact(h1).alloc _
   rw[D];refine b _ _ P ?_;clear b K D;obtain⟨t,R⟩:=eR ((X1).heap.size);have ae:y.heap.size<=t:=by rw[<-R];exact(h1).size
   rw[R]at bj ⊢;have ay:=Hd ae;clear R ae
   try simp only[qq]
   refine hO (i:=11) rfl λK b=>?_;go_simp
   go_at_call 135
   (with_reducible refine(aT.out _ P).mono ?_);rintro e F ⟨rfl,an⟩;have h3:=(P).then an;refine b _ _ h3 ?_;clear b K
   try simp only[qq]
   unfold fu
   show fb 12 ..
   iterate 3 (refine gB rfl ?_;try simp only[qq])
   have Q:=eS bj an qs;have ai:=fc (d:=m) Q I;have U:=fh (d:=m) Q I;obtain⟨u,S⟩:=eR ((F).setCells t 0 (eP m));have f5:Fr [t] (F) u:=by rw[<-S];exact(Fq [t] (F)).setCells (.inl qs) _ _
   rw[S]at ai U;have o:=(h3).trans f5 (by simp;exact ay.out);refine hO (i:=16) rfl λK b=>?_;go_simp
   refine b _ _ o ?_;clear b K S f5
   try simp only[qq]
   refine eW ⟨qk,?_⟩;simp only[qG,qH];have ax:=Hd U.1;have az:=Hd (fH (eS aU.out (L.out.then o) qs) I);have bv:=na u I;have M:=aR.out.fr o qs;obtain⟨aG,z1,z2,z3,z4,z5⟩:=M.m6;have g:=ap.out.fr (L.out.then o) qs;obtain⟨u0,u1,u2,u3,u4,u5⟩:=g.m6;have g0:=g.f 0;have g1:=g.f 1;have g2:=g.f 2;have g3:=g.f 3;have g4:=g.f 4;have g5:=g.f 5;have aw:=Hd g;have H5:=Hd o;clear M g U o ai Q
   go_wp2_with (first
    | (refine fF qr ?_;(with_reducible refine wp_load_mid 57 (.tmp 8) rfl t 0 rfl (eP m) (.array 32 5) ax.out qk rfl (by rw[am];kernel_rfl) ?_))
    | (refine fF qr ?_;(with_reducible refine wp_load_mid 57 (.tmp 2) rfl w.heap.size 0 rfl (eP m) (.array 32 5) az.out qk rfl (by rw[am];kernel_rfl) ?_)))
   obtain⟨Y6,C⟩:=eR ((((((u.setCell ⟨w.heap.size+2,0,none⟩ ti).setCell ⟨w.heap.size+2,1,none⟩ Z).setCell ⟨w.heap.size+2,2,none⟩ V).setCell ⟨w.heap.size+2,3,none⟩ J).setCell ⟨w.heap.size+2,4,none⟩ (.slice A2 X G)).setCell ⟨w.heap.size+2,5,none⟩ (.slice E Y H));have ac:BoxN Y6 (w.heap.size+2) 91 #[ti,Z,V,J,.slice A2 X G,.slice E Y H]:=by rw[<-C];exact((((((aw.out.setAt 0 _).setAt 1 _).setAt 2 _).setAt 3 _).setAt 4 _).setAt 5 _)
   have z:Fr [w.heap.size+2] u Y6:=by rw[<-C];exact((((((Fq [w.heap.size+2] u).st _).st _).st _).st _).st _).st _
   have aF:=aV.out;have ak:=ap.out.lt;have aj:=aq.out.size;have ad:=aS.out.then H5.out;have af:=(q.out.1.fr ad qs).fr z (by intro k l;have:=q.out.2.2.1 k l;simp only[gI];omega);have ag:=(q.out.2.1.fr ad qs).fr z (by intro k l;have:=q.out.2.2.2 k l;simp only[gI];omega);have ah:=((aq.out.then L.out).then H5.out).trans z (T:=[w.heap.size+2]) qs;obtain⟨t0,t1,t2,t3,t4,t5⟩:=ac.m6;have O:=Hd (An af (An ag ah));have ab:=Hd (An ak aj);rw[C];clear C ac z af ag ah aG z1 z2 z3 z4 z5 u0 u1 u2 u3 u4 u5 g0 g1 g2 g3 g4 g5 aF ak aj;refine bodyPost_ret (v:=.tuple #[.agg #[ti,Z,V,J,.slice A2 X G,.slice E Y H],L0]) (by simp[results,results66,go_sem,t0,t1,t2,t3,t4,t5]) rfl ⟨⟨a,J,A2,G,E,H⟩,rfl,?_,⟨h.out.2.2.2.2.2,by simp only;rw[h.out.2.2.2.1];exact O.out.1,by simp only;rw[h.out.2.2.2.2.1];exact O.out.2.1⟩,O.out.2.2,λk l=>?_,λk l=>?_⟩
   ·unfold AX.v AG.val
    simp only;rw[h.out.1,h.out.2.1,h.out.2.2.1,h.out.2.2.2.1,h.out.2.2.2.2.1]
   ·have:=q.out.2.2.1 k l;have:=ab.out;omega
   ·have:=q.out.2.2.2 k l;have:=ab.out;omega
 ·rw[if_pos qr]
  go_simp
  obtain⟨X1,D⟩:=eR (((y).alloc (.cells (qm) 57)).drew);obtain⟨fz,bi⟩:∃f,(X1).rowIs (y).heap.size 57 32 f:=by rw[<-D];exact⟨_,(gn (y) _ _).drew⟩
  have h1:Fr [] y X1:=by rw[<-D];exact((Fq [] y).alloc _).drew
  rw[D];refine b _ _ h1 ?_;clear b K D;obtain⟨t,R⟩:=eR ((y).heap.size);have ae:y.heap.size<=t:=by rw[<-R];exact fV _
  rw[R]at bi ⊢;have ay:=Hd ae;clear R ae
  try simp only[qq]
  refine hO (i:=2) rfl λK b=>?_;go_simp
  go_at_call 93
  (with_reducible refine(bd.out _ h1).mono ?_);rintro e X2 ⟨rfl,aL⟩;have P:=(h1).then aL;refine b _ _ P ?_;clear b K
  try simp only[qq]
  unfold fu;refine hO (i:=11) rfl λK b=>?_;go_simp
  go_at_call 135
  (with_reducible refine(aT.out _ P).mono ?_);rintro e F ⟨rfl,an⟩;have h3:=(P).then an;refine b _ _ h3 ?_;clear b K
  try simp only[qq]
  unfold fu
  show fb 12 ..
  iterate 3 (refine gB rfl ?_;try simp only[qq])
  have Q:=eS (eS bi aL qs) an qs;have ai:=fc (d:=m) Q I;have U:=fh (d:=m) Q I;obtain⟨u,S⟩:=eR ((F).setCells t 0 (eP m));have f5:Fr [t] (F) u:=by rw[<-S];exact(Fq [t] (F)).setCells (.inl qs) _ _
  rw[S]at ai U;have o:=(h3).trans f5 (by simp;exact ay.out);refine hO (i:=16) rfl λK b=>?_;go_simp
  refine b _ _ o ?_;clear b K S f5
  try simp only[qq]
  refine eW ⟨qk,?_⟩;simp only[qG,qH];have ax:=Hd U.1;have az:=Hd (fH (eS aU.out (L.out.then o) qs) I);have bv:=na u I;have M:=aR.out.fr o qs;obtain⟨aG,z1,z2,z3,z4,z5⟩:=M.m6;have g:=ap.out.fr (L.out.then o) qs;obtain⟨u0,u1,u2,u3,u4,u5⟩:=g.m6;have g0:=g.f 0;have g1:=g.f 1;have g2:=g.f 2;have g3:=g.f 3;have g4:=g.f 4;have g5:=g.f 5;have aw:=Hd g;have H5:=Hd o;clear M g U o ai Q
  go_wp2_with (first
   | (refine fF qr ?_;(with_reducible refine wp_load_mid 57 (.tmp 8) rfl t 0 rfl (eP m) (.array 32 5) ax.out qk rfl (by rw[am];kernel_rfl) ?_))
   | (refine fF qr ?_;(with_reducible refine wp_load_mid 57 (.tmp 2) rfl w.heap.size 0 rfl (eP m) (.array 32 5) az.out qk rfl (by rw[am];kernel_rfl) ?_)))
  obtain⟨Y6,C⟩:=eR ((((((u.setCell ⟨w.heap.size+2,0,none⟩ ti).setCell ⟨w.heap.size+2,1,none⟩ Z).setCell ⟨w.heap.size+2,2,none⟩ V).setCell ⟨w.heap.size+2,3,none⟩ J).setCell ⟨w.heap.size+2,4,none⟩ (.slice A2 X G)).setCell ⟨w.heap.size+2,5,none⟩ (.slice E Y H));have ac:BoxN Y6 (w.heap.size+2) 91 #[ti,Z,V,J,.slice A2 X G,.slice E Y H]:=by rw[<-C];exact((((((aw.out.setAt 0 _).setAt 1 _).setAt 2 _).setAt 3 _).setAt 4 _).setAt 5 _)
  have z:Fr [w.heap.size+2] u Y6:=by rw[<-C];exact((((((Fq [w.heap.size+2] u).st _).st _).st _).st _).st _).st _
  have aF:=aV.out;have ak:=ap.out.lt;have aj:=aq.out.size;have ad:=aS.out.then H5.out;have af:=(q.out.1.fr ad qs).fr z (by intro k l;have:=q.out.2.2.1 k l;simp only[gI];omega);have ag:=(q.out.2.1.fr ad qs).fr z (by intro k l;have:=q.out.2.2.2 k l;simp only[gI];omega);have ah:=((aq.out.then L.out).then H5.out).trans z (T:=[w.heap.size+2]) qs;obtain⟨t0,t1,t2,t3,t4,t5⟩:=ac.m6;have O:=Hd (An af (An ag ah));have ab:=Hd (An ak aj);rw[C];clear C ac z af ag ah aG z1 z2 z3 z4 z5 u0 u1 u2 u3 u4 u5 g0 g1 g2 g3 g4 g5 aF ak aj;refine bodyPost_ret (v:=.tuple #[.agg #[ti,Z,V,J,.slice A2 X G,.slice E Y H],L0]) (by simp[results,results66,go_sem,t0,t1,t2,t3,t4,t5]) rfl ⟨⟨a,J,A2,G,E,H⟩,rfl,?_,⟨h.out.2.2.2.2.2,by simp only;rw[h.out.2.2.2.1];exact O.out.1,by simp only;rw[h.out.2.2.2.2.1];exact O.out.2.1⟩,O.out.2.2,λk l=>?_,λk l=>?_⟩
  ·unfold AX.v AG.val
   simp only;rw[h.out.1,h.out.2.1,h.out.2.2.1,h.out.2.2.2.1,h.out.2.2.2.2.1]
  ·have:=q.out.2.2.1 k l;have:=ab.out;omega
  ·have:=q.out.2.2.2 k l;have:=ab.out;omega
theorem qS(d:Nm):∀(bs cs:List Bool) (a b:List Nm) (k:Nat),k<=bs.length->bs.length=a.length->jR d (bs++cs) (a++b) k=jR d bs a k
 | _,_,_,_,0,_,_=>rfl
 | bs,cs,a,b,k+1,e,c=>by
  rw[jR,jR,qS d bs cs a b k qo c];simp only[List.getD_eq_getElem?_getD];rw[List.getElem?_append_left qo,List.getElem?_append_left qo]
theorem EA(b:List Nm):∀(n x f:Nat),1<=n->n<=1048576->x<n->(uZ b x f n).length=(bl x n).length/\jR (b.getD (f+x) []) (bl x n) (uZ b x f n) (bl x n).length=rt b f n:=by
 intro n
 induction n using Nat.strongRecOn with
 | ind n h =>
  intro x f i e k
  rcases Nat.eq_or_lt_of_le i with rfl|g
  ·rw[qt,Cg,pt,show x=0 by omega]
   exact⟨rfl,rfl⟩
  ·have j:=gv (n:=n) g e
   rw[qv b x f n g e,xE x n g e,pu b f n g e]
   by_cases c:x<fe n
   ·rw[if_pos c,if_pos c]
    obtain⟨a,d⟩:=h (fe n) qo x f j.1 qo c;refine⟨by simp[a],?_⟩;rw[gG,List.length_singleton,jR,qS _ _ _ _ _ _ (fV _) a.symm,d];simp only[List.getD_eq_getElem?_getD];rw[List.getElem?_append_right (fV _),List.getElem?_append_right qo,a];simp
   ·rw[if_neg c,if_neg c]
    obtain⟨a,d⟩:=h (n - fe n) qo (x - fe n) (f+fe n) qo qo qo;rw[show f+fe n+(x - fe n)=f+x by omega]at d;refine⟨by simp[a],?_⟩;rw[gG,List.length_singleton,jR,qS _ _ _ _ _ _ (fV _) a.symm,d];simp only[List.getD_eq_getElem?_getD];rw[List.getElem?_append_right (fV _),List.getElem?_append_right qo,a];simp
theorem EB{x n:Nat}(a:2<=n)(b:n<=1048576):0<(bl x n).length:=by
 rw[xE x n a b];split <;> simp
theorem oY:∃i,(prog).info? 31=some i/\i.zero=some (.agg #[.int .i64 0,.string ⟨#[]⟩,.int .i64 0,.int .i64 0,.string ⟨#[]⟩])/\i.size=5/\i.bytes=56:=info_parts qk
theorem nX(A:Option Addr)(n c:Nat)(a:n<=1)(w:World):Calls prog 138 #[.slice A n c] w λe w'=>e=.returned (.slice A n c)/\w=w':=by
 obtain rfl|rfl:n=0 \/ n=1:=qo
 all_goals
  go_enter func138,ntmps138
  go_wp2_with fail
  go_ret
  exact⟨rfl,rfl⟩
open Go.RowKit Go.Shelf
theorem uH(n c:Nat)(A:Option Addr)(xs:List Value)(w:World)(h:Rd w 5 A n xs)(o:∀u∈xs,u.oneCell'=true)(K:n<=1000000):Calls prog 136 #[.slice A n c] w λe w'=>∃A' c',e=.returned (.slice A' n c')/\Own w' 31 5 A' n c' xs/\Fr [] w w'/\∀k∈eV A',w.heap.size<=k:=by
 have s:=Lib.run_eql_slice_nil (P:=prog) w 101 31 A n c 0 0 underlying101
 cases A with
 | none =>
  have E:n=0:=by
   rcases Nat.eq_zero_or_pos n with d|d
   ·exact d
   ·obtain⟨b,off,e,_⟩:=h.2 d
    cases e
  subst E;have g:xs=[]:=by have:=h.1;simpa using this
  subst g;simp only[Option.isNone_none]at s
  go_enter func136,ntmps136
  go_wp2_with fail
  go_ret
  exact⟨none,0,rfl,Own.nil _ _ _,Fq _ _,by simp[eV]⟩
 | some a =>
  simp only[Option.isNone_some]at s;obtain⟨F,C,G,H,I⟩:=oY
  have p:∀j u,xs[j]?=some u->w.cell? (a.add j)=some u:=by
   intro j u i
   rcases Nat.eq_zero_or_pos n with d|d
   ·have:=h.1;rw[d]at this;have g:xs=[]:=by simpa using this
    subst g;simp at i
   ·obtain⟨b,off,e,J,B⟩:=h.2 d
    cases e
    rw[Addr.add_mid];exact B j u i
  have r:=h.1;have l:=Hd (An p (An o r));clear p o r h
  go_enter func136,ntmps136
  go_wp2_with (at_builtin;(with_reducible refine kF (w:=w.alloc (.cells #[] 31)) rfl (.tmp 5) (.tmp 6) 101 rfl 31 F _ 5 56 underlying101 C G H I rfl qd (some ⟨w.heap.size,0,none⟩) 0 0 [] rfl (Own.empty w _ _) a n c xs rfl l.out.2.2 (λj u i=>Lib.cell?_alloc_some _ (l.out.1 j u i)) l.out.2.1 (by unfold maxLen;omega) qo ?_);intro A2 z w2 f q t;have v:=Hd f;have m:=Hd q;have y:=Hd t;clear f q t)
  go_ret
  have f:=v.out;rw[List.nil_append]at f;have L:=m.out.size;refine⟨A2,z,rfl,by rw[Nat.zero_add]at f;exact f,((Fq [] w).alloc _).trans m.out (λx g=>.inr (by simp[eV]at g;omega)),λk D=>?_⟩
  rcases y.out k D with h|h
  ·simp[eV]at h;omega
  ·rw[kX]at h;omega
theorem yY(n c:Nat)(A:Option Addr)(xs:List ON)(w:World)(b:xs.length=n)(p:Rd w 5 A n (xs.flatMap ON.cs))(d:∀x∈xs,eX x=0)(f:uk xs)(y:n<=12):Calls prog 102 #[.slice A n c,.func (.func 103) #[] #[]] w λe w'=>∃A' c',e=.returned (.slice A' n c')/\Own w' 31 5 A' n c' (xs.flatMap ON.cs)/\Fr [] w w'/\∀k∈eV A',w.heap.size<=k:=by
 have B:=Hd (uH n c A (xs.flatMap ON.cs) w p (λu m=>by
  obtain⟨x,_,m⟩:=List.mem_flatMap.1 m;exact ui x u m) qo)
 have H:=Hd (An b (An d (An f y)));clear p
 have z:∀(A':Option Addr) (c':Nat) (W:World),Own W 31 5 A' n c' (xs.flatMap ON.cs)->Calls prog 137 #[.slice A' n c',.func (.func 103) #[] #[]] W λe w'=>e=.returned (.tuple #[])/\Fr [] W w':=λA' c' W l=>by
  rcases Nat.lt_or_ge n 1 with j|j
  ·exact(Et A' n c' _ qo W).mono (by rintro e w' ⟨rfl,rfl⟩;exact⟨rfl,Fq _ _⟩)
  ·obtain⟨g,rfl,a⟩:=Cs.of_own l qo
   subst b;exact DF g c' xs W a d f qo
 have q:∀(A':Option Addr) (c':Nat) (W:World),Own W 31 5 A' n c' (xs.flatMap ON.cs)->Calls prog 138 #[.slice A' n c'] W λe w'=>e=.returned (.slice A' n c')/\Fr [] W w':=λA' c' W l=>by
  rcases Nat.lt_or_ge n 1 with j|j
  ·exact(nX A' n c' qo W).mono (by rintro e w' ⟨rfl,rfl⟩;exact⟨rfl,Fq _ _⟩)
  ·obtain⟨g,rfl,a⟩:=Cs.of_own l qo
   subst b;exact yu g c' xs W a d f qo
 have F:=Hd z;have E:=Hd q;clear z q d f b y
 go_enter func102,ntmps102
 go_wp2_with (first
  | (go_at_call 136;(with_reducible refine B.out.mono ?_);rintro e G ⟨A',c',rfl,a,r,v⟩;have i:=Hd a;have C:=Hd r;have D:=Hd v;clear a r v)
  | (go_at_call 137;(with_reducible refine(F.out A' c' G i.out).mono ?_);rintro e w2 ⟨rfl,s⟩;have h:=Hd s;clear s)
  | (go_at_call 138;(with_reducible refine(E.out A' c' w2 (i.out.fr h.out qs)).mono ?_);rintro e I ⟨rfl,t⟩;have o:=Hd t;clear t))
 go_ret
 exact⟨A',c',rfl,(i.out.fr h.out qs).fr o.out qs,(C.out.then h.out).then o.out,D.out⟩
theorem tK(L c N:Nat)(g:List AX)(w:World)(r:ActL w L N g)(p:Run g):Calls prog 101 #[.slice (some ⟨L,0,none⟩) g.length c] w (fm w (.bool true)):=by
 obtain⟨n,q⟩:=eR (g.length);have G:=p.len;have b:=Hd (An q (An p r));rw[q]at G ⊢;clear q p r
 go_enter func101,ntmps101
 go_wp2_with fail
 go_loopw [3] (λi W=>∃m:Nat,1<=m/\m<=max n 1/\i=m/\Fr [] w W) (λi _=>n+1 - (intOf i).toNat)
 case atStart=>exact⟨1,qo,qo,rfl,Fq _ _⟩
 case round =>
  obtain⟨m,P,Q,rfl,o⟩:=hrel
  by_cases H:m<n
  ·obtain⟨j,F⟩:∃j,j+1=m:=⟨m - 1,qo⟩
   have M:(m:Int)<(n:Int):=qo
   have O:(j:Int)<(n:Int):=qo
   have R:(m:Int) - 1=(j:Int):=qo
   have T:IntKind.i64.wrap (m:Int)=(m:Int):=by simp only[IntKind.wrap_i64];omega
   have S:IntKind.i64.wrap (j:Int)=(j:Int):=by simp only[IntKind.wrap_i64];omega
   obtain⟨x,d⟩:∃x,g[j]?=some x:=⟨_,gx (by rw[b.out.1];omega)⟩;obtain⟨y,f⟩:∃x,g[m]?=some x:=⟨_,gx (by rw[b.out.1];exact H)⟩;have E:=b.out.2.1.inc j x y d (by rw[F];exact f);have t:=b.out.2.2.ok x (iu d);have v:=b.out.2.2.ok y (iu f);have u:=gU (j6 (b.out.2.1.wf x (iu d)).1);have z:=gU (j6 (b.out.2.1.wf y (iu f)).1);have l:∀W,Calls prog 91 #[lK x.a.k,lK y.a.k] W (ja W (pJ x.a.k y.a.k)):=λW=>lL x.a.k y.a.k W u.1 z.1 qo qo;unfold lK at l;rw[t.s,v.s]at l;have I:pJ x.a.k y.a.k<0:=by have:=tot_cmpK.anti x.a.k y.a.k;omega
   generalize pJ x.a.k y.a.k=D at I l;have J:decide ((0:Int)<=D)=false:=by simp;omega
   have HSS:=Hd (λ(W:World) (hW:Fr [] wr W)=>(show W.cell? ⟨L,j*6,none⟩=some x.a.k.rnd/\W.cell? ⟨L,j*6+1,none⟩=some x.a.k.phase/\W.cell? ⟨L,j*6+2,none⟩=some x.a.k.idx/\W.cell? ⟨L,j*6+3,none⟩=some x.sl/\W.cell? ⟨L,m*6,none⟩=some y.a.k.rnd/\W.cell? ⟨L,m*6+1,none⟩=some y.a.k.phase/\W.cell? ⟨L,m*6+2,none⟩=some y.a.k.idx/\W.cell? ⟨L,m*6+3,none⟩=some y.sl from by
    have h:=b.out.2.2.fr0 (o.then hW);exact⟨h.c d 0 _ rfl,h.c d 1 _ rfl,h.c d 2 _ rfl,h.c d 3 _ rfl,h.c f 0 _ rfl,h.c f 1 _ rfl,h.c f 2 _ rfl,h.c f 3 _ rfl⟩))
   have A:=Hd l;have B:=Hd o;clear l o E d f t v u z
   go_upto_region 4 with fail
   refine eY (λW=>Fr [] wr W) qk qk ((Fq _ wr).drew) ?_
   repeat(
    first
    | go_big_quiet_skip
    | (go_big_quiet_want;first|(go_big_quiet_op;go_big_quiet_on)|(apply Exists.intro;refine⟨λW hW=>?_,?_⟩;(· obtain⟨U,V,X,Y,Z,y1,y2,y3⟩:=HSS.out W hW;go_simp;first|done|with_reducible exact rfl|with_reducible exact⟨rfl,rfl⟩|((go_at_call 91;(with_reducible refine(A.out W).mono ?_);rintro e w' ⟨rfl,h⟩;exact⟨rfl,hW.then h⟩)));simp only[qq];go_big_quiet_on))
    )
   refine wpQuiet_nil ?_;intro W hW;have C:=Hd (B.out.then hW);clear hW
   go_wp2_with fail
   go_roundw
   case rel=>exact⟨m+1,qo,qo,by go_num,C.out⟩
   case measure=>simp[intOf];omega
  ·have K:¬(m:Int)<(n:Int):=qo
   go_wp2_with fail
   go_ret
   exact⟨rfl,o⟩
theorem uI(x:Int)(w:World):Calls prog 164 #[.slice none 0 0,.int .i64 x] w (fm w (.int .i64 0)):=by
 obtain⟨w2,a⟩:=eR ((w.alloc (.cells #[gz] 36)).alloc (.cells #[x] 3));have d:Fr [] w w2:=by rw[<-a];exact((Fq [] w).alloc _).alloc _
 have i:w2.cell? ⟨w.heap.size,0,none⟩=some gz:=by rw[<-a];exact((BoxN.new w 36 #[gz]).alloc _).c 0
 have b:∀f:Value,Calls prog 194 #[L0,f] w2 λe w'=>e=.returned L0/\w2=w':=λf=>by
  go_enter func194,ntmps194
  go_wp2_with fail
  refine wp_loop_rounds 1 ?_;rw[rounds_succ]
  go_wp2_with fail
  go_ret
  exact⟨rfl,rfl⟩
 have b:=Hd b;have h:=Hd a;have g:=Hd d;clear a d
 go_enter func164,ntmps164
 go_upto_region 1 with fail
 rw[h.out]
 go_wp2_with ((go_at_call 194;(with_reducible refine(b.out _).mono ?_);rintro e j ⟨rfl,rfl⟩))
 go_ret
 exact⟨rfl,g.out⟩
theorem uJ(i:Nat):(zy i).length=1:=rfl
theorem wM(a d b n c h v:Nat)(x:Int)(w:World)(l:h<n)(p:n<=1000000)(q:(v:Int)<x)(j:a<w.heap.size)(k:d<w.heap.size)(i:b<w.heap.size)(e:w.cell? ⟨a,0,none⟩=some (.slice (some ⟨b,0,none⟩) n c))(f:w.cell? ⟨d,0,none⟩=some (.int .i64 x))(g:w.cell? ⟨b,h,none⟩=some (.int .i64 (v:Int))):
 Calls prog 195 #[.int .i64 (h:Int),.pointer (some ⟨a,0,none⟩),.pointer (some ⟨d,0,none⟩)] w (fm w (.bool false)):=by
 have HSS:=Hd (λ(W:World) (hW:Fr [] w W)=>(⟨(hW.fcell j qs 0).trans e,(hW.fcell k qs 0).trans f,(hW.fcell i qs h).trans g⟩:W.cell? ⟨a,0,none⟩=some (.slice b n c)/\W.cell? ⟨d,0,none⟩=some x/\W.cell? ⟨b,h,none⟩=some v));have r:IntKind.i64.wrap (h:Int)=(h:Int):=by simp only[IntKind.wrap_i64];omega
 have o:(h:Int)<(n:Int):=qo
 have m:decide (x<=(v:Int))=false:=by simp;omega
 go_enter func195,ntmps195
 go_upto_region 1 with fail
 refine eY (λW=>Fr [] w W) qk qk ((Fq _ w).drew) ?_
 repeat(
  first
  | go_big_quiet_skip
  | (go_big_quiet_want;first|(go_big_quiet_op;go_big_quiet_on)|(apply Exists.intro;refine⟨λW hW=>?_,?_⟩;(· obtain⟨s,t,u⟩:=HSS.out W hW;go_simp;first|done|with_reducible exact rfl|with_reducible exact⟨rfl,rfl⟩ );simp only[qq];go_big_quiet_on))
  )
 refine wpQuiet_nil ?_;intro W hW
 go_wp2_with fail
 go_ret
 exact⟨rfl,hW⟩
theorem Bm(n c d:Nat)(v:n<=1000000)(w:World)(hF:∀W (h:Nat),h<n->Fr [] w W->Calls prog 195 #[.int .i64 (h:Int),.pointer (some ⟨c,0,none⟩),.pointer (some ⟨d,0,none⟩)] W (fm W (.bool false))):Calls prog 194 #[.int .i64 (n:Int),.func (.func 195) #[] #[.pointer (some ⟨c,0,none⟩),.pointer (some ⟨d,0,none⟩)]] w (fm w (.int .i64 (n:Int))):=by
 have g:=Hd hF
 go_enter func194,ntmps194
 go_wp2_with fail
 go_loopw [5,6] (λi j W=>∃m:Nat,m<=n/\i=m/\j=n/\Fr [] w W) (λi _ _=>n - (intOf i).toNat)
 case atStart=>exact⟨0,qo,rfl,rfl,Fq _ _⟩
 case round =>
  obtain⟨m,u,rfl,rfl,k⟩:=hrel;have a:=Hd k
  by_cases s:m<n
  ·have t:(m:Int)<(n:Int):=qo
   obtain⟨h,l⟩:∃h,h=(m+n) / 2:=⟨_,rfl⟩;have o:h<n:=qo
   have q:((m:Int)+(n:Int)) / 2=(h:Int):=qo
   have r:m<=h:=qo
   clear l
   go_wp2_with ((go_at_call 195;(with_reducible refine(g.out _ h o a.out).mono ?_);rintro e x ⟨rfl,b⟩;have f:=Hd b;clear b))
   go_roundw
   case rel=>exact⟨h+1,qo,by go_num,rfl,a.out.then f.out⟩
   case measure=>simp[intOf];omega
  ·have p:¬(m:Int)<(n:Int):=qo
   obtain rfl:m=n:=qo
   go_wp2_with fail
   go_ret
   exact⟨rfl,a.out⟩
theorem sH(b c:Nat)(xs:List Nat)(x:Int)(w:World)(q:Cs w b (xs.flatMap zy))(z:∀v∈xs,(v:Int)<x)(p:xs.length<=1000000):Calls prog 164 #[.slice (some ⟨b,0,none⟩) xs.length c,.int .i64 x] w (fm w (.int .i64 (xs.length:Int))):=by
 obtain⟨a,i,r,m⟩:=kS w #[.slice b xs.length c] 36;obtain⟨w2,y,k,h⟩:=kS a #[x] 3;have l:=(q.fr0 (m.then h));have g:=r.fr h qs
 have d:Calls prog 194 #[xs.length,.func (.func 195) #[] #[.pointer w.heap.size,.pointer a.heap.size]] w2 (fm w2 xs.length):=by
  refine Bm xs.length w.heap.size a.heap.size p w2 λW j t hW=>?_;obtain⟨v,u⟩:∃v,xs[j]?=some v:=⟨_,gx t⟩;have s:=jz (f:=zy) uJ u (o:=0) qo;rw[Nat.mul_one,Nat.add_zero]at s;exact wM w.heap.size a.heap.size b xs.length c j v x W t p (z v (iu u)) (g.fr hW qs).lt (k.fr hW qs).lt (l.fr0 hW).1 ((g.fr hW qs).c 0) ((k.fr hW qs).c 0) ((l.fr0 hW).2 j _ s)
 have I:a.heap.size=w.heap.size+1:=by rw[<-i];simp
 obtain⟨n,A⟩:=eR (xs.length);rw[I]at d;have G:=g.k0;rw[A]at d i G ⊢;have D:=Hd d;have E:=Hd i;have F:=Hd y;have B:=Hd (m.then h);clear i y m h r k l g d z p q A
 go_enter func164,ntmps164
 go_upto_region 1 with fail
 rw[E.out,F.out]
 go_wp2_with ((go_at_call 194;(with_reducible refine D.out.mono ?_);rintro e J ⟨rfl,H⟩;have C:=Hd H))
 go_ret
 exact⟨rfl,B.out.then C.out⟩
def nZ(l:List Nat):Int:=match l.getLast? with|none=>-1|some v=>(v:Int)
theorem Bn(g y:Nat)(v1 v2 v3:Value)(l:List (NE ON Nat))(n:ON)(x:Int)(w:World)(J:BoxN w g 205 #[v1,v2,v3,.map (some y)])(C:EK w y l)(N:eX n=0)(D:∀v∈gJ l n,(v:Int)<x)(L:(gJ l n).length<=1000):
 Calls prog 104 #[.pointer (some ⟨g,0,none⟩),fg n,.int .i64 x] w (fm w (.int .i64 (nZ (gJ l n)))):=by
 obtain⟨kl,K⟩:=fU N;obtain⟨A,c,t,b,_⟩:=ML.look ir iA underlying194 pa C n K;obtain⟨xs,S⟩:=eR (gJ l n);rw[S]at t b D L ⊢;obtain⟨E,P,_,_⟩:=eT n.owner;obtain⟨F,Q,_,_⟩:=eT n.text;rw[gc P Q]at t ⊢;obtain⟨G,R,h,r⟩:=kS w #[.int .i64 n.kind,.string E,.int .i64 n.number,.int .i64 n.index,.string F] 31;have HSS:=Hd (λ(W:World) (hW:Fr [] G W)=>(⟨(J.fr (r.then hW) qs).c 3,t W ((r.then hW).block _ C.map.lt qs),(h.fr hW qs).c 0,(h.fr hW qs).c 1,(h.fr hW qs).c 2,(h.fr hW qs).c 3,(h.fr hW qs).c 4⟩:W.cell? ⟨g,3,none⟩=some (.map (some y))/\(Instr.lookup 194 (.map (some y)) (.agg #[.int .i64 n.kind,.string E,.int .i64 n.number,.int .i64 n.index,.string F]) false).run prog W=.ok (.slice A xs.length c) W/\W.cell? ⟨w.heap.size,0,none⟩=some (.int .i64 n.kind)/\W.cell? ⟨w.heap.size,1,none⟩=some (.string E)/\W.cell? ⟨w.heap.size,2,none⟩=some (.int .i64 n.number)/\W.cell? ⟨w.heap.size,3,none⟩=some (.int .i64 n.index)/\W.cell? ⟨w.heap.size,4,none⟩=some (.string F)));have V:=Hd R;have k:=Hd r;obtain⟨m,u⟩:=eR (xs.length)
 have O:∀W,Fr [] w W->Calls prog 164 #[.slice A m c,.int .i64 x] W (fm W (.int .i64 (m:Int))):=λW hW=>by
  rcases Nat.eq_zero_or_pos m with d|d
  ·rw[u,d]at b
   have Z:A=none \/ ∃g,A=some ⟨g,0,none⟩:=by
    rcases b.2 with⟨a,_⟩|⟨g,X,Y,a,_⟩
    ·injection a with a;exact .inl a
    ·injection a with a;exact .inr ⟨g,a⟩
   rcases Z with rfl|⟨g,rfl⟩
   ·have aa:c=0:=by
     rcases b.2 with⟨a,_⟩|⟨g,X,Y,a,_⟩
     ·injection a
     ·injection a with a;cases a
    subst aa;rw[d];exact uI x W
   ·have ab:=b.lt g (by simp[eV])
    rw[d];exact sH g c [] x W ⟨Nat.lt_of_lt_of_le ab hW.size,qs⟩ qs qs
  ·obtain⟨g,rfl,s⟩:=Cs.of_own b qo
   rw[<-u];exact sH g c xs x W (s.fr0 hW) D qo
 have p:=Hd (An O (An b u));rw[u]at HSS L;clear R h r J C N K t b D P Q O S
 go_enter func104,ntmps104
 go_upto_region 1 with fail
 rw[V.out]
 go_upto_region 3 with fail
 refine eY (λW=>Fr [] G W) qk qk ((Fq _ G).drew) ?_
 repeat(
  first
  | go_big_quiet_skip
  | (go_big_quiet_want;first|(go_big_quiet_op;go_big_quiet_on)|(apply Exists.intro;refine⟨λW hW=>?_,?_⟩;(· obtain⟨aj,lk,y0,y1,y2,y3,y4⟩:=HSS.out W hW;go_simp;first|done|with_reducible exact rfl|with_reducible exact⟨rfl,rfl⟩ );simp only[qq];go_big_quiet_on))
  )
 refine wpQuiet_nil ?_;intro W hW
 rcases Nat.eq_zero_or_pos m with d|d
 ·have ac:xs=[]:=List.length_eq_zero_iff.1 qo
  subst d;have q:=Hd (p.out.1 W (k.out.then hW));simp only[Int.natCast_zero]at q
  go_wp2_with ((go_at_call 164;(with_reducible refine q.out.mono ?_);rintro e H ⟨rfl,i⟩;have z:=Hd i;clear i))
  go_ret
  subst ac;exact⟨rfl,(k.out.then hW).then z.out⟩
 ·obtain⟨I,rfl,s⟩:=Cs.of_own p.out.2.1 qo
  obtain⟨j,ae⟩:∃j,j+1=m:=⟨m - 1,qo⟩;obtain⟨v,a⟩:∃v,xs[j]?=some v:=⟨_,gx qo⟩;have B:=jz (f:=zy) uJ a (o:=0) qo;rw[Nat.mul_one,Nat.add_zero]at B
  have M:nZ xs=(v:Int):=by
   unfold nZ;rw[List.getLast?_eq_getElem?,p.out.2.2,show m - 1=j by omega,a]
  have U:=Hd M;have T:=Hd (λ(W:World) (hW:Fr [] w W)=>((s.fr0 hW).2 j _ B:W.cell? ⟨I,j,none⟩=some (.int .i64 (v:Int))));have ag:((m:Int) == 0)=false:=by simp;omega
  have ah:(m:Int) - 1=(j:Int):=qo
  have ai:IntKind.i64.wrap (j:Int)=(j:Int):=by simp only[IntKind.wrap_i64];omega
  have af:(j:Int)<(m:Int):=qo
  have q:=Hd (p.out.1 W (k.out.then hW));clear s B M
  go_wp2_with ((go_at_call 164;(with_reducible refine q.out.mono ?_);rintro e H ⟨rfl,i⟩;have ad:H.cell? ⟨I,j,none⟩=some (.int .i64 (v:Int)):=T.out H ((k.out.then hW).then i);have z:=Hd i;clear i))
  go_ret
  exact⟨by rw[U.out];rfl,(k.out.then hW).then z.out⟩
theorem Bo(g b c e n i:Nat)(K:Option Addr)(f h j:Value)(w:World)(o:i<n)(p:n<=1000)(d:BoxN w g 205 #[.slice K n e,f,h,j])(a:Cs w b [.int .i64 (i:Int)]):
 Calls prog 105 #[.pointer (some ⟨g,0,none⟩),.slice (some ⟨b,0,none⟩) 1 c] w (fm w (.int .i64 0)):=by
 have q:=d.k0;have k:=a.k0;have l:decide (n<=i)=false:=by simp;omega
 have m:decide ((i:Int)<0)=false:=qs
 go_enter func105,ntmps105
 go_upto_region 4 with fail
 refine wp_loop_rounds 2 ?_;rw[rounds_succ]
 go_wp2_with fail
 rw[rounds_succ]
 go_wp2_with fail
 go_ret
 exact⟨rfl,Fq _ _⟩
end Go.Proofs.YtlpmiimgacfmkaaGreatDoor
