/- known, from the contracts for any history: it returns true. -/
import Derived.Test.YtlpmiimgacfmkaaGreatDoorMWi
import Derived.Test.YtlpmiimgacfmkaaGreatDoorMVf1
import Derived.Test.YtlpmiimgacfmkaaGreatDoorMNg3
import Derived.Test.YtlpmiimgacfmkaaGreatDoorMOpm
set_option linter.all false
namespace Go.Proofs.YtlpmiimgacfmkaaGreatDoor
open Go.Proofs.Tryz
open Go.RowKit
set_option maxRecDepth 100000
set_option maxHeartbeats 4000000
def cg (i:Int) (v:ByteArray) (a:Bool):CH:=⟨portN i,v.data.toList,a⟩
def kg (i:Int) (r w:List CH):AG:=⟨⟨i,0,i,[]⟩,r,w⟩
def kg0:AG:=kg 1 [] [cg 1 ⟨#[120]⟩ false]
def kg1:AG:=kg 2 [cg 1 ⟨#[120]⟩ false] [cg 2 ⟨#[121,122]⟩ false]
def kg2:AG:=kg 3 [cg 3 ⟨#[]⟩ true] []
theorem wf0:wfB kg0=true:=by kernel_rfl
theorem wf1:wfB kg1=true:=by kernel_rfl
theorem wf2:wfB kg2=true:=by kernel_rfl
theorem encG0:encAG kg0=encA a0:=by kernel_rfl
theorem encG1:encAG kg1=encA a1:=by kernel_rfl
theorem cg_fit (i:Int) (v:ByteArray) (a:Bool) (h:v.size<=10):(cg i v a).fit:=⟨by simp[cg,portN],by simp[cg,portN],by show v.data.toList.length<=_;rw[Array.length_toList];exact Nat.le_trans h (by omega)⟩
theorem kg0_fit:kg0.fit:=⟨by simp[kg0,kg],by simp[kg0,kg],fun x hx=>by simp[kg0,kg] at hx;rw[hx];exact cg_fit _ _ _ (by decide),by simp[kg0,kg],by simp[kg0,kg]⟩
theorem kg1_fit:kg1.fit:=⟨by simp[kg1,kg],fun x hx=>by simp[kg1,kg] at hx;rw[hx];exact cg_fit _ _ _ (by decide),fun x hx=>by simp[kg1,kg] at hx;rw[hx];exact cg_fit _ _ _ (by decide),by simp[kg1,kg],by simp[kg1,kg]⟩
theorem kg2_fit:kg2.fit:=⟨by simp[kg2,kg],fun x hx=>by simp[kg2,kg] at hx;rw[hx];exact cg_fit _ _ _ (by decide),by simp[kg2,kg],by simp[kg2,kg],by simp[kg2,kg]⟩
theorem chs_nil (W:World):Chs W none []:=Row.nil_
theorem chs_one {W:World} {cb:Nat} {i:Int} {v:ByteArray} {a:Bool} (h:Cs W cb (chC i v a)):Chs W (some ⟨cb,0,none⟩) [cg i v a]:=⟨rfl,fun _=>⟨cb,0,rfl,h.1,fun j u hu=>by
 rw[Nat.zero_add];exact h.2 j u hu⟩⟩
theorem bl14:bl (0+1) (3+1)=[false,true]:=by
 rw[show 0+1=1 from rfl,bl_two 1 4 (by omega) (by omega),show leftS 4=2 from by kernel_rfl,if_pos (by omega),bl_two 1 2 (by omega) (by omega),show leftS 2=1 from by kernel_rfl,if_neg (by omega),show 2 - 1=1 from rfl,bl_one];rfl
theorem bl24:bl (1+1) (3+1)=[true,false]:=by
 rw[show 1+1=2 from rfl,bl_two 2 4 (by omega) (by omega),show leftS 4=2 from by kernel_rfl,if_neg (by omega),show 2 - 2=0 from rfl,show 4 - 2=2 from rfl,bl_two 0 2 (by omega) (by omega),show leftS 2=1 from by kernel_rfl,if_pos (by omega),bl_one];rfl
theorem sl_nil {s:ByteArray} (h:encN []=.string s):s=⟨#[]⟩:=by
 unfold encN at h
 injection h with h
 exact h.symm
theorem Ver0.g {w:World} {e:Ending} {w':World} (h:DecGPost w kg0 e w'):Ver0 w e w':=by
 obtain⟨⟨a,sl,A,c,B,d⟩,rfl,rfl,ho,hf,_,_⟩:=h;obtain⟨cb,hB,hb⟩:=Cs.of_own ho.w (by show 0<1;omega);have hB':B=some ⟨cb,0,none⟩:=hB;have hs:sl=⟨#[]⟩:=sl_nil ho.s;subst hB' hs;exact⟨A,c,cb,d,rfl,hf,hb⟩
theorem Ver1.g {w:World} {e:Ending} {w':World} (h:DecGPost w kg1 e w'):Ver1 w e w':=by
 obtain⟨⟨a,sl,A,c,B,d⟩,rfl,rfl,ho,hf,kA,kB⟩:=h;obtain⟨ca,hA,ha⟩:=Cs.of_own ho.r (by show 0<1;omega);obtain⟨cb,hB,hb⟩:=Cs.of_own ho.w (by show 0<1;omega);have hA':A=some ⟨ca,0,none⟩:=hA;have hB':B=some ⟨cb,0,none⟩:=hB;have hs:sl=⟨#[]⟩:=sl_nil ho.s;subst hA' hB' hs;exact⟨ca,c,cb,d,rfl,hf,⟨ha,hb⟩,kA ca (by simp[blk]),kB cb (by simp[blk])⟩
theorem KApp_g (b:Nat) (xs:List AX) (M:List Nat) (a:AG) (RA RB:Option Addr) (rc rd:Nat) (w:World) (h:HG w b xs M) (hok:Ok w) (hlo:∀ k∈M,6<=k) (hsl:a.k.lin=[]) (hf:a.fit) (hr:a.r.length<=10) (hw:a.w.length<=10) (hlen:xs.length<=11) (hko:okA xs a=true)
 (hx:Kept M w fun W=>Chs W RA a.r/\Chs W RB a.w):Calls prog 34 #[.pointer (some ⟨b,0,none⟩),a.val ⟨#[]⟩ RA rc RB rd] w fun e w'=>e=.returned (.int .i64 0)/\∃ M' y,y.a=a/\HG w' b (xs++[y]) M'/\Fr M w w'/\∀ k∈M',k∈M \/ w.heap.size<=k:=by
 refine (HAppend_g b xs M a ⟨#[]⟩ RA RB rc rd w h hok hlo (by rw[hsl];rfl) hf hr hw hlen hx).mono ?_;rintro e w' ⟨q,rfl,h | ⟨_,rfl,M',y,hy,hg,hfr,hM⟩⟩
 ·rw[hko] at h;cases h.1
 ·exact⟨rfl,M',y,hy,hg,hfr,hM⟩
theorem okA_snoc {y:AX} {xs:List AX} {a:AG} (h:wfB a=true) (hy:0<cmpK a.k y.a.k):okA (xs++[y]) a=true:=by
 unfold okA;rw[h,List.getLast?_concat];simpa using hy
theorem makeM_known {y0 y1 y2:AX} (h0:y0.a=kg0) (h1:y1.a=kg1) (h2:y2.a=kg2):makeM [y0,y1,y2] (portN 2) 1 3=.inr [0,1]:=by
 unfold makeM;simp only[List.map_cons,List.map_nil,h0,h1,h2];have e1:oRes ([kg0,kg1,kg2].take 3) (portN 2) 1=⟨1,true,122⟩:=by kernel_rfl
 have e2:vis (lkA ([kg0,kg1,kg2].take 3)) 3 1 []=[1,0]:=by kernel_rfl
 have e3:srt [1,0]=[0,1]:=by simp[srt,List.mergeSort,List.MergeSort.Internal.splitInTwo]
 show (if (3:Int)<0 \/ ((3:Nat):Int)<3 then _ else _)=_
 rw[if_neg (by omega),show (3:Int).toNat=3 from rfl,e1,if_neg (by simp)];unfold causL;rw[show (1:Int).toNat=1 from rfl,e2,e3]
theorem put_new_dig (d:Nm) (hd:d.length=32) (X:World):∃ Y,(storeCells ⟨X.heap.size,0,none⟩ (dCells d)).run prog (X.alloc (.cells (#[.int .u8 0,.int .u8 0,.int .u8 0,.int .u8 0,.int .u8 0,.int .u8 0,.int .u8 0,.int .u8 0,.int .u8 0,.int .u8 0,.int .u8 0,.int .u8 0,.int .u8 0,.int .u8 0,.int .u8 0,.int .u8 0,.int .u8 0,.int .u8 0,.int .u8 0,.int .u8 0,.int .u8 0,.int .u8 0,.int .u8 0,.int .u8 0,.int .u8 0,.int .u8 0,.int .u8 0,.int .u8 0,.int .u8 0,.int .u8 0,.int .u8 0,.int .u8 0]) 57))=.ok () Y/\Fr [] X Y/\Y.rowIs X.heap.size 57 32 (fun j=>.int .u8 ((d.getD j 0).toNat:Int)):=by
 obtain⟨W,hW⟩:=nmd (X.alloc (.cells (z32) 57));obtain⟨f,hR⟩:∃ f,W.rowIs X.heap.size 57 32 f:=by rw[<-hW];exact⟨_,row_new X _ _⟩
 have hF:Fr [] X W:=by rw[<-hW];exact (Fq [] X).alloc _
 rw[hW];exact⟨_,store_digest hR hd,hF.trans ((Fq [X.heap.size] W).setCells (.inl (by simp)) _ _) (by simp),(row_digest hR hd).2⟩
def MkK (xs:List AX) (L0 L1 L2:Nm) (X:World) (e:Ending) (w':World):Prop:=∃ g pc A0 c0 A1 c1,e=.returned (.tuple #[.agg #[.int .i64 16,.string ⟨#[]⟩,.int .i64 2,.int .i64 0,.string ⟨#[]⟩,.int .i64 1,.int .i64 3,.slice (some ⟨g,0,none⟩) 2 pc],.int .i64 0])/\Cs w' g [.int .i64 0,.int .i64 3,encN (encA a0),.slice A0 2 c0,.int .i64 1,.int .i64 3,encN (encA a1),.slice A1 2 c1]/\Own w' 57 32 A0 2 c0 ([leaf0,nodeN L1 L2].flatMap dCells)/\Own w' 57 32 A1 2 c1 ([L2,nodeN leaf0 L0].flatMap dCells)/\Fr [] X w'
theorem Make_known (b:Nat) (y0 y1 y2:AX) (M:List Nat) (X:World) (h:HG X b [y0,y1,y2] M) (hok:Ok X) (h0:y0.a=kg0) (h1:y1.a=kg1) (h2:y2.a=kg2) :
 Calls prog 13 #[.pointer (some ⟨b,0,none⟩),.agg #[.int .i64 16,.string ⟨#[]⟩,.int .i64 2,.int .i64 0,.string ⟨#[]⟩,.int .i64 1],.int .i64 3] X (MkK [y0,y1,y2] (leafX y0) (leafX y1) (leafX y2) X):=by
 refine (Make_g b [y0,y1,y2] M (portN 2) ⟨#[]⟩ ⟨#[]⟩ 1 3 X h hok (by kernel_rfl) rfl (by omega)).mono ?_;intro e w' hm;unfold MakePost at hm;rw[makeM_known h0 h1 h2] at hm;obtain⟨A,c,ps,rfl,hp,hps,hf⟩:=hm;have e0:encAG y0.a=encA a0:=by rw[h0,encG0]
 have e1:encAG y1.a=encA a1:=by rw[h1,encG1]
 have p0:pathX [y0,y1,y2] 0 3=[leaf0,nodeN (leafX y1) (leafX y2)]:=by
  unfold pathX dsX;rw[pth_two _ _ _ _ (by omega) (by omega),show leftS (3+1)=2 from by kernel_rfl,if_pos (by omega),pth_two _ _ _ _ (by omega) (by omega),show leftS 2=1 from by kernel_rfl,if_neg (by omega),pth_one,rt_one,rt_two _ _ _ (by omega) (by omega),show leftS (3+1 - 2)=1 from by kernel_rfl,rt_one,rt_one];rfl
 have p1:pathX [y0,y1,y2] 1 3=[leafX y2,nodeN leaf0 (leafX y0)]:=by
  unfold pathX dsX;rw[pth_two _ _ _ _ (by omega) (by omega),show leftS (3+1)=2 from by kernel_rfl,if_neg (by omega),pth_two _ _ _ _ (by omega) (by omega),show leftS (3+1 - 2)=1 from by kernel_rfl,if_pos (by omega),pth_one,rt_one,rt_two _ _ _ (by omega) (by omega),show leftS 2=1 from by kernel_rfl,rt_one,rt_one];rfl
 rw[show (3:Int).toNat=3 from rfl] at hp hps
 obtain⟨q0,q1,rfl⟩:∃ q0 q1,ps=[q0,q1]:=by
  have hl:=congrArg List.length hps;simp only[List.length_map,List.length_cons,List.length_nil] at hl
  match ps,hl with
  | [q0,q1],_=>exact⟨q0,q1,rfl⟩
 ·simp only[List.map_cons,List.map_nil,List.cons.injEq,and_true] at hps
  obtain⟨k0,k1⟩:=hps;unfold pfOf at k0 k1;rw[p0] at k0;rw[p1] at k1;simp only[List.getElem?_cons_zero,List.getElem?_cons_succ,e0,e1,Prod.mk.injEq] at k0 k1;obtain⟨i0,s0,d0⟩:=k0;obtain⟨i1,s1,d1⟩:=k1;obtain⟨g,hA,hcs⟩:=Cs.of_own hp.own (by simp);subst hA;have o0:=hp.ds q0 (by simp);have o1:=hp.ds q1 (by simp);rw[d0] at o0;rw[d1] at o1;refine⟨g,c,q0.A,q0.c,q1.A,q1.c,rfl,?_,o0,o1,hf⟩;have hcs':Cs w' g (q0.cs 3++(q1.cs 3++[])):=hcs;unfold PF.cs at hcs';rw[i0,s0,d0,i1,s1,d1] at hcs';exact hcs'
def KPs (c1 c2 c3 c4 L:Nat) (W:World):Prop:=Cs W c1 (chC 1 ⟨#[120]⟩ false)/\Cs W c2 (chC 1 ⟨#[120]⟩ false)/\Cs W c3 (chC 2 ⟨#[121,122]⟩ false)/\Cs W c4 (chC 3 ⟨#[]⟩ true)/\Cs W L [.int .i64 1,.int .i64 0,.int .i64 1,.string ⟨#[]⟩,.slice none 0 0,.slice (some ⟨c1,0,none⟩) 1 1,.int .i64 2,.int .i64 0,.int .i64 2,.string ⟨#[]⟩,.slice (some ⟨c2,0,none⟩) 1 1,.slice (some ⟨c3,0,none⟩) 1 1,.int .i64 3,.int .i64 0,.int .i64 3,.string ⟨#[]⟩,.slice (some ⟨c4,0,none⟩) 1 1,.slice none 0 0]
theorem Known_g (w:World) (hok:Ok w):Calls prog 11 #[] w (RetPost w (.bool true)):=by
 have HOK:=Hd hok;have HPI:Hid (∀ (i:Int) (W:World),Calls prog 35 #[.int .i64 i] W (RetPost W (.agg #[.int .i64 16,.string ⟨#[]⟩,.int .i64 i,.int .i64 0,.string ⟨#[]⟩]))):=Hd fun i W=>Port_any i W;clear hok
 go_enter func11,ntmps11
 go_upto_region 4 with (first
  | (go_at_call 33;(with_reducible refine (NewS_any w).mono ?_);rintro e w1 ⟨rfl,hst,hf1⟩;have H1:=Hd (An hst hf1);clear hst hf1)
  | (go_at_call 32;(with_reducible refine (New_h w.heap.size w1 (HOK.out.fr0 H1.out.2) H1.out.1).mono ?_);rintro e w2 ⟨b,M0,rfl,hh,hf2,hM0⟩;have H2:=Hd (An hh (An (H1.out.2.then hf2) (show ∀ k∈M0,w.heap.size<=k from fun k hk=>Nat.le_trans H1.out.2.size (hM0 k hk))));clear hh hf2 hM0))
 go_upto_region 5 with (first
  | (go_at_call 35;(with_reducible refine (HPI.out 1 w2).mono ?_);rintro e p1 ⟨rfl,hp1⟩;have HP1:=Hd hp1;clear hp1)
  | (go_at_call 35;(with_reducible refine (HPI.out 1 (p1.alloc (.cells #[.int .i64 16,.string ⟨#[]⟩,.int .i64 1,.int .i64 0,.string ⟨#[]⟩,.string ⟨#[120]⟩,.bool false] 95))).mono ?_);rintro e p2 ⟨rfl,hp2⟩;have HP2:=Hd hp2;clear hp2)
  | (go_at_call 35;(with_reducible refine (HPI.out 2 (p2.alloc (.cells #[.int .i64 16,.string ⟨#[]⟩,.int .i64 1,.int .i64 0,.string ⟨#[]⟩,.string ⟨#[120]⟩,.bool false] 95))).mono ?_);rintro e p3 ⟨rfl,hp3⟩;have HP3:=Hd hp3;clear hp3)
  | (go_at_call 35;(with_reducible refine (HPI.out 3 (p3.alloc (.cells #[.int .i64 16,.string ⟨#[]⟩,.int .i64 2,.int .i64 0,.string ⟨#[]⟩,.string ⟨#[121,122]⟩,.bool false] 95))).mono ?_);rintro e p4 ⟨rfl,hp4⟩;have HP4:=Hd hp4;clear hp4))
 have n1:=BoxN.new p1 95 #[.int .i64 16,.string ⟨#[]⟩,.int .i64 1,.int .i64 0,.string ⟨#[]⟩,.string ⟨#[120]⟩,.bool false];have n2:=BoxN.new p2 95 #[.int .i64 16,.string ⟨#[]⟩,.int .i64 1,.int .i64 0,.string ⟨#[]⟩,.string ⟨#[120]⟩,.bool false];have n3:=BoxN.new p3 95 #[.int .i64 16,.string ⟨#[]⟩,.int .i64 2,.int .i64 0,.string ⟨#[]⟩,.string ⟨#[121,122]⟩,.bool false];obtain⟨q1,hq1,hz1,n4,fq1⟩:=bxz p4 #[.int .i64 16,.string ⟨#[]⟩,.int .i64 3,.int .i64 0,.string ⟨#[]⟩,.string ⟨#[]⟩,.bool true] 95 p4.heap.size;rw[hq1];obtain⟨q2,hq2,hz2,nL,fq2⟩:=bxz q1 #[.int .i64 1,.int .i64 0,.int .i64 1,.string ⟨#[]⟩,.slice none 0 0,.slice (some ⟨p1.heap.size,0,none⟩) 1 1,.int .i64 2,.int .i64 0,.int .i64 2,.string ⟨#[]⟩,.slice (some ⟨p2.heap.size,0,none⟩) 1 1,.slice (some ⟨p3.heap.size,0,none⟩) 1 1,.int .i64 3,.int .i64 0,.int .i64 3,.string ⟨#[]⟩,.slice (some ⟨p4.heap.size,0,none⟩) 1 1,.slice none 0 0] 91 q1.heap.size;rw[hq2];have g4:Fr [] p4 q2:=fq1.then fq2;have g3:Fr [] p3 q2:=(((Fq [] p3).alloc _).then HP4.out).then g4;have g2:Fr [] p2 q2:=(((Fq [] p2).alloc _).then HP3.out).then g3;have g1:Fr [] p1 q2:=(((Fq [] p1).alloc _).then HP2.out).then g2;have gw:Fr [] w2 q2:=HP1.out.then g1;have m1:BoxN q2 p1.heap.size 95 #[.int .i64 16,.string ⟨#[]⟩,.int .i64 1,.int .i64 0,.string ⟨#[]⟩,.string ⟨#[120]⟩,.bool false]:=(n1.fr HP2.out (by simp)).fr g2 (by simp);have m2:BoxN q2 p2.heap.size 95 #[.int .i64 16,.string ⟨#[]⟩,.int .i64 1,.int .i64 0,.string ⟨#[]⟩,.string ⟨#[120]⟩,.bool false]:=(n2.fr HP3.out (by simp)).fr g3 (by simp);have m3:BoxN q2 p3.heap.size 95 #[.int .i64 16,.string ⟨#[]⟩,.int .i64 2,.int .i64 0,.string ⟨#[]⟩,.string ⟨#[121,122]⟩,.bool false]:=(n3.fr HP4.out (by simp)).fr g4 (by simp);have m4:=n4.fr fq2 (by simp);have hl2:w2.heap.size<=p1.heap.size:=HP1.out.size;have hl3:p1.heap.size<p2.heap.size:=by have h:=HP2.out.size;rw[wsA] at h;omega
 have hl4:p2.heap.size<p3.heap.size:=by have h:=HP3.out.size;rw[wsA] at h;omega
 have hl5:p3.heap.size<p4.heap.size:=by have h:=HP4.out.size;rw[wsA] at h;omega
 have hKP:KPs p1.heap.size p2.heap.size p3.heap.size p4.heap.size q1.heap.size q2:=⟨Cs.of_box m1,Cs.of_box m2,Cs.of_box m3,Cs.of_box m4,Cs.of_box nL⟩
 try rw[hz1]
 obtain⟨L,hL⟩:=nmd (q1.heap.size);rw[<-hz1,hL];rw[hL] at hKP hz1;obtain⟨c1,hc1⟩:=nmd (p1.heap.size);obtain⟨c2,hc2⟩:=nmd (p2.heap.size);obtain⟨c3,hc3⟩:=nmd (p3.heap.size);obtain⟨c4,hc4⟩:=nmd (p4.heap.size);rw[hc1,hc2,hc3,hc4] at hKP;rw[hc1] at hl2 hl3;rw[hc2] at hl3 hl4;rw[hc3] at hl4 hl5;rw[hc4] at hl5 hz1;have hlt:=H2.out.1.lt;have HK0:Hid (Kept M0 q2 (KPs c1 c2 c3 c4 L)):=Hd fun W hW=>⟨hKP.1.fr hW (fun hm=>by have:=hlt _ hm;omega),hKP.2.1.fr hW (fun hm=>by have:=hlt _ hm;omega),hKP.2.2.1.fr hW (fun hm=>by have:=hlt _ hm;omega),hKP.2.2.2.1.fr hW (fun hm=>by have:=hlt _ hm;omega),hKP.2.2.2.2.fr hW (fun hm=>by have:=hlt _ hm;omega)⟩;have HQ2:=Hd (An (H2.out.1.fr0 gw) (An (H2.out.2.1.then gw) H2.out.2.2));clear n1 n2 n3 n4 nL hq1 hq2 fq1 fq2 hz1 hz2 g1 g2 g3 g4 gw m1 m2 m3 m4 hl2 hl3 hl4 hl5 hKP hL hc1 hc2 hc3 hc4 hlt H1 H2 HP1 HP2 HP3 HP4
 go_upto_region 6 with fail
 refine wp_loop_rounds 4 ?_;rw[rounds_succ];have hcs:=(HK0.out.now).2.2.2.2;obtain⟨z0,z1,z2,z3,z4,z5⟩:=hcs.m6;clear hcs;have ha1:=KApp_g b [] M0 kg0 none (some ⟨c1,0,none⟩) 0 1 q2 HQ2.out.1 (HOK.out.fr0 HQ2.out.2.1) (fun k hk=>Nat.le_trans HOK.out.low (HQ2.out.2.2 k hk)) rfl kg0_fit (by decide) (by decide) (by simp) (by unfold okA;rw[wf0];rfl) (HK0.out.imp fun W h=>⟨chs_nil W,chs_one h.1⟩);rw[show kg0.val ⟨#[]⟩ none 0 (some ⟨c1,0,none⟩) 1=.agg #[.int .i64 1,.int .i64 0,.int .i64 1,.string ⟨#[]⟩,.slice none 0 0,.slice (some ⟨c1,0,none⟩) 1 1] from rfl] at ha1;have HA:=Hd ha1;clear ha1
 go_wp2_with (go_at_call 34;(with_reducible refine HA.out.mono ?_);rintro e x1 ⟨rfl,M1,y0,hy0,hh,hf,hM⟩;have HX1:=Hd (An hy0 (An hh (An hf hM)));clear hy0 hh hf hM)
 clear z0 z1 z2 z3 z4 z5;have HK1:=Hd (HK0.out.step HX1.out.2.2.1 HX1.out.2.2.2);have HF1:Hid (Fr [] w x1/\∀ k∈M1,w.heap.size<=k):=Hd ⟨HQ2.out.2.1.trans HX1.out.2.2.1 (fun k hk=>.inr (HQ2.out.2.2 k hk)),fun k hk=>(HX1.out.2.2.2 k hk).elim (HQ2.out.2.2 k) (fun h=>Nat.le_trans HQ2.out.2.1.size h)⟩;rw[rounds_succ];have hcs:=(HK1.out.now).2.2.2.2;have z0:=hcs.k6;have z1:=hcs.k7;have z2:=hcs.k8;have z3:=hcs.k9;have z4:=hcs.k10;have z5:=hcs.k11;clear hcs;have ha2:=KApp_g b ([]++[y0]) M1 kg1 (some ⟨c2,0,none⟩) (some ⟨c3,0,none⟩) 1 1 x1 HX1.out.2.1 (HOK.out.fr0 HF1.out.1) (fun k hk=>Nat.le_trans HOK.out.low (HF1.out.2 k hk)) rfl kg1_fit (by decide) (by decide) (by simp) (okA_snoc wf1 (by rw[HX1.out.1];decide)) (HK1.out.imp fun W h=>⟨chs_one h.2.1,chs_one h.2.2.1⟩);rw[show kg1.val ⟨#[]⟩ (some ⟨c2,0,none⟩) 1 (some ⟨c3,0,none⟩) 1=.agg #[.int .i64 2,.int .i64 0,.int .i64 2,.string ⟨#[]⟩,.slice (some ⟨c2,0,none⟩) 1 1,.slice (some ⟨c3,0,none⟩) 1 1] from rfl] at ha2;have HA2:=Hd ha2;clear ha2
 go_wp2_with (go_at_call 34;(with_reducible refine HA2.out.mono ?_);rintro e x2 ⟨rfl,M2,y1,hy1,hh,hf,hM⟩;have HX2:=Hd (An hy1 (An hh (An hf hM)));clear hy1 hh hf hM)
 clear z0 z1 z2 z3 z4 z5;have HK2:=Hd (HK1.out.step HX2.out.2.2.1 HX2.out.2.2.2);have HF2:Hid (Fr [] w x2/\∀ k∈M2,w.heap.size<=k):=Hd ⟨HF1.out.1.trans HX2.out.2.2.1 (fun k hk=>.inr (HF1.out.2 k hk)),fun k hk=>(HX2.out.2.2.2 k hk).elim (HF1.out.2 k) (fun h=>Nat.le_trans HF1.out.1.size h)⟩;rw[rounds_succ];have hcs:=(HK2.out.now).2.2.2.2;have z0:(x2).cell? ⟨L,12,none⟩=some (.int .i64 3):=hcs.2 12 _ rfl;have z1:(x2).cell? ⟨L,13,none⟩=some (.int .i64 0):=hcs.2 13 _ rfl;have z2:(x2).cell? ⟨L,14,none⟩=some (.int .i64 3):=hcs.2 14 _ rfl;have z3:(x2).cell? ⟨L,15,none⟩=some (.string ⟨#[]⟩):=hcs.2 15 _ rfl;have z4:(x2).cell? ⟨L,16,none⟩=some (.slice (some ⟨c4,0,none⟩) 1 1):=hcs.2 16 _ rfl;have z5:(x2).cell? ⟨L,17,none⟩=some (.slice none 0 0):=hcs.2 17 _ rfl;clear hcs;have ha3:=KApp_g b (([]++[y0])++[y1]) M2 kg2 (some ⟨c4,0,none⟩) none 1 0 x2 HX2.out.2.1 (HOK.out.fr0 HF2.out.1) (fun k hk=>Nat.le_trans HOK.out.low (HF2.out.2 k hk)) rfl kg2_fit (by decide) (by decide) (by simp) (okA_snoc wf2 (by rw[HX2.out.1];decide)) (HK2.out.imp fun W h=>⟨chs_one h.2.2.2.1,chs_nil W⟩);rw[show kg2.val ⟨#[]⟩ (some ⟨c4,0,none⟩) 1 none 0=.agg #[.int .i64 3,.int .i64 0,.int .i64 3,.string ⟨#[]⟩,.slice (some ⟨c4,0,none⟩) 1 1,.slice none 0 0] from rfl] at ha3;have HA3:=Hd ha3;clear ha3
 go_wp2_with (go_at_call 34;(with_reducible refine HA3.out.mono ?_);rintro e x3 ⟨rfl,M3,y2,hy2,hh,hf,hM⟩;have HX3:=Hd (An hy2 (An hh (An hf hM)));clear hy2 hh hf hM)
 clear z0 z1 z2 z3 z4 z5;have HF3:Hid (Fr [] w x3):=Hd (HF2.out.1.trans HX3.out.2.2.1 (fun k hk=>.inr (HF2.out.2 k hk)));rw[rounds_succ]
 go_upto_region 10 with fail
 have hxs:HG x3 b [y0,y1,y2] M3:=HX3.out.2.1;have HG3:=Hd hxs;have HR:Calls prog 21 #[.pointer (some ⟨b,0,none⟩),.int .i64 3] x3 (TagPost x3 (rootX [y0,y1,y2] 3)):=Root_h b [y0,y1,y2] M3 3 x3 hxs (HOK.out.fr0 HF3.out) (by simp)
 have hrt0:rootX [y0,y1,y2] 3=nodeN (nodeN leaf0 (leafX y0)) (nodeN (leafX y1) (leafX y2)):=by
  unfold rootX dsX;rw[rt_two _ 0 (3+1) (by omega) (by omega),show leftS (3+1)=2 from by kernel_rfl,rt_two _ 0 2 (by omega) (by omega),show leftS 2=1 from by kernel_rfl,show 3+1 - 2=2 from rfl,rt_two _ (0+2) 2 (by omega) (by omega),show leftS 2=1 from by kernel_rfl,show 2 - 1=1 from rfl,rt_one,rt_one,rt_one,rt_one];rfl
 rw[hrt0] at HR;clear hxs hrt0;obtain⟨rt,hrt⟩:=nmd (nodeN (nodeN leaf0 (leafX y0)) (nodeN (leafX y1) (leafX y2)));have hr32:rt.length=32:=by rw[<-hrt];exact shaN_len _
 rw[hrt] at HR;have hcr:(dCells rt).length=32:=by rw[dcells_len,hr32]
 have HRt:=Hd hrt;have HRo:=Hd HR;clear HR hrt
 go_upto_region 11 with (go_at_call 21;(with_reducible refine HRo.out.mono ?_);rintro e x4 ⟨rfl,hf4⟩;obtain⟨x5,hst,hf5,hrow⟩:=put_new_dig rt hr32 x4;unfold encD;have H5:=Hd (An (HF3.out.then (hf4.then hf5)) (An (hf4.then hf5) hrow));clear hf4 hf5 hrow)
 clear hst
 have HMK:Hid (∀ X,Fr [] x5 X->Calls prog 13 #[.pointer (some ⟨b,0,none⟩),.agg #[.int .i64 16,.string ⟨#[]⟩,.int .i64 2,.int .i64 0,.string ⟨#[]⟩,.int .i64 1],.int .i64 3] X (MkK [y0,y1,y2] (leafX y0) (leafX y1) (leafX y2) X)):=Hd fun X hX =>
  Make_known b y0 y1 y2 M3 X (HG3.out.fr0 (H5.out.2.1.then hX)) (HOK.out.fr0 (H5.out.1.then hX)) HX1.out.1 HX2.out.1 HX3.out.1
 go_upto_region 12 with (first
  | (go_at_call 35;(with_reducible refine (HPI.out 2 x5).mono ?_);rintro e x6 ⟨rfl,hp6⟩;have H6:=Hd hp6;clear hp6)
  | (go_at_call 13;(with_reducible refine (HMK.out x6 H6.out).mono ?_);rintro e x7 ⟨g,pc,A0,c0,A1,c1,rfl,hg,hA0,hA1,hf7⟩;have H7:=Hd (An (H6.out.then hf7) (An hg (An hA0 hA1)));clear hg hA0 hA1 hf7))
 obtain⟨x8,hx8,hz8,n8,f8⟩:=bxz x7 #[.int .i64 16,.string ⟨#[]⟩,.int .i64 2,.int .i64 0,.string ⟨#[]⟩,.int .i64 1,.int .i64 3,.slice (some ⟨g,0,none⟩) 2 pc] 39 x7.heap.size;rw[hx8];obtain⟨s0,hs0⟩:∃ s,encN (encA a0)=.string s:=⟨_,rfl⟩;obtain⟨s1,hs1⟩:∃ s,encN (encA a1)=.string s:=⟨_,rfl⟩;have h58:Fr [] x5 x8:=H7.out.1.then f8;have hw8:Fr [] w x8:=H5.out.1.then h58;have hg8:=H7.out.2.1.fr0 f8;rw[hs0,hs1] at hg8;have hl0:leafX y0=leafN (1::encA a0):=by unfold leafX;rw[HX1.out.1,encG0]
 have hl1:leafX y1=leafN (1::encA a1):=by unfold leafX;rw[HX2.out.1,encG1]
 have hr0:nodeN (nodeN leaf0 (leafN (1::encA a0))) (nodeN (leafX y1) (leafX y2))=rt:=by rw[<-HRt.out,hl0]
 have hr1:nodeN (nodeN leaf0 (leafX y0)) (nodeN (leafN (1::encA a1)) (leafX y2))=rt:=by rw[<-HRt.out,hl1]
 have hVf:=VerifyR_any rt hr32 g pc c0 c1 A0 A1 s0 s1 x8 (HOK.out.fr0 hw8) hg8
  (fun W hW=>by
   have h:=VerifyH_g kg0 [leaf0,nodeN (leafX y1) (leafX y2)] 0 3 2 rt A0 c0 W (HOK.out.fr0 (hw8.then hW)) wf0 kg0_fit (by decide) (by decide) (by omega) (by omega) (by omega) (by omega) (by rw[bl14];rfl) rfl (by intro p hp;simp at hp;rcases hp with rfl | rfl <;> exact shaN_len _) (by rw[bl14,encG0];exact hr0) ((H7.out.2.2.1.fr f8 (by simp)).fr hW (by simp));rw[encG0,hs0] at h;exact h.mono fun e w' h=>Ver0.g h)
  (fun W hW=>by
   have h:=VerifyH_g kg1 [leafX y2,nodeN leaf0 (leafX y0)] 1 3 2 rt A1 c1 W (HOK.out.fr0 (hw8.then hW)) wf1 kg1_fit (by decide) (by decide) (by omega) (by omega) (by omega) (by omega) (by rw[bl24];rfl) rfl (by intro p hp;simp at hp;rcases hp with rfl | rfl <;> exact shaN_len _) (by rw[bl24,encG1];exact hr1) ((H7.out.2.2.2.fr f8 (by simp)).fr hW (by simp));rw[encG1,hs1] at h;exact h.mono fun e w' h=>Ver1.g h)
 unfold encD rcpt at hVf;have HVF:=Hd hVf;have HRT:=Hd (row_range (rowIs_fr H5.out.2.2 h58 (by simp)) hr32);have H8:=Hd (An n8 hw8);obtain⟨r0,r1,r2,r3,r4,r5,r6,r7⟩:=n8.m8;obtain⟨DB,hDB⟩:=nmd (x4.heap.size);rw[hDB] at HRT ⊢;clear hVf hg8 h58 hw8 n8 f8 hx8 hz8 hr0 hr1 hs0 hs1 hDB hl0 hl1
 go_upto_region 13 with (first
  | (refine wpList_wanted (by rfl) ?_;(with_reducible refine wp_load_mid 57 (.tmp 5) rfl DB 0 rfl (dCells rt) (.array 32 5) HRT.out (by kernel_rfl) rfl (by rw[hcr];kernel_rfl) ?_))
  | (go_at_call 22;(with_reducible refine HVF.out.mono ?_);rintro e x9 ⟨I,ic,KK,kc,lb,lc,rfl,hlb,hf9⟩;have H9:=Hd (An hlb hf9);clear hlb hf9))
 obtain⟨y9,hy9,hz9,n9,f9⟩:=bxz x9 #[.int .u8 122,.int .i64 1,.slice I 2 ic,.slice KK 2 kc,.slice (some ⟨lb,0,none⟩) 1 lc,.slice none 0 0] 64 x9.heap.size;rw[hy9];have HN9:=Hd (An n9 (An (H9.out.1.fr0 f9) (An (H8.out.1.fr (H9.out.2.then f9) (by simp)) (H8.out.2.then (H9.out.2.then f9)))));clear n9 hy9 f9 hz9 r0 r1 r2 r3 r4 r5 r6 r7;have HSS:=Hd (fun (W:World) (hW:Fr [] y9 W)=>(⟨(HN9.out.1.fr hW (by simp)).c 0,(HN9.out.1.fr hW (by simp)).c 1,(HN9.out.1.fr hW (by simp)).c 4,(HN9.out.1.fr hW (by simp)).c 5,(HN9.out.2.2.1.fr hW (by simp)).c 7⟩:W.cell? ⟨x9.heap.size,0,none⟩=some (.int .u8 122)/\W.cell? ⟨x9.heap.size,1,none⟩=some (.int .i64 1)/\W.cell? ⟨x9.heap.size,4,none⟩=some (.slice (some ⟨lb,0,none⟩) 1 lc)/\W.cell? ⟨x9.heap.size,5,none⟩=some (.slice none 0 0)/\W.cell? ⟨x7.heap.size,7,none⟩=some (.slice (some ⟨g,0,none⟩) 2 pc)));have hC:Fr [] y9 y9.drew:=(Fq _ y9).drew;refine wp_region_head (fun W=>Fr [] y9 W) 40 (by kernel_rfl) ?_ (by decide)
 show headJ 0 _ _ _ _ _ _ _ _ _ _ _
 iterate 29
  refine hdJ (v:=?_) rfl (Or.inl ⟨by rfl,?_⟩) ?_
  rotate_left
  ·intro W hW;obtain⟨v0,v1,v4,v5,r7⟩:=HSS.out W hW;go_simp;try with_reducible rfl
  try simp only[Act.put,qA,qB,qC,qD,qE,qF]
 refine hO (i:=29) rfl fun K hK=>?_;go_simp
 go_at_call 35
 (with_reducible refine (HPI.out 1 _).mono ?_);rintro e u1 ⟨rfl,hu1⟩;have hC1:=hC.then hu1;refine hK _ _ hC1 ?_;clear hK K hC hu1
 try simp only[Act.put,qA,qB,qC,qD,qE,qF]
 have hC:=hC1
 show headJ 30 _ _ _ _ _ _ _ _ _ _ _
 refine hdJ (v:=?_) rfl (Or.inl ⟨by rfl,?_⟩) ?_
 rotate_left
 ·intro W hW;obtain⟨v0,v1,v4,v5,r7⟩:=HSS.out W hW;go_simp;try with_reducible rfl
 try simp only[Act.put,qA,qB,qC,qD,qE,qF]
 refine hO (i:=31) rfl fun K hK=>?_;go_simp
 obtain⟨u2,hu2⟩:=nmd (u1.alloc (.cells #[.int .i64 0,.int .i64 1,.int .i64 16,.string ⟨#[]⟩,.int .i64 1,.int .i64 0,.string ⟨#[]⟩] 98));have nu2:BoxN u2 u1.heap.size 98 #[.int .i64 0,.int .i64 1,.int .i64 16,.string ⟨#[]⟩,.int .i64 1,.int .i64 0,.string ⟨#[]⟩]:=by rw[<-hu2];exact BoxN.new u1 _ _
 have fu2:Fr [] y9 u2:=by rw[<-hu2];exact hC.alloc _
 rw[hu2];refine hK _ _ fu2 ?_;clear hK K hC hC1 hu2
 try simp only[Act.put,qA,qB,qC,qD,qE,qF]
 refine hO (i:=32) rfl fun K hK=>?_;go_simp
 go_at_call 36
 (with_reducible refine (EqualL_any lb u1.heap.size lc 1 u2 (HN9.out.2.1.fr0 fu2) (Cs.of_box nu2)).mono ?_);rintro e u3 ⟨rfl,hu3⟩;have hC:=fu2.then hu3;refine hK _ _ hC ?_;clear hK K hu3 fu2 nu2
 try simp only[Act.put,qA,qB,qC,qD,qE,qF]
 show headJ 33 _ _ _ _ _ _ _ _ _ _ _
 iterate 7
  refine hdJ (v:=?_) rfl (Or.inl ⟨by rfl,?_⟩) ?_
  rotate_left
  ·intro W hW;obtain⟨v0,v1,v4,v5,r7⟩:=HSS.out W hW;go_simp;try with_reducible rfl
  try simp only[Act.put,qA,qB,qC,qD,qE,qF]
 refine headI_done ⟨by kernel_rfl,?_⟩;simp only[qG,qH]
 go_wp2_with fail
 go_ret
 exact⟨rfl,HN9.out.2.2.2.then hC⟩
end Go.Proofs.YtlpmiimgacfmkaaGreatDoor
