/- versions: Build of any run. -/
import Derived.Test.YtlpmiimgacfmkaaGreatDoorMVh
set_option linter.all false
namespace Go.Proofs.YtlpmiimgacfmkaaGreatDoor
open Go.Proofs.Tryz
open Go.RowKit
set_option maxRecDepth 100000
set_option maxHeartbeats 4000000
theorem okA_congr {xs ys:List AX} (h:xs.map AX.a=ys.map AX.a) (a:AG):okA xs a=okA ys a:=by
 have h2:xs.getLast?.map AX.a=ys.getLast?.map AX.a:=by rw[<-List.getLast?_map,<-List.getLast?_map,h]
 unfold okA
 cases hx:xs.getLast? with
 | none =>
  cases hy:ys.getLast? with
  | none=>rfl
  | some y=>rw[hx,hy] at h2;simp at h2
 | some x =>
  cases hy:ys.getLast? with
  | none=>rw[hx,hy] at h2;simp at h2
  | some y =>
   rw[hx,hy] at h2;simp only[Option.map_some,Option.some.injEq] at h2;simp only[h2]
theorem Run.congr {xs ys:List AX} (h:xs.map AX.a=ys.map AX.a) (hr:Run xs):Run ys:=by
 have hl:xs.length=ys.length:=by rw[<-List.length_map (f:=AX.a),h,List.length_map]
 have hi:∀ (i:Nat) (y:AX),ys[i]?=some y->∃ x:AX,xs[i]?=some x/\x.a=y.a:=fun i y hy=>by
  have h1:(xs.map AX.a)[i]?=(ys.map AX.a)[i]?:=by rw[h]
  rw[List.getElem?_map,List.getElem?_map,hy] at h1
  cases hx:xs[i]? with
  | none=>rw[hx] at h1;simp at h1
  | some x=>rw[hx] at h1;exact⟨x,rfl,by simpa using h1⟩
 refine⟨fun y hy=>?_,fun i y z hy hz=>?_,by have:=hr.len;omega⟩
 ·obtain⟨i,hi2⟩:=List.mem_iff_getElem?.1 hy
  obtain⟨x,hx,he⟩:=hi i y hi2;rw[<-he];exact hr.wf x (lmg hx)
 ·obtain⟨x1,hx1,he1⟩:=hi i y hy
  obtain⟨x2,hx2,he2⟩:=hi (i+1) z hz;rw[<-he1,<-he2];exact hr.inc i x1 x2 hx1 hx2
theorem Run.take {xs:List AX} (h:Run xs) (n:Nat):Run (xs.take n):=by
 refine⟨fun x hx=>h.wf x (List.mem_of_mem_take hx),fun i x y hx hy=>?_,by rw[List.length_take];have:=h.len;omega⟩;rw[List.getElem?_take] at hx hy;split at hx
 ·split at hy
  ·exact h.inc i x y hx hy
  ·simp at hy
 ·simp at hx
theorem Run.ok {xs:List AX} (h:Run xs) {i:Nat} {x:AX} (hx:xs[i]?=some x):okA (xs.take i) x.a=true:=by
 have hw:=(h.wf x (lmg hx)).1;have hil:=(lgs.1 hx).1;unfold okA;rw[hw,Bool.true_and]
 cases i with
 | zero=>simp
 | succ i =>
  have hl:(xs.take (i+1)).getLast?=xs[i]?:=by
   rw[List.getLast?_eq_getElem?,List.length_take,List.getElem?_take,if_pos (by omega),show min (i+1) xs.length - 1=i by omega]
  rw[hl];obtain⟨y,hy⟩:∃ y,xs[i]?=some y:=⟨_,lge (by omega)⟩;rw[hy];simp only[decide_eq_true_eq];exact h.inc i y x hy hx
theorem VG.fr0 {w w':World} {b:Nat} {ys:List AX} {M:List Nat} (h:VG w b ys M) (hf:Fr [] w w'):VG w' b ys M:=by
 obtain⟨pb,pl,mw,mr,A,c,K,kk,kc,ks,ew,er,ns,h,rfl⟩:=h;exact⟨pb,pl,mw,mr,A,c,K,kk,kc,ks,ew,er,ns,⟨h.s.fr0 hf,h.kl,fun x hx=>(h.xok x hx).fr0 hf,h.base.fr0 hf,h.st.fr0 hf,h.nl,h.wr,h.wl,h.rl,h.run⟩,rfl⟩
def VBPost (w:World) (l:List AG) (e:Ending) (w':World):Prop:=∃ b M zs,e=.returned (.tuple #[.pointer (some ⟨b,0,none⟩),.int .i64 0])/\zs.map AX.a=l/\VG w' b zs M/\Fr [] w w'/\∀ k∈M,w.heap.size<=k
theorem VBuild_g (p L c N:Nat) (ys:List AX) (w:World) (hok:Ok w) (h:SG w p []) (hL:ActL w L N ys) (hr:Run ys) :
 Calls prog 42 #[.pointer (some ⟨p,0,none⟩),.slice (some ⟨L,0,none⟩) ys.length c] w (VBPost w (ys.map AX.a)):=by
 have hmk:=run_makeMap w 193;obtain⟨w1,hw1⟩:=nmd (w.alloc (.map #[] 0));have hm1:MapIs prog 31 w1 w.heap.size []:=by rw[<-hw1];exact MapIs.new w
 have hf1:Fr [] w w1:=by rw[<-hw1];exact (Fq [] w).alloc _
 have hz1:w1.heap.size=w.heap.size+1:=by rw[<-hw1];simp
 rw[hw1] at hmk;have hmk2:=run_makeMap w1 194;obtain⟨w2,hw2⟩:=nmd (w1.alloc (.map #[] 0));have hm2:MapIs prog 31 w2 w1.heap.size []:=by rw[<-hw2];exact MapIs.new w1
 have hf2:Fr [] w1 w2:=by rw[<-hw2];exact (Fq [] w1).alloc _
 have hz2:w2.heap.size=w1.heap.size+1:=by rw[<-hw2];simp
 rw[hw2] at hmk2;obtain⟨n,hn⟩:=nmd (ys.length);have hl12:=hr.len;rw[hn] at hl12 ⊢;have HZ:=Hd (An hz1 hz2);have HM1:=Hd (hm1.fr hf2 (by simp));have HM2:=Hd hm2;have HF2:=Hd (hf1.then hf2);have HP0:=Hd (An h (An hL (An hr hn)));have HOK:=Hd hok;clear hw1 hm1 hf1 hw2 hm2 hf2 hz1 hz2 h hL hr hok hn
 go_enter func42,ntmps42
 go_upto_region 4 with fail
 obtain⟨w3,hw3,hb3,hf3⟩:=bxn w2 #[.pointer (some ⟨p,0,none⟩),.slice none 0 0,.slice none 0 0,.pointer (some ⟨p,0,none⟩),.map (some w.heap.size),.map (some w1.heap.size)] 196;rw[hw3];have hm1:=HM1.out.fr hf3 (by simp);have hm2:=HM2.out.fr hf3 (by simp);have hz:=HZ.out;clear hw3 hmk hmk2;obtain⟨mw,hmw⟩:=nmd (w.heap.size);obtain⟨mr,hmr⟩:=nmd (w1.heap.size);obtain⟨b,hbb⟩:=nmd (w2.heap.size);rw[hmw] at hm1 hb3 ⊢;rw[hmr] at hm2 hb3 ⊢;rw[hbb] at hb3 ⊢;rw[hmr,hmw,hbb] at hz;have hvg:VG w3 b [] (VB b mw mr none none [] []):=⟨p,p,mw,mr,none,0,none,0,0,[],[],[],[],⟨⟨hb3,Own.nil _ _ _,Own.nil _ _ _,ML.nil hm1,ML.nil hm2,by omega⟩,Nat.zero_le _,by simp,HP0.out.1.fr0 (HF2.out.then hf3),HP0.out.1.fr0 (HF2.out.then hf3),by simp,fun m=>by simp[getL,verL,verF],fun m=>by simp[getL],fun m=>by simp[getL],⟨by simp,by simp,by simp⟩⟩,rfl⟩;have HV0:=Hd (An hvg (An (HF2.out.then hf3) (An hmw hz)));clear hm1 hm2 hz hb3 hf3 hvg hmw hmr hbb
 go_wp2_with fail
 go_loopw [20] (fun i W=>∃ (j:Nat) (zs:List AX) (M:List Nat),j<=n/\i=.int .i64 (j:Int)/\zs.map AX.a=(ys.take j).map AX.a/\VG W b zs M/\Fr [] w W/\∀ k∈M,w.heap.size<=k) (fun i _=>n - (intOf i).toNat)
 case atStart=>exact⟨0,[],_,Nat.zero_le _,rfl,rfl,HV0.out.1,HV0.out.2.1,by
  have:=HV0.out.2.2;intro k hk;simp[VB,blk,blsL] at hk;omega⟩
 case round =>
  obtain⟨j,zs,M,hj,rfl,hzm,hvg,hfr,hM⟩:=hrel;have HJ:=Hd (An hzm (An hvg (An hfr hM)));clear hzm hvg hfr hM
  by_cases hjl:j<n
  ·have hlt3:(j:Int)<(n:Int):=by omega
   obtain⟨x,hx⟩:∃ x,ys[j]?=some x:=⟨_,lge (by rw[HP0.out.2.2.2];omega)⟩;have hxw:=HP0.out.2.2.1.wf x (lmg hx);have hLr:=HP0.out.2.1.fr0 HJ.out.2.2.1;have hxo:=hLr.ok x (lmg hx);have hzl:zs.length=j:=by rw[<-List.length_map (f:=AX.a),HJ.out.1,List.length_map,List.length_take,HP0.out.2.2.2];omega
   have y0:wr.cell? ⟨L,j*6,none⟩=some (.int .i64 x.a.k.rnd):=hLr.c hx 0 _ rfl;have y1:wr.cell? ⟨L,j*6+1,none⟩=some (.int .i64 x.a.k.phase):=hLr.c hx 1 _ rfl;have y2:wr.cell? ⟨L,j*6+2,none⟩=some (.int .i64 x.a.k.idx):=hLr.c hx 2 _ rfl;have y3:wr.cell? ⟨L,j*6+3,none⟩=some (.string x.sl):=hLr.c hx 3 _ rfl;have y4:wr.cell? ⟨L,j*6+4,none⟩=some (.slice x.A x.a.r.length x.c):=hLr.c hx 4 _ rfl;have y5:wr.cell? ⟨L,j*6+5,none⟩=some (.slice x.B x.a.w.length x.d):=hLr.c hx 5 _ rfl;obtain⟨v1,hw1,hz1,n1,fw1⟩:=bxz wr #[.int .i64 x.a.k.rnd,.int .i64 x.a.k.phase,.int .i64 x.a.k.idx,.string x.sl,.slice x.A x.a.r.length x.c,.slice x.B x.a.w.length x.d] 91 wr.heap.size;have hlow:=HOK.out.low;have hC:Calls prog 98 #[.pointer (some ⟨b,0,none⟩),x.v] v1 (VAPost zs x.a M b v1):=VAppend_g b zs M x v1 (HJ.out.2.1.fr0 fw1) (HOK.out.fr0 (HJ.out.2.2.1.then fw1)) (fun k hk=>by have:=HJ.out.2.2.2 k hk;omega) (hxo.fr0 fw1) (by rw[okA_congr HJ.out.1];exact HP0.out.2.2.1.ok hx) hxw.2.1 hxw.2.2.1 hxw.2.2.2 (by omega);unfold AX.v AG.val at hC;have HC:=Hd hC;have HX:=Hd hx;clear hLr hxo hxw hx hC hzl hlow
   go_upto_region 7 with fail
   try rw[hw1]
   clear y0 y1 y2 y3 y4 y5;obtain⟨x0,x1,x2,x3,x4,x5⟩:=n1.m6;have HW1:=Hd fw1;clear hw1 n1 fw1 hz1
   go_wp2_with ((go_at_call 98;(with_reducible refine HC.out.mono ?_);rintro e v2 ⟨rfl,M2,y,hya,hvg2,hf2,hM2⟩;have H2:=Hd (An hya (An hvg2 (An hf2 hM2)));clear hya hvg2 hf2 hM2))
   go_roundw
   case rel =>
    have hsz:=HJ.out.2.2.1.size;have hs2:=HW1.out.size;exact⟨j+1,zs++[y],M2,by omega,by go_num,by rw[List.map_append,HJ.out.1,List.take_add_one,HX.out,List.map_append];simp[H2.out.1],H2.out.2.1,(HJ.out.2.2.1.then HW1.out).trans H2.out.2.2.1 (fun k hk=>.inr (HJ.out.2.2.2 k hk)),fun k hk=>(H2.out.2.2.2 k hk).elim (HJ.out.2.2.2 k) (fun h=>by omega)⟩
   case measure=>simp[intOf];omega
  ·obtain rfl:j=n:=by omega
   go_wp2_with fail
   go_ret2
   exact⟨b,M,zs,rfl,by rw[HJ.out.1,List.take_of_length_le (by rw[HP0.out.2.2.2];exact nlr _)],HJ.out.2.1,HJ.out.2.2.1,HJ.out.2.2.2⟩
structure VZ where
 i:Int
 v:Nm
 a:Bool
def VZ.cs (x:VZ):List Value:=[.int .i64 x.i,encN x.v,.bool x.a]
def zOf (x:VX):VZ:=⟨x.i,x.v,x.a⟩
def z0:VZ:=⟨-1,[],true⟩
def ofL (l:List AG) (n:ON):List VZ:=z0::(verL l n).map zOf
theorem vz_len (x:VZ):x.cs.length=3:=rfl
theorem run_app_none {P:Program} (w:World) (t ty e:TypeId) (i:TypeInfo) (z:Value) (ht:P.underlying t=some (.slice e)) (hi:P.info? e=some i) (hz:i.zero=some z) (g n c:Nat) (hn:n<=c) (hc:n<=1000000) :
 (Builtin.append_ #[t,t] ty #[.slice (some ⟨g,0,none⟩) n c,.slice none 0 0]).run P w=.ok (.slice (some ⟨g,0,none⟩) n c) w:=by
 simp[Builtin.append_,run_underlying ht,sizeOf,typeInfo,zeroValue,hi,hz,Builtin.lenOf,hn,run_firstCells_none,storeCells,Result.andThen]
theorem Own.new1 (w:World) (e:TypeId) (size n:Nat) (cs:List Value) (hl:cs.length=n*size) (hn:n<=maxLen):Own (w.alloc (.cells cs.toArray e)) e size (some ⟨w.heap.size,0,none⟩) n n cs :=
 ⟨hl,.inr ⟨w.heap.size,n,cs.toArray,rfl,Nat.zero_le _,World.alloc_heap_new w _,nlr _,hn,by simpa using hl,by rw[<-hl];simp⟩⟩
theorem Len_v (b:Nat) (ys:List AX) (M:List Nat) (w:World) (h:VG w b ys M):Calls prog 99 #[.pointer (some ⟨b,0,none⟩)] w fun e w'=>e=.returned (.int .i64 (ys.length:Int))/\w=w':=by
 obtain⟨pb,pl,mw,mr,A,c,K,kk,kc,ks,ew,er,ns,h,rfl⟩:=h;obtain⟨x0,x1⟩:=h.s.box.m2;have HN:=Hd (noneV_any b pb w x0);clear h
 go_enter func99,ntmps99
 go_wp2_with ((go_at_call 157;(with_reducible refine HN.out.mono ?_);rintro e w' ⟨rfl,rfl⟩))
 go_ret
 exact⟨rfl,rfl⟩
theorem First_v (b:Nat) (ys:List AX) (M:List Nat) (n:ON) (w:World) (h:VG w b ys M) (hn:checkO n=0):Calls prog 192 #[.pointer (some ⟨b,0,none⟩),encO n] w (RetPost w (.agg #[.int .i64 (-1),.string ⟨#[]⟩,.bool true])):=by
 obtain⟨pb,pl,mw,mr,A,c,K,kk,kc,ks,ew,er,ns,h,rfl⟩:=h;obtain⟨so,hso,_,_⟩:=str_of n.owner;obtain⟨st,hst,_,_⟩:=str_of n.text;have he:=encO_str hso hst;obtain⟨w1,hw1,hn1,hf1⟩:=bxn w #[.int .i64 n.kind,.string so,.int .i64 n.number,.int .i64 n.index,.string st] 31;have hz1:w1.heap.size=w.heap.size+1:=by rw[<-hw1];simp
 obtain⟨w2,hw2⟩:=nmd (w1.alloc (.cells #[.int .i64 0,.string ⟨#[]⟩,.bool false] 201));have hn2:BoxN w2 (w.heap.size+1) 201 #[.int .i64 0,.string ⟨#[]⟩,.bool false]:=by rw[<-hw2,<-hz1];exact BoxN.new w1 _ _
 have hf2:Fr [] w1 w2:=by rw[<-hw2];exact (Fq [] w1).alloc _
 have hf02:=hf1.then hf2;have hG:=fun (W:World) (hW:Fr [] w2 W)=>Get_s pb [] n W (h.base.fr0 (hf02.then hW)) hn;rw[he] at hG ⊢
 have hCell:∀ W,Fr [] w2 W->W.cell? ⟨b,0,none⟩=some (.pointer (some ⟨pb,0,none⟩))/\W.cell? ⟨w.heap.size,0,none⟩=some (.int .i64 n.kind)/\W.cell? ⟨w.heap.size,1,none⟩=some (.string so)/\W.cell? ⟨w.heap.size,2,none⟩=some (.int .i64 n.number)/\W.cell? ⟨w.heap.size,3,none⟩=some (.int .i64 n.index)/\W.cell? ⟨w.heap.size,4,none⟩=some (.string st):=fun W hW=>by
  have k1:=h.s.box.fr (hf02.then hW) (by simp);have k2:=hn1.fr (hf2.then hW) (by simp);exact⟨k1.c 0,k2.c 0,k2.c 1,k2.c 2,k2.c 3,k2.c 4⟩
 have HG:=Hd hG;have HSS:=Hd hCell;have HN2:=Hd hn2;have HF2:=Hd hf02;have HW:=Hd (An hw1 hw2);clear hG hCell hn2 hf02 hw1 hw2 hn1 hf1 hz1 hf2 h he hso hst hn
 go_enter func192,ntmps192
 go_upto_region 1 with fail
 rw[HW.out.1,HW.out.2];have hC:Fr [] w2 w2.drew:=(Fq [] w2).drew;refine wp_region_head (fun W:World=>Fr [] w2 W) 10 (by kernel_rfl) ?_ (by decide)
 show headJ 0 _ _ _ _ _ _ _ _ _ _ _
 iterate 5
  refine hdJ (v:=?_) rfl (Or.inl ⟨by rfl,?_⟩) ?_
  rotate_left
  ·intro W hW;obtain⟨b0,y0,y1,y2,y3,y4⟩:=HSS.out W hW;go_simp;try with_reducible rfl
  try simp only[Act.put,qA,qB,qC,qD,qE,qF]
 refine hO (i:=5) rfl fun K hK=>?_;go_simp
 go_at_call 40
 (with_reducible refine (HG.out _ hC).mono ?_);rintro e w4 ⟨sv,fv,rfl,_,hnil,hf4⟩;obtain⟨rfl,rfl⟩:=hnil rfl;have hC4:=hC.then hf4;refine hK _ _ hC4 ?_;clear hK K hC hf4
 try simp only[Act.put,qA,qB,qC,qD,qE,qF]
 show headJ 6 _ _ _ _ _ _ _ _ _ _ _
 iterate 4
  refine hdJ (v:=?_) rfl (Or.inl ⟨by rfl,?_⟩) ?_
  rotate_left
  ·intro W hW;obtain⟨b0,y0,y1,y2,y3,y4⟩:=HSS.out W hW;go_simp;try with_reducible rfl
  try simp only[Act.put,qA,qB,qC,qD,qE,qF]
 refine headI_done ⟨by kernel_rfl,?_⟩;simp only[qG,qH];have hn:=HN2.out.fr hC4 (by simp);obtain⟨u0,u1,u2⟩:=hn.m3;have g0:=hn.f 0;have g1:=hn.f 1;have g2:=hn.f 2;have HN:=Hd hn;have HF:=Hd (HF2.out.then hC4);clear hn hC4 HSS HG
 go_wp2_with fail
 obtain⟨w5,hw5⟩:=nmd (((w4.setCell ⟨w.heap.size+1,0,none⟩ (.int .i64 (-1))).setCell ⟨w.heap.size+1,1,none⟩ (.string ⟨#[]⟩)).setCell ⟨w.heap.size+1,2,none⟩ (.bool true));have hb5:BoxN w5 (w.heap.size+1) 201 #[.int .i64 (-1),.string ⟨#[]⟩,.bool true]:=by rw[<-hw5];exact (((HN.out.setAt 0 _).setAt 1 _).setAt 2 _)
 have hf5:Fr [] w w5:=by rw[<-hw5];exact ((HF.out.set (.inr (by simp)) _).set (.inr (by simp)) _).set (.inr (by simp)) _
 obtain⟨t0,t1,t2⟩:=hb5.m3;have HF5:=Hd hf5;rw[hw5];clear hw5 hb5 hf5 u0 u1 u2 g0 g1 g2;exact bodyPost_ret (v:=.agg #[.int .i64 (-1),.string ⟨#[]⟩,.bool true]) (by simp[results,results192,go_sem,t0,t1,t2]) rfl ⟨rfl,HF5.out⟩
def OfPost (w:World) (l:List VZ) (e:Ending) (w':World):Prop:=∃ g c,e=.returned (.slice (some ⟨g,0,none⟩) l.length c)/\Cs w' g (l.flatMap VZ.cs)/\Fr [] w w'/\w.heap.size<=g
theorem vx_z (l:List VX):l.flatMap VX.cs=(l.map zOf).flatMap VZ.cs:=by rw[List.flatMap_map];rfl
theorem Of_v (b:Nat) (ys:List AX) (M:List Nat) (n:ON) (w:World) (h:VG w b ys M) (hn:checkO n=0):Calls prog 162 #[.pointer (some ⟨b,0,none⟩),encO n] w (OfPost w (ofL (ys.map AX.a) n)):=by
 have hFv:∀ W,Fr [] w W->Calls prog 192 #[.pointer (some ⟨b,0,none⟩),encO n] W (RetPost W (.agg #[.int .i64 (-1),.string ⟨#[]⟩,.bool true])):=fun W hW=>First_v b ys M n W (h.fr0 hW) hn;obtain⟨pb,pl,mw,mr,A,c,K,kk,kc,ks,ew,er,ns,h,rfl⟩:=h;obtain⟨so,hso,_,_⟩:=str_of n.owner;obtain⟨st,hst,_,_⟩:=str_of n.text;have he:=encO_str hso hst;obtain⟨kl,hkl⟩:=keyOf_check hn;obtain⟨Ae,ce,hlk,hoe,_⟩:=ML.look encO_inj key_name underlying193 zero_vers h.s.wm n hkl;have hwl:=h.wl n;have hl12:=h.run.len;rw[h.wr] at hlk hoe hwl;unfold OfPost ofL;obtain⟨vs,hvs⟩:=nmd (verL (ys.map AX.a) n);rw[hvs] at hlk hoe hwl ⊢;have hlist:(z0::vs.map zOf).flatMap VZ.cs=[.int .i64 (-1),.string ⟨#[]⟩,.bool true]++vs.flatMap VX.cs:=by rw[List.flatMap_cons,<-vx_z];rfl
 have hll:(z0::vs.map zOf).length=1+vs.length:=by simp;omega
 rw[hll];rw[hlist];rw[he] at hFv hlk ⊢;obtain⟨w1,hw1,hn1,hf1⟩:=bxn w #[.int .i64 n.kind,.string so,.int .i64 n.number,.int .i64 n.index,.string st] 31
 have hCell:∀ W,Fr [] w1 W->(W.cell? ⟨b,4,none⟩=some (.map (some mw))/\(Instr.lookup 193 (.map (some mw)) (.agg #[.int .i64 n.kind,.string so,.int .i64 n.number,.int .i64 n.index,.string st]) false).run prog W=.ok (.slice Ae vs.length ce) W)/\W.cell? ⟨w.heap.size,0,none⟩=some (.int .i64 n.kind)/\W.cell? ⟨w.heap.size,1,none⟩=some (.string so)/\W.cell? ⟨w.heap.size,2,none⟩=some (.int .i64 n.number)/\W.cell? ⟨w.heap.size,3,none⟩=some (.int .i64 n.index)/\W.cell? ⟨w.heap.size,4,none⟩=some (.string st):=fun W hW=>by
  have k1:=h.s.box.fr (hf1.then hW) (by simp);have k2:=hn1.fr hW (by simp);exact⟨⟨k1.c 4,hlk W ((hf1.then hW).block _ h.s.wm.map.lt (by simp))⟩,k2.c 0,k2.c 1,k2.c 2,k2.c 3,k2.c 4⟩
 have x0:w1.cell? ⟨b,0,none⟩=some (.pointer (some ⟨pb,0,none⟩)):=(h.s.box.fr hf1 (by simp)).c 0;have HN:=Hd (noneV_any b pb w1 x0);have HFV:=Hd (fun (W:World) (hW:Fr [] w1 W)=>hFv W (hf1.then hW));have HSS:=Hd hCell;have HF1:=Hd hf1;have HW1:=Hd hw1;have HG1:=Hd hoe;have hwl2:vs.length<=120:=by omega
 clear hFv h hw1 hn1 hf1 hkl hCell hlk hoe hwl hl12 hvs he hso hst hn hlist hll
 go_enter func162,ntmps162
 go_upto_region 1 with fail
 rw[HW1.out]
 go_upto_region 3 with ((go_at_call 157;(with_reducible refine HN.out.mono ?_);rintro e w' ⟨rfl,rfl⟩))
 have hC:Fr [] w1 w1.drew:=(Fq [] w1).drew;refine wp_region_head (fun W:World=>Fr [] w1 W) 10 (by kernel_rfl) ?_ (by decide)
 show headJ 0 _ _ _ _ _ _ _ _ _ _ _
 iterate 2
  refine hdJ (v:=?_) rfl (Or.inl ⟨by rfl,?_⟩) ?_
  rotate_left
  ·intro W hW;obtain⟨⟨b4,lk⟩,y0,y1,y2,y3,y4⟩:=HSS.out W hW;go_simp;try with_reducible rfl
  try simp only[Act.put,qA,qB,qC,qD,qE,qF]
 show headJ 4 _ _ _ _ _ _ _ _ _ _ _
 iterate 6
  refine hdJ (v:=?_) rfl (Or.inl ⟨by rfl,?_⟩) ?_
  rotate_left
  ·intro W hW;obtain⟨⟨b4,lk⟩,y0,y1,y2,y3,y4⟩:=HSS.out W hW;go_simp;try with_reducible rfl
  try simp only[Act.put,qA,qB,qC,qD,qE,qF]
 refine hO (i:=2) rfl fun K hK=>?_;go_simp
 go_at_call 192
 (with_reducible refine (HFV.out _ hC).mono ?_);rintro e w4 ⟨rfl,hf4⟩;have hC4:=hC.then hf4;refine hK _ _ hC4 ?_;clear hK K hC hf4
 try simp only[Act.put,qA,qB,qC,qD,qE,qF]
 refine hO (i:=3) rfl fun K hK=>?_;go_simp
 obtain⟨w5,hw5⟩:=nmd (w4.alloc (.cells #[.int .i64 (-1),.string ⟨#[]⟩,.bool true] 201));have ho5:Own w5 201 3 (some ⟨w4.heap.size,0,none⟩) 1 1 [.int .i64 (-1),.string ⟨#[]⟩,.bool true]:=by rw[<-hw5];exact Own.new1 w4 _ 3 1 _ rfl (by unfold maxLen;omega)
 have hf5:Fr [] w4 w5:=by rw[<-hw5];exact (Fq [] w4).alloc _
 rw[hw5];have hC5:=hC4.then hf5;refine hK _ _ hC5 ?_;clear hK K hw5
 try simp only[Act.put,qA,qB,qC,qD,qE,qF]
 refine headI_done ⟨by kernel_rfl,?_⟩;simp only[qG,qH];have HO5:=Hd ho5;have HF5:=Hd (HF1.out.then hC5);have HZ5:=Hd (An hC4.size HF1.out.size);have HO:=Hd (HG1.out.fr HF5.out (by simp));clear ho5 hC5 hC4 hf5 HSS HFV;obtain⟨jj,hjj,jz0,jz1,jz2⟩:=info_ver;have hz:=HZ5.out;have hz5:=HF5.out.size;have hz1:=HF1.out.size
 cases Ae with
 | none =>
  have hv0:vs=[]:=by
   rcases HO.out.2 with ⟨_,h0⟩ | ⟨g,cap,cur,hv,_⟩
   ·exact List.eq_nil_of_length_eq_zero h0
   ·injection hv with hv;cases hv
  subst hv0
  have hce:ce=0:=by
   rcases HO.out.2 with ⟨hv,h0⟩ | ⟨g,cap,cur,hv,_⟩
   ·injection hv
   ·injection hv with hv;cases hv
  subst hce;have happ:=run_app_none w5 280 280 201 jj _ underlying280 hjj jz0 w4.heap.size 1 1 (nlr _) (by omega)
  go_wp2_with fail
  go_ret
  have hcs:=Cs.of_own HO5.out (by omega);obtain⟨g,hg,hcs⟩:=hcs
  cases hg
  refine⟨w4.heap.size,1,rfl,by simpa using hcs,HF5.out,by omega⟩
 | some ad =>
  obtain⟨g1,rfl⟩:∃ g,ad=⟨g,0,none⟩:=by
   rcases HO.out.2 with ⟨hv,_⟩ | ⟨g,cap,cur,hv,_⟩
   ·injection hv with hv;cases hv
   ·injection hv with hv;injection hv with hv;exact⟨g,hv⟩
  have hones:∀ u∈vs.flatMap VX.cs,u.oneCell'=true:=fun u hu=>by
   obtain⟨x,_,hx⟩:=List.mem_flatMap.1 hu;exact vx_one x u hx
  have HON:=Hd hones;have hcl:∀ j u,(vs.flatMap VX.cs)[j]?=some u->w5.cell? ((⟨g1,0,none⟩:Addr).add j)=some u:=World.ownsRow.cells HO.out (g:=g1) rfl;have HCL:=Hd hcl;clear hcl;clear hones
  go_wp2_with (at_builtin;(with_reducible refine wpList_app (w:=w5) rfl (.tmp 10) (.tmp 16) 280 rfl 201 jj _ 3 32 underlying280 hjj jz0 jz1 jz2 rfl (by decide) (some ⟨w4.heap.size,0,none⟩) 1 1 [.int .i64 (-1),.string ⟨#[]⟩,.bool true] rfl HO5.out ⟨g1,0,none⟩ vs.length ce (vs.flatMap VX.cs) rfl HO.out.len HCL.out HON.out (by unfold maxLen;omega) (by omega) ?_);intro A6 c6 w6 ho6 hf6 hA6;have HO6:=Hd ho6;have HF6:=Hd hf6;have HA6:=Hd hA6;clear ho6 hf6 hA6)
  go_ret
  obtain⟨gg,rfl,hgg⟩:=Cs.of_own HO6.out (by omega);refine⟨gg,c6,rfl,hgg,HF5.out.trans HF6.out (by simp[blk];omega),?_⟩
  rcases HA6.out gg (by simp[blk]) with h | h
  ·simp[blk] at h;omega
  ·omega
end Go.Proofs.YtlpmiimgacfmkaaGreatDoor
