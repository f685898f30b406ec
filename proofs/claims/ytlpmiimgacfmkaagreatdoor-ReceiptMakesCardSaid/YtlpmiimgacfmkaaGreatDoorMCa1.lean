/- slices.Sort of the two numbers 1, 0 (the shelf's contract). -/
import Derived.Sort.OwnSortedInts
import Derived.Laws.EntriesVeiled
import Derived.Test.YtlpmiimgacfmkaaGreatDoorMWc
import Derived.Test.YtlpmiimgacfmkaaGreatDoorMShelf2
import Derived.Test.YtlpmiimgacfmkaaGreatDoorMWf
import Derived.Test.YtlpmiimgacfmkaaGreatDoorMHi1
set_option linter.all false
namespace Go.Proofs.YtlpmiimgacfmkaaGreatDoor
open Go.Proofs.Tryz
open Go.RowKit
set_option maxRecDepth 100000
set_option maxHeartbeats 2000000
def visF (pm pr pf pv:Nat):Value:=.func (.func 165) #[] #[.pointer (some ⟨pm,0,none⟩),.pointer (some ⟨pr,0,none⟩),.pointer (some ⟨pf,0,none⟩),.pointer (some ⟨pv,0,none⟩)]
def nxtF (pg:Nat):Value:=.func (.func 107) #[] #[.pointer (some ⟨pg,0,none⟩)]
structure VSt (w0 w:World) (pm pr pf pv m pg:Nat) (A:Option Addr) (n c:Nat) (xs:List Value) (kvs:List (Value × Value)):Prop where
 bm:BoxN w pm 143 #[.map (some m)]
 br:BoxN w pr 36 #[.slice A n c]
 bf:BoxN w pf 211 #[nxtF pg]
 bv:BoxN w pv 130 #[visF pm pr pf pv]
 mm:MapIs prog 3 w m kvs
 own:Own w 3 1 A n c xs
 d1:pm≠pr/\pm≠m/\pr≠m/\pf≠pr/\pf≠m/\pv≠pr/\pv≠m
 d2:pm ∉ blk A/\pr ∉ blk A/\pf ∉ blk A/\pv ∉ blk A/\m ∉ blk A
 d3:w0.heap.size<=pr/\w0.heap.size<=m/\∀ k∈blk A,w0.heap.size<=k
 f0:Fr [] w0 w
section
variable {w0 X Y Z:World} {pm pr pf pv m pg n c:Nat} {A:Option Addr} {xs:List Value} {kvs kvs':List (Value × Value)}
theorem VSt.fr0 (h:VSt w0 X pm pr pf pv m pg A n c xs kvs) (hf:Fr [] X Y):VSt w0 Y pm pr pf pv m pg A n c xs kvs :=
 ⟨h.bm.fr hf (by simp),h.br.fr hf (by simp),h.bf.fr hf (by simp),h.bv.fr hf (by simp),h.mm.fr hf (by simp),h.own.fr hf (by simp),h.d1,h.d2,h.d3,h.f0.then hf⟩
theorem VSt.putM (h:VSt w0 X pm pr pf pv m pg A n c xs kvs) (hf:Fr [m] X Y) (hm:MapIs prog 3 Y m kvs'):VSt w0 Y pm pr pf pv m pg A n c xs kvs' :=
 ⟨h.bm.fr hf (by simpa using h.d1.2.1),h.br.fr hf (by simpa using h.d1.2.2.1),h.bf.fr hf (by simpa using h.d1.2.2.2.2.1),h.bv.fr hf (by simpa using h.d1.2.2.2.2.2.2),hm,h.own.fr hf (by intro k hk;simp only[lms];rintro rfl;exact h.d2.2.2.2.2 hk),h.d1,h.d2,h.d3,h.f0.trans hf (by intro k hk;simp only[lms] at hk;subst hk;exact .inr h.d3.2.1)⟩
theorem VSt.putR {A':Option Addr} {n' c':Nat} {xs':List Value} (h:VSt w0 X pm pr pf pv m pg A n c xs kvs) (f1:Fr (blk A) X Y) (ho:Own Y 3 1 A' n' c' xs') (hA:∀ k∈blk A',k∈blk A \/ X.heap.size<=k) (f2:Fr [pr] Y Z) (hb:BoxN Z pr 36 #[.slice A' n' c']) :
 VSt w0 Z pm pr pf pv m pg A' n' c' xs' kvs:=by
 have old:∀ k,k<X.heap.size->k ∉ blk A->k ∉ blk A':=fun k h1 h2 hm=>by
  rcases hA k hm with h3 | h3
  ·exact h2 h3
  ·omega
 have e1:=old pm h.bm.lt h.d2.1;have e2:=old pr h.br.lt h.d2.2.1;have e3:=old pf h.bf.lt h.d2.2.2.1;have e4:=old pv h.bv.lt h.d2.2.2.2.1;have e5:=old m h.mm.lt h.d2.2.2.2.2
 exact⟨(h.bm.fr f1 h.d2.1).fr f2 (by simpa using h.d1.1),hb,(h.bf.fr f1 h.d2.2.2.1).fr f2 (by simpa using h.d1.2.2.2.1),(h.bv.fr f1 h.d2.2.2.2.1).fr f2 (by simpa using h.d1.2.2.2.2.2.1),(h.mm.fr f1 h.d2.2.2.2.2).fr f2 (by simpa using Ne.symm h.d1.2.2.1),ho.fr f2 (by intro k hk;simp only[lms];rintro rfl;exact e2 hk),h.d1,⟨e1,e2,e3,e4,e5⟩,
  ⟨h.d3.1,h.d3.2.1,fun k hk=>(hA k hk).elim (fun h1=>h.d3.2.2 k h1) (fun h1=>Nat.le_trans h.f0.size h1)⟩,(h.f0.trans f1 (fun k hk=>.inr (h.d3.2.2 k hk))).trans f2 (by intro k hk;simp only[lms] at hk;subst hk;exact .inr h.d3.1)⟩
end
theorem Visit_any (k:Int) (w0 w:World) (pm pr pf pv m pg n c:Nat) (A:Option Addr) (xs:List Value) (kvs:List (Value × Value)) (R:World->Prop) (h:VSt w0 w pm pr pf pv m pg A n c xs kvs) (hk:∃ l,keyOf prog 3 (.int .i64 k)=some l) (hn:∀ p∈kvs,p.1≠.int .i64 k) (hl:n+1<=1000)
 (hN:∀ W A' c',VSt w0 W pm pr pf pv m pg A' (n+1) c' (xs++[.int .i64 k]) (kvs++[(.int .i64 k,.bool true)])->Calls prog 107 #[.int .i64 k,visF pm pr pf pv,.pointer (some ⟨pg,0,none⟩)] W fun e w'=>e=.returned (.tuple #[])/\R w') :
 Calls prog 165 #[.int .i64 k,.pointer (some ⟨pm,0,none⟩),.pointer (some ⟨pr,0,none⟩),.pointer (some ⟨pf,0,none⟩),.pointer (some ⟨pv,0,none⟩)] w fun e w'=>e=.returned (.tuple #[])/\R w':=by
 obtain⟨kl,hkl⟩:=hk;have hlk:=MapIs.look_none key_int underlying143 h.mm hkl hn (z:=.bool false) (by simp[go_sem]) false;obtain⟨w1,hmu,f1,hm1⟩:=MapIs.put_new (v:=.bool true) key_int underlying143 h.mm hkl hn;have h1:=h.putM f1 hm1;have x1:=h.bm.k0;have x2:=h1.br.k0;have H1:=Hd h1;have HN:=Hd hN;clear h h1 hN f1 hm1 hn hkl;obtain⟨jj,hjj,jz0,jz1,jz2⟩:=info_int
 go_enter func165,ntmps165
 go_upto_region 3 with (at_builtin;(with_reducible refine wpList_app_tmp (w:=w1) rfl (.tmp 12) (.tmp 14) 36 rfl 3 jj _ 1 8 underlying36 hjj jz0 jz1 jz2 rfl (by decide) A n c xs rfl H1.out.own 1 1 [.int .i64 k] 3 rfl rfl (by simp[Value.oneCell']) (by unfold maxLen;omega) (by omega) ?_);intro A' c' w2 ho hf hs;have hb2:=H1.out.br.fr hf H1.out.d2.2.1;have e0:w2.cell? ⟨pr,0,none⟩=some (.slice A n c):=hb2.c 0;have e1:=hb2.f 0;have HO:=Hd (An ho (An hf (An hs hb2)));clear ho hf hs hb2)
 obtain⟨w3,hw3⟩:=nmd (w2.setCell ⟨pr,0,none⟩ (.slice A' (n+1) c'));have hb3:BoxN w3 pr 36 #[.slice A' (n+1) c']:=by rw[<-hw3];exact HO.out.2.2.2.setAt 0 _
 have f3:Fr [pr] w2 w3:=by rw[<-hw3];exact (Fq [pr] w2).set (.inl (by simp)) _
 rw[hw3];have hV:=H1.out.putR HO.out.2.1 HO.out.1 HO.out.2.2.1 f3 hb3;have y1:=hV.bf.k0;have y2:=hV.bv.k0;have HC:=Hd (HN.out w3 A' c' hV);unfold visF at y2 HC;unfold nxtF at y1;clear hV f3 hb3 hw3 e0 e1 hlk hmu x1 x2
 go_wp2_with ((go_at_call 107;(with_reducible refine HC.out.mono ?_);rintro e w4 ⟨rfl,hR⟩;have HR:=Hd hR;clear hR))
 go_end0
 exact⟨rfl,HR.out⟩
set_option maxHeartbeats 4000000
def vis (lk:Nat->List LK):Nat->Nat->List Nat->List Nat
 | 0,_,xs=>xs
 | f+1,i,xs=>if i∈xs then xs else (lk i).foldl (fun acc x=>if 0<=x.f then vis lk f x.f.toNat acc else acc) (xs++[i])
def visStep (lk:Nat->List LK) (f:Nat) (acc:List Nat) (x:LK):List Nat:=if 0<=x.f then vis lk f x.f.toNat acc else acc
theorem vis_new {lk:Nat->List LK} {f i:Nat} {xs:List Nat} (h:i ∉ xs):vis lk (f+1) i xs=(lk i).foldl (visStep lk f) (xs++[i]):=by
 rw[vis,if_neg h];rfl
theorem vis_old {lk:Nat->List LK} {f i:Nat} {xs:List Nat} (h:i∈xs):vis lk (f+1) i xs=xs:=by rw[vis,if_pos h]
theorem nodup_le:∀ (n:Nat) (xs:List Nat),xs.Nodup->(∀ x∈xs,x<n)->xs.length<=n
 | 0,xs,_,h=>by
  cases xs with
  | nil=>simp
  | cons a r=>have:=h a (by simp);omega
 | n+1,xs,hd,h=>by
  by_cases hm:n∈xs
  ·have h1:=nodup_le n (xs.erase n) (hd.erase n) (fun x hx=>by
    have h2:=(List.Nodup.mem_erase_iff hd).1 hx;have h3:=h x h2.2;have h4:=h2.1;omega)
   rw[List.length_erase_of_mem hm] at h1;have:0<xs.length:=List.length_pos_of_mem hm;omega
  ·have:=nodup_le n xs hd (fun x hx=>by
    have h3:=h x hx;have:x≠n:=fun e=>hm (e ▸ hx);omega)
   omega
def Idx (n:Nat) (xs:List Nat):Prop:=xs.Nodup/\∀ x∈xs,x<n
theorem Idx.len {n:Nat} {xs:List Nat} (h:Idx n xs):xs.length<=n:=nodup_le n xs h.1 h.2
theorem Idx.snoc {n i:Nat} {xs:List Nat} (h:Idx n xs) (hi:i<n) (hn:i ∉ xs):Idx n (xs++[i]):=by
 refine⟨?_,fun x hx=>?_⟩
 ·rw[List.nodup_append]
  refine⟨h.1,by simp,?_⟩;intro a ha b hb;rw[lms] at hb;subst hb;exact fun e=>hn (e ▸ ha)
 ·rcases List.mem_append.1 hx with hx | hx
  ·exact h.2 x hx
  ·rw[lms] at hx
   omega
def Down (lk:Nat->List LK):Prop:=∀ i,∀ x∈lk i,x.f<(i:Int)
theorem vis_idx {lk:Nat->List LK} {n:Nat} (hd:Down lk):∀ (f i:Nat) (xs:List Nat),Idx n xs->i<n->Idx n (vis lk f i xs)
 | 0,_,xs,h,_=>h
 | f+1,i,xs,h,hi=>by
  by_cases hm:i∈xs
  ·rw[vis_old hm];exact h
  ·rw[vis_new hm]
   have hl:∀ (l:List LK) (ys:List Nat),(∀ x∈l,x.f<(i:Int))->Idx n ys->Idx n (l.foldl (visStep lk f) ys):=by
    intro l
    induction l with
    | nil=>intro ys _ hy;exact hy
    | cons x r ih =>
     intro ys hx hy;rw[List.foldl_cons];refine ih _ (fun z hz=>hx z (by simp[hz])) ?_;unfold visStep;have:=hx x (by simp);split
     ·exact vis_idx hd f _ ys hy (by omega)
     ·exact hy
   exact hl _ _ (hd i) (h.snoc hi hm)
def intsC (xs:List Nat):List Value:=xs.flatMap intC
def seenKV (xs:List Nat):List (Value × Value):=xs.map fun i:Nat=>(.int .i64 (i:Int),.bool true)
theorem seen_mem {xs:List Nat} {i:Nat} (h:i∈xs):(Value.int .i64 (i:Int),Value.bool true)∈seenKV xs:=List.mem_map.2 ⟨i,h,rfl⟩
theorem seen_not {xs:List Nat} {i:Nat} (h:i ∉ xs):∀ p∈seenKV xs,p.1≠.int .i64 (i:Int):=fun p hp he=>by
 obtain⟨j,hj,rfl⟩:=List.mem_map.1 hp;simp only[Value.int.injEq,true_and] at he;have:j=i:=by omega
 exact h (this ▸ hj)
theorem keyOf_nat {i:Nat} (h:i<=1000000):∃ l,keyOf prog 3 (.int .i64 (i:Int))=some l:=keyOf_i64 (wf_int (by omega) (by omega))
def VI (w0 w:World) (pm pr pf pv m pg:Nat) (A:Option Addr) (c:Nat) (xs:List Nat):Prop:=VSt w0 w pm pr pf pv m pg A xs.length c (intsC xs) (seenKV xs)
theorem VI.fr0 {w0 X Y:World} {pm pr pf pv m pg c:Nat} {A:Option Addr} {xs:List Nat} (h:VI w0 X pm pr pf pv m pg A c xs) (hf:Fr [] X Y):VI w0 Y pm pr pf pv m pg A c xs:=VSt.fr0 h hf
def VisPost (w0:World) (pm pr pf pv m pg:Nat) (ys:List Nat) (e:Ending) (w':World):Prop:=e=.returned (.tuple #[])/\∃ A' c',VI w0 w' pm pr pf pv m pg A' c' ys
theorem Next_g (f i n nk:Nat) (lk:Nat->List LK) (w0 w:World) (pm pr pf pv m pg g mw A0 B0 kc c:Nat) (KO:Option Addr) (ks:List Value) (Rl Ru:List LR) (er:List (NE ON Nat)) (A:Option Addr) (xs:List Nat) (hi:i<n) (hn:n<=12) (hlk10:(lk i).length<=10) (hdn:Down lk) (hlk:∀ (k:Nat) (r:LR),Rl[k]?=some r->r.xs=lk k) (hif:i<=f)
 (h:VI w0 w pm pr pf pv m pg A c xs) (hx:Idx n xs) (hg:BoxN w0 pg 111 #[.pointer (some ⟨g,0,none⟩)]) (hd:GS w0 g mw A0 B0 n KO nk kc ks Rl Ru er)
 (hV:∀ v,v<f->v<n->∀ (W:World) (A':Option Addr) (c':Nat) (zs:List Nat),Idx n zs->VI w0 W pm pr pf pv m pg A' c' zs->Calls prog 165 #[.int .i64 (v:Int),.pointer (some ⟨pm,0,none⟩),.pointer (some ⟨pr,0,none⟩),.pointer (some ⟨pf,0,none⟩),.pointer (some ⟨pv,0,none⟩)] W (VisPost w0 pm pr pf pv m pg (vis lk f v zs))) :
 Calls prog 107 #[.int .i64 (i:Int),visF pm pr pf pv,.pointer (some ⟨pg,0,none⟩)] w (VisPost w0 pm pr pf pv m pg ((lk i).foldl (visStep lk f) xs)):=by
 obtain⟨l1,r,l2,hR,hl1,hri⟩:=row_split (rs:=Rl) (k:=i) (by rw[hd.ln.1];exact hi);have hrx:Own w0 98 7 r.A r.xs.length r.c (r.xs.flatMap LK.cs):=hd.rl.own r (lmg hri);have hrl:=hlk i r hri;rw[hrl] at hrx;obtain⟨l,hl⟩:=nmd (lk i);obtain⟨nl,hnl⟩:=nmd (l.length);have hld:=hdn i;rw[hl] at hrx hlk10 hld ⊢;rw[hnl] at hrx hlk10
 have hrc:w0.cell? ⟨A0,i,none⟩=some (.slice r.A nl r.c):=by
  have:=rlb_c hd.rl.box hri
  rwa [hrl,hl,hnl] at this
 have x0:w.cell? ⟨pg,0,none⟩=some (.pointer (some ⟨g,0,none⟩)):=(hg.fr h.f0 (by simp)).c 0;have x1:w.cell? ⟨g,1,none⟩=some (.slice (some ⟨A0,0,none⟩) n n):=(hd.box.fr h.f0 (by simp)).c 1;have x2:w.cell? ⟨A0,i,none⟩=some (.slice r.A nl r.c):=(h.f0.fcell hd.rl.box.lt (by simp) i).trans hrc;clear hrc hrl;obtain⟨RA,rc,rxs⟩:=r;simp only at hrx x2;have hlt3:(i:Int)<(n:Int):=by omega
 have hwi:IntKind.i64.wrap (i:Int)=(i:Int):=by simp only[IntKind.wrap_i64];omega
 have HH:=Hd (An h hx);have HV:=Hd hV;have HDN:=Hd hdn;have HL:=Hd (An hrx (An hnl hld));clear h hx hg hd hV hR hl1 hri hrx hl hnl hld hlk hdn;unfold visF
 go_enter func107,ntmps107
 go_wp2_with fail
 clear x0 x1 x2
 go_loopw [15] (fun ix W=>∃ (q:Nat) (A':Option Addr) (c':Nat) (zs:List Nat),q<=nl/\ix=.int .i64 (q:Int)/\VI w0 W pm pr pf pv m pg A' c' zs/\Idx n zs/\(l.drop q).foldl (visStep lk f) zs=l.foldl (visStep lk f) xs) (fun j _=>nl - (intOf j).toNat)
 case atStart=>exact⟨0,A,c,xs,Nat.zero_le _,rfl,HH.out.1,HH.out.2,rfl⟩
 case round =>
  obtain⟨q,A',c',zs,hq,rfl,hv,hz,hfold⟩:=hrel
  by_cases hql:q<nl
  ·have hlt4:(q:Int)<(nl:Int):=by omega
   obtain⟨y,hy⟩:∃ y,l[q]?=some y:=⟨_,lge (by rw[HL.out.2.1];exact hql)⟩;have hyd:=HL.out.2.2 y (lmg hy);obtain⟨b,rfl,hbc⟩:=Cs.of_own HL.out.1 (by omega);have hcx:=fun o (ho:o<7)=>flat_at lk_len hy ho
   have hdrop:l.drop q=y::l.drop (q+1):=by
    obtain⟨h1,h2⟩:=lgs.1 hy;rw[List.drop_eq_getElem_cons h1,h2]
   rw[hdrop,List.foldl_cons] at hfold;have hbw:=hbc.fr0 hv.f0;obtain⟨yf,yt,yn⟩:=y;obtain⟨so,hso,_,_⟩:=str_of yn.owner;obtain⟨st,hst,_,_⟩:=str_of yn.text;unfold LK.cs at hcx;simp only[hso,hst] at hcx;simp only at hyd;have y0:wr.cell? ⟨b,q*7,none⟩=some (.int .i64 yf):=hbw.2 _ _ (hcx 0 (by omega));have y1:wr.cell? ⟨b,q*7+1,none⟩=some (.int .i64 (yt:Int)):=hbw.2 _ _ (hcx 1 (by omega));have y2:wr.cell? ⟨b,q*7+2,none⟩=some (.int .i64 yn.kind):=hbw.2 _ _ (hcx 2 (by omega));have y3:wr.cell? ⟨b,q*7+3,none⟩=some (.string so):=hbw.2 _ _ (hcx 3 (by omega));have y4:wr.cell? ⟨b,q*7+4,none⟩=some (.int .i64 yn.number):=hbw.2 _ _ (hcx 4 (by omega));have y5:wr.cell? ⟨b,q*7+5,none⟩=some (.int .i64 yn.index):=hbw.2 _ _ (hcx 5 (by omega));have y6:wr.cell? ⟨b,q*7+6,none⟩=some (.string st):=hbw.2 _ _ (hcx 6 (by omega));obtain⟨w1,hw1,n1,f1⟩:=bxn wr #[.int .i64 yf,.int .i64 (yt:Int),.int .i64 yn.kind,.string so,.int .i64 yn.number,.int .i64 yn.index,.string st] 98;have u0:=n1.k0;have HV1:=Hd (An (hv.fr0 f1) (An hz hfold));clear hcx hbw hbc hdrop hso hst hv hz hfold n1 f1 hy
   go_upto_region 3 with fail
   try rw[hw1]
   clear y0 y1 y2 y3 y4 y5 y6 hw1;obtain hneg | hpos:yf<0 \/ 0<=yf:=by omega
   ·have hdc:decide ((0:Int)<=yf)=false:=by simp;omega
    have hstep:visStep lk f zs ⟨yf,yt,yn⟩=zs:=by unfold visStep;rw[if_neg (by simp only;omega)]
    have HS:=Hd hstep;clear hstep
    go_wp2_with fail
    go_roundw
    case rel=>exact⟨q+1,A',c',zs,by omega,by go_num,HV1.out.1,HV1.out.2.1,by have:=HV1.out.2.2;rw[HS.out] at this;exact this⟩
    case measure=>simp[intOf];omega
   ·obtain⟨v,rfl⟩:∃ v:Nat,yf=(v:Int):=⟨yf.toNat,by omega⟩
    have hstep:visStep lk f zs ⟨(v:Int),yt,yn⟩=vis lk f v zs:=by unfold visStep;rw[if_pos (by simp only;omega)];rfl
    have HC:=Hd (HV.out v (by omega) (by omega) w1 A' c' zs HV1.out.2.1 HV1.out.1);have HS:=Hd hstep;clear hstep
    go_wp2_with ((go_at_call 165;(with_reducible refine HC.out.mono ?_);rintro e w2 ⟨rfl,A2,c2,hv2⟩;have H2:=Hd hv2;clear hv2))
    go_roundw
    case rel=>exact⟨q+1,A2,c2,vis lk f v zs,by omega,by go_num,H2.out,vis_idx HDN.out f v zs HV1.out.2.1 (by omega),by have:=HV1.out.2.2;rw[HS.out] at this;exact this⟩
    case measure=>simp[intOf];omega
  ·obtain rfl:q=nl:=by omega
   rw[List.drop_of_length_le (by rw[HL.out.2.1];exact nlr _)] at hfold;have HV1:=Hd (An hv hfold);clear hv hz hfold
   go_wp2_with fail
   go_end0
   refine⟨rfl,A',c',?_⟩;have h2:zs=l.foldl (visStep lk f) xs:=HV1.out.2;rw[<-h2];exact HV1.out.1
theorem vi_snoc {w0 w:World} {pm pr pf pv m pg c:Nat} {A:Option Addr} {xs:List Nat} {v:Nat} (h:VSt w0 w pm pr pf pv m pg A (xs.length+1) c (intsC xs++[.int .i64 (v:Int)]) (seenKV xs++[(.int .i64 (v:Int),.bool true)])):VI w0 w pm pr pf pv m pg A c (xs++[v]):=by
 unfold VI;have h1:(xs++[v]).length=xs.length+1:=by simp
 have h2:intsC (xs++[v])=intsC xs++[.int .i64 (v:Int)]:=by unfold intsC;rw[List.flatMap_append];rfl
 have h3:seenKV (xs++[v])=seenKV xs++[(.int .i64 (v:Int),.bool true)]:=by unfold seenKV;rw[List.map_append];rfl
 rw[h1,h2,h3];exact h
theorem Visit_g (n nk:Nat) (lk:Nat->List LK) (w0:World) (pm pr pf pv m pg g mw A0 B0 kc:Nat) (KO:Option Addr) (ks:List Value) (Rl Ru:List LR) (er:List (NE ON Nat)) (hn:n<=12) (hlk10:∀ i,(lk i).length<=10) (hdn:Down lk) (hlk:∀ (k:Nat) (r:LR),Rl[k]?=some r->r.xs=lk k)
 (hg:BoxN w0 pg 111 #[.pointer (some ⟨g,0,none⟩)]) (hd:GS w0 g mw A0 B0 n KO nk kc ks Rl Ru er):∀ f v,v<f->v<n->∀ (W:World) (A':Option Addr) (c':Nat) (zs:List Nat),Idx n zs->VI w0 W pm pr pf pv m pg A' c' zs->Calls prog 165 #[.int .i64 (v:Int),.pointer (some ⟨pm,0,none⟩),.pointer (some ⟨pr,0,none⟩),.pointer (some ⟨pf,0,none⟩),.pointer (some ⟨pv,0,none⟩)] W (VisPost w0 pm pr pf pv m pg (vis lk f v zs))
 | 0,v,hv,_,_,_,_,_,_,_=>absurd hv (Nat.not_lt_zero v)
 | f+1,v,hv,hvn,W,A',c',zs,hz,hvi=>by
  by_cases hm:v∈zs
  ·rw[vis_old hm]
   obtain⟨kl,hkl⟩:=keyOf_nat (i:=v) (by omega);have hlook:=MapIs.look_some key_int underlying143 hvi.mm hkl (seen_mem hm) false;have x1:=hvi.bm.k0;have H1:=Hd hvi;clear hvi hd hg
   go_enter func165,ntmps165
   go_wp2_with fail
   go_end0
   exact⟨rfl,A',c',H1.out⟩
  ·rw[vis_new hm]
   have hl:=hz.len
   exact Visit_any (v:Int) w0 W pm pr pf pv m pg zs.length c' A' (intsC zs) (seenKV zs) _ hvi (keyOf_nat (by omega)) (seen_not hm) (by omega) fun W2 A2 c2 h2 =>
    Next_g f v n nk lk w0 W2 pm pr pf pv m pg g mw A0 B0 kc c2 KO ks Rl Ru er A2 (zs++[v]) hvn hn (hlk10 v) hdn hlk (by omega) (vi_snoc h2) (hz.snoc hvn hm) hg hd
     (Visit_g n nk lk w0 pm pr pf pv m pg g mw A0 B0 kc KO ks Rl Ru er hn hlk10 hdn hlk hg hd f)
def srt (xs:List Nat):List Nat:=((xs.map fun x:Nat=>(x:Int)).mergeSort fun x y=>decide (x<=y)).map Int.toNat
theorem srt_len (xs:List Nat):(srt xs).length=xs.length:=by unfold srt;rw[List.length_map,List.length_mergeSort,List.length_map]
theorem srt_mem {xs:List Nat}:∀ v∈srt xs,v∈xs:=fun v hv=>by
 unfold srt at hv;obtain⟨z,hz,rfl⟩:=List.mem_map.1 hv;rw[List.mem_mergeSort] at hz;obtain⟨x,hx,rfl⟩:=List.mem_map.1 hz;simpa using hx
theorem intsC_map:∀ xs:List Nat,intsC xs=xs.map fun x:Nat=>(.int .i64 (x:Int):Value)
 | []=>rfl
 | a::r=>by
  have:=intsC_map r;unfold intsC at this ⊢;rw[List.flatMap_cons,this];rfl
theorem intsC_get {xs:List Nat} {j:Nat} {v:Value} (h:(intsC xs)[j]?=some v):∃ x,xs[j]?=some x/\v=.int .i64 (x:Int):=by
 rw[intsC_map,List.getElem?_map] at h
 cases hx:xs[j]? with
 | none=>rw[hx] at h;simp at h
 | some x=>rw[hx] at h;exact⟨x,rfl,by simpa using h.symm⟩
theorem SortI_g (b c:Nat) (xs:List Nat) (w:World) (hn:xs.length<=1000) (h:Own w 3 1 (some ⟨b,0,none⟩) xs.length c (intsC xs)) :
 Calls prog 166 #[.slice (some ⟨b,0,none⟩) xs.length c] w fun e w'=>e=.returned (.tuple #[])/\Cs w' b (intsC (srt xs))/\Fr [b] w w':=by
 have hlt:=h.lt b (by simp[blk]);obtain⟨zs,hzs⟩:=nmd (xs.map (fun x:Nat=>(x:Int)));have hzl:zs.length=xs.length:=by rw[<-hzs,List.length_map]
 have hcs:intsC xs=zs.map (Value.int .i64):=by rw[intsC_map,<-hzs,List.map_map];rfl
 have hH:Go.Sort.Holds (Value.int .i64) w b 0 zs.toArray:=by
  rcases h.2 with ⟨h1,_⟩ | ⟨g,cap,cur,h1,_,hb,_,_,_,ht⟩
  ·simp at h1
  ·injection h1 with h2 _ _
   injection h2 with h3
   injection h3 with h4
   subst h4;refine holds_of_blockI hb ?_;rw[hcs] at ht;rw[hzl];simpa using ht
 rw[<-hzl];refine (Tryz.slices_Sort_int b 0 c zs w hH hlt (by omega)).mono ?_;rintro e w' ⟨rfl,n,os,rfl⟩;obtain⟨ms,hms⟩:=nmd ((zs.mergeSort fun x y=>decide (x<=y)));have hml:ms.length=zs.length:=by rw[<-hms,List.length_mergeSort]
 have hsrt:srt xs=ms.map Int.toNat:=by unfold srt;rw[hzs,hms]
 have hpos:∀ z∈ms,0<=z:=fun z hz=>by
  rw[<-hms,List.mem_mergeSort,<-hzs] at hz;obtain⟨x,_,rfl⟩:=List.mem_map.1 hz;omega
 rw[hms];have hf:Fr [b] w (Go.Sort.grow (Go.Sort.putRow (Value.int .i64) (Go.Sort.ahead w n) b 0 ms.toArray) os):=(Fq [b] w).grown (grownBy_sortedI _) (by simp);have hH2:=Go.Sort.holds_grow (Value.int .i64) _ os b 0 _ (by simpa using hlt) (Go.Sort.holds_putRow (Value.int .i64) (Go.Sort.ahead w n) b 0 _ ms.toArray hH (by simpa using hml));refine⟨rfl,⟨Nat.lt_of_lt_of_le hlt hf.size,fun j v hv=>?_⟩,hf⟩;obtain⟨x,hx,rfl⟩:=intsC_get hv;rw[hsrt,List.getElem?_map] at hx
 cases hm:ms[j]? with
 | none=>rw[hm] at hx;simp at hx
 | some z =>
  rw[hm] at hx;have hx2:z.toNat=x:=by simpa using hx
  have hz0:=hpos z (lmg hm);obtain⟨hj,hje⟩:=lgs.1 hm;have:=(hH2 j (by simpa using hj)).1;rw[Nat.zero_add] at this;rw[this,<-hx2,Int.toNat_of_nonneg hz0];simp[hj,hje]
theorem vis_grow {lk:Nat->List LK}:∀ (f i:Nat) (xs:List Nat),xs.length<=(vis lk f i xs).length
 | 0,_,xs=>nlr _
 | f+1,i,xs=>by
  by_cases hm:i∈xs
  ·rw[vis_old hm];exact nlr _
  ·rw[vis_new hm]
   have hl:∀ (l:List LK) (ys:List Nat),ys.length<=(l.foldl (visStep lk f) ys).length:=by
    intro l
    induction l with
    | nil=>intro ys;exact nlr _
    | cons x r ih =>
     intro ys;rw[List.foldl_cons];refine Nat.le_trans ?_ (ih _);unfold visStep;split
     ·exact vis_grow f _ ys
     ·exact nlr _
   refine Nat.le_trans ?_ (hl _ _);simp
theorem vis_pos {lk:Nat->List LK} {f i:Nat}:1<=(vis lk (f+1) i []).length:=by
 rw[vis_new (by simp)]
 have hl:∀ (l:List LK) (ys:List Nat),ys.length<=(l.foldl (visStep lk f) ys).length:=by
  intro l
  induction l with
  | nil=>intro ys;exact nlr _
  | cons x r ih =>
   intro ys;rw[List.foldl_cons];refine Nat.le_trans ?_ (ih _);unfold visStep;split
   ·exact vis_grow f _ ys
   ·exact nlr _
 exact hl _ [i]
def causL (lk:Nat->List LK) (n i:Nat):List Nat:=srt (vis lk n i [])
theorem causL_idx {lk:Nat->List LK} {n i:Nat} (hd:Down lk) (hi:i<n):(causL lk n i).length<=n/\∀ v∈causL lk n i,v<n:=by
 have h:=vis_idx hd n i [] ⟨by simp,by simp⟩ hi;exact⟨by unfold causL;rw[srt_len];exact h.len,fun v hv=>h.2 v (srt_mem v hv)⟩
theorem Reach_g (b cl pg g n o:Nat) (nk:Nat) (lk:Nat->List LK) (mw A0 B0 kc:Nat) (KO:Option Addr) (ks:List Value) (Rl Ru:List LR) (er:List (NE ON Nat)) (hn:n<=12) (hlk10:∀ i,(lk i).length<=10) (hdn:Down lk) (hlk:∀ (k:Nat) (r:LR),Rl[k]?=some r->r.xs=lk k) (ho:o<n) (w:World) (hb:Cs w b [.int .i64 (o:Int)]) (hg:BoxN w pg 111 #[.pointer (some ⟨g,0,none⟩)]) (hd:GS w g mw A0 B0 n KO nk kc ks Rl Ru er) :
 Calls prog 106 #[.slice (some ⟨b,0,none⟩) 1 cl,nxtF pg] w fun e w'=>∃ r c,e=.returned (.slice (some ⟨r,0,none⟩) (causL lk n o).length c)/\Cs w' r (intsC (causL lk n o))/\Fr [] w w'/\w.heap.size<=r:=by
 have hyl:1<=(vis lk n o []).length:=by
  obtain⟨f,hf⟩:∃ f,n=f+1:=⟨n - 1,by omega⟩;rw[hf];exact vis_pos
 have hyn:=(vis_idx hdn n o [] ⟨by simp,by simp⟩ ho).len;have hvis:=Visit_g n nk lk w;obtain⟨ys,hys⟩:=nmd (vis lk n o []);have hcl:causL lk n o=srt ys:=by unfold causL;rw[hys]
 rw[hcl,srt_len];rw[hys] at hyl hyn;obtain⟨ny,hny⟩:=nmd (ys.length);rw[hny] at hyl hyn ⊢;have HYS:=Hd (An hys hny);have HLK:=Hd (An hn (An hlk10 (An hdn (An hlk ho))));clear hys hcl hny hlk10 hdn hlk hvis;have HB:=Hd hb;have HG:=Hd (An hg hd);clear hb hg hd;unfold nxtF;obtain⟨w1,hw1,n1,f1⟩:=bxn w #[.func (.func 107) #[] #[.pointer (some ⟨pg,0,none⟩)]] 211;have hz1:w1.heap.size=w.heap.size+1:=by rw[<-hw1];simp
 obtain⟨w2,hw2⟩:=nmd (w1.alloc (.map #[] 0));have hz2:w2.heap.size=w.heap.size+1+1:=by rw[<-hw2,wsA,hz1]
 have n2:MapIs prog 3 w2 (w.heap.size+1) []:=by rw[<-hw2,<-hz1];exact MapIs.new w1
 have f2:Fr [] w1 w2:=by rw[<-hw2];exact (Fq [] w1).alloc _
 obtain⟨w3,hw3⟩:=nmd (w2.alloc (.cells #[.map (some (w.heap.size+1))] 143));have hz3:w3.heap.size=w.heap.size+1+1+1:=by rw[<-hw3,wsA,hz2]
 have n3:BoxN w3 (w.heap.size+1+1) 143 #[.map (some (w.heap.size+1))]:=by rw[<-hw3,<-hz2];exact BoxN.new w2 _ _
 have f3:Fr [] w2 w3:=by rw[<-hw3];exact (Fq [] w2).alloc _
 obtain⟨w4,hw4⟩:=nmd (w3.alloc (.cells #[.slice none 0 0] 36));have hz4:w4.heap.size=w.heap.size+1+1+1+1:=by rw[<-hw4,wsA,hz3]
 have n4:BoxN w4 (w.heap.size+1+1+1) 36 #[.slice none 0 0]:=by rw[<-hw4,<-hz3];exact BoxN.new w3 _ _
 have f4:Fr [] w3 w4:=by rw[<-hw4];exact (Fq [] w3).alloc _
 obtain⟨w5,hw5⟩:=nmd (w4.alloc (.cells #[.nilFunc] 130));have hz5:w5.heap.size=w.heap.size+1+1+1+1+1:=by rw[<-hw5,wsA,hz4]
 have n5:BoxN w5 (w.heap.size+1+1+1+1) 130 #[.nilFunc]:=by rw[<-hw5,<-hz4];exact BoxN.new w4 _ _
 have f5:Fr [] w4 w5:=by rw[<-hw5];exact (Fq [] w4).alloc _
 have e0:=n5.k0;have e1:=n5.f 0;have HW:=Hd (An hw1 (An hw2 (An hw3 (An hw4 hw5))));have HNN:=Hd (An ((((n1.fr f2 (by simp)).fr f3 (by simp)).fr f4 (by simp)).fr f5 (by simp)) (An (((n2.fr f3 (by simp)).fr f4 (by simp)).fr f5 (by simp)) (An ((n3.fr f4 (by simp)).fr f5 (by simp)) (An (n4.fr f5 (by simp)) n5))));have HF:=Hd ((((f1.then f2).then f3).then f4).then f5);have HZ:=Hd hz5;clear hw1 hw2 hw3 hw4 hw5 n1 n2 n3 n4 n5 f1 f2 f3 f4 f5 hz1 hz2 hz3 hz4 hz5;have hmk:=run_makeMap (w.alloc (.cells #[.func (.func 107) #[] #[.pointer (some ⟨pg,0,none⟩)]] 211)) 143;rw[wsA] at hmk
 go_enter func106,ntmps106
 go_upto_region 4 with fail
 rw[HW.out.1,HW.out.2.1,HW.out.2.2.1,HW.out.2.2.2.1,HW.out.2.2.2.2]
 go_upto_region 5 with fail
 obtain⟨w6,hw6⟩:=nmd (w5.setCell ⟨w.heap.size+1+1+1+1,0,none⟩ (visF (w.heap.size+1+1) (w.heap.size+1+1+1) w.heap.size (w.heap.size+1+1+1+1)));have n6:BoxN w6 (w.heap.size+1+1+1+1) 130 #[visF (w.heap.size+1+1) (w.heap.size+1+1+1) w.heap.size (w.heap.size+1+1+1+1)]:=by rw[<-hw6];exact HNN.out.2.2.2.2.setAt 0 _
 have f6:Fr [w.heap.size+1+1+1+1] w5 w6:=by rw[<-hw6];exact (Fq _ w5).set (.inl (by simp)) _
 unfold visF at hw6;rw[hw6];have hV:VSt w w6 (w.heap.size+1+1) (w.heap.size+1+1+1) w.heap.size (w.heap.size+1+1+1+1) (w.heap.size+1) pg none 0 0 [] []:=⟨HNN.out.2.2.1.fr f6 (by simp),HNN.out.2.2.2.1.fr f6 (by simp),HNN.out.1.fr f6 (by simp;omega),n6,HNN.out.2.1.fr f6 (by simp),Own.nil _ _ _,by omega,by simp[blk],by simp[blk];omega,HF.out.trans f6 (by simp;omega)⟩;have hx:w6.cell? ⟨b,0,none⟩=some (.int .i64 (o:Int)):=(HB.out.fr0 hV.f0).2 0 _ rfl;have hy:=n6.k0;unfold visF at hy;have hvv:=Visit_g n nk lk w (w.heap.size+1+1) (w.heap.size+1+1+1) w.heap.size (w.heap.size+1+1+1+1) (w.heap.size+1) pg g mw A0 B0 kc KO ks Rl Ru er HLK.out.1 HLK.out.2.1 HLK.out.2.2.1 HLK.out.2.2.2.1 HG.out.1 HG.out.2 n o ho ho w6 none 0 [] ⟨by simp,by simp⟩ hV;rw[HYS.out.1] at hvv;have HV:=Hd hvv;clear hvv;clear hV n6 f6 hw6 e0 e1 hmk
 go_wp2_with fail
 refine wp_loop_rounds 2 ?_;rw[rounds_succ]
 go_wp2_with ((go_at_call 165;(with_reducible refine HV.out.mono ?_);rintro e w7 ⟨rfl,A7,c7,h7⟩;have ho7:=h7.own;obtain⟨r,rfl,hr⟩:=Cs.of_own ho7 (by rw[HYS.out.2];omega);have q0:w7.cell? ⟨w.heap.size+1+1+1,0,none⟩=some (.slice (some ⟨r,0,none⟩) ny c7):=(by rw[<-HYS.out.2];exact h7.br.c 0);have HO7:=Hd ho7;have H7:=Hd h7;clear ho7 h7 hr))
 rw[rounds_succ];have hss:=SortI_g r c7 ys w7 (by rw[HYS.out.2];omega) HO7.out;rw[HYS.out.2] at hss;have HS:=Hd hss;clear hss
 go_wp2_with ((go_at_call 166;(with_reducible refine HS.out.mono ?_);rintro e w8 ⟨rfl,h8,hf8⟩;have q1:w8.cell? ⟨w.heap.size+1+1+1,0,none⟩=some (.slice (some ⟨r,0,none⟩) ny c7):=(by rw[<-HYS.out.2];exact (H7.out.br.fr hf8 (by have:=H7.out.d2.2.1;simpa [blk] using this)).c 0);have H8:=Hd (An h8 hf8);clear h8 hf8))
 go_ret
 have hrs:w.heap.size<=r:=H7.out.d3.2.2 r (by simp[blk]);exact⟨r,c7,rfl,H8.out.1,H7.out.f0.trans H8.out.2 (by simp;exact hrs),hrs⟩
theorem Causes_g (b cl g n o:Nat) (nk:Nat) (lk:Nat->List LK) (mw A0 B0 kc:Nat) (KO:Option Addr) (ks:List Value) (Rl Ru:List LR) (er:List (NE ON Nat)) (hn:n<=12) (hlk10:∀ i,(lk i).length<=10) (hdn:Down lk) (hlk:∀ (k:Nat) (r:LR),Rl[k]?=some r->r.xs=lk k) (ho:o<n) (w:World) (hb:Cs w b [.int .i64 (o:Int)]) (hd:GS w g mw A0 B0 n KO nk kc ks Rl Ru er) (hnk:nk=n) :
 Calls prog 46 #[.pointer (some ⟨g,0,none⟩),.slice (some ⟨b,0,none⟩) 1 cl] w fun e w'=>∃ r c,e=.returned (.tuple #[.slice (some ⟨r,0,none⟩) (causL lk n o).length c,.int .i64 0])/\Cs w' r (intsC (causL lk n o))/\Fr [] w w':=by
 obtain⟨w1,hw1,n1,f1⟩:=bxn w #[.pointer (some ⟨g,0,none⟩)] 111;have x0:=n1.k0;have hd1:=hd.fr0 f1;have h1:=hd1.box;subst hnk;have HC:=Hd (CheckG_g g b cl kc nk o KO _ _ _ w1 ho (by omega) h1 (hb.fr0 f1));have HB:=Hd (hb.fr0 f1);have HN:=Hd (An n1 (An hd1 f1));have HL1:=Hd (An hlk10 (An hdn hlk));have HW:=Hd hw1;clear hlk10 hdn hlk hw1 n1 f1 hd1 h1 hb hd
 go_enter func46,ntmps46
 go_upto_region 1 with fail
 rw[HW.out]
 go_wp2_with (first
  | (go_at_call 105;(with_reducible refine HC.out.mono ?_);rintro e w2 ⟨rfl,hf2⟩;have HR:Hid (Calls prog 106 #[.slice (some ⟨b,0,none⟩) 1 cl,.func (.func 107) #[] #[.pointer (some ⟨w.heap.size,0,none⟩)]] w2 _):=Hd (Reach_g b cl w.heap.size g nk o nk lk mw A0 B0 kc KO ks Rl Ru er hn HL1.out.1 HL1.out.2.1 HL1.out.2.2 ho w2 (HB.out.fr0 hf2) (HN.out.1.fr hf2 (by simp)) (HN.out.2.1.fr0 hf2));have HF2:=Hd hf2;clear hf2)
  | (go_at_call 106;(with_reducible refine HR.out.mono ?_);rintro e w3 ⟨r,c,rfl,hr,hf3,hrs⟩;have H3:=Hd (An hr hf3);clear hr hf3))
 go_ret2
 exact⟨r,c,rfl,H3.out.1,(HN.out.2.2.then HF2.out).then H3.out.2⟩
def rcpt (v:Value):Value:=.agg #[.int .i64 16,.string ⟨#[]⟩,.int .i64 2,.int .i64 0,.string ⟨#[]⟩,.int .i64 1,.int .i64 3,v]
theorem info_proof:∃ i,(prog).info? 53=some i/\i.zero=some (.agg #[.int .i64 0,.int .i64 0,.string ⟨#[]⟩,.slice none 0 0])/\i.size=4/\i.bytes=56:=info_parts (by kernel_rfl)
end Go.Proofs.YtlpmiimgacfmkaaGreatDoor
