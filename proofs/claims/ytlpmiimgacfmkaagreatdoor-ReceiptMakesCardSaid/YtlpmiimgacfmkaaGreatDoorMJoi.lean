/- SHA-256: Join. -/
import Derived.LoopTactic
import Derived.Test.YtlpmiimgacfmkaaGreatDoorMHsh4
set_option linter.all false
namespace Go.Proofs.YtlpmiimgacfmkaaGreatDoor
open Go.Proofs.Tryz
open Go.RowKit
set_option maxRecDepth 100000
set_option maxHeartbeats 4000000
def JoinPost (w:World) (t:Nm) (e:Ending) (w':World):Prop:=e=.returned (.tuple #[encN t,.int .i64 0])/\Fr [] w w'
def JR (w:World) (tag:UInt8) (ps:List Nm) (n:Nat) (v i:Value) (W:World):Prop :=
 ∃ (j:Nat) (A':Option Addr) (c':Nat),j<=n/\i=.int .i64 (j:Int)/\v=.slice A' (2+joinL (ps.take j)) c'/\Own W 5 1 A' (2+joinL (ps.take j)) c' (dCells ([tag,UInt8.ofNat n]++joinP (ps.take j)))/\Fr [] w W/\∀ b∈blk A',w.heap.size<=b
theorem Join_any (tag:UInt8) (A:Option Addr) (n c:Nat) (ps:List Nm) (w:World) (hn:n<=255) (hr:Row w w.heap.size 1 A n (ps.map encN)) (hL:joinL ps<=1099511627776) :
 Calls prog 143 #[.int .u8 (tag.toNat:Int),.slice A n c] w (JoinPost w (joinN tag ps)):=by
 have hlen:ps.length=n:=by have:=hr.1;simpa using this
 have HR:=Hd hr;have HL:=Hd hlen;clear hr hlen
 go_enter func143,ntmps143
 go_wp2_with fail
 go_loop [6,18] (fun s i=>∃ k:Nat,k<=n/\i=.int .i64 (k:Int)/\s=.int .i64 ((2+joinL (ps.take k):Nat):Int)) (fun _ i=>n - (intOf i).toNat)
 case atStart=>exact⟨0,Nat.zero_le _,rfl,rfl⟩
 case round =>
  obtain⟨k,hk,rfl,rfl⟩:=hrel
  by_cases hlt:k<n
  ·obtain⟨b,off,p,s,rfl,hb,hp,hs,hsl,hsz,hc⟩:=HR.out.str hlt
   have hst:=joinL_take hp;have hmo:=joinL_mono ps (k+1);have HST:=Hd hst;have HSZ:=Hd hsz;have hz:s.size<=1099511627776:=by omega
   have hz2:joinL (ps.take k)<=1099511627776:=by omega
   have hlt':(k:Int)<(n:Int):=by omega
   clear hst hp hs hsl hsz hmo
   go_wp2_with fail
   go_round
   case rel=>exact⟨k+1,by omega,by go_num,by rw[HST.out,<-HSZ.out];go_num⟩
   case measure=>simp[intOf];omega
  ·obtain rfl:k=n:=by omega
   have htk:ps.take k=ps:=List.take_of_length_le (by rw[HL.out];exact nlr _);rw[htk];clear htk;obtain⟨C,hC⟩:=nmd (2+joinL ps);rw[hC];have HC:=Hd hC;have hC2:C<=1099511627778:=by omega
   clear hC;obtain⟨ii,hii,iz0,iz1,iz2⟩:=info_u8
   go_wp2_with (first
    | ((with_reducible refine wpList_make_own w rfl (.const (.int .i64 0)) (.tmp 28) 49 rfl 0 5 ii (.int .u8 0) 1 underlying49 hii iz0 iz1 .i64 .i64 (C:Int) C rfl rfl rfl (by rw[iz2];omega) (by unfold maxLen;omega) (Nat.zero_le _) ?_);intro W1 hown1 hg1;have O1:Own W1 5 1 (some ⟨w.heap.size,0,none⟩) 0 C (dCells []):=hown1;have HO1:=Hd O1;have F1:=Hd ((Fq [] w).grown hg1 (by simp));clear hown1 hg1 O1)
    | (at_builtin;(with_reducible refine wpList_app_tmp (w:=W1) rfl (.tmp 30) (.tmp 35) 49 rfl 5 ii (.int .u8 0) 1 1 underlying49 hii iz0 iz1 iz2 rfl (by decide) (some ⟨w.heap.size,0,none⟩) 0 C (dCells []) rfl HO1.out 2 2 [.int .u8 (tag.toNat:Int),.int .u8 (k:Int)] 5 rfl rfl (by simp[Value.oneCell']) (by unfold maxLen;omega) (by omega) ?_);intro A2 c2 W2 h2 f2 s2;have HO2:=Hd h2;have F2:=Hd (F1.out.trans f2 (by simp[blk]));have HS2:=Hd s2;clear h2 f2 s2))
   have hj0:JR w tag ps k (.slice A2 2 c2) (.int .i64 0) W2:=⟨0,A2,c2,by omega,rfl,rfl,(by
    have h:=HO2.out
    have e:dCells []++[Value.int .u8 (tag.toNat:Int),Value.int .u8 (k:Int)]=dCells ([tag,UInt8.ofNat k]++joinP (ps.take 0)):=by
     simp[dCells,joinP];omega
    rw[e] at h
    exact h),F2.out,fun b hb=>by
     rcases HS2.out b hb with h | h
     ·simp[blk] at h;omega
     ·have:=F1.out.size;omega⟩
   have HJ0:=Hd hj0;clear hj0 HO1 HO2 F1 F2 HS2
   go_loopw [9,39] (JR w tag ps k) (fun _ i _=>k - (intOf i).toNat)
   case atStart=>exact HJ0.out
   case round =>
    obtain⟨j,A3,c3,hj,rfl,rfl,hown,hf,hb⟩:=hrel
    by_cases hlt2:j<k
    ·obtain⟨b,off,p,s,rfl,hbb,hp,hs,hsl,hsz,hc⟩:=HR.out.str hlt2
     have hc':=(hf.cell (p:=⟨b,off+j,none⟩) hbb (by simp)).trans hc;have hst:=joinL_take hp;have hsp:=joinP_take hp;have hmo:=joinL_mono ps (j+1);have hz:s.size<=1099511627776:=by omega
     have hz2:joinL (ps.take j)<=1099511627776:=by omega
     obtain⟨N,hN⟩:=nmd (2+joinL (ps.take j));have hN2:N<=1099511627780:=by omega
     rw[hN] at hown ⊢;have HN:=Hd hN;have HST:=Hd hst;have HSP:=Hd hsp;have HSZ:=Hd hsz;have HSL:=Hd hsl;have HOW:=Hd hown;have HF:=Hd hf;have HB:=Hd hb;have hlt3:(j:Int)<(k:Int):=by omega
     clear hst hsp hp hs hsl hsz hmo hc hown hf hb hN
     go_wp2_with (first
      | (at_builtin;(with_reducible refine wpList_app_tmp (w:=wr) rfl (.tmp 45) (.tmp 57) 49 rfl 5 ii (.int .u8 0) 1 1 underlying49 hii iz0 iz1 iz2 rfl (by decide) A3 N c3 _ rfl HOW.out 4 4 [.int .u8 ((s.size:Int) / 16777216 % 256),.int .u8 ((s.size:Int) / 65536 % 256),.int .u8 ((s.size:Int) / 256 % 256),.int .u8 ((s.size:Int) % 256)] 5 rfl rfl (by simp[Value.oneCell']) (by unfold maxLen;omega) (by omega) ?_);intro A4 c4 W4 h4 f4 s4;have HO4:=Hd h4;have F4:=Hd (HF.out.trans f4 (fun x hx=>.inr (HB.out x hx)));have HS4:=Hd s4;have hsz4:=f4.size;clear h4 f4 s4)
      | (at_builtin;(with_reducible refine wpList_app_str (w:=W4) rfl (.tmp 59) (.tmp 60) 49 9 rfl 5 ii underlying49 underlying9 hii iz0 iz1 iz2 A4 (N+4) c4 _ rfl HO4.out s rfl (by unfold maxLen;omega) (by omega) ?_);intro A5 c5 W5 h5 f5 s5;have HO5:=Hd h5;have HS5:=Hd s5;have HF5:=Hd f5;clear h5 f5 s5))
     go_roundw
     case rel =>
      have hw0:∀ x∈blk A4,w.heap.size<=x:=fun x hx=>by
       rcases HS4.out x hx with h | h
       ·exact HB.out x h
       ·have:=HF.out.size;omega
      have eN:N+4+s.size=2+joinL (ps.take (j+1)):=by have:=HN.out;have:=HST.out;have:=HSZ.out;omega
      refine⟨j+1,A5,c5,by omega,by go_num,by rw[eN],?_,F4.out.trans HF5.out (fun x hx=>.inr (hw0 x hx)),fun x hx=>?_⟩
      ·have h:=HO5.out
       rw[eN] at h
       have e:dCells ([tag,UInt8.ofNat k]++joinP (ps.take j))++[Value.int .u8 ((s.size:Int) / 16777216 % 256),.int .u8 ((s.size:Int) / 65536 % 256),.int .u8 ((s.size:Int) / 256 % 256),.int .u8 ((s.size:Int) % 256)]++dCells s.data.toList=dCells ([tag,UInt8.ofNat k]++joinP (ps.take (j+1))):=by
        rw[HSP.out,<-be4_cells,<-dcells_append,<-dcells_append,HSL.out,HSZ.out,List.append_assoc,List.append_assoc]
       rw[e] at h;exact h
      ·rcases HS5.out x hx with h | h
       ·exact hw0 x h
       ·have:=F4.out.size;omega
     case measure=>simp[intOf];omega
    ·obtain rfl:j=k:=by omega
     have htk:ps.take j=ps:=List.take_of_length_le (by rw[HL.out];exact nlr _);rw[htk] at hown ⊢;have hcv:=run_row_str (P:=prog) hown.row 49 5 underlying49 underlying5 9 underlying9 c3;have hjn:[tag,UInt8.ofNat j]++joinP ps=joinN tag ps:=by unfold joinN;rw[HL.out]
     rw[hjn] at hcv;have HF:=Hd hf;clear htk hown hf hb hjn;rw[HC.out] at hcv ⊢
     go_wp2_with fail
     go_ret2
     exact⟨rfl,HF.out⟩
theorem results_cell_mid2 {P:Program} {fn:Func} {p u:Tmp} {ty:TypeId} {tmps:Array Value} {w:World} {b o:Nat} {cs:List Value} {d:TypeDesc} {v:Value} (h:fn.results=#[.cell p ty,.tmp u]) (hp:tmps.getD p undef=.pointer (some ⟨b,o,none⟩)) (hv:tmps.getD u undef=v) (hc:w.rangeAt b o cs) (hu:P.underlying ty=some d) (hd:d.isRow=true) (hi:(P.info? ty).map (·.size)=some cs.length) :
 (results fn tmps).run P w=.ok (.tuple #[.agg cs.toArray,v]) w:=by
 have hp':tmps[p]?.getD undef=.pointer (some ⟨b,o,none⟩):=by rw[<-Array.getD_eq_getD_getElem?];exact hp
 have hv':tmps[u]?.getD undef=v:=by rw[<-Array.getD_eq_getD_getElem?];exact hv
 simp only[results,h];simp[Sem.run_bind,Result.andThen,hp',hv',asAddr,run_loadVar_mid w b o ty cs d hc hu hd hi]
theorem digest_new (w:World):∃ f,(w.alloc (.cells #[.int .u8 0,.int .u8 0,.int .u8 0,.int .u8 0,.int .u8 0,.int .u8 0,.int .u8 0,.int .u8 0,.int .u8 0,.int .u8 0,.int .u8 0,.int .u8 0,.int .u8 0,.int .u8 0,.int .u8 0,.int .u8 0,.int .u8 0,.int .u8 0,.int .u8 0,.int .u8 0,.int .u8 0,.int .u8 0,.int .u8 0,.int .u8 0,.int .u8 0,.int .u8 0,.int .u8 0,.int .u8 0,.int .u8 0,.int .u8 0,.int .u8 0,.int .u8 0] 57)).rowIs w.heap.size 57 32 f:=⟨_,row_new w _ _⟩
def TagPost (w:World) (d:Nm) (e:Ending) (w':World):Prop:=e=.returned (.tuple #[encD d,.int .i64 0])/\Fr [] w w'
theorem Tagged_any (tag:UInt8) (A:Option Addr) (n c:Nat) (ps:List Nm) (w:World) (hok:Ok w) (hn:n<=255) (hr:Row w w.heap.size 1 A n (ps.map encN)) (hL:joinL ps<=1099511627776) :
 Calls prog 151 #[.int .u8 (tag.toNat:Int),.slice A n c] w (TagPost w (shaN (joinN tag ps))):=by
 obtain⟨w1,hw1⟩:=nmd (w.alloc (.cells z32 57));obtain⟨fR,hR⟩:∃ f,w1.rowIs w.heap.size 57 32 f:=by rw[<-hw1];exact digest_new w
 have hF1:Fr [] w w1:=by rw[<-hw1];exact (Fq [] w).alloc _
 have hr1:Row w1 w1.heap.size 1 A n (ps.map encN):=(hr.fr hF1 (nlr _) (by simp)).more hF1.size;have hjl:(joinN tag ps).length<=1152921504606846976:=by unfold joinN;rw[lla,joinP_len];simp;omega
 have HW1:=Hd hw1;have HR:=Hd hR;have HF1:=Hd hF1;have HR1:=Hd hr1;have HJL:=Hd hjl;clear hw1 hR hF1 hr1 hr hjl
 go_enter func151,ntmps151
 go_wp2_with fail
 rw[HW1.out];refine (Join_any tag A n c ps w1 hn HR1.out hL).mono ?_;rintro e w2 ⟨rfl,hf2⟩;have hR2:=rowIs_fr HR.out hf2 (by simp);have hF2:=HF1.out.then hf2;have HR2:=Hd hR2;have HF2:=Hd hF2;clear hf2 hR2 hF2
 go_wp2_with fail
 refine (SumS_any (joinN tag ps) w2 (hok.fr0 HF2.out) HJL.out).mono ?_;rintro e w3 ⟨rfl,hf3⟩;have hR4:=rowIs_fr HR2.out hf3 (by simp);have hst:=store_digest (d:=shaN (joinN tag ps)) hR4 (shaN_len _);have hrd:=row_digest (d:=shaN (joinN tag ps)) hR4 (shaN_len _);obtain⟨w5,hw5⟩:=nmd ((w3).setCells w.heap.size 0 (dCells (shaN (joinN tag ps))));have hF5:Fr [] w w5:=by rw[<-hw5];exact (HF2.out.then hf3).setCells (.inr (nlr _)) _ _
 rw[hw5] at hst hrd;have HRD:=Hd hrd.1;have HF5:=Hd hF5;clear hR4 hrd hF5 hw5 hf3;unfold encD
 go_wp2_with fail
 exact bodyPost_ret (v:=.tuple #[encD (shaN (joinN tag ps)),.int .i64 0]) (results_cell_mid2 (d:=.array 32 5) (p:=4) (u:=5) (ty:=57) (b:=w.heap.size) (o:=0) rfl rfl rfl HRD.out (by kernel_rfl) rfl (by rw[dcells_len,shaN_len];rfl)) rfl ⟨rfl,HF5.out⟩
def leafN (s:Nm):Nm:=shaN (joinN 0 [s])
def nodeN (l r:Nm):Nm:=shaN (joinN 1 [l,r])
theorem Leaf_any (s:Nm) (w:World) (hok:Ok w) (hs:s.length<=1099511627000):Calls prog 90 #[encN s] w (SumPost w (leafN s)):=by
 obtain⟨str,hstr,_,_⟩:=str_of s;obtain⟨w1,hw1⟩:=nmd (w.alloc (.cells z32 57));obtain⟨fR,hR⟩:∃ f,w1.rowIs w.heap.size 57 32 f:=by rw[<-hw1];exact digest_new w
 have hF1:Fr [] w w1:=by rw[<-hw1];exact (Fq [] w).alloc _
 obtain⟨w2,hw2⟩:=nmd (w1.alloc (.cells #[.string str] 9));have hR2:w2.rowIs w.heap.size 57 32 fR:=by rw[<-hw2];exact hR.alloc _
 have hF2:Fr [] w w2:=by rw[<-hw2];exact hF1.alloc _
 have hr2:Row w2 w2.heap.size 1 (some ⟨w1.heap.size,0,none⟩) 1 ([s].map encN):=by
  rw[<-hw2];refine⟨by simp,fun _=>⟨_,0,rfl,by simp,fun j u hu=>?_⟩⟩;have:=new_cells w1 [.string str] 9 j u (by rw[<-hstr];simpa using hu);rw[add_mid'] at this;rw[Nat.zero_add];exact this
 have hs1:w1.heap.size=w.heap.size+1:=by rw[<-hw1,wsA]
 rw[hs1] at hr2;have HW1:=Hd hw1;have HW2:=Hd hw2;have HR2:=Hd hR2;have HF2:=Hd hF2;have HR1:=Hd hr2;rw[hstr];clear hw1 hR hF1 hw2 hR2 hF2 hr2 hstr hs1
 go_enter func90,ntmps90
 go_wp2_with fail
 rw[HW1.out,HW2.out];have hT:=Tagged_any 0 _ 1 1 [s] w2 (hok.fr0 HF2.out) (by omega) HR1.out (by simp[joinL];omega);rw[show (((0:UInt8).toNat:Nat):Int)=0 from rfl] at hT;(with_reducible refine hT.mono ?_);clear hT;rintro e w3 ⟨rfl,hf3⟩;have hl:(shaN (joinN 0 [s]))=leafN s:=rfl;rw[hl];have hl32:(leafN s).length=32:=shaN_len _;clear hl;obtain⟨d,hd⟩:=nmd (leafN s);rw[hd] at hl32 ⊢;have HL32:=Hd hl32;have HD:=Hd hd;clear hl32 hd;have hR3:=rowIs_fr HR2.out hf3 (by simp);have hF3:=HF2.out.then hf3;obtain⟨w4,hw4⟩:=nmd (w3.alloc (.cells z32 57));obtain⟨fD,hD4⟩:∃ f,w4.rowIs w3.heap.size 57 32 f:=by rw[<-hw4];exact digest_new w3
 have hR4:w4.rowIs w.heap.size 57 32 fR:=by rw[<-hw4];exact hR3.alloc _
 have hF4:Fr [] w w4:=by rw[<-hw4];exact hF3.alloc _
 have hDR:w.heap.size≠w3.heap.size:=by have:=hR3.lt;omega
 have hDg:w.heap.size<=w3.heap.size:=hF3.size;have hst:=store_digest (d:=d) hD4 (HL32.out);obtain⟨w5,hw5⟩:=nmd (w4.setCells w3.heap.size 0 (dCells (d)));have hrd:=row_digest (d:=d) hD4 (HL32.out);have hR5:w5.rowIs w.heap.size 57 32 fR:=by rw[<-hw5];exact rowIs_setCells_other hDR _ _ _ hR4
 have hF5:Fr [] w w5:=by rw[<-hw5];exact hF4.setCells (.inr hDg) _ _
 rw[hw5] at hst hrd;rw[<-hw4] at hst;have hst2:=store_digest (d:=d) hR5 (HL32.out);have hrd2:=row_digest (d:=d) hR5 (HL32.out);obtain⟨w6,hw6⟩:=nmd (w5.setCells w.heap.size 0 (dCells (d)));have hF6:Fr [] w w6:=by rw[<-hw6];exact hF5.setCells (.inr (nlr _)) _ _
 rw[hw6] at hst2 hrd2;have HDD:=Hd hrd.1;have HRD:=Hd hrd2.1;have HF6:=Hd hF6;have HW4:=Hd hw4;clear hR3 hF3 hD4 hR4 hF4 hw4 hw5 hw6 hrd hrd2 hR5 hF5 hF6 hf3 hDR hDg;unfold encD;have hcl:(dCells d).length=32:=by rw[dcells_len,HL32.out]
 have hcs:(dCells d).toArray.size=32:=by rw[dcells_size,HL32.out]
 go_wp2_with (first
  | (with_reducible refine wpList_load_mid rfl 57 (.tmp 3) rfl w3.heap.size 0 rfl (dCells d) (.array 32 5) HDD.out (by kernel_rfl) rfl (by rw[hcl];kernel_rfl) ?_))
 exact bodyPost_ret (v:=encD d) (results_cell_mid (d:=.array 32 5) (p:=2) (ty:=57) (b:=w.heap.size) (o:=0) rfl rfl HRD.out (by kernel_rfl) rfl (by rw[hcl];rfl)) rfl ⟨by rw[HD.out],HF6.out⟩
end Go.Proofs.YtlpmiimgacfmkaaGreatDoor
