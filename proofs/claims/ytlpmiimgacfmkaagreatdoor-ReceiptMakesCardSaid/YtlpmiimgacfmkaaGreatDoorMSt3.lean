/- step: a key read. -/
import Derived.Maps.Keyed
import Derived.MapKept
import Derived.DeepKeys4
import Derived.LoopN
import Derived.Test.YtlpmiimgacfmkaaGreatDoorMOb5
import Derived.Test.YtlpmiimgacfmkaaGreatDoorMBase
set_option linter.all false
namespace Go.Proofs.YtlpmiimgacfmkaaGreatDoor
open Go.Proofs.Tryz
open Go.RowKit
set_option maxRecDepth 100000
set_option maxHeartbeats 4000000
def rdKey (r:RS):KY × RS :=
 let n:=rdNum 1073741824 r
 let i:=rdNum 2 n.2
 let j:=rdNum 999999 i.2
 let o:=rdText 16777216 j.2
 (⟨n.1,i.1,j.1,o.1⟩,o.2)
structure KSt (w:World) (c0 c1 b D:Nat) (cs:Array Value) (r:RS) (W:World):Prop where
 rd:RdS c0 c1 b r W
 kb:BoxN W D 89 cs
 zb:BoxN W w.heap.size 89 #[.int .i64 0,.int .i64 0,.int .i64 0,.string ⟨#[]⟩]
 fr:Fr [b] w W
 h1:c1<=w.heap.size
 h2:w.heap.size<D
section
variable {w W W':World} {c0 c1 b D:Nat} {cs cs':Array Value} {r r':RS}
theorem KSt.bb (h:KSt w c0 c1 b D cs r W):c0<=b/\b<c1:=by obtain⟨A,_,h1,h2,_⟩:=h.rd;exact⟨h1,h2⟩
theorem KSt.called (h:KSt w c0 c1 b D cs r W) (hr:RdS c0 c1 b r' W') (hf:Fr [b] W W'):KSt w c0 c1 b D cs r' W':=by
 have hb:=h.bb;have e1:=h.h1;have e2:=h.h2;exact⟨hr,h.kb.fr hf (by simp;omega),h.zb.fr hf (by simp;omega),h.fr.then hf,e1,e2⟩
theorem KSt.set (h:KSt w c0 c1 b D cs r W) (j:Nat) (v:Value) (hn:cs.setIfInBounds j v=cs'):KSt w c0 c1 b D cs' r (W.setCell ⟨D,j,none⟩ v):=by
 have hb:=h.bb;have e1:=h.h1;have e2:=h.h2;have hf:Fr [D] W (W.setCell ⟨D,j,none⟩ v):=(Fq [D] W).set (.inl (by simp)) _;refine⟨h.rd.fr hf (by simp;omega),?_,h.zb.fr hf (by simp;omega),h.fr.set (.inr (by show _<=D;omega)) _,e1,e2⟩;rw[<-hn];exact h.kb.setAt j v
end
theorem readKey_rs (c0 c1 b:Nat) (r:RS) (w:World) (h:RdS c0 c1 b r w) (hc:c1<=w.heap.size) :
 Calls prog 176 #[.pointer (some ⟨b,0,none⟩)] w fun e w'=>e=.returned (encK (rdKey r).1)/\RdS c0 c1 b (rdKey r).2 w'/\Fr [b] w w':=by
 unfold rdKey encK;simp only;obtain⟨str,hstr,_,_⟩:=str_of (rdText 16777216 (rdNum 999999 (rdNum 2 (rdNum 1073741824 r).2).2).2).1;rw[hstr];have HSTR:=Hd hstr;clear hstr;obtain⟨w1,hw1⟩:=nmd (w.alloc (.cells #[.int .i64 0,.int .i64 0,.int .i64 0,.string ⟨#[]⟩] 89));obtain⟨w2,hw2⟩:=nmd (w1.alloc (.cells #[.int .i64 0,.int .i64 0,.int .i64 0,.string ⟨#[]⟩] 89));have hsz:w1.heap.size=w.heap.size+1:=by rw[<-hw1,wsA]
 have hst:KSt w c0 c1 b (w.heap.size+1) #[.int .i64 0,.int .i64 0,.int .i64 0,.string ⟨#[]⟩] r w2:=by
  refine⟨?_,?_,?_,?_,hc,by omega⟩
  ·rw[<-hw2,<-hw1];exact h.fr0 (((Fq [] w).alloc _).alloc _)
  ·rw[<-hw2,<-hsz];exact BoxN.new w1 _ _
  ·rw[<-hw2,<-hw1];exact (BoxN.new w _ _).alloc _
  ·rw[<-hw2,<-hw1];exact ((Fq [b] w).alloc _).alloc _
 have HW1:=Hd hw1;have HW2:=Hd hw2;clear hw1 hw2 hsz h
 go_enter func176,ntmps176
 go_upto_region 2 with fail
 rw[HW1.out,HW2.out];have hT1:=Number_rs hst.rd 1073741824;rw[show (((1073741824:Nat)):Int)=1073741824 from rfl] at hT1;have HT1:=Hd hT1;have HS1:=Hd hst;clear hT1 hst
 go_upto_region 3 with ((go_at_call 50;(with_reducible refine HT1.out.mono ?_);rintro e w7 ⟨rfl,hrd,hf7⟩;have h7:=HS1.out.called hrd hf7;have hfin:=h7.set (cs':=#[.int .i64 (rdNum 1073741824 r).1,.int .i64 0,.int .i64 0,.string ⟨#[]⟩]) 0 (.int .i64 (rdNum 1073741824 r).1) rfl;have dc:=h7.kb.c 0;have df:=h7.kb.f 0;simp only[List.getElem?_toArray,List.getElem?_cons_zero,List.getElem?_cons_succ] at dc;have HFN:=Hd hfin;clear hrd hf7 h7 hfin))
 obtain⟨w8,hw8⟩:=nmd (w7.setCell ⟨w.heap.size+1,0,none⟩ (.int .i64 (rdNum 1073741824 r).1));have hst:=HFN.out;rw[hw8] at hst ⊢;clear hw8 dc df HFN HS1 HT1;have hT2:=Number_rs hst.rd 2;rw[show (((2:Nat)):Int)=2 from rfl] at hT2;have HT2:=Hd hT2;have HS2:=Hd hst;clear hT2 hst
 go_upto_region 4 with ((go_at_call 50;(with_reducible refine HT2.out.mono ?_);rintro e w7 ⟨rfl,hrd,hf7⟩;have h7:=HS2.out.called hrd hf7;have hfin:=h7.set (cs':=#[.int .i64 (rdNum 1073741824 r).1,.int .i64 (rdNum 2 (rdNum 1073741824 r).2).1,.int .i64 0,.string ⟨#[]⟩]) 1 (.int .i64 (rdNum 2 (rdNum 1073741824 r).2).1) rfl;have dc:=h7.kb.c 1;have df:=h7.kb.f 1;simp only[List.getElem?_toArray,List.getElem?_cons_zero,List.getElem?_cons_succ] at dc;have HFN:=Hd hfin;clear hrd hf7 h7 hfin))
 obtain⟨w8,hw8⟩:=nmd (w7.setCell ⟨w.heap.size+1,1,none⟩ (.int .i64 (rdNum 2 (rdNum 1073741824 r).2).1));have hst:=HFN.out;rw[hw8] at hst ⊢;clear hw8 dc df HFN HS2 HT2;have hT3:=Number_rs hst.rd 999999;rw[show (((999999:Nat)):Int)=999999 from rfl] at hT3;have HT3:=Hd hT3;have HS3:=Hd hst;clear hT3 hst
 go_upto_region 5 with ((go_at_call 50;(with_reducible refine HT3.out.mono ?_);rintro e w7 ⟨rfl,hrd,hf7⟩;have h7:=HS3.out.called hrd hf7;have hfin:=h7.set (cs':=#[.int .i64 (rdNum 1073741824 r).1,.int .i64 (rdNum 2 (rdNum 1073741824 r).2).1,.int .i64 (rdNum 999999 (rdNum 2 (rdNum 1073741824 r).2).2).1,.string ⟨#[]⟩]) 2 (.int .i64 (rdNum 999999 (rdNum 2 (rdNum 1073741824 r).2).2).1) rfl;have dc:=h7.kb.c 2;have df:=h7.kb.f 2;simp only[List.getElem?_toArray,List.getElem?_cons_zero,List.getElem?_cons_succ] at dc;have HFN:=Hd hfin;clear hrd hf7 h7 hfin))
 obtain⟨w8,hw8⟩:=nmd (w7.setCell ⟨w.heap.size+1,2,none⟩ (.int .i64 (rdNum 999999 (rdNum 2 (rdNum 1073741824 r).2).2).1));have hst:=HFN.out;rw[hw8] at hst ⊢;clear hw8 dc df HFN HS3 HT3;have hT:=Text_rs hst.rd 16777216;rw[show (((16777216:Nat)):Int)=16777216 from rfl] at hT;rw[HSTR.out] at hT;have HT:=Hd hT;have HS:=Hd hst;clear hT hst
 go_upto_region 6 with ((go_at_call 49;(with_reducible refine HT.out.mono ?_);rintro e w7 ⟨rfl,hrd,hf7⟩;have h7:=HS.out.called hrd hf7;have hfin:=h7.set (cs':=#[.int .i64 (rdNum 1073741824 r).1,.int .i64 (rdNum 2 (rdNum 1073741824 r).2).1,.int .i64 (rdNum 999999 (rdNum 2 (rdNum 1073741824 r).2).2).1,.string str]) 3 (.string str) rfl;have dc:=h7.kb.c 3;have df:=h7.kb.f 3;simp only[List.getElem?_toArray,List.getElem?_cons_zero,List.getElem?_cons_succ] at dc;have HFN:=Hd hfin;clear hrd hf7 h7 hfin))
 obtain⟨w8,hw8⟩:=nmd (w7.setCell ⟨w.heap.size+1,3,none⟩ (.string str));have hst:=HFN.out;rw[hw8] at hst ⊢;clear hw8 dc df HFN HS HT;obtain⟨d0,d1,d2,d3⟩:=hst.kb.m4;obtain⟨y0,y1,y2,y3⟩:=hst.zb.m4;have g0:=hst.zb.f 0;have g1:=hst.zb.f 1;have g2:=hst.zb.f 2;have g3:=hst.zb.f 3;have HS:=Hd hst;clear hst
 go_wp2_with fail
 obtain⟨w9,hw9⟩:=nmd (((((w8.setCell ⟨w.heap.size,0,none⟩ (.int .i64 (rdNum 1073741824 r).1)).setCell ⟨w.heap.size,1,none⟩ (.int .i64 (rdNum 2 (rdNum 1073741824 r).2).1)).setCell ⟨w.heap.size,2,none⟩ (.int .i64 (rdNum 999999 (rdNum 2 (rdNum 1073741824 r).2).2).1)).setCell ⟨w.heap.size,3,none⟩ (.string str)));have hz9:BoxN w9 w.heap.size 89 #[.int .i64 (rdNum 1073741824 r).1,.int .i64 (rdNum 2 (rdNum 1073741824 r).2).1,.int .i64 (rdNum 999999 (rdNum 2 (rdNum 1073741824 r).2).2).1,.string str]:=by rw[<-hw9];exact ((((HS.out.zb.setAt 0 _).setAt 1 _).setAt 2 _).setAt 3 _)
 have hf9:Fr [b] w w9:=by rw[<-hw9];exact ((((HS.out.fr.set (.inr (nlr _)) _).set (.inr (nlr _)) _).set (.inr (nlr _)) _).set (.inr (nlr _)) _)
 have hr9:RdS c0 c1 b (rdText 16777216 (rdNum 999999 (rdNum 2 (rdNum 1073741824 r).2).2).2).2 w9:=by
  rw[<-hw9];refine HS.out.rd.fr (S:=[w.heap.size]) ((((Fq _ w8).set (.inl (by simp)) _).set (.inl (by simp)) _).set (.inl (by simp)) _ |>.set (.inl (by simp)) _) (by simp;omega)
 rw[hw9];obtain⟨t0,t1,t2,t3⟩:=hz9.m4;have HR9:=Hd hr9;have HF9:=Hd hf9;clear hw9 hz9 hr9 hf9;exact bodyPost_ret (v:=.agg #[.int .i64 (rdNum 1073741824 r).1,.int .i64 (rdNum 2 (rdNum 1073741824 r).2).1,.int .i64 (rdNum 999999 (rdNum 2 (rdNum 1073741824 r).2).2).1,.string str]) (by simp[results,results176,go_sem,t0,t1,t2,t3]) rfl ⟨rfl,HR9.out,HF9.out⟩
def checkK (k:KY):Int :=
 if k.rnd<0 \/ 1073741824<k.rnd then 2 else if k.phase<0 \/ 2<k.phase then 11
 else if (k.idx<0 \/ 999999<k.idx) \/ (k.phase=0/\k.idx=0) then 2
 else if k.phase=0 then (if k.lin≠[] then 3 else 0)
 else if k.lin=[] \/ validB k.lin=false then 12
 else if k.phase=2/\k.idx≠0 then 3 else 0
theorem CheckK_any (k:KY) (w:World) (hl:k.lin.length<=140737488355328):Calls prog 169 #[encK k] w (ChkPost w (checkK k)):=by
 obtain⟨r,hr⟩:=nmd (checkK k);rw[hr];unfold checkK at hr;obtain⟨n,i,j,o⟩:=k;unfold encK;simp only at hl hr ⊢;obtain⟨p,hp,hp',hps⟩:=str_of o;rw[hp];obtain⟨w1,hw1,hb1,hf1⟩:=bxn w #[.int .i64 n,.int .i64 i,.int .i64 j,.string p] 89;obtain⟨x0,x1,x2,x3⟩:=hb1.m4;have HF1:=Hd hf1;have HB1:=Hd hb1;have HW1:=Hd hw1;have HR:=Hd hr;have HP:=Hd hp';clear hw1 hf1 hb1 hp hr hp'
 go_enter func169,ntmps169
 go_upto_region 1 with fail
 rw[HW1.out];clear HW1
 by_cases a1:n<0
 ·have e:=HR.out
  rw[if_pos (.inl a1)] at e;subst e;clear HR
  go_wp2_with fail
  go_ret
  exact⟨rfl,HF1.out⟩
 by_cases a2:1073741824<n
 ·have e:=HR.out
  rw[if_pos (.inr a2)] at e;subst e;clear HR
  go_wp2_with fail
  go_ret
  exact⟨rfl,HF1.out⟩
 have e:=HR.out;rw[if_neg (by omega)] at e
 replace HR:=Hd e
 clear e
 go_upto_region 3 with fail
 by_cases b1:i<0
 ·have e:=HR.out
  rw[if_pos (.inl b1)] at e;subst e;clear HR
  go_wp2_with fail
  go_ret
  exact⟨rfl,HF1.out⟩
 by_cases b2:2<i
 ·have e:=HR.out
  rw[if_pos (.inr b2)] at e;subst e;clear HR
  go_wp2_with fail
  go_ret
  exact⟨rfl,HF1.out⟩
 have e:=HR.out;rw[if_neg (by omega)] at e
 replace HR:=Hd e
 clear e
 go_upto_region 5 with fail
 by_cases c1:j<0
 ·have e:=HR.out
  rw[if_pos (.inl (.inl c1))] at e;subst e;clear HR
  go_wp2_with fail
  go_ret
  exact⟨rfl,HF1.out⟩
 by_cases c2:999999<j
 ·have e:=HR.out
  rw[if_pos (.inl (.inr c2))] at e;subst e;clear HR
  go_wp2_with fail
  go_ret
  exact⟨rfl,HF1.out⟩
 by_cases c3:i=0
 ·subst c3
  by_cases c4:j=0
  ·have e:=HR.out
   rw[if_pos (.inr ⟨rfl,c4⟩)] at e;subst e c4;clear HR
   go_wp2_with fail
   go_ret
   exact⟨rfl,HF1.out⟩
  ·have c5:(j == 0)=false:=by simpa using c4
   have e:=HR.out;rw[if_neg (by omega),if_pos rfl] at e;clear HR
   by_cases hx:o=[]
   ·rw[if_neg (by simpa using hx)] at e
    have hx1:p.data.toList=[]:=by rw[HP.out];exact hx
    have hx2:=isEmpty_of_nil hx1;have hx3:p.toList=[]:=by rw[ByteArray.toList_eq];exact hx1
    clear hx hx1 HP;subst e
    go_wp2_with fail
    go_ret
    exact⟨rfl,HF1.out⟩
   ·rw[if_pos hx] at e
    have hx1:p.data.toList≠[]:=by rw[HP.out];exact hx
    have hx2:=isEmpty_of_ne hx1;have hx3:p.toList≠[]:=by rw[ByteArray.toList_eq];exact hx1
    have hx5:(p.toList == [])=false:=by simpa using hx3
    clear hx hx1 HP;subst e
    go_wp2_with fail
    go_ret
    exact⟨rfl,HF1.out⟩
 ·have c5:(i == 0)=false:=by simpa using c3
  have e:=HR.out;rw[if_neg (by omega),if_neg c3] at e
  replace HR:=Hd e
  clear e
  by_cases hx:o=[]
  ·have e:=HR.out
   rw[if_pos (.inl hx)] at e;have hx1:p.data.toList=[]:=by rw[HP.out];exact hx
   have hx2:=isEmpty_of_nil hx1;have hx3:p.toList=[]:=by rw[ByteArray.toList_eq];exact hx1
   clear hx hx1 HP HR;subst e
   go_wp2_with fail
   go_ret
   exact⟨rfl,HF1.out⟩
  ·have hx1:p.data.toList≠[]:=by rw[HP.out];exact hx
   have hx2:=isEmpty_of_ne hx1;have hx3:p.toList≠[]:=by rw[ByteArray.toList_eq];exact hx1
   have hx5:(p.toList == [])=false:=by simpa using hx3
   have hV:=Valid_any p w1 (by omega);rw[HP.out] at hV
   cases hv:validB o with
   | false =>
    have e:=HR.out;rw[if_pos (.inr hv)] at e;rw[hv] at hV;have HV:=Hd hV;clear hV hx hx1 HP HR hv;subst e
    go_wp2_with ((go_at_call 115;(with_reducible refine HV.out.mono ?_);rintro e w3 ⟨rfl,hb3⟩;have HF3:=Hd (HF1.out.then (Fr.of_below hb3));clear hb3))
    go_ret
    exact⟨rfl,HF3.out⟩
   | true =>
    have e:=HR.out;rw[if_neg (by rw[hv];simp[hx])] at e;rw[hv] at hV;have HV:=Hd hV;clear hV hx hx1 HP HR hv
    by_cases d1:i=2
    ·subst d1
     by_cases d2:j=0
     ·rw[if_neg (by simp[d2])] at e
      subst d2;subst e
      go_wp2_with ((go_at_call 115;(with_reducible refine HV.out.mono ?_);rintro e w3 ⟨rfl,hb3⟩;have HF3:=Hd (HF1.out.then (Fr.of_below hb3));have y1:w3.cell? ⟨w.heap.size,1,none⟩=some (.int .i64 2):=(HB1.out.later hb3).c 1;have y2:w3.cell? ⟨w.heap.size,2,none⟩=some (.int .i64 0):=(HB1.out.later hb3).c 2;clear hb3))
      go_ret
      exact⟨rfl,HF3.out⟩
     ·rw[if_pos ⟨rfl,d2⟩] at e
      have d3:(j != 0)=true:=by simpa using d2
      subst e
      go_wp2_with ((go_at_call 115;(with_reducible refine HV.out.mono ?_);rintro e w3 ⟨rfl,hb3⟩;have HF3:=Hd (HF1.out.then (Fr.of_below hb3));have y1:w3.cell? ⟨w.heap.size,1,none⟩=some (.int .i64 2):=(HB1.out.later hb3).c 1;have y2:w3.cell? ⟨w.heap.size,2,none⟩=some (.int .i64 j):=(HB1.out.later hb3).c 2;clear hb3))
      go_ret
      exact⟨rfl,HF3.out⟩
    ·rw[if_neg (by simp[d1])] at e
     have d3:(i == 2)=false:=by simpa using d1
     subst e
     go_wp2_with ((go_at_call 115;(with_reducible refine HV.out.mono ?_);rintro e w3 ⟨rfl,hb3⟩;have HF3:=Hd (HF1.out.then (Fr.of_below hb3));have y1:w3.cell? ⟨w.heap.size,1,none⟩=some (.int .i64 i):=(HB1.out.later hb3).c 1;have y2:w3.cell? ⟨w.heap.size,2,none⟩=some (.int .i64 j):=(HB1.out.later hb3).c 2;clear hb3))
     go_ret
     exact⟨rfl,HF3.out⟩
def MapIs (P:Program) (k:TypeId) (w:World) (r:Nat) (kvs:List (Value × Value)):Prop :=
 ∃ es clock,w.heap[r]?=some (.map es clock)/\MapKept.Stamped es clock/\(∀ x∈es.toList,∃ l,keyOf P k x.key=some l)/\es.toList.map (fun x=>(x.key,x.val))=kvs
section
variable {P:Program} {w w':World} {t k e:TypeId} {r:Nat} {key z v:Value} {kl:Lit} {kvs:List (Value × Value)}
theorem MapIs.at_ (h:MapIs P k w r kvs) (hh:w'.heap[r]?=w.heap[r]?):MapIs P k w' r kvs:=by
 obtain⟨es,clock,h1,h2⟩:=h;exact⟨es,clock,hh.trans h1,h2⟩
theorem MapIs.lt (h:MapIs P k w r kvs):r<w.heap.size:=by
 obtain⟨es,clock,h1,_⟩:=h;exact (Array.getElem?_eq_some_iff.1 h1).1
theorem MapIs.new (w:World):MapIs P k (w.alloc (.map #[] 0)) w.heap.size []:=⟨#[],0,(MapKept.heap_alloc w _).1,MapKept.stamped_empty 0,by simp,rfl⟩
theorem MapIs.look_none (K:Maps.Keyed P k) (ht:P.underlying t=some (.map k e)) (h:MapIs P k w r kvs) (hkey:keyOf P k key=some kl) (hn:∀ p∈kvs,p.1≠key) (hz:(zeroValue e).run P w=.ok z w) (c:Bool) :
 (Instr.lookup t (.map (some r)) key c).run P w=.ok (if c then .tuple #[z,.bool false] else z) w:=by
 obtain⟨es,clock,h1,h2,h3,rfl⟩:=h
 rcases K.find w hkey es.toList h3 with ⟨f1,f2⟩ | ⟨j,e0,f1,f2,f3⟩
 ·simp[Instr.lookup,run_underlying ht,MapKept.run_getObj_map h1,K.check w _ hkey,f1,hz,Result.andThen]
 ·exact absurd f3 (hn _ (List.mem_map.2 ⟨e0,lmg f2,rfl⟩))
theorem MapIs.look_some (K:Maps.Keyed P k) (ht:P.underlying t=some (.map k e)) (h:MapIs P k w r kvs) (hkey:keyOf P k key=some kl) (hm:(key,v)∈kvs) (c:Bool) :
 (Instr.lookup t (.map (some r)) key c).run P w=.ok (if c then .tuple #[v,.bool true] else v) w:=by
 obtain⟨es,clock,h1,h2,h3,rfl⟩:=h;obtain⟨x,hx,he⟩:=List.mem_map.1 hm
 injection he with he1 he2
 rcases K.find w hkey es.toList h3 with ⟨f1,f2⟩ | ⟨j,e0,f1,f2,f3⟩
 ·exact absurd he1 (f2 x hx)
 ·have hv:e0.val=v:=by
   have h0:=lmg f2;have hp:=List.pairwise_map.1 h2.2.2;obtain⟨j2,hj2⟩:=List.mem_iff_getElem?.1 hx
   have hjj:j=j2:=by
    have hnd:=h2.2.2;have a1:(es.toList.map (·.key))[j]?=some key:=by rw[List.getElem?_map,f2,<-f3];rfl
    have a2:(es.toList.map (·.key))[j2]?=some key:=by rw[List.getElem?_map,hj2,<-he1];rfl
    have b1:=(lgs.1 a1);have b2:=(lgs.1 a2);obtain⟨b1l,b1e⟩:=b1;obtain⟨b2l,b2e⟩:=b2;exact (List.getElem_inj hnd).1 (b1e.trans b2e.symm)
   subst hjj;rw[f2] at hj2
   injection hj2 with hj2
   rw[hj2];exact he2
  simp[Instr.lookup,run_underlying ht,MapKept.run_getObj_map h1,K.check w _ hkey,f1,Result.andThen,hv]
theorem MapIs.put_new (K:Maps.Keyed P k) (ht:P.underlying t=some (.map k e)) (h:MapIs P k w r kvs) (hkey:keyOf P k key=some kl) (hn:∀ p∈kvs,p.1≠key) :
 ∃ w',(Instr.mapUpdate t (.map (some r)) key v).run P w=.ok () w'/\Fr [r] w w'/\MapIs P k w' r (kvs++[(key,v)]):=by
 obtain⟨es,clock,h1,h2,h3,rfl⟩:=h
 rcases K.find w hkey es.toList h3 with ⟨f1,f2⟩ | ⟨j,e0,f1,f2,f3⟩
 ·refine⟨{ w with heap:=w.heap.setIfInBounds r (.map (es.push { key:=key,val:=v,born:=clock }) (clock+1)) },by simp[Instr.mapUpdate,run_underlying ht,MapKept.run_getObj_map h1,K.check w _ hkey,f1,MapKept.run_setObj_map _ h1,Result.andThen],⟨rfl,rfl,rfl,by simp,fun j _ hj=>(MapKept.heap_set h1).2 j (by simpa using hj)⟩,_,_,(MapKept.heap_set h1).1,MapKept.stamped_push h2 f2,?_,?_⟩
  ·intro x hx
   simp only[Array.toList_push,List.mem_append,lms] at hx
   rcases hx with hx | rfl
   ·exact h3 x hx
   ·exact⟨kl,hkey⟩
  ·simp
 ·exact absurd f3 (hn _ (List.mem_map.2 ⟨e0,lmg f2,rfl⟩))
end
section
variable {P:Program} {w w':World} {k:TypeId} {r:Nat} {S:List Nat} {kvs:List (Value × Value)}
theorem MapIs.fr (h:MapIs P k w r kvs) (hf:Fr S w w') (hS:r ∉ S):MapIs P k w' r kvs:=h.at_ (hf.block r h.lt hS)
end
theorem key_name:Maps.Keyed prog 31:=Maps.Keyed.of_law (deep_law (m:=4) (by omega) (by kernel_rfl) (by kernel_rfl) (by kernel_rfl))
theorem key_part:Maps.Keyed prog 270:=Maps.Keyed.of_law (deep_law (m:=4) (by omega) (by kernel_rfl) (by kernel_rfl) (by kernel_rfl))
theorem key_int:Maps.Keyed prog 3:=Maps.int_keyed (q:=.i64) underlying3
def portV (i:Int):Value:=.agg #[.int .i64 16,.string ⟨#[]⟩,.int .i64 i,.int .i64 0,.string ⟨#[]⟩]
theorem keyOf_port1:∃ l,keyOf prog 31 (portV 1)=some l:=Option.isSome_iff_exists.1 (by kernel_rfl)
theorem keyOf_port2:∃ l,keyOf prog 31 (portV 2)=some l:=Option.isSome_iff_exists.1 (by kernel_rfl)
def partV (i j:Int):Value:=.agg #[.int .i64 i,.int .i64 j]
theorem keyOf_int0:∃ l,keyOf prog 3 (.int .i64 0)=some l:=Option.isSome_iff_exists.1 (by kernel_rfl)
def Cs (w:World) (b:Nat) (xs:List Value):Prop:=b<w.heap.size/\∀ j v,xs[j]?=some v->w.cell? ⟨b,j,none⟩=some v
section
variable {w w':World} {b:Nat} {xs:List Value} {S:List Nat}
theorem Cs.fr (h:Cs w b xs) (hf:Fr S w w') (hb:b ∉ S):Cs w' b xs:=⟨Nat.lt_of_lt_of_le h.1 hf.size,fun j v hv=>(hf.fcell h.1 hb j).trans (h.2 j v hv)⟩
theorem Cs.fr0 (h:Cs w b xs) (hf:Fr [] w w'):Cs w' b xs:=h.fr hf (by simp)
theorem Cs.of_box {t:TypeId} {cs:Array Value} (h:BoxN w b t cs):Cs w b cs.toList:=⟨h.lt,fun j v hv=>by rw[h.c j];simpa using hv⟩
theorem Cs.of_own {e:TypeId} {size n c:Nat} {A:Option Addr} (h:Own w e size A n c xs) (hn:0<n):∃ g,A=some ⟨g,0,none⟩/\Cs w g xs:=by
 obtain⟨b,off,e1,hlt,hc⟩:=h.row.2 hn
 rcases h.2 with ⟨h1,h2⟩ | ⟨g,cap,cur,h1,_⟩
 ·omega
 ·injection h1 with h1
  rw[e1] at h1
  injection h1 with h1
  injection h1 with h1 h2
  subst h1 h2;exact⟨b,e1,hlt,fun j v hv=>by have:=hc j v hv;rw[Nat.zero_add] at this;exact this⟩
end
def portN (i:Int):ON:=⟨16,[],i,0,[]⟩
def chC (i:Int) (v:ByteArray) (a:Bool):List Value:=[.int .i64 16,.string ⟨#[]⟩,.int .i64 i,.int .i64 0,.string ⟨#[]⟩,.string v,.bool a]
structure Good (i:Int) (v:ByteArray) (a:Bool):Prop where
 ck:checkO (portN i)=0
 le:v.size<=65536
 ab:a=true->v=⟨#[]⟩
 ir:0<=i/\i<=1000
theorem good2:Good 2 ⟨#[121,122]⟩ false:=⟨by decide,by decide,by simp,by omega⟩
inductive CL
 | nil
 | one (i:Int) (v:ByteArray) (a:Bool)
def CL.len:CL->Nat
 | .nil=>0
 | .one _ _ _=>1
def CLat (w:World) (A:Option Addr):CL->Prop
 | .nil=>True
 | .one i v a=>∃ b,A=some ⟨b,0,none⟩/\Cs w b (chC i v a)
def CL.sl (l:CL) (A:Option Addr) (c:Nat):Value:=.slice A l.len c
structure AC where
 t:Int
 r:CL
 w:CL
def AC.k (a:AC):KY:=⟨a.t,0,a.t,[]⟩
theorem Cs.k0 {W : World} {b : Nat} {v0 : Value} {l : List Value} (h : Cs W b (v0 :: l)) : W.cell? ⟨b, 0, none⟩ = some v0 := h.2 0 _ rfl
theorem Cs.k1 {W : World} {b : Nat} {v0 v1 : Value} {l : List Value} (h : Cs W b (v0 :: v1 :: l)) : W.cell? ⟨b, 1, none⟩ = some v1 := h.2 1 _ rfl
theorem Cs.k2 {W : World} {b : Nat} {v0 v1 v2 : Value} {l : List Value} (h : Cs W b (v0 :: v1 :: v2 :: l)) : W.cell? ⟨b, 2, none⟩ = some v2 := h.2 2 _ rfl
theorem Cs.k3 {W : World} {b : Nat} {v0 v1 v2 v3 : Value} {l : List Value} (h : Cs W b (v0 :: v1 :: v2 :: v3 :: l)) : W.cell? ⟨b, 3, none⟩ = some v3 := h.2 3 _ rfl
theorem Cs.k4 {W : World} {b : Nat} {v0 v1 v2 v3 v4 : Value} {l : List Value} (h : Cs W b (v0 :: v1 :: v2 :: v3 :: v4 :: l)) : W.cell? ⟨b, 4, none⟩ = some v4 := h.2 4 _ rfl
theorem Cs.k5 {W : World} {b : Nat} {v0 v1 v2 v3 v4 v5 : Value} {l : List Value} (h : Cs W b (v0 :: v1 :: v2 :: v3 :: v4 :: v5 :: l)) : W.cell? ⟨b, 5, none⟩ = some v5 := h.2 5 _ rfl
theorem Cs.k6 {W : World} {b : Nat} {v0 v1 v2 v3 v4 v5 v6 : Value} {l : List Value} (h : Cs W b (v0 :: v1 :: v2 :: v3 :: v4 :: v5 :: v6 :: l)) : W.cell? ⟨b, 6, none⟩ = some v6 := h.2 6 _ rfl
theorem Cs.k7 {W : World} {b : Nat} {v0 v1 v2 v3 v4 v5 v6 v7 : Value} {l : List Value} (h : Cs W b (v0 :: v1 :: v2 :: v3 :: v4 :: v5 :: v6 :: v7 :: l)) : W.cell? ⟨b, 7, none⟩ = some v7 := h.2 7 _ rfl
theorem Cs.k8 {W : World} {b : Nat} {v0 v1 v2 v3 v4 v5 v6 v7 v8 : Value} {l : List Value} (h : Cs W b (v0 :: v1 :: v2 :: v3 :: v4 :: v5 :: v6 :: v7 :: v8 :: l)) : W.cell? ⟨b, 8, none⟩ = some v8 := h.2 8 _ rfl
theorem Cs.k9 {W : World} {b : Nat} {v0 v1 v2 v3 v4 v5 v6 v7 v8 v9 : Value} {l : List Value} (h : Cs W b (v0 :: v1 :: v2 :: v3 :: v4 :: v5 :: v6 :: v7 :: v8 :: v9 :: l)) : W.cell? ⟨b, 9, none⟩ = some v9 := h.2 9 _ rfl
theorem Cs.k10 {W : World} {b : Nat} {v0 v1 v2 v3 v4 v5 v6 v7 v8 v9 v10 : Value} {l : List Value} (h : Cs W b (v0 :: v1 :: v2 :: v3 :: v4 :: v5 :: v6 :: v7 :: v8 :: v9 :: v10 :: l)) : W.cell? ⟨b, 10, none⟩ = some v10 := h.2 10 _ rfl
theorem Cs.k11 {W : World} {b : Nat} {v0 v1 v2 v3 v4 v5 v6 v7 v8 v9 v10 v11 : Value} {l : List Value} (h : Cs W b (v0 :: v1 :: v2 :: v3 :: v4 :: v5 :: v6 :: v7 :: v8 :: v9 :: v10 :: v11 :: l)) : W.cell? ⟨b, 11, none⟩ = some v11 := h.2 11 _ rfl
theorem Cs.m2 {W : World} {b : Nat} {v0 v1 : Value} {l : List Value} (h : Cs W b (v0 :: v1 :: l)) : W.cell? ⟨b, 0, none⟩ = some v0 /\ W.cell? ⟨b, 1, none⟩ = some v1 := ⟨h.2 0 _ rfl, h.2 1 _ rfl⟩
theorem Cs.m3 {W : World} {b : Nat} {v0 v1 v2 : Value} {l : List Value} (h : Cs W b (v0 :: v1 :: v2 :: l)) : W.cell? ⟨b, 0, none⟩ = some v0 /\ W.cell? ⟨b, 1, none⟩ = some v1 /\ W.cell? ⟨b, 2, none⟩ = some v2 := ⟨h.2 0 _ rfl, h.2 1 _ rfl, h.2 2 _ rfl⟩
theorem Cs.m4 {W : World} {b : Nat} {v0 v1 v2 v3 : Value} {l : List Value} (h : Cs W b (v0 :: v1 :: v2 :: v3 :: l)) : W.cell? ⟨b, 0, none⟩ = some v0 /\ W.cell? ⟨b, 1, none⟩ = some v1 /\ W.cell? ⟨b, 2, none⟩ = some v2 /\ W.cell? ⟨b, 3, none⟩ = some v3 := ⟨h.2 0 _ rfl, h.2 1 _ rfl, h.2 2 _ rfl, h.2 3 _ rfl⟩
theorem Cs.m5 {W : World} {b : Nat} {v0 v1 v2 v3 v4 : Value} {l : List Value} (h : Cs W b (v0 :: v1 :: v2 :: v3 :: v4 :: l)) : W.cell? ⟨b, 0, none⟩ = some v0 /\ W.cell? ⟨b, 1, none⟩ = some v1 /\ W.cell? ⟨b, 2, none⟩ = some v2 /\ W.cell? ⟨b, 3, none⟩ = some v3 /\ W.cell? ⟨b, 4, none⟩ = some v4 := ⟨h.2 0 _ rfl, h.2 1 _ rfl, h.2 2 _ rfl, h.2 3 _ rfl, h.2 4 _ rfl⟩
theorem Cs.m6 {W : World} {b : Nat} {v0 v1 v2 v3 v4 v5 : Value} {l : List Value} (h : Cs W b (v0 :: v1 :: v2 :: v3 :: v4 :: v5 :: l)) : W.cell? ⟨b, 0, none⟩ = some v0 /\ W.cell? ⟨b, 1, none⟩ = some v1 /\ W.cell? ⟨b, 2, none⟩ = some v2 /\ W.cell? ⟨b, 3, none⟩ = some v3 /\ W.cell? ⟨b, 4, none⟩ = some v4 /\ W.cell? ⟨b, 5, none⟩ = some v5 := ⟨h.2 0 _ rfl, h.2 1 _ rfl, h.2 2 _ rfl, h.2 3 _ rfl, h.2 4 _ rfl, h.2 5 _ rfl⟩
theorem Cs.m7 {W : World} {b : Nat} {v0 v1 v2 v3 v4 v5 v6 : Value} {l : List Value} (h : Cs W b (v0 :: v1 :: v2 :: v3 :: v4 :: v5 :: v6 :: l)) : W.cell? ⟨b, 0, none⟩ = some v0 /\ W.cell? ⟨b, 1, none⟩ = some v1 /\ W.cell? ⟨b, 2, none⟩ = some v2 /\ W.cell? ⟨b, 3, none⟩ = some v3 /\ W.cell? ⟨b, 4, none⟩ = some v4 /\ W.cell? ⟨b, 5, none⟩ = some v5 /\ W.cell? ⟨b, 6, none⟩ = some v6 := ⟨h.2 0 _ rfl, h.2 1 _ rfl, h.2 2 _ rfl, h.2 3 _ rfl, h.2 4 _ rfl, h.2 5 _ rfl, h.2 6 _ rfl⟩
theorem Cs.m8 {W : World} {b : Nat} {v0 v1 v2 v3 v4 v5 v6 v7 : Value} {l : List Value} (h : Cs W b (v0 :: v1 :: v2 :: v3 :: v4 :: v5 :: v6 :: v7 :: l)) : W.cell? ⟨b, 0, none⟩ = some v0 /\ W.cell? ⟨b, 1, none⟩ = some v1 /\ W.cell? ⟨b, 2, none⟩ = some v2 /\ W.cell? ⟨b, 3, none⟩ = some v3 /\ W.cell? ⟨b, 4, none⟩ = some v4 /\ W.cell? ⟨b, 5, none⟩ = some v5 /\ W.cell? ⟨b, 6, none⟩ = some v6 /\ W.cell? ⟨b, 7, none⟩ = some v7 := ⟨h.2 0 _ rfl, h.2 1 _ rfl, h.2 2 _ rfl, h.2 3 _ rfl, h.2 4 _ rfl, h.2 5 _ rfl, h.2 6 _ rfl, h.2 7 _ rfl⟩
theorem Cs.m9 {W : World} {b : Nat} {v0 v1 v2 v3 v4 v5 v6 v7 v8 : Value} {l : List Value} (h : Cs W b (v0 :: v1 :: v2 :: v3 :: v4 :: v5 :: v6 :: v7 :: v8 :: l)) : W.cell? ⟨b, 0, none⟩ = some v0 /\ W.cell? ⟨b, 1, none⟩ = some v1 /\ W.cell? ⟨b, 2, none⟩ = some v2 /\ W.cell? ⟨b, 3, none⟩ = some v3 /\ W.cell? ⟨b, 4, none⟩ = some v4 /\ W.cell? ⟨b, 5, none⟩ = some v5 /\ W.cell? ⟨b, 6, none⟩ = some v6 /\ W.cell? ⟨b, 7, none⟩ = some v7 /\ W.cell? ⟨b, 8, none⟩ = some v8 := ⟨h.2 0 _ rfl, h.2 1 _ rfl, h.2 2 _ rfl, h.2 3 _ rfl, h.2 4 _ rfl, h.2 5 _ rfl, h.2 6 _ rfl, h.2 7 _ rfl, h.2 8 _ rfl⟩
theorem Cs.m10 {W : World} {b : Nat} {v0 v1 v2 v3 v4 v5 v6 v7 v8 v9 : Value} {l : List Value} (h : Cs W b (v0 :: v1 :: v2 :: v3 :: v4 :: v5 :: v6 :: v7 :: v8 :: v9 :: l)) : W.cell? ⟨b, 0, none⟩ = some v0 /\ W.cell? ⟨b, 1, none⟩ = some v1 /\ W.cell? ⟨b, 2, none⟩ = some v2 /\ W.cell? ⟨b, 3, none⟩ = some v3 /\ W.cell? ⟨b, 4, none⟩ = some v4 /\ W.cell? ⟨b, 5, none⟩ = some v5 /\ W.cell? ⟨b, 6, none⟩ = some v6 /\ W.cell? ⟨b, 7, none⟩ = some v7 /\ W.cell? ⟨b, 8, none⟩ = some v8 /\ W.cell? ⟨b, 9, none⟩ = some v9 := ⟨h.2 0 _ rfl, h.2 1 _ rfl, h.2 2 _ rfl, h.2 3 _ rfl, h.2 4 _ rfl, h.2 5 _ rfl, h.2 6 _ rfl, h.2 7 _ rfl, h.2 8 _ rfl, h.2 9 _ rfl⟩
theorem Cs.m11 {W : World} {b : Nat} {v0 v1 v2 v3 v4 v5 v6 v7 v8 v9 v10 : Value} {l : List Value} (h : Cs W b (v0 :: v1 :: v2 :: v3 :: v4 :: v5 :: v6 :: v7 :: v8 :: v9 :: v10 :: l)) : W.cell? ⟨b, 0, none⟩ = some v0 /\ W.cell? ⟨b, 1, none⟩ = some v1 /\ W.cell? ⟨b, 2, none⟩ = some v2 /\ W.cell? ⟨b, 3, none⟩ = some v3 /\ W.cell? ⟨b, 4, none⟩ = some v4 /\ W.cell? ⟨b, 5, none⟩ = some v5 /\ W.cell? ⟨b, 6, none⟩ = some v6 /\ W.cell? ⟨b, 7, none⟩ = some v7 /\ W.cell? ⟨b, 8, none⟩ = some v8 /\ W.cell? ⟨b, 9, none⟩ = some v9 /\ W.cell? ⟨b, 10, none⟩ = some v10 := ⟨h.2 0 _ rfl, h.2 1 _ rfl, h.2 2 _ rfl, h.2 3 _ rfl, h.2 4 _ rfl, h.2 5 _ rfl, h.2 6 _ rfl, h.2 7 _ rfl, h.2 8 _ rfl, h.2 9 _ rfl, h.2 10 _ rfl⟩
theorem Cs.m12 {W : World} {b : Nat} {v0 v1 v2 v3 v4 v5 v6 v7 v8 v9 v10 v11 : Value} {l : List Value} (h : Cs W b (v0 :: v1 :: v2 :: v3 :: v4 :: v5 :: v6 :: v7 :: v8 :: v9 :: v10 :: v11 :: l)) : W.cell? ⟨b, 0, none⟩ = some v0 /\ W.cell? ⟨b, 1, none⟩ = some v1 /\ W.cell? ⟨b, 2, none⟩ = some v2 /\ W.cell? ⟨b, 3, none⟩ = some v3 /\ W.cell? ⟨b, 4, none⟩ = some v4 /\ W.cell? ⟨b, 5, none⟩ = some v5 /\ W.cell? ⟨b, 6, none⟩ = some v6 /\ W.cell? ⟨b, 7, none⟩ = some v7 /\ W.cell? ⟨b, 8, none⟩ = some v8 /\ W.cell? ⟨b, 9, none⟩ = some v9 /\ W.cell? ⟨b, 10, none⟩ = some v10 /\ W.cell? ⟨b, 11, none⟩ = some v11 := ⟨h.2 0 _ rfl, h.2 1 _ rfl, h.2 2 _ rfl, h.2 3 _ rfl, h.2 4 _ rfl, h.2 5 _ rfl, h.2 6 _ rfl, h.2 7 _ rfl, h.2 8 _ rfl, h.2 9 _ rfl, h.2 10 _ rfl, h.2 11 _ rfl⟩
def RetPost (w:World) (v:Value) (e:Ending) (w':World):Prop:=e=.returned v/\Fr [] w w'
theorem Written_any (a w:World) (b:Nat) (bs:Nm) (hws:WrS a b bs w) (hL:bs.length<=70368744177600):Calls prog 123 #[.pointer (some ⟨b,0,none⟩)] w (RetPost w (.tuple #[encN bs,.int .i64 0])):=by
 go_enter func123,ntmps123
 go_wp2_with ((go_at_call 58;(with_reducible refine (Bytes_ws hws hL).mono ?_);rintro e w6 ⟨A',c',rfl,ho6,hf6,_⟩;have hcv:=run_row_str ho6.row 49 5 underlying49 underlying5 9 underlying9 c';have HFF:=Hd hf6;clear ho6 hf6))
 go_ret2
 exact⟨rfl,HFF.out⟩
def encCL (bs:Nm):CL->Nm
 | .nil=>bs++encU 0
 | .one i v a=>(((bs++encU 1)++encT (encOn (portN i)))++[flagB a])++encT v.data.toList
def encA (a:AC):Nm:=encCL (encCL (([]:Nm)++encKey a.k) a.r) a.w
theorem run_index2 (w:World) (x y v:Value) (i:Nat) (hi:i<2) (hv:(#[x,y]:Array Value)[i]?=some v):(Instr.index 231 (.agg #[x,y]) (.int .i64 (i:Int))).run prog w=.ok v w :=
 run_index_agg w 231 62 2 #[x,y] .i64 i v underlying231 (fun w=>by simp[go_sem]) (fun w=>by simp[go_sem]) hi hv
end Go.Proofs.YtlpmiimgacfmkaaGreatDoor
