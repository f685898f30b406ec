/- object: Decode. -/
import Derived.Lib.ConvBytes
import Derived.Test.YtlpmiimgacfmkaaGreatDoorMOb3
import Derived.Test.YtlpmiimgacfmkaaGreatDoorMShelf1
set_option linter.all false
namespace Go.Proofs.YtlpmiimgacfmkaaGreatDoor
open Go.Proofs.Tryz
open Go.RowKit
set_option maxRecDepth 100000
set_option maxHeartbeats 4000000
theorem str_row (s:ByteArray) (w:World):∃ cap w',(convert 9 49 (.string s)).run prog w=.ok (.slice (some ⟨w.heap.size,0,none⟩) s.size cap) w'/\Fr [] w w'/\Row w' w'.heap.size 1 (some ⟨w.heap.size,0,none⟩) s.size (dCells s.data.toList):=by
 refine⟨_,_,Lib.run_convert_string_bytes w 9 49 5 s underlying9 underlying49 underlying5,?_,?_⟩
 ·exact⟨rfl,rfl,rfl,by rw[Lib.bytesWorld_size];omega,fun k hk _=>Lib.bytesWorld_at_old w _ s k hk⟩
 ·refine⟨by rw[dcells_len,<-len_data];omega,fun _=>⟨_,0,rfl,by rw[Lib.bytesWorld_size];omega,fun j u hu=>?_⟩⟩
  have hj:j<s.size:=by
   have:=(lgs.1 hu).1;rw[dcells_len,<-len_data] at this;exact this
  rw[Nat.zero_add];refine (Lib.bytesWorld_cell w _ s j hj).trans ?_;rw[<-hu];unfold dCells;have hj2:j<s.data.toList.length:=by rw[<-len_data];exact hj
  rw[List.getElem?_map,lge hj2,List.getD_eq_getElem?_getD,lge hj2];rfl
theorem numR_le (m:Nat) (l:Nm) (h:(numR m l).2.2=0):0<=(numR m l).1/\(numR m l).1<=(m:Int):=by
 unfold numR at h ⊢;simp only at h ⊢;split at h
 ·simp at h
 ·rename_i hx
  refine⟨by omega,?_⟩;have:¬ m<(parseN l).1:=fun hm=>hx ⟨h,hm⟩;omega
theorem rdNum_le (m:Nat) (r:RS):0<=(rdNum m r).1/\(rdNum m r).1<=(m:Int):=by
 unfold rdNum rstep;split
 ·simp
 ·split
  ·simp
  ·rename_i h
   exact numR_le m r.l (by simpa using h)
theorem rdText_len (m:Nat) (r:RS):(rdText m r).1.length<=16777216:=by
 unfold rdText rstep;split
 ·simp
 ·split
  ·simp
  ·unfold textR
   split
   ·simp
   ·split
    ·simp
    ·split
     ·simp
     ·rename_i h _
      have:=List.length_take_le (parseN r.l).1 (r.l.drop (parseN r.l).2.1);simp only[not_or] at h
      show ((r.l.drop (parseN r.l).2.1).take (parseN r.l).1).length<=_
      omega
def decF (u:Usage) (k:Int) (r0:RS):ON × RS :=
 let o:=if u.owner then rdText 16777216 r0 else ([],r0)
 let n:=if u.number then rdNum 1073741824 o.2 else (0,o.2)
 let i:=if u.index then rdNum u.most.toNat n.2 else (0,n.2)
 let t:=if u.text then rdText 32 i.2 else ([],i.2)
 (⟨k,o.1,n.1,i.1,t.1⟩,t.2)
def decN (s:Nm):ON × RS:=decF (us (rdNum 20 ⟨s,0,0⟩).1.toNat) (rdNum 20 ⟨s,0,0⟩).1 (rdNum 20 ⟨s,0,0⟩).2
def onZ:ON:=⟨0,[],0,0,[]⟩
def decO (s:Nm):ON × Int:=if rdClose (decN s).2≠0 \/ checkO (decN s).1≠0 then (onZ,3) else ((decN s).1,0)
def zC:Array Value:=#[.int .i64 0,.string ⟨#[]⟩,.int .i64 0,.int .i64 0,.string ⟨#[]⟩]
structure DSt (w:World) (c0 c1 b D U:Nat) (uc:Array Value) (nm:ON) (r:RS) (W:World):Prop where
 rd:RdS c0 c1 b r W
 nmb:BoxN W D 31 nm.cells.toArray
 ub:BoxN W U 216 uc
 zb:BoxN W w.heap.size 31 zC
 fr:Fr [] w W
 h0:w.heap.size<c0
 h1:c1<=D
 h2:D<U
section
variable {w W W':World} {c0 c1 b D U:Nat} {uc:Array Value} {nm nm':ON} {r r':RS}
theorem DSt.bb (h:DSt w c0 c1 b D U uc nm r W):c0<=b/\b<c1:=by obtain⟨A,_,h1,h2,_⟩:=h.rd;exact⟨h1,h2⟩
theorem DSt.called (h:DSt w c0 c1 b D U uc nm r W) (hr:RdS c0 c1 b r' W') (hf:Fr [b] W W'):DSt w c0 c1 b D U uc nm r' W':=by
 have hb:=h.bb;have e0:=h.h0;have e1:=h.h1;have e2:=h.h2;exact⟨hr,h.nmb.fr hf (by simp;omega),h.ub.fr hf (by simp;omega),h.zb.fr hf (by simp;omega),h.fr.trans hf (by simp;omega),e0,e1,e2⟩
theorem DSt.quiet (h:DSt w c0 c1 b D U uc nm r W) (hf:Fr [] W W'):DSt w c0 c1 b D U uc nm r W' :=
 ⟨h.rd.fr0 hf,h.nmb.fr hf (by simp),h.ub.fr hf (by simp),h.zb.fr hf (by simp),h.fr.then hf,h.h0,h.h1,h.h2⟩
theorem DSt.set (h:DSt w c0 c1 b D U uc nm r W) (j:Nat) (v:Value) (hn:nm.cells.toArray.setIfInBounds j v=nm'.cells.toArray):DSt w c0 c1 b D U uc nm' r (W.setCell ⟨D,j,none⟩ v):=by
 have hb:=h.bb;have e0:=h.h0;have e1:=h.h1;have e2:=h.h2;have hf:Fr [D] W (W.setCell ⟨D,j,none⟩ v):=(Fq [D] W).set (.inl (by simp)) _;refine⟨h.rd.fr hf (by simp;omega),?_,h.ub.fr hf (by simp;omega),h.zb.fr hf (by simp;omega),h.fr.set (.inr (by show _<=D;omega)) _,e0,e1,e2⟩;rw[<-hn];exact h.nmb.setAt j v
end
def DecPost (w:World) (p:ON × Int) (e:Ending) (w':World):Prop:=e=.returned (.tuple #[encO p.1,.int .i64 p.2])/\Fr [] w w'
theorem DecodeO_any (s:ByteArray) (w:World) (hok:Ok w) (hs:s.size<=70368744177664):Calls prog 48 #[.string s] w (DecPost w (decO s.data.toList)):=by
 obtain⟨q,hq⟩:=nmd (decO s.data.toList);rw[hq];unfold decO decN at hq;obtain⟨w1,hw1,hz1,hf1⟩:=bxn w (zC) 31;obtain⟨cap,w2,hcv,hf2,hr2⟩:=str_row s w1;have hsz1:w.heap.size<w2.heap.size:=by have:=hz1.lt;have:=hf2.size;omega
 have hNR:=NewReader_rs _ s.size cap _ _ w2 hr2 (by rintro a h;injection h with h;rw[<-h]) hs;have HZ:=Hd (hz1.fr hf2 (by simp));have HF:=Hd (hf1.then hf2);have HN:=Hd hNR;have HW1:=Hd hw1;have HQ:=Hd hq;clear hq hw1 hz1 hf1 hf2 hr2 hNR;unfold zC at HW1
 go_enter func48,ntmps48
 go_upto_region 1 with fail
 rw[HW1.out]
 go_upto_region 2 with ((go_at_call 47;(with_reducible refine HN.out.mono ?_);rintro e w3 ⟨b,rfl,hrd,hf3⟩))
 obtain⟨c0,hc0⟩:=nmd (w2.heap.size);obtain⟨c1,hc1⟩:=nmd (w3.heap.size);rw[hc0,hc1] at hrd;rw[hc0] at hsz1;have hbb:c0<=b/\b<c1:=by obtain⟨A,_,h1,h2,_⟩:=hrd;exact⟨h1,h2⟩
 have HZ3:=Hd (HZ.out.fr hf3 (by simp));have HF3:=Hd (HF.out.then hf3);have hT:=Number_rs hrd 20;rw[show ((20:Nat):Int)=20 from rfl] at hT;have hk:=rdNum_le 20 ⟨s.data.toList,0,0⟩;obtain⟨R1,hR1⟩:=nmd (rdNum 20 ⟨s.data.toList,0,0⟩);rw[hR1] at hT hk HQ;obtain⟨kI,r1⟩:=R1;simp only at hT hk HQ;obtain⟨k,rfl⟩:∃ k:Nat,kI=(k:Int):=⟨kI.toNat,by omega⟩;have HT:=Hd hT;clear hT hR1 hrd HN HW1 HZ HF hf3 hcv
 go_upto_region 3 with ((go_at_call 50;(with_reducible refine HT.out.mono ?_);rintro e w4 ⟨rfl,hrd,hf4⟩))
 have hk21:k<21:=by omega
 have hk0:(k:Int)<21:=by omega
 have hf4':Fr [] w w4:=HF3.out.trans hf4 (by simp;omega);have hz4:=HZ3.out.fr hf4 (by simp;omega);have hc4:c1<=w4.heap.size:=by rw[<-hc1];exact hf4.size
 obtain⟨w5,hw5⟩:=nmd (w4.alloc (.cells #[.int .i64 (k:Int),.string ⟨#[]⟩,.int .i64 0,.int .i64 0,.string ⟨#[]⟩] 31));rw[hw5];have hn5:BoxN w5 w4.heap.size 31 #[.int .i64 (k:Int),.string ⟨#[]⟩,.int .i64 0,.int .i64 0,.string ⟨#[]⟩]:=by rw[<-hw5];exact BoxN.new w4 _ _
 have hf45:Fr [] w4 w5:=by rw[<-hw5];exact (Fq [] w4).alloc _
 have hf5:=hf4'.then hf45;have hrd5:=hrd.fr0 hf45;have hz5:=hz4.fr hf45 (by simp);obtain⟨D,hD⟩:=nmd (w4.heap.size);rw[hD] at hc4 hn5 ⊢;obtain⟨e0,e1,e2,e3,e4,e5⟩:=us_cells (hok.fr0 hf5) hk21;have hmo:=us_most hk21
 have hmo0:0<=(us k).most:=by
  have:∀ y:Fin 21,0<=(us y.val).most:=by decide
  exact this ⟨k,hk21⟩
 rw[show ((k:Nat):Int).toNat=k from rfl] at HQ;obtain⟨u,hu⟩:=nmd (us k);rw[hu] at e0 e1 e2 e3 e4 e5 HQ hmo hmo0;obtain⟨uw,uo,un,ui,ut,um⟩:=u;simp only at e0 e1 e2 e3 e4 e5 hmo hmo0;obtain⟨us,hus,_,_⟩:=str_of uw;rw[hus] at e0;have x0:=hn5.k0;have HN5:=Hd hn5;have HF5:=Hd hf5;have HRD5:=Hd hrd5;have HZ5:=Hd hz5;have HM:=Hd (An hmo hmo0);clear hu hus hn5 hf4' hf45 hf5 hrd5 hz5 hz4 hmo hmo0 hrd hf4 hw5 HT HZ3 HF3 hk
 go_upto_region 4 with fail
 obtain⟨w6,hw6⟩:=nmd (w5.alloc (.cells #[.string us,.bool uo,.bool un,.bool ui,.bool ut,.int .i64 um] 216));rw[hw6];have hf56:Fr [] w5 w6:=by rw[<-hw6];exact (Fq [] w5).alloc _
 have hst:DSt w c0 c1 b D w5.heap.size #[.string us,.bool uo,.bool un,.bool ui,.bool ut,.int .i64 um] ⟨(k:Int),[],0,0,[]⟩ r1 w6 :=
  ⟨HRD5.out.fr0 hf56,HN5.out.fr hf56 (by simp),by rw[<-hw6];exact BoxN.new w5 _ _,HZ5.out.fr hf56 (by simp),HF5.out.then hf56,hsz1,hc4,HN5.out.lt⟩
 obtain⟨U,hU⟩:=nmd (w5.heap.size);rw[hU] at hst ⊢;clear e0 e1 e2 e3 e4 e5 x0 hw6 hf56 HRD5 HN5 HZ5 HF5;have hq2:=HQ.out;unfold decF at hq2;simp only at hq2;clear HQ;obtain⟨p1,hp1⟩:=nmd ((if uo=true then rdText 16777216 r1 else ([],r1)));rw[hp1] at hq2;obtain⟨p2,hp2⟩:=nmd ((if un=true then rdNum 1073741824 p1.2 else (0,p1.2)));rw[hp2] at hq2;obtain⟨p3,hp3⟩:=nmd ((if ui=true then rdNum um.toNat p2.2 else (0,p2.2)));rw[hp3] at hq2;obtain⟨p4,hp4⟩:=nmd ((if ut=true then rdText 32 p3.2 else ([],p3.2)));rw[hp4] at hq2;have HQ:=Hd hq2;have HP1:=Hd hp1;have HP2:=Hd hp2;have HP3:=Hd hp3;have HP4:=Hd hp4;clear hq2 hp1 hp2 hp3 hp4;have hum:((um.toNat:Nat):Int)=um:=by have:=HM.out.2;omega
 have HS:=Hd hst;obtain⟨v1,v2,v3,v4⟩:=use_cells hst.ub;have v5:_=some (Value.int .i64 um):=hst.ub.c 5;clear hst
 go_upto_if 18 with fail
 go_cut [3] from 16 to 21 (fun s3 W=>s3=.int .i64 0/\DSt w c0 c1 b D U #[.string us,.bool uo,.bool un,.bool ui,.bool ut,.int .i64 um] ⟨(k:Int),p1.1,0,0,[]⟩ p1.2 W)
 case first =>
  cases hfl:uo with
  | false =>
   go_wp2_with fail
   go_meet
   have e:([],r1)=p1:=by have h:=HP1.out;rw[hfl] at h;exact h
   exact⟨rfl,by rw[<-e];exact HS.out⟩
  | true =>
   go_wp2_with (go_at_call 49;have hT:=Text_rs HS.out.rd 16777216;obtain⟨str,hstr,_,_⟩:=str_of (rdText 16777216 r1).1;rw[hstr,show (((16777216:Nat)):Int)=16777216 from rfl] at hT;(with_reducible refine hT.mono ?_);rintro e w7 ⟨rfl,hrd,hf7⟩;have h7:=HS.out.called hrd hf7;have hfin:=fun nm' hh=>h7.set (nm':=nm') 1 (.string str) hh;rw[<-hstr] at hfin;have dc:=h7.nmb.c 1;have df:=h7.nmb.f 1;simp only[ON.cells,List.getElem?_toArray,List.getElem?_cons_zero,List.getElem?_cons_succ] at dc;have HFN:=Hd hfin;have HST:=Hd hstr;clear hrd hf7 h7 hT hfin hstr)
   go_meet
   have e:rdText 16777216 r1=p1:=by have h:=HP1.out;rw[hfl] at h;exact h
   refine⟨rfl,?_⟩;rw[<-e]
   first
   | (rw[<-HST.out];exact HFN.out _ rfl)
   | exact HFN.out _ rfl
 case rest =>
 obtain⟨rfl,hst⟩:=hcut;clear HS v1 v2 v3 v4 v5;obtain⟨w6,hw6⟩:=nmd (wc);rw[hw6] at hst ⊢;clear hw6;have HS:=Hd hst;obtain⟨v1,v2,v3,v4⟩:=use_cells hst.ub;have v5:_=some (Value.int .i64 um):=hst.ub.c 5;clear hst
 go_upto_if 23 with fail
 go_cut [3] from 23 to 26 (fun s3 W=>s3=.int .i64 0/\DSt w c0 c1 b D U #[.string us,.bool uo,.bool un,.bool ui,.bool ut,.int .i64 um] ⟨(k:Int),p1.1,p2.1,0,[]⟩ p2.2 W)
 case first =>
  cases hfl:un with
  | false =>
   go_wp2_with fail
   go_meet
   have e:(0,p1.2)=p2:=by have h:=HP2.out;rw[hfl] at h;exact h
   exact⟨rfl,by rw[<-e];exact HS.out⟩
  | true =>
   go_wp2_with (go_at_call 50;have hT:=Number_rs HS.out.rd 1073741824;rw[show (((1073741824:Nat)):Int)=1073741824 from rfl] at hT;(with_reducible refine hT.mono ?_);rintro e w7 ⟨rfl,hrd,hf7⟩;have h7:=HS.out.called hrd hf7;have hfin:=fun nm' hh=>h7.set (nm':=nm') 2 (.int .i64 (rdNum 1073741824 p1.2).1) hh;have dc:=h7.nmb.c 2;have df:=h7.nmb.f 2;simp only[ON.cells,List.getElem?_toArray,List.getElem?_cons_zero,List.getElem?_cons_succ] at dc;have HFN:=Hd hfin;have HST:=Hd (rfl:(0:Nat)=0);clear hrd hf7 h7 hT hfin)
   go_meet
   have e:rdNum 1073741824 p1.2=p2:=by have h:=HP2.out;rw[hfl] at h;exact h
   refine⟨rfl,?_⟩;rw[<-e]
   first
   | (rw[<-HST.out];exact HFN.out _ rfl)
   | exact HFN.out _ rfl
 case rest =>
 obtain⟨rfl,hst⟩:=hcut;clear HS v1 v2 v3 v4 v5;obtain⟨w6,hw6⟩:=nmd (wc);rw[hw6] at hst ⊢;clear hw6;have HS:=Hd hst;obtain⟨v1,v2,v3,v4⟩:=use_cells hst.ub;have v5:_=some (Value.int .i64 um):=hst.ub.c 5;clear hst
 go_upto_if 28 with fail
 go_cut [3] from 28 to 33 (fun s3 W=>s3=.int .i64 0/\DSt w c0 c1 b D U #[.string us,.bool uo,.bool un,.bool ui,.bool ut,.int .i64 um] ⟨(k:Int),p1.1,p2.1,p3.1,[]⟩ p3.2 W)
 case first =>
  cases hfl:ui with
  | false =>
   go_wp2_with fail
   go_meet
   have e:(0,p2.2)=p3:=by have h:=HP3.out;rw[hfl] at h;exact h
   exact⟨rfl,by rw[<-e];exact HS.out⟩
  | true =>
   go_wp2_with (go_at_call 50;have hT:=Number_rs HS.out.rd um.toNat;rw[show (((um.toNat:Nat)):Int)=um from hum] at hT;(with_reducible refine hT.mono ?_);rintro e w7 ⟨rfl,hrd,hf7⟩;have h7:=HS.out.called hrd hf7;have hfin:=fun nm' hh=>h7.set (nm':=nm') 3 (.int .i64 (rdNum um.toNat p2.2).1) hh;have dc:=h7.nmb.c 3;have df:=h7.nmb.f 3;simp only[ON.cells,List.getElem?_toArray,List.getElem?_cons_zero,List.getElem?_cons_succ] at dc;have HFN:=Hd hfin;have HST:=Hd (rfl:(0:Nat)=0);clear hrd hf7 h7 hT hfin)
   go_meet
   have e:rdNum um.toNat p2.2=p3:=by have h:=HP3.out;rw[hfl] at h;exact h
   refine⟨rfl,?_⟩;rw[<-e]
   first
   | (rw[<-HST.out];exact HFN.out _ rfl)
   | exact HFN.out _ rfl
 case rest =>
 obtain⟨rfl,hst⟩:=hcut;clear HS v1 v2 v3 v4 v5;obtain⟨w6,hw6⟩:=nmd (wc);rw[hw6] at hst ⊢;clear hw6;have HS:=Hd hst;obtain⟨v1,v2,v3,v4⟩:=use_cells hst.ub;have v5:_=some (Value.int .i64 um):=hst.ub.c 5;clear hst
 go_upto_if 35 with fail
 go_cut [3] from 35 to 38 (fun s3 W=>s3=.int .i64 0/\DSt w c0 c1 b D U #[.string us,.bool uo,.bool un,.bool ui,.bool ut,.int .i64 um] ⟨(k:Int),p1.1,p2.1,p3.1,p4.1⟩ p4.2 W)
 case first =>
  cases hfl:ut with
  | false =>
   go_wp2_with fail
   go_meet
   have e:([],p3.2)=p4:=by have h:=HP4.out;rw[hfl] at h;exact h
   exact⟨rfl,by rw[<-e];exact HS.out⟩
  | true =>
   go_wp2_with (go_at_call 49;have hT:=Text_rs HS.out.rd 32;obtain⟨str,hstr,_,_⟩:=str_of (rdText 32 p3.2).1;rw[hstr,show (((32:Nat)):Int)=32 from rfl] at hT;(with_reducible refine hT.mono ?_);rintro e w7 ⟨rfl,hrd,hf7⟩;have h7:=HS.out.called hrd hf7;have hfin:=fun nm' hh=>h7.set (nm':=nm') 4 (.string str) hh;rw[<-hstr] at hfin;have dc:=h7.nmb.c 4;have df:=h7.nmb.f 4;simp only[ON.cells,List.getElem?_toArray,List.getElem?_cons_zero,List.getElem?_cons_succ] at dc;have HFN:=Hd hfin;have HST:=Hd hstr;clear hrd hf7 h7 hT hfin hstr)
   go_meet
   have e:rdText 32 p3.2=p4:=by have h:=HP4.out;rw[hfl] at h;exact h
   refine⟨rfl,?_⟩;rw[<-e]
   first
   | (rw[<-HST.out];exact HFN.out _ rfl)
   | exact HFN.out _ rfl
 case rest =>
 obtain⟨rfl,hst⟩:=hcut;clear HS v1 v2 v3 v4 v5;obtain⟨w6,hw6⟩:=nmd (wc);rw[hw6] at hst ⊢;clear hw6
 have hl1:p1.1.length<=16777216:=by
  rw[<-HP1.out];split
  ·exact rdText_len _ _
  ·simp
 have hl4:p4.1.length<=16777216:=by
  rw[<-HP4.out];split
  ·exact rdText_len _ _
  ·simp
 have hCh:=Check_any ⟨(k:Int),p1.1,p2.1,p3.1,p4.1⟩ w6 (hok.fr0 hst.fr) (by show p1.1.length<=_;omega) (by show p4.1.length<=_;omega);have hCl:=Close_rs hst.rd;obtain⟨nm,hnm⟩:∃ nm:ON,(⟨(k:Int),p1.1,p2.1,p3.1,p4.1⟩:ON)=nm:=⟨_,rfl⟩;obtain⟨r5,hr5⟩:=nmd (rdClose p4.2);obtain⟨c5,hc5⟩:=nmd (checkO nm);have hq3:=HQ.out;rw[hnm] at hCh hst hq3;rw[hc5] at hCh hq3;rw[hr5] at hCl hq3;clear HQ HP1 HP2 HP3 HP4 hnm hr5 hc5 hl1 hl4 HM;obtain⟨nk,no,nn,ni,nt⟩:=nm;obtain⟨os,hos,_,_⟩:=str_of no;obtain⟨ts,hts,_,_⟩:=str_of nt;unfold encO at hCh;simp only at hCh;rw[hos,hts] at hCh;have hcells:=hst.nmb;unfold ON.cells at hcells;simp only at hcells;rw[hos,hts] at hcells;obtain⟨d0,d1,d2,d3,d4⟩:=hcells.m5;have HS:=Hd hst;have HCL:=Hd hCl;have HCH:=Hd hCh;have HCE:=Hd hcells;have HOS:=Hd hos;have HTS:=Hd hts;have HQ:=Hd hq3;clear hst hCl hCh hcells hos hts hq3
 by_cases h1:r5=0
 ·have h1b:(r5 != 0)=false:=by simpa using h1
  by_cases h2:c5=0
  ·have h2b:(c5 != 0)=false:=by simpa using h2
   have e:=HQ.out;rw[if_neg (by simp[h1,h2])] at e;subst e;clear HQ h1 h2
   go_wp2_with (first
    | (go_at_call 52;(with_reducible refine HCL.out.mono ?_);rintro e w7 ⟨rfl,rfl⟩)
    | (go_at_call 53;(with_reducible refine HCH.out.mono ?_);rintro e w7 ⟨rfl,hf7⟩;((have h7:=HS.out.quiet hf7;have hz7:=h7.zb;have HZ7:=Hd hz7;have HCE7:=HCE.out.fr hf7 (by simp);clear d0 d1 d2 d3 d4;obtain⟨d1,d2,d3,d4⟩:=name_cells HCE7;have d0:_=some (Value.int .i64 nk):=HCE7.c 0;have g0:=hz7.f 0;have g1:=hz7.f 1;have g2:=hz7.f 2;have g3:=hz7.f 3;have g4:=hz7.f 4;unfold zC at hz7;obtain⟨y1,y2,y3,y4⟩:=name_cells hz7;have y0:_=some (Value.int .i64 0):=hz7.c 0;have H7:=Hd h7.fr;clear h7 hf7 hz7 HCE7))))
   obtain⟨w8,hw8⟩:=nmd ((((((w7.setCell ⟨w.heap.size,0,none⟩ (.int .i64 nk)).setCell ⟨w.heap.size,1,none⟩ (.string os)).setCell ⟨w.heap.size,2,none⟩ (.int .i64 nn)).setCell ⟨w.heap.size,3,none⟩ (.int .i64 ni)).setCell ⟨w.heap.size,4,none⟩ (.string ts)));have h8:BoxN w8 w.heap.size 31 #[.int .i64 nk,.string os,.int .i64 nn,.int .i64 ni,.string ts]:=by rw[<-hw8];exact (((((HZ7.out.setAt 0 _).setAt 1 _).setAt 2 _).setAt 3 _).setAt 4 _)
   have f8:Fr [] w w8:=by rw[<-hw8];exact ((((H7.out.set (.inr (nlr _)) _).set (.inr (nlr _)) _).set (.inr (nlr _)) _).set (.inr (nlr _)) _).set (.inr (nlr _)) _
   rw[hw8];clear hw8;have F8:=Hd f8;obtain⟨t0,t1,t2,t3,t4⟩:=h8.m5;clear h8 f8;exact bodyPost_ret (v:=.tuple #[.agg #[.int .i64 nk,.string os,.int .i64 nn,.int .i64 ni,.string ts],.int .i64 0]) (by simp[results,results48,go_sem,t0,t1,t2,t3,t4]) rfl ⟨by rw[<-HOS.out,<-HTS.out];rfl,F8.out⟩
  ·have h2b:(c5 != 0)=true:=by simpa using h2
   have e:=HQ.out;rw[if_pos (.inr h2)] at e;subst e;clear HQ h1 h2
   go_wp2_with (first
    | (go_at_call 52;(with_reducible refine HCL.out.mono ?_);rintro e w7 ⟨rfl,rfl⟩)
    | (go_at_call 53;(with_reducible refine HCH.out.mono ?_);rintro e w7 ⟨rfl,hf7⟩;((have h7:=HS.out.quiet hf7;have hz7:=h7.zb;have HZ7:=Hd hz7;have HCE7:=HCE.out.fr hf7 (by simp);clear d0 d1 d2 d3 d4;obtain⟨d1,d2,d3,d4⟩:=name_cells HCE7;have d0:_=some (Value.int .i64 nk):=HCE7.c 0;have g0:=hz7.f 0;have g1:=hz7.f 1;have g2:=hz7.f 2;have g3:=hz7.f 3;have g4:=hz7.f 4;unfold zC at hz7;obtain⟨y1,y2,y3,y4⟩:=name_cells hz7;have y0:_=some (Value.int .i64 0):=hz7.c 0;have H7:=Hd h7.fr;clear h7 hf7 hz7 HCE7))))
   obtain⟨w8,hw8⟩:=nmd ((((((w7.setCell ⟨w.heap.size,0,none⟩ (.int .i64 0)).setCell ⟨w.heap.size,1,none⟩ (.string ⟨#[]⟩)).setCell ⟨w.heap.size,2,none⟩ (.int .i64 0)).setCell ⟨w.heap.size,3,none⟩ (.int .i64 0)).setCell ⟨w.heap.size,4,none⟩ (.string ⟨#[]⟩)));have h8:BoxN w8 w.heap.size 31 #[.int .i64 0,.string ⟨#[]⟩,.int .i64 0,.int .i64 0,.string ⟨#[]⟩]:=by rw[<-hw8];exact (((((HZ7.out.setAt 0 _).setAt 1 _).setAt 2 _).setAt 3 _).setAt 4 _)
   have f8:Fr [] w w8:=by rw[<-hw8];exact ((((H7.out.set (.inr (nlr _)) _).set (.inr (nlr _)) _).set (.inr (nlr _)) _).set (.inr (nlr _)) _).set (.inr (nlr _)) _
   rw[hw8];clear hw8;have F8:=Hd f8;obtain⟨t0,t1,t2,t3,t4⟩:=h8.m5;clear h8 f8;exact bodyPost_ret (v:=.tuple #[.agg #[.int .i64 0,.string ⟨#[]⟩,.int .i64 0,.int .i64 0,.string ⟨#[]⟩],.int .i64 3]) (by simp[results,results48,go_sem,t0,t1,t2,t3,t4]) rfl ⟨rfl,F8.out⟩
 ·have h1b:(r5 != 0)=true:=by simpa using h1
  have e:=HQ.out;rw[if_pos (.inl h1)] at e;subst e;clear HQ h1;have hf7:=Fq [] w6
  ((have h7:=HS.out.quiet hf7;have hz7:=h7.zb;have HZ7:=Hd hz7;have HCE7:=HCE.out.fr hf7 (by simp);clear d0 d1 d2 d3 d4;obtain⟨d1,d2,d3,d4⟩:=name_cells HCE7;have d0:_=some (Value.int .i64 nk):=HCE7.c 0;have g0:=hz7.f 0;have g1:=hz7.f 1;have g2:=hz7.f 2;have g3:=hz7.f 3;have g4:=hz7.f 4;unfold zC at hz7;obtain⟨y1,y2,y3,y4⟩:=name_cells hz7;have y0:_=some (Value.int .i64 0):=hz7.c 0;have H7:=Hd h7.fr;clear h7 hf7 hz7 HCE7))
  clear d0 d1 d2 d3 d4
  go_wp2_with ((go_at_call 52;(with_reducible refine HCL.out.mono ?_);rintro e w7 ⟨rfl,rfl⟩))
  obtain⟨w8,hw8⟩:=nmd ((((((w6.setCell ⟨w.heap.size,0,none⟩ (.int .i64 0)).setCell ⟨w.heap.size,1,none⟩ (.string ⟨#[]⟩)).setCell ⟨w.heap.size,2,none⟩ (.int .i64 0)).setCell ⟨w.heap.size,3,none⟩ (.int .i64 0)).setCell ⟨w.heap.size,4,none⟩ (.string ⟨#[]⟩)));have h8:BoxN w8 w.heap.size 31 #[.int .i64 0,.string ⟨#[]⟩,.int .i64 0,.int .i64 0,.string ⟨#[]⟩]:=by rw[<-hw8];exact (((((HZ7.out.setAt 0 _).setAt 1 _).setAt 2 _).setAt 3 _).setAt 4 _)
  have f8:Fr [] w w8:=by rw[<-hw8];exact ((((H7.out.set (.inr (nlr _)) _).set (.inr (nlr _)) _).set (.inr (nlr _)) _).set (.inr (nlr _)) _).set (.inr (nlr _)) _
  rw[hw8];clear hw8;have F8:=Hd f8;obtain⟨t0,t1,t2,t3,t4⟩:=h8.m5;clear h8 f8;exact bodyPost_ret (v:=.tuple #[.agg #[.int .i64 0,.string ⟨#[]⟩,.int .i64 0,.int .i64 0,.string ⟨#[]⟩],.int .i64 3]) (by simp[results,results48,go_sem,t0,t1,t2,t3,t4]) rfl ⟨rfl,F8.out⟩
set_option maxHeartbeats 1000000
def leftS (n:Nat):Nat:=2 ^ (Lib.bitLen (n - 1) - 1)
theorem bitLenAux_le:∀ (f x:Nat),Lib.bitLenAux f x<=f
 | 0,x=>by simp[Lib.bitLenAux]
 | f+1,x=>by
  unfold Lib.bitLenAux;split
  ·omega
  ·have:=bitLenAux_le f (x / 2);omega
theorem bitLen_le {k x:Nat} (h:x<2 ^ k) (hk:k<=64):Lib.bitLen x<=k:=by
 unfold Lib.bitLen;rw[Lib.bitLenAux_fuel k x h 64 hk];exact bitLenAux_le k x
theorem leftSize_any (n:Nat) (h1:2<=n) (h2:n<=1048576) (w:World):Calls prog 171 #[.int .i64 (n:Int)] w fun e w'=>e=.returned (.int .i64 (leftS n:Nat))/\w'=w:=by
 have hs:IntKind.i64.wrap ((n:Int) - 1)=((n - 1:Nat):Int):=by simp only[IntKind.wrap_i64];omega
 have hl1:1<=Lib.bitLen (n - 1):=by rw[Lib.bitLen_half (n - 1) (by omega) (by omega)];omega
 have hl2:Lib.bitLen (n - 1)<=20:=bitLen_le (by omega) (by omega)
 have hfin:wrap64 (2 ^ (Lib.bitLen (n - 1) - 1))=((leftS n:Nat):Int):=by
  unfold leftS;have h3:(2:Nat) ^ (Lib.bitLen (n - 1) - 1)<=2 ^ 19:=Nat.pow_le_pow_right (by omega) (by omega);have h4:((2:Int) ^ (Lib.bitLen (n - 1) - 1))=((2 ^ (Lib.bitLen (n - 1) - 1):Nat):Int):=by simp
  rw[h4];generalize (2:Nat) ^ (Lib.bitLen (n - 1) - 1)=z at h3 ⊢;simp only[wrap64];omega
 have HFI:=Hd hfin;clear hfin;have hb:=Tryz.bits_Len ((n - 1:Nat):Int) w (by omega) (by omega);rw[show (((n - 1:Nat):Int)).toNat=n - 1 from rfl] at hb;have HB:=Hd hb;clear hb
 go_enter func171,ntmps171
 go_wp2_with ((go_at_call 172;(with_reducible refine HB.out.mono ?_);rintro e w1 ⟨rfl,rfl⟩))
 go_ret
 exact⟨by rw[<-HFI.out];rfl,rfl⟩
theorem NewTree_any (w:World):Calls prog 87 #[] w fun e w'=>e=.returned (.pointer (some ⟨w.heap.size,0,none⟩))/\BoxN w' w.heap.size 237 #[.slice none 0 0,.map none]/\Fr [] w w':=by
 go_enter func87,ntmps87
 go_wp2_with fail
 go_ret
 exact⟨rfl,BoxN.new w _ _,(Fq [] w).alloc _⟩
structure KY where
 rnd:Int
 phase:Int
 idx:Int
 lin:Nm
def encK (k:KY):Value:=.agg #[.int .i64 k.rnd,.int .i64 k.phase,.int .i64 k.idx,encN k.lin]
def cmpK (a b:KY):Int:=orL [Lib.compareInt a.rnd b.rnd,Lib.compareInt a.phase b.phase,Lib.compareInt a.idx b.idx,cmpL (ordsOf a.lin) (ordsOf b.lin)]
theorem four_row (w:World) (d1 d2 d3 d4:Int) (t:TypeId):Row ((w.alloc (.cells #[.int .i64 d1,.int .i64 d2,.int .i64 d3,.int .i64 d4] t))) (w.alloc (.cells #[.int .i64 d1,.int .i64 d2,.int .i64 d3,.int .i64 d4] t)).heap.size 1 (some ⟨w.heap.size,0,none⟩) 4 ([d1,d2,d3,d4].map encI):=by
 refine⟨by simp,fun _=>⟨_,0,rfl,by simp,fun j u hu=>?_⟩⟩;have:=new_cells w [.int .i64 d1,.int .i64 d2,.int .i64 d3,.int .i64 d4] t j u (by simpa [encI] using hu);rw[add_mid'] at this;rw[Nat.zero_add];exact this
theorem CompareK_any (a b:KY) (w:World) (va:validB a.lin=true) (vb:validB b.lin=true) (ha:a.lin.length<=140737488355328) (hb:b.lin.length<=140737488355328):Calls prog 91 #[encK a,encK b] w (CmpOPost w (cmpK a b)):=by
 obtain⟨r,hr⟩:=nmd (cmpK a b);rw[hr];unfold cmpK at hr;obtain⟨n1,i1,j1,o1⟩:=a;obtain⟨n2,i2,j2,o2⟩:=b;unfold encK;simp only at va vb ha hb hr ⊢;obtain⟨p1,hp1,hp1',hp1s⟩:=str_of o1;obtain⟨p2,hp2,hp2',hp2s⟩:=str_of o2;rw[hp1,hp2];obtain⟨w1,hw1⟩:=nmd (w.alloc (.cells #[.int .i64 n1,.int .i64 i1,.int .i64 j1,.string p1] 89));obtain⟨w2,hw2⟩:=nmd (w1.alloc (.cells #[.int .i64 n2,.int .i64 i2,.int .i64 j2,.string p2] 89));have hf2:Fr [] w w2:=by rw[<-hw2,<-hw1];exact ((Fq [] w).alloc _).alloc _
 have hA:BoxN w2 w.heap.size 89 #[.int .i64 n1,.int .i64 i1,.int .i64 j1,.string p1]:=by rw[<-hw2,<-hw1];exact (BoxN.new w _ _).alloc _
 have hB:BoxN w2 (w.heap.size+1) 89 #[.int .i64 n2,.int .i64 i2,.int .i64 j2,.string p2]:=by rw[<-hw2];have:=BoxN.new w1 89 #[.int .i64 n2,.int .i64 i2,.int .i64 j2,.string p2];rw[show w1.heap.size=w.heap.size+1 by rw[<-hw1,wsA]] at this;exact this
 have hC:=fun W=>Compare_valid p1 p2 W (by omega) (by omega) (by rw[hp1'];exact va) (by rw[hp2'];exact vb);rw[hp1',hp2'] at hC
 have hss:∀ W,Fr [] w2 W->W.cell? ⟨w.heap.size,0,none⟩=some (.int .i64 n1)/\W.cell? ⟨w.heap.size+1,0,none⟩=some (.int .i64 n2)/\W.cell? ⟨w.heap.size,1,none⟩=some (.int .i64 i1)/\W.cell? ⟨w.heap.size+1,1,none⟩=some (.int .i64 i2)/\W.cell? ⟨w.heap.size,2,none⟩=some (.int .i64 j1)/\W.cell? ⟨w.heap.size+1,2,none⟩=some (.int .i64 j2)/\W.cell? ⟨w.heap.size,3,none⟩=some (.string p1)/\W.cell? ⟨w.heap.size+1,3,none⟩=some (.string p2):=fun W hf =>
  have qa:=hA.fr hf (by simp);have qb:=hB.fr hf (by simp)
  ⟨qa.c 0,qb.c 0,qa.c 1,qb.c 1,qa.c 2,qb.c 2,qa.c 3,qb.c 3⟩
 have HK1:=Hd (fun W=>Tryz.cmp_Compare_int n1 n2 W);have HK2:=Hd (fun W=>Tryz.cmp_Compare_int i1 i2 W);have HK3:=Hd (fun W=>Tryz.cmp_Compare_int j1 j2 W);have HC:=Hd hC;have HR:=Hd hr;have HSS:=Hd hss;have HW1:=Hd hw1;have HW2:=Hd hw2;have HF2:=Hd hf2;clear hr hw1 hw2 hf2 hA hB hC hss va vb hp1 hp2 hp1' hp2' hp1s hp2s;generalize Lib.compareInt n1 n2=d1 at HK1 HR;generalize Lib.compareInt i1 i2=d2 at HK2 HR;generalize Lib.compareInt j1 j2=d3 at HK3 HR;generalize cmpL (ordsOf o1) (ordsOf o2)=d4 at HC HR
 go_enter func91,ntmps91
 go_upto_region 1 with fail
 rw[HW1.out,HW2.out];generalize hZ:w.heap.size=Z1 at HSS ⊢
 go_region_held3 (fun W=>W.cell? ⟨Z1,0,none⟩=some (.int .i64 n1)/\W.cell? ⟨Z1+1,0,none⟩=some (.int .i64 n2)/\W.cell? ⟨Z1,1,none⟩=some (.int .i64 i1)/\W.cell? ⟨Z1+1,1,none⟩=some (.int .i64 i2)/\W.cell? ⟨Z1,2,none⟩=some (.int .i64 j1)/\W.cell? ⟨Z1+1,2,none⟩=some (.int .i64 j2)/\W.cell? ⟨Z1,3,none⟩=some (.string p1)/\W.cell? ⟨Z1+1,3,none⟩=some (.string p2)) (with_reducible refine HSS.out _ ?_;(repeat (first | exact Fq _ _ | exact hfN | refine Fr.drew ?_ | refine Fr.alloc ?_ _));done) (first
  | (go_at_call 133;(with_reducible refine (HK1.out _).mono ?_);rintro e w7 ⟨rfl,rfl⟩)
  | (go_at_call 133;(with_reducible refine (HK2.out _).mono ?_);rintro e w7 ⟨rfl,rfl⟩)
  | (go_at_call 133;(with_reducible refine (HK3.out _).mono ?_);rintro e w7 ⟨rfl,rfl⟩)
  | (go_at_call 152;(with_reducible refine (HC.out _).mono ?_);rintro e w3 ⟨rfl,hb3⟩;have hfN:=(Fq [] w2).drew.then (Fr.of_below hb3))
  | (go_at_call 132;(with_reducible refine (Or_any _ 4 4 _ [d1,d2,d3,d4] _ (four_row _ d1 d2 d3 d4 _) (by omega)).mono ?_);rintro e w7 ⟨rfl,rfl⟩))
 all_goals
  go_wp2_with fail
  go_ret
  exact⟨by rw[HR.out];rfl,by repeat (first | exact HF2.out.then hfN | refine Fr.drew ?_ | refine Fr.alloc ?_ _)⟩
def Kp (b:Nat) (w w':World):Prop:=∀ Z t cs,t≠5->Z≠b->BoxN w Z t cs->BoxN w' Z t cs
theorem Kp.trans {b : Nat} {w w' w'' : World} (h : Kp b w w') (k : Kp b w' w'') : Kp b w w'' := fun Z t cs h1 h2 h3 => k Z t cs h1 h2 (h Z t cs h1 h2 h3)
theorem Kp.fr0 {b:Nat} {w w':World} (h:Fr [] w w'):Kp b w w':=fun _ _ _ _ _ h3=>h3.fr h (by simp)
theorem own_box {w:World} {A:Option Addr} {n c Z:Nat} {xs:List Value} {t:TypeId} {cs:Array Value} (ho:Own w 5 1 A n c xs) (hb:BoxN w Z t cs) (ht:t≠5):Z ∉ blk A:=by
 intro hm
 rcases ho.2 with ⟨h,_⟩ | ⟨g,cap,cur,h,_,hg,_⟩
 ·injection h with h1 _ _
  rw[h1] at hm;simp[blk] at hm
 ·injection h with h1 _ _
  rw[h1] at hm;have hz:Z=g:=by simpa [blk] using hm
  subst hz;have e:=hb.symm.trans hg
  injection e with e
  injection e with _ e2 _
  exact ht e2
theorem WPost.kp {w w':World} {b:Nat} {A:Option Addr} {bs bs':Nm} {e:Ending} (h:WrAt w b A bs) (hp:WPost w b A bs' e w'):Kp b w w':=by
 obtain⟨c,_,h2,_⟩:=h;obtain⟨_,A',_,q2,_⟩:=hp;intro Z t cs ht hz hbx;exact hbx.fr q2 (by rw[List.mem_cons];rintro (h | h);exact hz h;exact own_box h2 hbx ht h)
section
variable {a w w':World} {b:Nat} {A:Option Addr} {bs bs':Nm} {e:Ending}
theorem Number_wk (h:WrS a b bs w) (n:Nat) (hn:n<=9223372036854775807) (hL:bs.length<=70368744177600) :
 Calls prog 57 #[.pointer (some ⟨b,0,none⟩),.int .i64 (n:Int)] w fun e w'=>e=.returned (.tuple #[])/\WrS a b (bs++encU n) w'/\Kp b w w':=by
 obtain⟨A,h1,h2,h3⟩:=h;have:=encU_len9 hn;exact (Number_any w b A bs n h1 hn (by rw[lla];omega)).mono fun e w' hp=>⟨(WrS.step h1 h2 h3 hp).1,(WrS.step h1 h2 h3 hp).2,WPost.kp h1 hp⟩
theorem Flag_wk (h:WrS a b bs w) (v:Bool) (hL:bs.length<=70368744177600) :
 Calls prog 122 #[.pointer (some ⟨b,0,none⟩),.bool v] w fun e w'=>e=.returned (.tuple #[])/\WrS a b (bs++[flagB v]) w'/\Kp b w w':=by
 obtain⟨A,h1,h2,h3⟩:=h;exact (Flag_any w b A bs v h1 (by omega)).mono fun e w' hp=>⟨(WrS.step h1 h2 h3 hp).1,(WrS.step h1 h2 h3 hp).2,WPost.kp h1 hp⟩
theorem Text_wk (h:WrS a b bs w) (s:Nm) (hn:s.length<=16777216) (hL:bs.length+s.length<=70368744177600) :
 Calls prog 56 #[.pointer (some ⟨b,0,none⟩),encN s] w fun e w'=>e=.returned (.tuple #[])/\WrS a b (bs++encT s) w'/\Kp b w w':=by
 obtain⟨A,h1,h2,h3⟩:=h;have:=encT_len (s:=s) (by omega);exact (Text_any w b A bs s h1 hn (by rw[lla];omega)).mono fun e w' hp=>⟨(WrS.step h1 h2 h3 hp).1,(WrS.step h1 h2 h3 hp).2,WPost.kp h1 hp⟩
end
def encKey (k:KY):Nm:=((encU k.rnd.toNat++encU k.phase.toNat)++encU k.idx.toNat)++encT k.lin
theorem WrS.blt {a w:World} {b:Nat} {bs:Nm} (h:WrS a b bs w):b<w.heap.size:=by obtain⟨A,h1,_⟩:=h;exact h1.lt
theorem WrS.alloc {a w:World} {b:Nat} {bs:Nm} (h:WrS a b bs w) (o:Obj):WrS a b bs (w.alloc o):=h.more ((Fq [] w).alloc _) h.blt
theorem KeyWrite_wk (k:KY) (a w:World) (b:Nat) (bs:Nm) (h:WrS a b bs w) (h1:0<=k.rnd/\k.rnd<=9223372036854775807) (h2:0<=k.phase/\k.phase<=9223372036854775807) (h3:0<=k.idx/\k.idx<=9223372036854775807) (h4:k.lin.length<=16777216) (hL:bs.length<=70368700000000) :
 Calls prog 121 #[encK k,.pointer (some ⟨b,0,none⟩)] w fun e w'=>e=.returned (.tuple #[])/\WrS a b (bs++encKey k) w'/\Kp b w w':=by
 obtain⟨n,i,j,o⟩:=k;unfold encK encKey;simp only at h1 h2 h3 h4 ⊢;obtain⟨p,hp,_,_⟩:=str_of o;have hbl:=h.blt;obtain⟨w1,hw1⟩:=nmd (w.alloc (.cells #[.int .i64 n,.int .i64 i,.int .i64 j,.string p] 89));have hs1:WrS a b bs w1:=by rw[<-hw1];exact h.alloc _
 have hb1:BoxN w1 w.heap.size 89 #[.int .i64 n,.int .i64 i,.int .i64 j,.string p]:=by rw[<-hw1];exact BoxN.new w _ _
 have hk1:Kp b w w1:=by rw[<-hw1];exact Kp.fr0 ((Fq [] w).alloc _)
 have hne:w.heap.size≠b:=by omega
 have e1:=encU_len9 (u:=n.toNat) (by omega);have e2:=encU_len9 (u:=i.toNat) (by omega);have e3:=encU_len9 (u:=j.toNat) (by omega);have x0:=hb1.k0;have hT:=Number_wk hs1 n.toNat (by omega) (by omega);rw[show ((n.toNat:Nat):Int)=n by omega] at hT;have HT:=Hd hT;have HB1:=Hd hb1;have HK1:=Hd hk1;have HW1:=Hd hw1;have HP:=Hd hp;have HE:=Hd (An e1 (An e2 (An e3 (An h2 (An h3 (An h4 hL))))));rw[hp];clear hT hb1 hk1 hw1 hs1 h h1 h2 h3 h4 e1 e2 e3 hL hp
 go_enter func121,ntmps121
 go_upto_region 1 with fail
 rw[HW1.out]
 go_upto_region 2 with ((go_at_call 57;(with_reducible refine HT.out.mono ?_);rintro e w2 ⟨rfl,hs2,hk2⟩))
 have HB2:=Hd (hk2 _ _ _ (by decide) hne HB1.out);have HK2:=Hd (HK1.out.trans hk2);obtain⟨e1,e2,e3,h2,h3,h4,hL⟩:=HE.out;have x1:=HB2.out.k1;have hT:=Number_wk hs2 i.toNat (by omega) (by simp only[lla];omega);rw[show ((i.toNat:Nat):Int)=i by omega] at hT;have HT2:=Hd hT;clear hT hk2 hs2 e1 e2 e3 h2 h3 h4 hL x0 HT HB1 HK1 HW1
 go_upto_region 3 with ((go_at_call 57;(with_reducible refine HT2.out.mono ?_);rintro e w3 ⟨rfl,hs3,hk3⟩))
 have HB3:=Hd (hk3 _ _ _ (by decide) hne HB2.out);have HK3:=Hd (HK2.out.trans hk3);obtain⟨e1,e2,e3,h2,h3,h4,hL⟩:=HE.out;have x2:=HB3.out.k2;have hT:=Number_wk hs3 j.toNat (by omega) (by simp only[lla];omega);rw[show ((j.toNat:Nat):Int)=j by omega] at hT;have HT3:=Hd hT;clear hT hk3 hs3 e1 e2 e3 h2 h3 h4 hL x1 HT2 HB2 HK2
 go_upto_region 4 with ((go_at_call 57;(with_reducible refine HT3.out.mono ?_);rintro e w4 ⟨rfl,hs4,hk4⟩))
 have HB4:=Hd (hk4 _ _ _ (by decide) hne HB3.out);have HK4:=Hd (HK3.out.trans hk4);obtain⟨e1,e2,e3,h2,h3,h4,hL⟩:=HE.out;have x3:=HB4.out.k3;have hT:=Text_wk hs4 o h4 (by simp only[lla];omega);rw[HP.out] at hT;have HT4:=Hd hT;clear hT hk4 hs4 e1 e2 e3 h2 h3 h4 hL x2 HT3 HB3 HK3
 go_wp2_with ((go_at_call 56;(with_reducible refine HT4.out.mono ?_);rintro e w5 ⟨rfl,hs5,hk5⟩;have HS5:=Hd hs5;have HK5:=Hd (HK4.out.trans hk5);clear hs5 hk5))
 go_end0
 exact⟨rfl,by have:=HS5.out;simpa only[List.append_assoc] using this,HK5.out⟩
end Go.Proofs.YtlpmiimgacfmkaaGreatDoor
