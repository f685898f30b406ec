/- Arguments opened: actions with their reads and writes. -/
import Derived.SizedLaws
import Derived.Deep.Slices
import Derived.Deep.Fields
import Derived.Test.YtlpmiimgacfmkaaGreatDoorMGs
import Derived.Test.YtlpmiimgacfmkaaGreatDoorMGn
import Derived.Test.YtlpmiimgacfmkaaGreatDoorMQt
import Derived.Test.YtlpmiimgacfmkaaGreatDoorMGj
set_option linter.all false
namespace Go.Proofs.YtlpmiimgacfmkaaGreatDoor
open Go.Proofs.Tryz
open Go.RowKit Go.ChangeShapes Go.WideShapes Go.Deep Go.Joins
set_option maxRecDepth 100000
theorem Row.of_add {w:World} {a:Addr} {n size:Nat} {xs:List Value} (hl:xs.length=n*size) (hs:0<size) (h:∀ j u,xs[j]?=some u->w.cell? (a.add j)=some u):Row w w.heap.size size (some a) n xs:=by
 refine⟨hl,fun hn=>?_⟩;have hpos:0<xs.length:=by rw[hl];exact Nat.mul_pos hn hs
 obtain⟨b,off,spot⟩:=a;have h0:=h 0 xs[0] (lge hpos);have hspot:spot=none:=by simpa [Addr.add] using World.cell?_spot h0
 subst hspot;refine⟨b,off,rfl,?_,fun j u hu=>?_⟩
 ·have:=World.block_lt_of_cell? _ _ h0
  simpa [Addr.add] using this
 ·have:=h j u hu
  rwa [Go.WideShapes.add_plain] at this
theorem flat_cells {α:Type} {f:α->List Value} {m:Nat} (hm:∀ x,(f x).length=m) (h0:0<m) {w:World} {a:Addr} {l:List α} (h:∀ (k:Nat) (t:α),l[k]?=some t->∀ (r:Nat) (u:Value),(f t)[r]?=some u->w.cell? (a.add (k*m+r))=some u) :
 ∀ j u,(l.flatMap f)[j]?=some u->w.cell? (a.add j)=some u:=by
 intro j u hu;have hlen:=flatMap_len hm l;have hj:=(lgs.1 hu).1;rw[hlen] at hj;have hk:j / m<l.length:=(Nat.div_lt_iff_lt_mul h0).2 hj;have hl:=lge hk;have hr:j % m<m:=Nat.mod_lt _ h0;have e:j / m*m+j % m=j:=by rw[Nat.mul_comm];exact Nat.div_add_mod j m
 have hfa:(l.flatMap f)[j / m*m+j % m]?=(f l[j / m])[j % m]?:=by
  have:∀ (xs:List α) (j:Nat) (x:α) (o:Nat),o<m->xs[j]?=some x->(xs.flatMap f)[j*m+o]?=(f x)[o]?:=by
   intro xs
   induction xs with
   | nil=>intro j x o _ h;simp at h
   | cons y r ih =>
    intro j x o ho h
    cases j with
    | zero=>simp at h;subst h;rw[List.flatMap_cons,Nat.zero_mul,Nat.zero_add,List.getElem?_append_left (by rw[hm];exact ho)]
    | succ j=>rw[List.flatMap_cons,List.getElem?_append_right (by rw[hm,Nat.add_mul];omega),hm,show (j+1)*m+o - m=j*m+o by rw[Nat.add_mul];omega];exact ih j x o ho (by simpa using h)
  exact this l _ _ _ hr hl
 rw[e,hu] at hfa;have:=h _ _ hl _ _ hfa.symm
 rwa [e] at this
section
variable {H:Type} {enc:TypeId × Value->H} {w:World} {fuel:Nat} {cs:List Value} {x:DataW H × List MemPlace}
def Fits (t:TypeId) (d:DataW H):Prop:=∀ k∈d.weights prog t,k<=reachBytes
theorem weightsAll_mem {e:TypeId} {d:DataW H}:∀ {l:List (DataW H)},d∈l->∀ k∈d.weights prog e,k∈DataW.weightsAll prog e l
 | a::l,h,k,hk=>by
  simp only[DataW.weightsAll,List.mem_append]
  rcases List.mem_cons.1 h with rfl | h
  ·exact .inl hk
  ·exact .inr (weightsAll_mem h k hk)
theorem Fits.slice {t e:TypeId} {elems spare:List (DataW H)} (hu:prog.underlying t=some (.slice e)) (h:Fits t (.slice elems spare)):(elems.length+spare.length)*prog.bytesOf e<=reachBytes :=
 h _ (by simp[DataW.weights,hu])
theorem Fits.elem {t e:TypeId} {elems spare:List (DataW H)} (hu:prog.underlying t=some (.slice e)) (h:Fits t (.slice elems spare)) {d:DataW H} (hd:d∈elems):Fits e d :=
 fun k hk=>h k (by
  simp only[DataW.weights,hu,List.mem_cons,List.mem_append];exact .inr (.inl (weightsAll_mem hd k hk)))
theorem Fits.field {t:TypeId} {fs:Array Field} {parts:List (DataW H)} {j:Nat} {f:Field} {d:DataW H} (hu:prog.underlying t=some (.struct fs)) (h:Fits t (.agg parts)) (hf:fs[j]?=some f) (hd:parts[j]?=some d):Fits f.type d :=
 fun k hk=>h k (by
  simp only[DataW.weights,hu];exact DataW.weights_mem_each (t:=f.type) (by rw[List.getElem?_map,Array.getElem?_toList,hf];rfl) hd k hk)
theorem Fits.str {t:TypeId} {s:Nm} (h:Fits (H:=H) t (.lit (.string s))):s.length<=140737488355328:=by
 have:=h s.length (by simp[DataW.weights]);unfold reachBytes at this;omega
theorem op_slice {α:Type} {f:α->List Value} {m:Nat} {P:α->Prop} {t e:TypeId} (hm:∀ x,(f x).length=m) (h0:0<m) (hu:prog.underlying t=some (.slice e)) (hc:prog.cellsOf e=m) (hb:0<prog.bytesOf e)
 (hel:∀ (n:Nat) (cs':List Value) (y:DataW H × List MemPlace),Fits e y.1->DataW.trod enc prog w 0 (fun _=>true) true n e cs'=some y->∃ z,cs'=f z/\P z)
 (hw:Fits t x.1) (h:DataW.trod enc prog w 0 (fun _=>true) true fuel t cs=some x) :
 ∃ A c,∃ l:List α,cs=[.slice A l.length c]/\Rd w m A l.length (l.flatMap f)/\l.length<=140737488355328/\l.length<=c/\∀ z∈l,P z:=by
 rcases open_slice hu h with ⟨hcs,_⟩ | ⟨a,len,cap,mm,n,D,Pl,hcs,_,hl,_,hmm,rfl,hi⟩
 ·exact⟨none,0,[],hcs,Row.nil_,by simp,by simp,fun z hz=>by simp at hz⟩
 ·replace hmm:mm=cap:=by simpa using hmm
  have hreach:=hw.slice hu;simp only[List.length_map,List.length_range,reachBytes] at hreach;rw[hc] at hi
  obtain⟨l,hll,hp⟩:=exists_list (fun i (z:α)=>P z/\∀ (r:Nat) (u:Value),(f z)[r]?=some u->w.cell? (a.add (i*m+r))=some u) len (fun i hi'=>by
   obtain⟨cs',hc',ht'⟩:=hi i (by omega);obtain⟨z,rfl,hz⟩:=hel n cs' _ (hw.elem hu (List.mem_map.2 ⟨i,List.mem_range.2 hi',rfl⟩)) ht';obtain⟨_,hcl,hat⟩:=World.cells?_some hc';refine⟨z,hz,fun r u hu=>?_⟩;have hr:r<m:=by rw[<-hm z];exact (lgs.1 hu).1
   rw[<-Go.Deep.add_add,hat r hr,hu])
  have hlen:(l.flatMap f).length=l.length*m:=flatMap_len hm l;have hle:len*1<=(len+(mm - len))*prog.bytesOf e:=Nat.mul_le_mul (by omega) hb;refine⟨some a,cap,l,by rw[hcs,hll],Row.of_add hlen h0 (flat_cells hm h0 fun k t hk=>(hp k t hk).2),by rw[hll];omega,by rw[hll];exact hl,fun z hz=>?_⟩;obtain⟨i,hi'⟩:=List.mem_iff_getElem?.1 hz;exact (hp i z hi').1
theorem op_on (hw:Fits 31 x.1) (h:DataW.trod enc prog w 0 (fun _=>true) true fuel 31 cs=some x):∃ n:ON,cs=n.cs/\n.owner.length<=140737488355328/\n.text.length<=140737488355328:=by
 obtain⟨xs,n,_,rfl,hlen,hxl,hf⟩:=DataW.trod_struct underlying31 h;have hlen':cs.length=5:=hlen.trans (by kernel_rfl)
 match cs,hlen' with
 | [c0,c1,c2,c3,c4],_ =>
  have q:∀ j,j<5->∃ y,xs[j]?=some y:=fun j hj=>⟨_,lge (by rw[hxl];exact hj)⟩;obtain⟨y0,e0⟩:=q 0 (by omega);obtain⟨y1,e1⟩:=q 1 (by omega);obtain⟨y2,e2⟩:=q 2 (by omega);obtain⟨y3,e3⟩:=q 3 (by omega);obtain⟨y4,e4⟩:=q 4 (by omega);have k3:prog.cellsOf 3=1:=by kernel_rfl
  have k29:prog.cellsOf 29=1:=by kernel_rfl
  have k9:prog.cellsOf 9=1:=by kernel_rfl
  have f0:DataW.trod enc prog w 0 (fun _=>true) true n 3 (([c0,c1,c2,c3,c4].drop 0).take (prog.cellsOf 3))=some y0:=(hf 0 _ rfl).trans e0;have f1:DataW.trod enc prog w 0 (fun _=>true) true n 29 (([c0,c1,c2,c3,c4].drop 1).take (prog.cellsOf 29))=some y1:=(hf 1 _ rfl).trans e1;have f2:DataW.trod enc prog w 0 (fun _=>true) true n 3 (([c0,c1,c2,c3,c4].drop 2).take (prog.cellsOf 3))=some y2:=(hf 2 _ rfl).trans e2;have f3:DataW.trod enc prog w 0 (fun _=>true) true n 3 (([c0,c1,c2,c3,c4].drop 3).take (prog.cellsOf 3))=some y3:=(hf 3 _ rfl).trans e3;have f4:DataW.trod enc prog w 0 (fun _=>true) true n 9 (([c0,c1,c2,c3,c4].drop 4).take (prog.cellsOf 9))=some y4:=(hf 4 _ rfl).trans e4;rw[k3] at f0 f2 f3;rw[k29] at f1;rw[k9] at f4;have w1:Fits 29 y1.1:=hw.field (j:=1) underlying31 rfl (by rw[List.getElem?_map,e1];rfl);have w4:Fits 9 y4.1:=hw.field (j:=4) underlying31 rfl (by rw[List.getElem?_map,e4];rfl);obtain⟨a0,g0,_,_⟩:=DataW.trod_int underlying3 f0;obtain⟨s1,g1,rfl,_⟩:=DataW.trod_string underlying29 f1;obtain⟨a2,g2,_,_⟩:=DataW.trod_int underlying3 f2;obtain⟨a3,g3,_,_⟩:=DataW.trod_int underlying3 f3;obtain⟨s4,g4,rfl,_⟩:=DataW.trod_string underlying9 f4;simp at g0 g1 g2 g3 g4;subst g0 g1 g2 g3 g4;exact⟨⟨a0,s1.data.toList,a2,a3,s4.data.toList⟩,rfl,w1.str,w4.str⟩
theorem op_ch (hw:Fits 95 x.1) (h:DataW.trod enc prog w 0 (fun _=>true) true fuel 95 cs=some x):∃ c:CH,cs=c.cs/\c.fit:=by
 obtain⟨xs,n,_,rfl,hlen,hxl,hf⟩:=DataW.trod_struct underlying95 h;have hlen':cs.length=7:=hlen.trans (by kernel_rfl)
 match cs,hlen' with
 | [c0,c1,c2,c3,c4,c5,c6],_ =>
  have q:∀ j,j<3->∃ y,xs[j]?=some y:=fun j hj=>⟨_,lge (by rw[hxl];exact hj)⟩;obtain⟨y0,e0⟩:=q 0 (by omega);obtain⟨y1,e1⟩:=q 1 (by omega);obtain⟨y2,e2⟩:=q 2 (by omega);have k5:prog.cellsOf 31=5:=by kernel_rfl
  have k9:prog.cellsOf 9=1:=by kernel_rfl
  have k4:prog.cellsOf 4=1:=by kernel_rfl
  have f0:DataW.trod enc prog w 0 (fun _=>true) true n 31 (([c0,c1,c2,c3,c4,c5,c6].drop 0).take (prog.cellsOf 31))=some y0:=(hf 0 _ rfl).trans e0;have f1:DataW.trod enc prog w 0 (fun _=>true) true n 9 (([c0,c1,c2,c3,c4,c5,c6].drop 5).take (prog.cellsOf 9))=some y1:=(hf 1 _ rfl).trans e1;have f2:DataW.trod enc prog w 0 (fun _=>true) true n 4 (([c0,c1,c2,c3,c4,c5,c6].drop 6).take (prog.cellsOf 4))=some y2:=(hf 2 _ rfl).trans e2;rw[k5] at f0;rw[k9] at f1;rw[k4] at f2;have w0:Fits 31 y0.1:=hw.field (j:=0) underlying95 rfl (by rw[List.getElem?_map,e0];rfl);have w1:Fits 9 y1.1:=hw.field (j:=1) underlying95 rfl (by rw[List.getElem?_map,e1];rfl);obtain⟨m,g0,l1,l2⟩:=op_on w0 f0;obtain⟨s1,g1,rfl,_⟩:=DataW.trod_string underlying9 f1;obtain⟨b2,g2,rfl⟩:=DataW.trod_bool underlying4 f2;simp[ON.cs] at g0 g1 g2;obtain⟨rfl,rfl,rfl,rfl,rfl⟩:=g0;subst g1 g2;exact⟨⟨m,s1.data.toList,b2⟩,rfl,l1,l2,w1.str⟩
structure AIn (w:World) (x:AX):Prop where
 s:encN x.a.k.lin=.string x.sl
 r:Chs w x.A x.a.r
 w:Chs w x.B x.a.w
 lin:x.a.k.lin.length<=140737488355328
 rf:∀ c∈x.a.r,c.fit
 wf:∀ c∈x.a.w,c.fit
 rl:x.a.r.length<=140737488355328
 wl:x.a.w.length<=140737488355328
theorem AIn.fr0 {w w':World} {x:AX} (h:AIn w x) (hf:Fr [] w w'):AIn w' x:=⟨h.s,h.r.fr0 hf,h.w.fr0 hf,h.lin,h.rf,h.wf,h.rl,h.wl⟩
theorem AIn.fit {w:World} {x:AX} (h:AIn w x) (hr:x.a.r.length<=10) (hw:x.a.w.length<=10):x.a.fit:=⟨h.lin,h.rf,h.wf,by omega,by omega⟩
theorem op_act (hw:Fits 91 x.1) (h:DataW.trod enc prog w 0 (fun _=>true) true fuel 91 cs=some x):∃ z:AX,cs=z.cs/\AIn w z:=by
 obtain⟨xs,n,_,rfl,hlen,hxl,hf⟩:=DataW.trod_struct underlying91 h;have hlen':cs.length=6:=hlen.trans (by kernel_rfl)
 match cs,hlen' with
 | [c0,c1,c2,c3,c4,c5],_ =>
  have q:∀ j,j<3->∃ y,xs[j]?=some y:=fun j hj=>⟨_,lge (by rw[hxl];exact hj)⟩;obtain⟨y0,e0⟩:=q 0 (by omega);obtain⟨y1,e1⟩:=q 1 (by omega);obtain⟨y2,e2⟩:=q 2 (by omega);have k4:prog.cellsOf 89=4:=by kernel_rfl
  have k1:prog.cellsOf 62=1:=by kernel_rfl
  have f0:DataW.trod enc prog w 0 (fun _=>true) true n 89 (([c0,c1,c2,c3,c4,c5].drop 0).take (prog.cellsOf 89))=some y0:=(hf 0 _ rfl).trans e0;have f1:DataW.trod enc prog w 0 (fun _=>true) true n 62 (([c0,c1,c2,c3,c4,c5].drop 4).take (prog.cellsOf 62))=some y1:=(hf 1 _ rfl).trans e1;have f2:DataW.trod enc prog w 0 (fun _=>true) true n 62 (([c0,c1,c2,c3,c4,c5].drop 5).take (prog.cellsOf 62))=some y2:=(hf 2 _ rfl).trans e2;rw[k4] at f0;rw[k1] at f1 f2;have w0:Fits 89 y0.1:=hw.field (j:=0) underlying91 rfl (by rw[List.getElem?_map,e0];rfl);have w1:Fits 62 y1.1:=hw.field (j:=1) underlying91 rfl (by rw[List.getElem?_map,e1];rfl);have w2:Fits 62 y2.1:=hw.field (j:=2) underlying91 rfl (by rw[List.getElem?_map,e2];rfl);obtain⟨ks,n2,_,rfl,klen,kxl,kf⟩:=DataW.trod_struct underlying89 f0;have p:∀ j,j<4->∃ y,ks[j]?=some y:=fun j hj=>⟨_,lge (by rw[kxl];exact hj)⟩;obtain⟨z0,h0⟩:=p 0 (by omega);obtain⟨z1,h1⟩:=p 1 (by omega);obtain⟨z2,h2⟩:=p 2 (by omega);obtain⟨z3,h3⟩:=p 3 (by omega);have j3:prog.cellsOf 3=1:=by kernel_rfl
  have j29:prog.cellsOf 29=1:=by kernel_rfl
  have u0:DataW.trod enc prog w 0 (fun _=>true) true n2 3 (([c0,c1,c2,c3].drop 0).take (prog.cellsOf 3))=some z0:=(kf 0 _ rfl).trans h0;have u1:DataW.trod enc prog w 0 (fun _=>true) true n2 3 (([c0,c1,c2,c3].drop 1).take (prog.cellsOf 3))=some z1:=(kf 1 _ rfl).trans h1;have u2:DataW.trod enc prog w 0 (fun _=>true) true n2 3 (([c0,c1,c2,c3].drop 2).take (prog.cellsOf 3))=some z2:=(kf 2 _ rfl).trans h2;have u3:DataW.trod enc prog w 0 (fun _=>true) true n2 29 (([c0,c1,c2,c3].drop 3).take (prog.cellsOf 29))=some z3:=(kf 3 _ rfl).trans h3;rw[j3] at u0 u1 u2;rw[j29] at u3;have v3:Fits 29 z3.1:=w0.field (j:=3) underlying89 rfl (by rw[List.getElem?_map,h3];rfl);obtain⟨a0,g0,_,_⟩:=DataW.trod_int underlying3 u0;obtain⟨a1,g1,_,_⟩:=DataW.trod_int underlying3 u1;obtain⟨a2,g2,_,_⟩:=DataW.trod_int underlying3 u2;obtain⟨s3,g3,rfl,_⟩:=DataW.trod_string underlying29 u3;obtain⟨A,c,r,g4,hr,hrl,_,hrf⟩:=op_slice (P:=CH.fit) ch_len (by omega) underlying62 (by kernel_rfl) (of_decide_eq_true (by kernel_rfl)) (fun _ _ _ hw h=>op_ch hw h) w1 f1;obtain⟨B,d,v,g5,hv,hvl,_,hvf⟩:=op_slice (P:=CH.fit) ch_len (by omega) underlying62 (by kernel_rfl) (of_decide_eq_true (by kernel_rfl)) (fun _ _ _ hw h=>op_ch hw h) w2 f2;simp at g0 g1 g2 g3 g4 g5;subst g0 g1 g2 g3 g4 g5;exact⟨⟨⟨⟨a0,a1,a2,s3.data.toList⟩,r,v⟩,s3,A,c,B,d⟩,rfl,rfl,hr,hv,v3.str,hrf,hvf,hrl,hvl⟩
structure AIns (w:World) (A:Option Addr) (l:List AX):Prop where
 row:Rd w 6 A l.length (l.flatMap AX.cs)
 each:∀ z∈l,AIn w z
 len:l.length<=140737488355328
theorem AIns.fr0 {w w':World} {A:Option Addr} {l:List AX} (h:AIns w A l) (hf:Fr [] w w'):AIns w' A l:=⟨h.row.fr0 hf,fun z hz=>(h.each z hz).fr0 hf,h.len⟩
theorem op_acts {r:Reach} {b0:Nat} {v:Value} {d:DataW H} {p:List MemPlace} (hv:Value.okWide prog w r b0 22 v) (hw:Fits 22 d) (h:DataW.Trod enc prog w 0 (fun _=>true) true 22 v d p):∃ A c l,v=.slice A l.length c/\AIns w A l:=by
 obtain⟨fuel,hf⟩:=h;obtain⟨a,len,cap,rfl⟩:=okWide_slice underlying22 hv;obtain⟨A,c,l,g,hr,hl,_,hp⟩:=op_slice (x:=(d,p)) (P:=AIn w) ax_len (by omega) underlying22 (by kernel_rfl) (of_decide_eq_true (by kernel_rfl)) (fun _ _ _ hw h=>op_act hw h) hw hf;refine⟨A,c,l,?_,hr,hp,hl⟩;simp[Value.cells] at g;obtain⟨rfl,rfl,rfl⟩:=g;rfl
end
open Go.RowKit
set_option maxHeartbeats 4000000
def SmallPost (w:World) (e:Ending) (w':World):Prop:=∃ b xs M,e=.returned (.tuple #[.pointer (some ⟨b,0,none⟩),.bool true])/\HG w' b xs M/\Fr [] w w'/\∀ k∈M,w.heap.size<=k
theorem Small_g (A:Option Addr) (c:Nat) (l:List AX) (w:World) (hok:Ok w) (h:AIns w A l):Calls prog 10 #[.slice A l.length c] w (SmallPost w):=by
 obtain⟨n,hn⟩:=nmd (l.length);have HL:=Hd (An hn h);have HOK:=Hd hok;rw[hn];clear hn h hok
 go_enter func10,ntmps10
 go_upto_region 2 with (first
  | (go_at_call 33;(with_reducible refine (NewS_any w).mono ?_);rintro e w1 ⟨rfl,hst,hf1⟩;have H1:=Hd (An hst hf1);clear hst hf1)
  | (go_at_call 32;(with_reducible refine (New_h w.heap.size w1 (HOK.out.fr0 H1.out.2) H1.out.1).mono ?_);rintro e w2 ⟨b,M0,rfl,hh,hf2,hM0⟩;have H2:=Hd (An hh (An (H1.out.2.then hf2) (show ∀ k∈M0,w.heap.size<=k from fun k hk=>Nat.le_trans H1.out.2.size (hM0 k hk))));clear hh hf2 hM0))
 go_wp2_with fail
 go_loopw [6] (fun i W=>∃ (j:Nat) (xs:List AX) (M:List Nat),j<=n/\j<=12/\i=.int .i64 (j:Int)/\HG W b xs M/\xs.length<=j/\Fr [] w W/\∀ k∈M,w.heap.size<=k) (fun i _=>12 - (intOf i).toNat)
 case atStart=>exact⟨0,[],M0,Nat.zero_le _,Nat.zero_le _,rfl,H2.out.1,by simp,H2.out.2.1,H2.out.2.2⟩
 case round =>
  obtain⟨j,xs,M,hj,hj12,rfl,hh,hle,hfr,hM⟩:=hrel;have HF:=Hd (An hh (An hle (An hfr hM)));clear hh hle hfr hM
  by_cases hlt:j<n/\j<12
  ·obtain⟨hlt,hlt12⟩:=hlt
   have hlt3:(j:Int)<(n:Int):=by omega
   have hlt4:(j:Int)<12:=by omega
   have hd1:decide (j<n)=true:=by simpa using hlt
   have hd2:decide ((j:Int)<12)=true:=decide_eq_true hlt4;have hai:=HL.out.2.fr0 HF.out.2.2.1;have hrow:Row wr wr.heap.size 6 A n (l.flatMap AX.cs):=by have h:=hai.row;unfold Rd at h;rw[HL.out.1] at h;exact h
   obtain⟨bb,off,rfl,hbl,hcl⟩:=row_get ax_len hrow (by omega);obtain⟨x,hx⟩:∃ x,l[j]?=some x:=⟨_,lge (by rw[HL.out.1];exact hlt)⟩;have hin:=HL.out.2.each x (lmg hx);have hcx:=hcl j x hx;obtain⟨nr,hnr⟩:=nmd (x.a.r.length);obtain⟨nw,hnw⟩:=nmd (x.a.w.length);obtain⟨ti,hti⟩:=nmd (x.a.k.rnd);obtain⟨ph,hph⟩:=nmd (x.a.k.phase);obtain⟨ix,hix⟩:=nmd (x.a.k.idx);obtain⟨sl,hsl⟩:=nmd (x.sl);obtain⟨RA,hRA⟩:=nmd (x.A);obtain⟨RB,hRB⟩:=nmd (x.B);obtain⟨rc,hrc⟩:=nmd (x.c);obtain⟨rd,hrd⟩:=nmd (x.d);have hval:x.a.val sl RA rc RB rd=.agg #[.int .i64 ti,.int .i64 ph,.int .i64 ix,.string sl,.slice RA nr rc,.slice RB nw rd]:=by unfold AG.val;rw[hti,hph,hix,hnr,hnw]
   unfold AX.cs at hcx;rw[hti,hph,hix,hsl,hRA,hRB,hrc,hrd,hnr,hnw] at hcx;have y0:wr.cell? ⟨bb,off+j*6,none⟩=some (.int .i64 ti):=hcx 0 (by omega);have y1:wr.cell? ⟨bb,off+j*6+1,none⟩=some (.int .i64 ph):=hcx 1 (by omega);have y2:wr.cell? ⟨bb,off+j*6+2,none⟩=some (.int .i64 ix):=hcx 2 (by omega);have y3:wr.cell? ⟨bb,off+j*6+3,none⟩=some (.string sl):=hcx 3 (by omega);have y4:wr.cell? ⟨bb,off+j*6+4,none⟩=some (.slice RA nr rc):=hcx 4 (by omega);have y5:wr.cell? ⟨bb,off+j*6+5,none⟩=some (.slice RB nw rd):=hcx 5 (by omega);have hwj:IntKind.i64.wrap ((j:Int)+1)=(j:Int)+1:=by simp[IntKind.wrap,IntKind.bits,IntKind.signed];omega
   by_cases h10:nr<=10/\nw<=10
   ·have hd3:decide ((nr:Int)<=10)=true:=by simp;omega
    have hd4:decide ((nw:Int)<=10)=true:=by simp;omega
    have ha:=HAppend_g b xs M x.a sl RA RB rc rd wr HF.out.1 (HOK.out.fr0 HF.out.2.2.1) (fun k hk=>Nat.le_trans HOK.out.low (HF.out.2.2.2 k hk)) (by rw[<-hsl];exact hin.s) (hin.fit (by omega) (by omega)) (by omega) (by omega) (by have:=HF.out.2.1;omega)
     (fun W hW=>by
      have hi:=hin.fr0 (HF.out.2.2.1.trans hW (fun k hk=>.inr (HF.out.2.2.2 k hk)));exact⟨by rw[<-hRA];exact hi.r,by rw[<-hRB];exact hi.w⟩)
    rw[hval] at ha;have HA:=Hd ha;clear ha hval hti hph hix hsl hRA hRB hrc hrd hnr hnw hcx hcl hrow hx hin hai
    go_wp2_with (go_at_call 34;(with_reducible refine HA.out.mono ?_);rintro e w3 ⟨q,rfl,hq⟩;have HQ:=Hd hq;clear hq)
    go_roundw
    case rel =>
     rcases HQ.out with ⟨_,_,hf⟩ | ⟨_,_,M',y,_,hg,hf,hM'⟩
     ·exact⟨j+1,xs,M,by omega,by omega,by go_num,HF.out.1.fr0 hf,by have:=HF.out.2.1;omega,HF.out.2.2.1.then hf,HF.out.2.2.2⟩
     ·exact⟨j+1,xs++[y],M',by omega,by omega,by go_num,hg,by have:=HF.out.2.1;simp;omega,HF.out.2.2.1.trans hf (fun k hk=>.inr (HF.out.2.2.2 k hk)),fun k hk=>(hM' k hk).elim (HF.out.2.2.2 k) (fun h=>Nat.le_trans HF.out.2.2.1.size h)⟩
    case measure=>simp[intOf];omega
   ·clear hval hti hph hix hsl hRA hRB hrc hrd hnr hnw hcx hcl hrow hx hin hai
    by_cases h1:nr<=10
    ·have hd3:decide ((nr:Int)<=10)=true:=by simp;omega
     have hd4:decide ((nw:Int)<=10)=false:=by simp;omega
     go_wp2_with fail
     go_roundw
     case rel=>exact⟨j+1,xs,M,by omega,by omega,by go_num,HF.out.1,by have:=HF.out.2.1;omega,HF.out.2.2.1,HF.out.2.2.2⟩
     case measure=>simp[intOf];omega
    ·have hd3:decide ((nr:Int)<=10)=false:=by simp;omega
     go_wp2_with fail
     go_roundw
     case rel=>exact⟨j+1,xs,M,by omega,by omega,by go_num,HF.out.1,by have:=HF.out.2.1;omega,HF.out.2.2.1,HF.out.2.2.2⟩
     case measure=>simp[intOf];omega
  ·by_cases hjn:j<n
   ·obtain rfl:j=12:=by omega
    have hd1:decide ((12:Nat)<n)=true:=by simpa using hjn
    have hlt3:((12:Nat):Int)<(n:Int):=by omega
    go_wp2_with fail
    go_ret2
    exact⟨b,xs,M,rfl,HF.out.1,HF.out.2.2.1,HF.out.2.2.2⟩
   ·obtain rfl:j=n:=by omega
    go_wp2_with fail
    go_ret2
    exact⟨b,xs,M,rfl,HF.out.1,HF.out.2.2.1,HF.out.2.2.2⟩
set_option maxHeartbeats 1000000
theorem Port_any (i:Int) (w:World):Calls prog 35 #[.int .i64 i] w (RetPost w (portV i)):=by
 unfold portV;obtain⟨w1,hw1,n1,f1⟩:=bxn w #[.int .i64 0,.string ⟨#[]⟩,.int .i64 0,.int .i64 0,.string ⟨#[]⟩] 31;have HW:=Hd (An hw1 (An n1 f1));clear hw1 n1 f1
 go_enter func35,ntmps35
 go_upto_region 1 with fail
 rw[HW.out.1];have n1:=HW.out.2.1;have v0:=n1.f 0;have v1:=n1.f 1;have v2:=n1.f 2;have v3:=n1.f 3;have v4:=n1.f 4;obtain⟨x0,x1,x2,x3,x4⟩:=n1.m5;clear n1
 go_wp2_with fail
 obtain⟨w2,hw2⟩:=nmd ((((((w1.setCell ⟨w.heap.size,0,none⟩ (.int .i64 16)).setCell ⟨w.heap.size,1,none⟩ (.string ⟨#[]⟩)).setCell ⟨w.heap.size,2,none⟩ (.int .i64 i)).setCell ⟨w.heap.size,3,none⟩ (.int .i64 0)).setCell ⟨w.heap.size,4,none⟩ (.string ⟨#[]⟩)));have n2:BoxN w2 w.heap.size 31 #[.int .i64 16,.string ⟨#[]⟩,.int .i64 i,.int .i64 0,.string ⟨#[]⟩]:=by rw[<-hw2];exact (((((HW.out.2.1.setAt 0 _).setAt 1 _).setAt 2 _).setAt 3 _).setAt 4 _)
 have f2:Fr [w.heap.size] w1 w2:=by rw[<-hw2];exact (((((Fq [w.heap.size] w1).set (.inl (by simp)) _).set (.inl (by simp)) _).set (.inl (by simp)) _).set (.inl (by simp)) _).set (.inl (by simp)) _
 rw[hw2];obtain⟨t0,t1,t2,t3,t4⟩:=n2.m5;refine bodyPost_ret (v:=.agg #[.int .i64 16,.string ⟨#[]⟩,.int .i64 i,.int .i64 0,.string ⟨#[]⟩]) (by simp[results,results35,go_sem,t0,t1,t2,t3,t4]) rfl ?_;exact⟨rfl,HW.out.2.2.trans f2 (by simp)⟩
def lnkC:List Value:=[.int .i64 0,.int .i64 1,.int .i64 16,.string ⟨#[]⟩,.int .i64 1,.int .i64 0,.string ⟨#[]⟩]
theorem EqualL_any (a b ca cb:Nat) (w:World) (ha:Cs w a lnkC) (hb:Cs w b lnkC):Calls prog 36 #[.slice (some ⟨a,0,none⟩) 1 ca,.slice (some ⟨b,0,none⟩) 1 cb] w (RetPost w (.bool true)):=by
 have HA:=Hd ha;have HB:=Hd hb;clear ha hb
 go_enter func36,ntmps36
 go_upto_region 4 with fail
 refine wp_loop_rounds 2 ?_;rw[rounds_succ]
 go_upto_region 6 with fail
 have hwr:IntKind.i64.wrap 0=0:=by decide
 have hSS0:∀ W,Fr [] w W->Cs W a lnkC/\Cs W b lnkC:=fun W hW=>⟨HA.out.fr0 hW,HB.out.fr0 hW⟩;unfold lnkC at hSS0;have HSS:=Hd (fun (W:World) (hW:Fr [] w W)=>(⟨(hSS0 W hW).1.2 0 _ rfl,(hSS0 W hW).1.2 1 _ rfl,(hSS0 W hW).1.2 2 _ rfl,(hSS0 W hW).1.2 3 _ rfl,(hSS0 W hW).1.2 4 _ rfl,(hSS0 W hW).1.2 5 _ rfl,(hSS0 W hW).1.2 6 _ rfl,(hSS0 W hW).2.2 0 _ rfl,(hSS0 W hW).2.2 1 _ rfl,(hSS0 W hW).2.2 2 _ rfl,(hSS0 W hW).2.2 3 _ rfl,(hSS0 W hW).2.2 4 _ rfl,(hSS0 W hW).2.2 5 _ rfl,(hSS0 W hW).2.2 6 _ rfl⟩:W.cell? ⟨a,0,none⟩=some (.int .i64 0)/\W.cell? ⟨a,1,none⟩=some (.int .i64 1)/\W.cell? ⟨a,2,none⟩=some (.int .i64 16)/\W.cell? ⟨a,3,none⟩=some (.string ⟨#[]⟩)/\W.cell? ⟨a,4,none⟩=some (.int .i64 1)/\W.cell? ⟨a,5,none⟩=some (.int .i64 0)/\W.cell? ⟨a,6,none⟩=some (.string ⟨#[]⟩)/\W.cell? ⟨b,0,none⟩=some (.int .i64 0)/\W.cell? ⟨b,1,none⟩=some (.int .i64 1)/\W.cell? ⟨b,2,none⟩=some (.int .i64 16)/\W.cell? ⟨b,3,none⟩=some (.string ⟨#[]⟩)/\W.cell? ⟨b,4,none⟩=some (.int .i64 1)/\W.cell? ⟨b,5,none⟩=some (.int .i64 0)/\W.cell? ⟨b,6,none⟩=some (.string ⟨#[]⟩)));clear hSS0;refine wp_region_qall (fun W=>Fr [] w W) (by kernel_rfl) (by kernel_rfl) ((Fq _ w).drew) ?_
 repeat (
  first
  | go_big_quiet_skip
  | (go_big_quiet_want
     first
     | (go_big_quiet_op
        go_big_quiet_on)
     | (apply Exists.intro
        refine⟨fun W hW=>?_,?_⟩
        ·(obtain⟨a0,a1,a2,a3,a4,a5,a6,b0,b1,b2,b3,b4,b5,b6⟩:=HSS.out W hW
          go_simp
          first
          | done
          | (with_reducible exact rfl)
          | (with_reducible exact⟨rfl,rfl⟩)
          | (fail))
        simp only[Act.put,qA,qB,qC]
        go_big_quiet_on))
  )
 refine wpQuiet_nil ?_;intro w2 hw2
 go_wp2_with fail
 rw[rounds_succ]
 go_wp2_with fail
 go_ret
 exact⟨rfl,hw2⟩
section
variable {P:Program} {ops:Array Oper} {md:Region.Mode} {Q:Exit->Act->World->Prop} {D E:World->Prop} {n st:Nat} {L:Array Bool->Act->World->Prop}
def headS (P:Program) (md:Region.Mode) (ops:Array Oper) (Q:Exit->Act->World->Prop) (D:World->Prop) (st n:Nat) (L:Array Bool->Act->World->Prop):Nat->Array Bool->Act->World->Prop
 | 0,S,a,w=>L S a w
 | f+1,S,a,w=>Region.ready md ops S≠[]/\∀ i∈Region.ready md ops S,i<n/\wpOp P ops Q i (fun a' w'=>((S.setIfInBounds i true).getD st false=false->D w')/\headS P md ops Q D st n L f (S.setIfInBounds i true) a' w') a w
theorem wpAny_of_headS {g:Nat} (hL:∀ S a w,L S a w->wpAny P md ops Q g S a w) (f:Nat):∀ (S:Array Bool) (a:Act) (w:World),headS P md ops Q D st n L f S a w->wpAny P md ops Q (f+g) S a w:=by
 induction f with
 | zero=>intro S a w h;rw[Nat.zero_add];exact hL S a w h
 | succ f ih =>
  intro S a w h;rw[Nat.add_right_comm];exact⟨fun h0=>absurd h0 h.1,fun i hi=>wpOp_mono (fun a' w' h'=>ih _ a' w' h'.2) (h.2 i hi).2⟩
theorem headS_first {i:Nat} {oi:Oper} {v:Value} (hi:ops[i]?=some oi) (hns:Region.noSelect ops=true) (hs:Region.sinkB md ops n=true) (hc:Region.chainB md ops n=true) (hn:n<ops.size) (hin:i<n)
 (hQ:∀ c a w,Q (.panic c) (a.put oi.dst v) w->Q (.panic c) a w) (hdone:∀ S a w,L S a w->∀ j∈Region.ready md ops S,n<=j) (hist:i≠st) (hE:(∀ w,E w) \/ ((∀ w,D w->E w)/\Region.waitsFor md ops st i=true)) (f:Nat) :
 ∀ (S:Array Bool) (a:Act) (w:World),HeadInv md ops n S ->
  (∀ j oj,ops[j]?=some oj->j≠i->S.getD j true=false->(∀ e∈oj.after,Region.binds md e=true->e.on≠i)->oi.apart ops oj=true) ->
  i∈Region.ready md ops S->YieldsIf P ops E oi v a->(S.getD st false=false->D w)->headS P md ops Q D st n L f (S.setIfInBounds i true) (a.put oi.dst v) w->headS P md ops Q D st n L (f+1) S a w:=by
 have hsel:=Region.noSelect_spec hns
 have hund:∀ S,HeadInv md ops n S->S.getD i true=false->Region.waitsFor md ops st i=true->S.getD st false=false:=fun S inv hun h2=>by
  obtain⟨oj,hoj,e,he,hb,hon⟩:=Region.waitsFor_spec h2
  cases hl:S.getD st false with
  | false=>rfl
  | true =>
   have h3:=inv.closed st oj hoj hl e he hb;rw[hon,getD_both hun] at h3
   cases h3
 have hEw:∀ S w,HeadInv md ops n S->S.getD i true=false->(S.getD st false=false->D w)->E w:=fun S w inv hun hC=>by
  rcases hE with h | ⟨h1,h2⟩
  ·exact h w
  ·exact h1 w (hC (hund S inv hun h2))
 have hkeep:∀ (S:Array Bool) w,(S.getD st false=false->D w)->((S.setIfInBounds i true).getD st false=false->D w):=fun S w hC h=>hC (by rwa [getD_set_ne false hist] at h)
 induction f with
 | zero =>
  intro S a w inv _ hr hy hC H;have hun:=(mem_ready.1 hr).1;refine⟨fun h=>by rw[h] at hr;simp at hr,fun j hj=>?_⟩
  by_cases hji:j=i
  ·subst hji;exact⟨hin,hy.wpOp hi (hEw S w inv hun hC) ⟨hkeep S w hC,H⟩⟩
  ·have hjn:j<n:=Nat.lt_of_not_le fun h=>tail_waits hs hc hn inv _ i rfl hin hun j h hj
   have:=hdone _ _ _ H j (ready_mono hj hji)
   omega
 | succ f ih =>
  intro S a w inv hap hr hy hC H;have hun:=(mem_ready.1 hr).1;refine⟨fun h=>by rw[h] at hr;simp at hr,fun j hj=>?_⟩
  by_cases hji:j=i
  ·subst hji;exact⟨hin,hy.wpOp hi (hEw S w inv hun hC) ⟨hkeep S w hC,H⟩⟩
  ·have hjn:j<n:=Nat.lt_of_not_le fun h=>tail_waits hs hc hn inv _ i rfl hin hun j h hj
   refine⟨hjn,?_⟩;obtain⟨hjun,oj,hoj,hall⟩:=mem_ready.1 hj
   have hne:∀ e∈oj.after,Region.binds md e=true->e.on≠i:=by
    intro e he hb heq;have h1:=hall e he hb;rw[heq,getD_both hun] at h1;exact absurd h1 (by simp)
   have hq:=wpOp_putIf hoj (hap j oj hoj hji hjun hne) (fun cs b=>hsel i oi cs b hi) (fun cs b=>hsel j oj cs b hoj) hQ hy (H.2 j (ready_mono hj hji)).2;refine wpOp_mono (fun a' w' h'=>?_) hq;have hC':(S.setIfInBounds j true).getD st false=false->D w':=fun h=>h'.2.1 (by rw[Array.setIfInBounds_comm _ _ (Ne.symm hji),getD_set_ne false hist];exact h);refine⟨hC',ih (S.setIfInBounds j true) a' w' (inv.set hj hjn) ?_ (ready_mono hr (Ne.symm hji)) h'.1 hC' ?_⟩
   ·intro k ok hk hki hkun hkne
    refine hap k ok hk hki ?_ hkne
    by_cases hjk:j=k
    ·subst hjk;exact hjun
    ·rw[getD_set_ne true hjk] at hkun;exact hkun
   ·rw[Array.setIfInBounds_comm _ _ hji]
    exact h'.2.2
def headSI (P:Program) (md:Region.Mode) (ops:Array Oper) (Q:Exit->Act->World->Prop) (D:World->Prop) (st n:Nat) (L:Array Bool->Act->World->Prop) (f:Nat) (S:Array Bool) (a:Act) (w:World):Prop:=HeadInv md ops n S->(S.getD st false=false->D w)->headS P md ops Q D st n L f S a w
theorem headSI_take {i:Nat} {oi:Oper} {v:Value} {f:Nat} {S:Array Bool} {a:Act} {w:World} (hB:(Region.noSelect ops && Region.sinkB md ops n && Region.chainB md ops n && decide (n<ops.size))=true) (hdone:∀ S a w,L S a w->∀ j∈Region.ready md ops S,n<=j)
 (hi:ops[i]?=some oi) (hin:i<n) (hist:i≠st) (hf:(Region.free md ops S i && (Region.ready md ops S).contains i && Region.waitsFor md ops st i)=true)
 (hQ:∀ c a w,Q (.panic c) (a.put oi.dst v) w->Q (.panic c) a w) (hy:YieldsIf P ops D oi v a)
 (h:headSI P md ops Q D st n L f (S.setIfInBounds i true) (a.put oi.dst v) w):headSI P md ops Q D st n L (f+1) S a w:=by
 simp only[Bool.and_eq_true,decide_eq_true_eq] at hB hf;intro inv hC;have hr:i∈Region.ready md ops S:=by simpa using hf.1.2
 exact headS_first hi hB.1.1.1 hB.1.1.2 hB.1.2 hB.2 hin hQ hdone hist (.inr ⟨fun _ h=>h,hf.2⟩) f S a w inv (Region.free_spec hi hf.1.1) hr hy hC (h (inv.set hr hin) (fun h=>hC (by rwa [getD_set_ne false hist] at h)))
theorem headSI_pure {i:Nat} {oi:Oper} {v:Value} {f:Nat} {S:Array Bool} {a:Act} {w:World} (hB:(Region.noSelect ops && Region.sinkB md ops n && Region.chainB md ops n && decide (n<ops.size))=true) (hdone:∀ S a w,L S a w->∀ j∈Region.ready md ops S,n<=j)
 (hi:ops[i]?=some oi) (hin:i<n) (hist:i≠st) (hf:(Region.free md ops S i && (Region.ready md ops S).contains i)=true)
 (hQ:∀ c a w,Q (.panic c) (a.put oi.dst v) w->Q (.panic c) a w) (hy:YieldsIf P ops (fun _=>True) oi v a)
 (h:headSI P md ops Q D st n L f (S.setIfInBounds i true) (a.put oi.dst v) w):headSI P md ops Q D st n L (f+1) S a w:=by
 simp only[Bool.and_eq_true,decide_eq_true_eq] at hB hf;intro inv hC;have hr:i∈Region.ready md ops S:=by simpa using hf.2
 exact headS_first (E:=fun _=>True) hi hB.1.1.1 hB.1.1.2 hB.1.2 hB.2 hin hQ hdone hist (.inl fun _=>trivial) f S a w inv (Region.free_spec hi hf.1) hr hy hC (h (inv.set hr hin) (fun h=>hC (by rwa [getD_set_ne false hist] at h)))
theorem headSI_store {oi:Oper} {f:Nat} {S:Array Bool} {a:Act} {w:World} (hr:Region.ready md ops S=[st]) (hin:st<n) (hi:ops[st]?=some oi)
 (h:∀ K:Act->World->Prop,(∀ a' w',headSI P md ops Q D st n L f (S.setIfInBounds st true) a' w'->K a' w')->if Region.wanted oi (yielded ops a.tmps)=true then oi.wp P a w K Q else K (a.put oi.dst undef) w):headSI P md ops Q D st n L (f+1) S a w:=by
 intro inv hC;refine⟨by rw[hr];simp,fun j hj=>?_⟩;rw[hr] at hj;obtain rfl:j=st:=by simpa using hj
 refine⟨hin,?_⟩;have hm:j∈Region.ready md ops S:=by rw[hr];simp
 have hlt:j<S.size:=by rw[inv.size];exact (Array.getElem?_eq_some_iff.1 hi).1
 have hn:∀ w':World,((S.setIfInBounds j true).getD j false=false->D w'):=fun w' h0=>by simp[hlt] at h0
 exact wpOp_step hi fun K hK=>h K fun a' w' hW=>hK a' w' ⟨hn w',hW (inv.set hm hin) (hn w')⟩
theorem headSI_only {i:Nat} {oi:Oper} {f:Nat} {S:Array Bool} {a:Act} {w:World} (hr:Region.ready md ops S=[i]) (hin:i<n) (hist:i≠st) (hi:ops[i]?=some oi)
 (h:∀ K:Act->World->Prop,(∀ a' w',D w'->headSI P md ops Q D st n L f (S.setIfInBounds i true) a' w'->K a' w')->if Region.wanted oi (yielded ops a.tmps)=true then oi.wp P a w K Q else K (a.put oi.dst undef) w):headSI P md ops Q D st n L (f+1) S a w:=by
 intro inv hC;refine⟨by rw[hr];simp,fun j hj=>?_⟩;rw[hr] at hj;obtain rfl:j=i:=by simpa using hj
 refine⟨hin,?_⟩;have hm:j∈Region.ready md ops S:=by rw[hr];simp
 exact wpOp_step hi fun K hK=>h K fun a' w' hD hW=>hK a' w' ⟨fun _=>hD,hW (inv.set hm hin) (fun _=>hD)⟩
theorem headSI_done {S:Array Bool} {a:Act} {w:World} (h:L S a w):headSI P md ops Q D st n L 0 S a w:=fun _ _=>h
theorem wp_region_store (D:World->Prop) {id:Nat} {a:Act} {w:World} {l:List Oper} (st n:Nat) (hm:P.follows .mixedOrders=true) (hD:D w.drew)
 (h:headSI P .any l.toArray Q D st n (fun S a w=>Region.seqB .any l.toArray (l.toArray.size - n) n S=true/\wpList P l.toArray Q (l.drop n) a w) n (Array.replicate l.toArray.size false) a w.drew) (hn:n<=l.length):(Code.region id l.toArray true).wp P Q a w:=by
 have inv:HeadInv .any l.toArray n (Array.replicate l.toArray.size false) :=
  ⟨by simp,fun j oj _ hl=>absurd hl (by rw[getD_replicate_false];simp),fun t _ ht=>getD_in (by simpa using ht) (getD_replicate_false _ _)⟩
 refine wp_region_any hm ?_;have hdl:(l.drop n).length=l.toArray.size - n:=by simp
 have hA:=wpAny_of_headS (g:=l.toArray.size - n) (fun S a' w' hL=>by
  have:=wpAny_of_seq (md:=.any) (Q':=Q) (l.drop n) n S a' w' (fun j=>by simp[List.getElem?_drop]) (by rw[hdl];exact hL.1) hL.2
  rwa [hdl] at this) _ _ _ _ (h inv (fun _=>hD))
 rw[show n+(l.toArray.size - n)=l.toArray.size by simp;omega] at hA;exact hA
end
end Go.Proofs.YtlpmiimgacfmkaaGreatDoor
