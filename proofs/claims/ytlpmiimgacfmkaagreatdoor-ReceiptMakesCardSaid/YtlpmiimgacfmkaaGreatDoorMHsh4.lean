/- SHA-256: Sum, Join, Tagged. -/
import Derived.Lib.AppendStr
import Derived.OwnWalk
import Derived.Laws.BytesArg
import Derived.LoopTactic
import Derived.Test.YtlpmiimgacfmkaaGreatDoorMHsh2
set_option linter.all false
namespace Go.Proofs.YtlpmiimgacfmkaaGreatDoor
open Go.Proofs.Tryz
open Go.RowKit
set_option maxRecDepth 100000
set_option maxHeartbeats 4000000
theorem lit_row {c:Array Value} {n:Nat} {f:Nat->Value} (h:c=((List.range n).map f).toArray):c.size=n/\∀ i,i<n->c[i]?=some (f i):=by
 subst h;refine⟨by simp,fun i hi=>?_⟩;simp[hi]
def hash0:HS:=⟨0,fun _=>0,fun _=>0⟩
theorem hash_new (w:World):HashAt (w.alloc (.cells Tryz.zeroCells165 165)) w.heap.size hash0:=by
 have h:=lit_row (c:=Tryz.zeroCells165) (n:=73) (f:=hcell hash0) (by kernel_rfl);exact World.rowIs_alloc w _ _ _ h.2
def shaN (l:Nm):Nm:=hsum (if l.length=0 then hash0 else hwrite ⟨0,iv,fun _=>0⟩ l)
theorem hwrite_len (h:HS) (l:List UInt8):(hwrite h l).len=h.len+l.length:=by
 generalize hn':l.length=n
 induction n using Nat.strongRecOn generalizing h l with
 | _ n ih =>
  by_cases h0:l.length=0
  ·rw[List.eq_nil_of_length_eq_zero h0,hwrite_nil]
   omega
  ·have hb:=hn_bounds h l
   rw[hwrite_step h0,ih (l.drop (hn h l)).length (by rw[List.length_drop];omega) _ _ rfl,List.length_drop];unfold hchunk;simp only;omega
theorem dcells_size (d:Nm):(dCells d).toArray.size=d.length:=by simp[dCells]
theorem shaN_len (l:Nm):(shaN l).length=32:=by simp[shaN,hsum,dig]
theorem dcells_len (d:Nm):(dCells d).length=d.length:=by simp[dCells]
theorem dcells_one (d:Nm):∀ v∈dCells d,v.oneCell'=true:=by
 intro v hv;obtain⟨x,_,rfl⟩:=List.mem_map.1 hv;rfl
theorem dcells_get {d:Nm} {j:Nat} (hj:j<d.length):(dCells d)[j]?=some (.int .u8 ((d.getD j 0).toNat:Int)):=by
 unfold dCells;rw[List.getElem?_map,lge hj,Option.map_some,List.getD_eq_getElem?_getD,lge hj];rfl
theorem row_digest {w:World} {b:Nat} {t:TypeId} {f:Nat->Value} {d:Nm} (h:w.rowIs b t 32 f) (hd:d.length=32):(w.setCells b 0 (dCells d)).rangeAt b 0 (dCells d)/\(w.setCells b 0 (dCells d)).rowIs b t 32 (fun j=>.int .u8 ((d.getD j 0).toNat:Int)):=by
 have h2:=rowIs_whole h (vs:=dCells d) (g:=fun j=>.int .u8 ((d.getD j 0).toNat:Int)) (by simp[dCells,hd]) (fun j hj=>dcells_get (by omega));refine⟨fun j v hv=>?_,h2⟩;have hj:j<32:=by have:=(lgs.1 hv).1;simpa [dCells,hd] using this
 rw[Nat.zero_add,h2.cell hj,<-hv,dcells_get (by omega)]
theorem store_digest {w:World} {b:Nat} {t:TypeId} {f:Nat->Value} {d:Nm} (h:w.rowIs b t 32 f) (hd:d.length=32):(storeCells ⟨b,0,none⟩ (dCells d)).run prog w=.ok () (w.setCells b 0 (dCells d)):=by
 have hth:=there_row h (nlr 32);have hl:(dCells d).length=32:=by simp[dCells,hd]
 have hst:=run_storeCells_cells (P:=prog) b 0 (dCells d) 0 w (by rw[hl];exact fun j hj=>(hth j hj).1) (by rw[hl];exact fun j hj=>(hth j hj).2) (dcells_one d);simp only[Nat.add_zero] at hst;exact hst
theorem SumS_any (l:Nm) (w:World) (hok:Ok w) (hl:l.length<=1152921504606846976):Calls prog 29 #[encN l] w (SumPost w (shaN l)):=by
 obtain⟨w1,hw1⟩:=nmd (w.alloc (.cells z32 57));obtain⟨w2,hw2⟩:=nmd (w1.alloc (.cells Tryz.zeroCells165 165));have hR:∃ f,w1.rowIs w.heap.size 57 32 f:=by rw[<-hw1];exact⟨_,row_new w _ _⟩
 obtain⟨fR,hR⟩:=hR;have hs1:w1.heap.size=w.heap.size+1:=by rw[<-hw1,wsA]
 have hH:HashAt w2 w1.heap.size hash0:=by rw[<-hw2];exact hash_new w1
 have hR2:w2.rowIs w.heap.size 57 32 fR:=by rw[<-hw2];exact hR.alloc _
 have hF2:Fr [] w w2:=by rw[<-hw2,<-hw1];exact ((Fq [] w).alloc _).alloc _
 rw[hs1] at hH;have hw6:=hok.low;have HW1:=Hd hw1;have HW2:=Hd hw2;have HH:=Hd hH;have HR:=Hd hR2;have HF:=Hd hF2;have HS1:=Hd hs1;clear hw1 hw2 hR hH hR2 hF2 hs1
 go_enter func29,ntmps29
 go_wp2_with fail
 rw[HW1.out,HW2.out];refine (Write_any (w.heap.size+1) l hash0 w2 (hok.fr0 HF.out) (by omega) hl HH.out rfl).mono ?_;rintro e w3 ⟨rfl,hH3,hF3⟩;have hR3:=rowIs_fr HR.out hF3 (by simp);have hF3':Fr [] w w3:=HF.out.trans hF3 (by simp)
 have hlen:(if l.length=0 then hash0 else hwrite ⟨0,iv,hash0.rest⟩ l).len=l.length:=by
  by_cases h0:l.length=0
  ·rw[if_pos h0,h0];rfl
  ·rw[if_neg h0,hwrite_len];simp
 have HH3:=Hd hH3;have HR3:=Hd hR3;have HF3:=Hd hF3';have HLEN:=Hd hlen;clear hH3 hR3 hF3 hF3' hlen
 go_wp2_with fail
 refine (Sum_any (w.heap.size+1) _ w3 (hok.fr0 HF3.out) (by omega) (by rw[HLEN.out];exact hl) HH3.out).mono ?_;rintro e w4 ⟨rfl,hF4⟩;have hsh:hsum (if l.length=0 then hash0 else hwrite ⟨0,iv,hash0.rest⟩ l)=shaN l:=rfl;rw[hsh];have hR4:=rowIs_fr HR3.out hF4 (by simp);have hst:=store_digest hR4 (shaN_len l);have hrd:=row_digest hR4 (shaN_len l);obtain⟨w5,hw5⟩:=nmd (w4.setCells w.heap.size 0 (dCells (shaN l)));have hF5:Fr [] w w5:=by rw[<-hw5];exact (HF3.out.then hF4).setCells (.inr (nlr _)) _ _
 rw[hw5] at hst hrd;have HRD:=Hd hrd.1;have HF5:=Hd hF5;have hlen:=dcells_size (shaN l);rw[shaN_len] at hlen;clear hR4 hrd hF5 hw5 hF4;unfold encD
 go_wp2_with fail
 exact bodyPost_ret (v:=encD (shaN l)) (results_cell_mid (d:=.array 32 5) (p:=2) (ty:=57) (b:=w.heap.size) (o:=0) rfl rfl HRD.out (by kernel_rfl) rfl (by rw[dcells_len,shaN_len];rfl)) rfl ⟨rfl,HF5.out⟩
theorem strOfNums_map (l:Nm):strOfNums (l.map fun c=>(c.toNat:Int))=⟨l.toArray⟩:=by
 unfold strOfNums
 congr 1
 rw[List.map_map]
 congr 1
 conv=>rhs;rw[<-List.map_id l]
 apply List.map_congr_left
 intro c _;simp
theorem run_row_str {P:Program} {w:World} {B n:Nat} {A:Option Addr} {l:Nm} (h:Row w B 1 A n (dCells l)) (src e:TypeId) (hs:P.underlying src=some (.slice e)) (he:P.underlying e=some (.int .u8)) (dst:TypeId) (hd:P.underlying dst=some .string) (c:Nat) :
 (convert src dst (.slice A n c)).run P w=.ok (encN l) w:=by
 have hl:l.length=n:=by have:=h.1;rw[dcells_len] at this;omega
 by_cases hn:n=0
 ·obtain rfl:l=[]:=List.eq_nil_of_length_eq_zero (by omega)
  subst hn
  cases A with
  | none=>exact run_convert_bytes_nil w src e hs he 0 c dst hd
  | some a =>
   rw[run_convert_bytes_string w src dst e _ 0 c hs he hd,run_bytesToString w a 0 c [] (by simpa using run_loadCells_list (P:=P) w a [] (by simp))];rfl
 ·obtain⟨b,off,rfl,_,hc⟩:=h.2 (by omega)
  rw[run_convert_bytes_arg w src e hs he b off n c (l.map fun x=>(x.toNat:Int)) (by simpa using hl) (fun i hi=>?_) dst hd,strOfNums_map]
  ·rfl
  ·rw[hc i _ (dcells_get (by omega))]
   rw[List.getD_eq_getElem?_getD,List.getD_eq_getElem?_getD,List.getElem?_map,lge (by omega)];rfl
theorem dcells_append (a b:Nm):dCells (a++b)=dCells a++dCells b:=by simp[dCells]
def be4 (n:Nat):Nm:=[UInt8.ofNat (n / 16777216),UInt8.ofNat (n / 65536),UInt8.ofNat (n / 256),UInt8.ofNat n]
def joinP (ps:List Nm):Nm:=ps.flatMap fun p=>be4 p.length++p
def joinN (tag:UInt8) (ps:List Nm):Nm:=[tag,UInt8.ofNat ps.length]++joinP ps
def joinL (ps:List Nm):Nat:=(ps.map fun p=>4+p.length).sum
theorem joinP_len (ps:List Nm):(joinP ps).length=joinL ps:=by
 induction ps with
 | nil=>rfl
 | cons p r ih =>
  unfold joinP joinL at *;rw[List.flatMap_cons,lla,ih,List.map_cons,List.sum_cons,lla];simp[be4]
theorem joinL_snoc (ps:List Nm) (p:Nm):joinL (ps++[p])=joinL ps+(4+p.length):=by simp[joinL]
theorem joinP_snoc (ps:List Nm) (p:Nm):joinP (ps++[p])=joinP ps++(be4 p.length++p):=by simp[joinP]
theorem take_snoc' {α:Type} {l:List α} {k:Nat} {x:α} (h:l[k]?=some x):l.take (k+1)=l.take k++[x]:=by
 rw[List.take_succ,h];rfl
theorem joinL_take {ps:List Nm} {k:Nat} {p:Nm} (h:ps[k]?=some p):joinL (ps.take (k+1))=joinL (ps.take k)+(4+p.length):=by rw[take_snoc' h,joinL_snoc]
theorem joinP_take {ps:List Nm} {k:Nat} {p:Nm} (h:ps[k]?=some p):joinP (ps.take (k+1))=joinP (ps.take k)++(be4 p.length++p):=by rw[take_snoc' h,joinP_snoc]
theorem joinL_mono (ps:List Nm) (k:Nat):joinL (ps.take k)<=joinL ps:=by
 conv=>rhs;rw[<-List.take_append_drop k ps]
 unfold joinL;rw[List.map_append,List.sum_append];omega
theorem be4_cells (n:Nat):dCells (be4 n)=[.int .u8 ((n:Int) / 16777216 % 256),.int .u8 ((n:Int) / 65536 % 256),.int .u8 ((n:Int) / 256 % 256),.int .u8 ((n:Int) % 256)]:=by
 unfold be4 dCells;simp only[List.map_cons,List.map_nil,UInt8.toNat_ofNat']
 congr 2
theorem Row.str {w:World} {B n k:Nat} {A:Option Addr} {ps:List Nm} (h:Row w B 1 A n (ps.map encN)) (hk:k<n):∃ b off p s,A=some ⟨b,off,none⟩/\b<B/\ps[k]?=some p/\encN p=.string s/\s.data.toList=p/\s.size=p.length/\w.cell? ⟨b,off+k,none⟩=some (.string s):=by
 obtain⟨b,off,u,hA,hb,hu,hc⟩:=h.at1 hk;rw[List.getElem?_map] at hu
 cases hp:ps[k]? with
 | none=>rw[hp] at hu;simp at hu
 | some p =>
  rw[hp] at hu;simp only[Option.map_some,Option.some.injEq] at hu;obtain⟨s,h1,h2,h3⟩:=str_of p;exact⟨b,off,p,s,hA,hb,rfl,h1,h2,h3,by rw[hc,<-hu,h1]⟩
def blk (A:Option Addr):List Nat:=(A.map Addr.block).toList
theorem mem_blk {A:Option Addr} {n c k:Nat}:(Value.slice A n c).ownBlock=some k ↔ k∈blk A:=by
 cases A with
 | none=>simp[blk,Value.ownBlock]
 | some a=>simp[blk,Value.ownBlock];exact eq_comm
def Own (w:World) (e:TypeId) (size:Nat) (A:Option Addr) (n c:Nat) (xs:List Value):Prop:=w.ownsRow 0 e size (.slice A n c) n xs
section
variable {w w':World} {e:TypeId} {size n c:Nat} {A A':Option Addr} {xs:List Value} {S:List Nat}
theorem Own.nil (w:World) (e:TypeId) (size:Nat):Own w e size none 0 0 []:=World.ownsRow_nil w 0 e size
theorem Own.fr (h:Own w e size A n c xs) (hf:Fr S w w') (hd:∀ k∈blk A,k ∉ S):Own w' e size A n c xs:=own_fr h hf (by
 intro k hk;exact hd k (mem_blk.1 hk))
theorem Own.alloc (h:Own w e size A n c xs) (o:Obj):Own (w.alloc o) e size A n c xs:=World.ownsRow.alloc h o
theorem Own.len (h:Own w e size A n c xs):xs.length=n*size:=h.1
theorem Own.row (h:Own w e size A n c xs):Row w w.heap.size size A n xs:=Row.of_own (base:=0) h
theorem Own.lt (h:Own w e size A n c xs):∀ k∈blk A,k<w.heap.size:=by
 intro k hk;exact (World.ownsRow.lt h k (mem_blk.2 hk)).2
theorem Own.le_cap (h:Own w e size A n c xs):n<=c:=by
 rcases h.2 with ⟨h1,h2⟩ | ⟨g,cap,cur,h1,_,_,h2,_⟩
 ·injection h1;omega
 ·injection h1;omega
end
theorem Fr.of_grown {w w':World} {A:Option Addr} {n c:Nat} (h:w.grownBy w' (Value.slice A n c).ownBlock):Fr (blk A) w w' :=
 ⟨h.os,h.tape,h.output,h.size,fun k hk hn=>h.block k hk (fun e=>hn (mem_blk.1 e.symm))⟩
section
variable {P:Program} (w:World)
theorem run_app (t ty e:TypeId) (i:TypeInfo) (z:Value) (size bytes:Nat) (ht:P.underlying t=some (.slice e)) (hi:P.info? e=some i) (hz:i.zero=some z)
 (hsize:i.size=size) (hby:i.bytes=bytes) (hzs:z.cells.size=size) (hsz:0<size)
 (A:Option Addr) (n c:Nat) (xs:List Value) (hown:Own w e size A n c xs)
 (a:Addr) (m c2:Nat) (news:List Value) (hl:news.length=m*size) (hnews:∀ j u,news[j]?=some u->w.cell? (a.add j)=some u) (h1:∀ u∈news,u.oneCell'=true)
 (h63:n+m<=maxLen) (hbytes:(n+m)*bytes<=140737488355328) :
 ∃ A' c' w',(Builtin.append_ #[t,t] ty #[.slice A n c,.slice (some a) m c2]).run P w=.ok (.slice A' (n+m) c') w'/\Own w' e size A' (n+m) c' (xs++news)/\Fr (blk A) w w'/\∀ k∈blk A',k∈blk A \/ w.heap.size<=k:=by
 obtain⟨v',w',hr,h2,h3,h4⟩:=run_append_own (P:=P) w 0 t ty e i z size bytes ht hi hz hsize hby hzs hsz (.slice A n c) n xs hown a m c2 news hl hnews h1 h63 hbytes (Nat.zero_le _);obtain⟨A',c',rfl,hrow⟩:=own_form h2;refine⟨A',c',w',hr,h2,Fr.of_grown h3,?_⟩
 rcases hown.2 with ⟨hv,hn0⟩ | ⟨g,cap,cur,hv,_,hg,hnc,_,hcs,_⟩
 ·injection hv with hA _ hc
  subst hA hn0 hc;obtain⟨v2,w2,hr2,h22,_,_⟩:=run_append_own (P:=P) w w.heap.size t ty e i z size bytes ht hi hz hsize hby hzs hsz (.slice none 0 0) 0 xs ⟨hown.1,.inl ⟨rfl,rfl⟩⟩ a m c2 news hl hnews h1 h63 hbytes (nlr _);rw[hr] at hr2
  injection hr2 with e1 e2
  subst e1 e2;intro k hk;exact .inr (own_block_le h22 k (mem_blk.2 hk))
 ·injection hv with hA _ hc
  subst hA hc;subst hsize
  by_cases hroom:n+m<=c
  ·have hr2:=run_append_room (P:=P) w t ty e i ht hi g n c cur hg a m c2 news hl hnews h1 hroom (by rw[hl,hcs,<-Nat.add_mul];exact Nat.mul_le_mul_right _ hroom)
   rw[hr] at hr2
   injection hr2 with e1 e2
   injection e1 with e1
   subst e1;intro k hk;exact .inl hk
  ·have hr2:=run_append_grow (P:=P) w t ty e i z ht hi hz ⟨g,0,none⟩ n c xs hown.1 (hown.cells (g:=g) rfl) a m c2 news hl hnews (by omega) (by simp only[maxLen] at h63;omega) (growslice_fits (by omega) (by rw[hby];exact hbytes))
   rw[hr] at hr2
   injection hr2 with e1 e2
   injection e1 with e1
   subst e1;intro k hk;simp only[blk,Option.map_some,Option.toList_some,lms] at hk;exact .inr (by omega)
theorem run_app_str (t u ty e:TypeId) (i:TypeInfo) (ht:P.underlying t=some (.slice e)) (hu:P.underlying u=some .string) (hi:P.info? e=some i) (hz:i.zero=some (.int .u8 0))
 (hsize:i.size=1) (hby:i.bytes=1)
 (A:Option Addr) (n c:Nat) (xs:List Value) (hown:Own w e 1 A n c xs) (s:ByteArray)
 (h63:n+s.size<=maxLen) (hbytes:n+s.size<=140737488355328) :
 ∃ A' c' w',(Builtin.append_ #[t,u] ty #[.slice A n c,.string s]).run P w=.ok (.slice A' (n+s.size) c') w'/\Own w' e 1 A' (n+s.size) c' (xs++dCells s.data.toList)/\Fr (blk A) w w'/\∀ k∈blk A',k∈blk A \/ w.heap.size<=k:=by
 obtain⟨v',w',hr,h2,h3,h4⟩:=Lib.run_append_own_string (P:=P) w 0 t u ty e i ht hu hi hz hsize hby (.slice A n c) n xs hown s h63 hbytes (Nat.zero_le _);obtain⟨A',c',rfl,hrow⟩:=own_form h2;refine⟨A',c',w',hr,h2,Fr.of_grown h3,?_⟩
 rcases hown.2 with ⟨hv,hn0⟩ | ⟨g,cap,cur,hv,_,hg,hnc,_,hcs,_⟩
 ·injection hv with hA _ hc
  subst hA hn0 hc;obtain⟨v2,w2,hr2,h22,_,_⟩:=Lib.run_append_own_string (P:=P) w w.heap.size t u ty e i ht hu hi hz hsize hby (.slice none 0 0) 0 xs ⟨hown.1,.inl ⟨rfl,rfl⟩⟩ s h63 hbytes (nlr _);rw[hr] at hr2
  injection hr2 with e1 e2
  subst e1 e2;intro k hk;exact .inr (own_block_le h22 k (mem_blk.2 hk))
 ·injection hv with hA _ hc
  subst hA hc
  by_cases hroom:n+s.size<=c
  ·have hr2:=Lib.run_append_room_string (P:=P) w t u ty e i ht hu hi hsize g n c cur hg s hroom (by omega)
   rw[hr] at hr2
   injection hr2 with e1 e2
   injection e1 with e1
   subst e1;intro k hk;exact .inl hk
  ·have hr2:=Lib.run_append_grow_string (P:=P) w t u ty e i _ ht hu hi hz ⟨g,0,none⟩ n c xs (by rw[hsize];exact hown.1) (hown.cells (g:=g) rfl) s (by omega) (by simp only[maxLen] at h63;omega) (growslice_fits (by omega) (by rw[hby];omega))
   rw[hr] at hr2
   injection hr2 with e1 e2
   injection e1 with e1
   subst e1;intro k hk;simp only[blk,Option.map_some,Option.toList_some,lms] at hk;exact .inr (by omega)
end
section
variable {P:Program} {ops:Array Oper} {rest:List Oper} {o:Oper} {a:Act} {Q:Exit->Act->World->Prop}
theorem wp_app {w:World} {K:Act->World->Prop} (s x:Operand) (t:TypeId) (ho:o.op=.call { callee:=.builtin .append,args:=#[s,x],argTypes:=#[t,t] })
 (e:TypeId) (i:TypeInfo) (z:Value) (size bytes:Nat) (ht:P.underlying t=some (.slice e)) (hi:P.info? e=some i) (hz:i.zero=some z) (hsize:i.size=size) (hby:i.bytes=bytes) (hzs:z.cells.size=size) (hsz:0<size)
 (A:Option Addr) (n c:Nat) (xs:List Value) (hs:a.eval s=.slice A n c) (hown:Own w e size A n c xs)
 (ad:Addr) (m c2:Nat) (news:List Value) (hx:a.eval x=.slice (some ad) m c2) (hl:news.length=m*size) (hnews:∀ j u,news[j]?=some u->w.cell? (ad.add j)=some u) (h1:∀ u∈news,u.oneCell'=true)
 (h63:n+m<=maxLen) (hbytes:(n+m)*bytes<=140737488355328)
 (h:∀ A' c' w',Own w' e size A' (n+m) c' (xs++news)->Fr (blk A) w w'->(∀ k∈blk A',k∈blk A \/ w.heap.size<=k)->K (a.put o.dst (.slice A' (n+m) c')) w'):o.wp P a w K Q:=by
 obtain⟨A',c',w',hr,h2,h3,h4⟩:=run_app (P:=P) w t o.type e i z size bytes ht hi hz hsize hby hzs hsz A n c xs hown ad m c2 news hl hnews h1 h63 hbytes;unfold Oper.wp execOp;simp only[ho,resolve,invoke,builtin,Sem.run_bind,Sem.run_pure,Result.andThen_ok,List.map_toArray,List.map_cons,List.map_nil,hs,hx,hr];exact h A' c' w' h2 h3 h4
theorem add_mid' (b j:Nat):(⟨b,0,none⟩:Addr).add j=⟨b,j,none⟩:=by rw[Addr.add_mid,Nat.zero_add]
theorem new_cells (w:World) (cs:List Value) (t:TypeId):∀ j u,cs[j]?=some u->(w.alloc (.cells cs.toArray t)).cell? ((⟨w.heap.size,0,none⟩:Addr).add j)=some u:=by
 intro j u hu;rw[add_mid',(BoxN.new w t cs.toArray).c j];simpa using hu
theorem wp_app_tmp {w:World} {K:Act->World->Prop} (s x:Operand) (t:TypeId) (ho:o.op=.call { callee:=.builtin .append,args:=#[s,x],argTypes:=#[t,t] })
 (e:TypeId) (i:TypeInfo) (z:Value) (size bytes:Nat) (ht:P.underlying t=some (.slice e)) (hi:P.info? e=some i) (hz:i.zero=some z) (hsize:i.size=size) (hby:i.bytes=bytes) (hzs:z.cells.size=size) (hsz:0<size)
 (A:Option Addr) (n c:Nat) (xs:List Value) (hs:a.eval s=.slice A n c) (hown:Own w e size A n c xs)
 (m c2:Nat) (news:List Value) (tt:TypeId) (hx:a.eval x=.slice (some ⟨w.heap.size,0,none⟩) m c2) (hl:news.length=m*size) (h1:∀ u∈news,u.oneCell'=true)
 (h63:n+m<=maxLen) (hbytes:(n+m)*bytes<=140737488355328)
 (h:∀ A' c' w',Own w' e size A' (n+m) c' (xs++news)->Fr (blk A) w w'->(∀ k∈blk A',k∈blk A \/ w.heap.size<=k)->K (a.put o.dst (.slice A' (n+m) c')) w'):o.wp P a (w.alloc (.cells news.toArray tt)) K Q :=
 wp_app (w:=w.alloc (.cells news.toArray tt)) s x t ho e i z size bytes ht hi hz hsize hby hzs hsz A n c xs hs (hown.alloc _) ⟨w.heap.size,0,none⟩ m c2 news hx hl (new_cells w news tt) h1 h63 hbytes fun A' c' w' h2 h3 h4 =>
  h A' c' w' h2 (((Fq (blk A) w).alloc _).then h3) fun k hk=>(h4 k hk).imp id fun h5=>by rw[wsA] at h5;omega
theorem wp_app_str {w:World} {K:Act->World->Prop} (s x:Operand) (t u:TypeId) (ho:o.op=.call { callee:=.builtin .append,args:=#[s,x],argTypes:=#[t,u] })
 (e:TypeId) (i:TypeInfo) (ht:P.underlying t=some (.slice e)) (hu:P.underlying u=some .string) (hi:P.info? e=some i) (hz:i.zero=some (.int .u8 0)) (hsize:i.size=1) (hby:i.bytes=1)
 (A:Option Addr) (n c:Nat) (xs:List Value) (hs:a.eval s=.slice A n c) (hown:Own w e 1 A n c xs) (str:ByteArray) (hx:a.eval x=.string str)
 (h63:n+str.size<=maxLen) (hbytes:n+str.size<=140737488355328)
 (h:∀ A' c' w',Own w' e 1 A' (n+str.size) c' (xs++dCells str.data.toList)->Fr (blk A) w w'->(∀ k∈blk A',k∈blk A \/ w.heap.size<=k)->K (a.put o.dst (.slice A' (n+str.size) c')) w'):o.wp P a w K Q:=by
 obtain⟨A',c',w',hr,h2,h3,h4⟩:=run_app_str (P:=P) w t u o.type e i ht hu hi hz hsize hby A n c xs hown str h63 hbytes;unfold Oper.wp execOp;simp only[ho,resolve,invoke,builtin,Sem.run_bind,Sem.run_pure,Result.andThen_ok,List.map_toArray,List.map_cons,List.map_nil,hs,hx,hr];exact h A' c' w' h2 h3 h4
theorem wpList_app_tmp {w:World} (hgd:o.guard=none) (s x:Operand) (t:TypeId) (ho:o.op=.call { callee:=.builtin .append,args:=#[s,x],argTypes:=#[t,t] })
 (e:TypeId) (i:TypeInfo) (z:Value) (size bytes:Nat) (ht:P.underlying t=some (.slice e)) (hi:P.info? e=some i) (hz:i.zero=some z) (hsize:i.size=size) (hby:i.bytes=bytes) (hzs:z.cells.size=size) (hsz:0<size)
 (A:Option Addr) (n c:Nat) (xs:List Value) (hs:a.eval s=.slice A n c) (hown:Own w e size A n c xs)
 (m c2:Nat) (news:List Value) (tt:TypeId) (hx:a.eval x=.slice (some ⟨w.heap.size,0,none⟩) m c2) (hl:news.length=m*size) (h1:∀ u∈news,u.oneCell'=true)
 (h63:n+m<=maxLen) (hbytes:(n+m)*bytes<=140737488355328)
 (h:∀ A' c' w',Own w' e size A' (n+m) c' (xs++news)->Fr (blk A) w w'->(∀ k∈blk A',k∈blk A \/ w.heap.size<=k)->wpList P ops Q rest (a.put o.dst (.slice A' (n+m) c')) w'):wpList P ops Q (o::rest) a (w.alloc (.cells news.toArray tt)) :=
 wpList_plain hgd fun _ hK=>wp_app_tmp s x t ho e i z size bytes ht hi hz hsize hby hzs hsz A n c xs hs hown m c2 news tt hx hl h1 h63 hbytes fun A' c' w' h2 h3 h4=>hK _ _ (h A' c' w' h2 h3 h4)
theorem wpList_app_str {w:World} (hgd:o.guard=none) (s x:Operand) (t u:TypeId) (ho:o.op=.call { callee:=.builtin .append,args:=#[s,x],argTypes:=#[t,u] })
 (e:TypeId) (i:TypeInfo) (ht:P.underlying t=some (.slice e)) (hu:P.underlying u=some .string) (hi:P.info? e=some i) (hz:i.zero=some (.int .u8 0)) (hsize:i.size=1) (hby:i.bytes=1)
 (A:Option Addr) (n c:Nat) (xs:List Value) (hs:a.eval s=.slice A n c) (hown:Own w e 1 A n c xs) (str:ByteArray) (hx:a.eval x=.string str)
 (h63:n+str.size<=maxLen) (hbytes:n+str.size<=140737488355328)
 (h:∀ A' c' w',Own w' e 1 A' (n+str.size) c' (xs++dCells str.data.toList)->Fr (blk A) w w'->(∀ k∈blk A',k∈blk A \/ w.heap.size<=k)->wpList P ops Q rest (a.put o.dst (.slice A' (n+str.size) c')) w'):wpList P ops Q (o::rest) a w :=
 wpList_plain hgd fun _ hK=>wp_app_str s x t u ho e i ht hu hi hz hsize hby A n c xs hs hown str hx h63 hbytes fun A' c' w' h2 h3 h4=>hK _ _ (h A' c' w' h2 h3 h4)
end
theorem info_u8:∃ i,(prog).info? 5=some i/\i.zero=some (.int .u8 0)/\i.size=1/\i.bytes=1:=info_parts (by kernel_rfl)
def Sub (w:World) (A A':Option Addr):Prop:=∀ k∈blk A',k∈blk A \/ w.heap.size<=k
theorem Sub.refl (w:World) (A:Option Addr):Sub w A A:=fun _ h=>.inl h
theorem Sub.trans {w w' : World} {A A' A'' : Option Addr} (h : Sub w A A') (h' : Sub w' A' A'') (hs : w.heap.size <= w'.heap.size) : Sub w A A'' := fun k hk => by
 rcases h' k hk with h1 | h1
 ·exact h k h1
 ·exact .inr (by omega)
theorem Fr.sub {w w' w'' : World} {A A' : Option Addr} (h : Fr (blk A) w w') (h' : Fr (blk A') w' w'') (hs : Sub w A A') : Fr (blk A) w w'' := h.trans h' hs
def encU (u:Nat):Nm:=if _h:u<128 then [UInt8.ofNat u] else UInt8.ofNat (u % 128+128)::encU (u / 128)
termination_by u
theorem encU_lo {u:Nat} (h:u<128):encU u=[UInt8.ofNat u]:=by rw[encU,dif_pos h]
theorem encU_hi {u:Nat} (h:¬ u<128):encU u=UInt8.ofNat (u % 128+128)::encU (u / 128):=by rw[encU,dif_neg h]
theorem encU_pos (u:Nat):0<(encU u).length:=by
 by_cases h:u<128
 ·rw[encU_lo h];simp
 ·rw[encU_hi h];simp
theorem or128 (u:Nat):bits BinOp.or IntKind.u8 ((u:Int) % 256) 128=(u:Int) % 128+128:=by
 have key:∀ y:Fin 256,bits BinOp.or IntKind.u8 ((y.val:Nat):Int) 128=((y.val % 128+128:Nat):Int):=by decide +kernel
 have:=key ⟨u % 256,by omega⟩;rw[show ((u:Int) % 256)=((u % 256:Nat):Int) by omega,this];simp only;omega
theorem ret_sl {A:Option Addr} {n m c:Nat} (h:n=m):Ending.returned (.slice A n c)=.returned (.slice A m c):=by rw[h]
def AppRes (w:World) (A:Option Addr) (l:Nm) (e:Ending) (w':World):Prop :=
 ∃ A' c',e=.returned (.slice A' l.length c')/\Own w' 5 1 A' l.length c' (dCells l)/\Fr (blk A) w w'/\Sub w A A'
def NatR (w:World) (A:Option Addr) (t:Nm) (v i:Value) (W:World):Prop :=
 ∃ A' c' l u,v=.slice A' l.length c'/\i=.int .u64 ((u:Nat):Int)/\Own W 5 1 A' l.length c' (dCells l)/\l++encU u=t/\u<18446744073709551616/\Fr (blk A) w W/\Sub w A A'
theorem appendNatural_any (A:Option Addr) (c:Nat) (l:Nm) (u:Nat) (w:World) (hu:u<18446744073709551616) (hL:(l++encU u).length<=70368744177664) (hown:Own w 5 1 A l.length c (dCells l)) :
 Calls prog 119 #[.slice A l.length c,.int .u64 (u:Int)] w (AppRes w A (l++encU u)):=by
 obtain⟨ii,hii,iz0,iz1,iz2⟩:=info_u8;obtain⟨t,ht⟩:=nmd (l++encU u);rw[ht] at hL ⊢;have H0:Hid (NatR w A t (.slice A l.length c) (.int .u64 (u:Int)) w):=Hd ⟨A,c,l,u,rfl,rfl,hown,ht,hu,Fq _ _,Sub.refl _ _⟩;clear hown ht hu
 go_enter func119,ntmps119
 go_wp2_with fail
 go_loopw [0,1] (NatR w A t) (fun _ i _=>(intOf i).toNat)
 case atStart=>exact H0.out
 case round =>
  obtain⟨A1,c1,l1,u1,rfl,rfl,hown,ht,hu,hf,hs⟩:=hrel;have hp:=encU_pos u1;have hlen:l1.length+(encU u1).length=t.length:=by rw[<-ht,lla]
  have hl1:l1.length<70368744177664:=by omega
  have HOW:=Hd hown;have HF:=Hd hf;have HS:=Hd hs;have HT:=Hd ht;clear hown hf hs ht hlen hp
  by_cases hge:128<=u1
  ·have hge':(128:Int)<=(u1:Int):=by omega
   have hor:=or128 u1
   go_wp2_with (at_builtin;(with_reducible refine wpList_app_tmp (w:=wr) rfl (.tmp 7) (.tmp 11) 49 rfl 5 ii (.int .u8 0) 1 1 underlying49 hii iz0 iz1 iz2 rfl (by decide) A1 l1.length c1 _ rfl HOW.out 1 1 [.int .u8 ((u1:Int) % 128+128)] 5 rfl rfl (by simp[Value.oneCell']) (by unfold maxLen;omega) (by omega) ?_);intro A2 c2 W2 h2 f2 s2;have HO2:=Hd h2;have HF2:=Hd (HF.out.sub f2 HS.out);have HS2:=Hd (HS.out.trans s2 HF.out.size);clear h2 f2 s2)
   go_roundw
   case rel =>
    have e1:dCells l1++[Value.int .u8 ((u1:Int) % 128+128)]=dCells (l1++[UInt8.ofNat (u1 % 128+128)]):=by
     rw[dcells_append];simp[dCells];omega
    have h2:=HO2.out;rw[e1] at h2;refine⟨A2,c2,l1++[UInt8.ofNat (u1 % 128+128)],u1 / 128,by simp,by go_num,by simpa using h2,?_,by omega,HF2.out,HS2.out⟩;rw[<-HT.out,encU_hi (u:=u1) (by omega),List.append_assoc];rfl
   case measure=>simp[intOf];omega
  ·have hge':¬ (128:Int)<=(u1:Int):=by omega
   go_wp2_with (at_builtin;(with_reducible refine wpList_app_tmp (w:=wr) rfl (.tmp 15) (.tmp 18) 49 rfl 5 ii (.int .u8 0) 1 1 underlying49 hii iz0 iz1 iz2 rfl (by decide) A1 l1.length c1 _ rfl HOW.out 1 1 [.int .u8 (u1:Int)] 5 rfl rfl (by simp[Value.oneCell']) (by unfold maxLen;omega) (by omega) ?_);intro A2 c2 W2 h2 f2 s2;have HO2:=Hd h2;have HF2:=Hd (HF.out.sub f2 HS.out);have HS2:=Hd (HS.out.trans s2 HF.out.size);clear h2 f2 s2)
   go_ret
   have e1:dCells l1++[Value.int .u8 (u1:Int)]=dCells (l1++[UInt8.ofNat u1]):=by
    rw[dcells_append];simp[dCells];omega
   have h2:=HO2.out;rw[e1] at h2;have ht:=HT.out;rw[encU_lo (by omega)] at ht;have hl:l1.length+1=t.length:=by rw[<-ht];simp
   rw[ht,hl] at h2;exact⟨A2,c2,ret_sl hl,h2,HF2.out,HS2.out⟩
def WrAt (w:World) (b:Nat) (A:Option Addr) (bs:Nm):Prop :=
 ∃ c,BoxN w b 227 #[.slice A bs.length c,.int .i64 0]/\Own w 5 1 A bs.length c (dCells bs)/\b ∉ blk A
def WPost (w:World) (b:Nat) (A:Option Addr) (bs:Nm) (e:Ending) (w':World):Prop :=
 e=.returned (.tuple #[])/\∃ A',WrAt w' b A' bs/\Fr (b::blk A) w w'/\Sub w A A'
theorem WrAt.fr {S:List Nat} {w w':World} {b:Nat} {A:Option Addr} {bs:Nm} (h:WrAt w b A bs) (hf:Fr S w w') (hb:b ∉ S) (hA:∀ k∈blk A,k ∉ S):WrAt w' b A bs:=by
 obtain⟨c,h1,h2,h3⟩:=h;exact⟨c,h1.fr hf hb,h2.fr hf hA,h3⟩
theorem WrAt.lt {w:World} {b:Nat} {A:Option Addr} {bs:Nm} (h:WrAt w b A bs):b<w.heap.size:=by obtain⟨c,h1,_⟩:=h;exact h1.lt
theorem works_any (w:World) (b:Nat) (A:Option Addr) (bs:Nm) (h:WrAt w b A bs):Calls prog 118 #[.pointer (some ⟨b,0,none⟩)] w fun e w'=>e=.returned (.bool true)/\w=w':=by
 obtain⟨c,h1,h2,h3⟩:=h;have c1:=h1.c 1;simp only[List.getElem?_toArray,List.getElem?_cons_zero,List.getElem?_cons_succ] at c1
 go_enter func118,ntmps118
 go_wp2_with fail
 go_ret
 exact⟨rfl,rfl⟩
theorem NewWriter_any (w:World):Calls prog 54 #[] w fun e w'=>e=.returned (.pointer (some ⟨w.heap.size,0,none⟩))/\WrAt w' w.heap.size none []/\Fr [] w w':=by
 go_enter func54,ntmps54
 go_wp2_with fail
 go_ret
 exact⟨rfl,⟨0,BoxN.new w _ _,Own.nil _ _ _,by simp[blk]⟩,(Fq [] w).alloc _⟩
theorem wr_put {w w2:World} {b c c2 n m:Nat} {A A2:Option Addr} {bs:Nm} (hm:m=bs.length) (h1:BoxN w b 227 #[.slice A n c,.int .i64 0]) (h3:b ∉ blk A) (ho:Own w2 5 1 A2 m c2 (dCells bs)) (hf:Fr (blk A) w w2) (hs:Sub w A A2) :
 WrAt (w2.setCell ⟨b,0,none⟩ (.slice A2 m c2)) b A2 bs/\Fr (b::blk A) w (w2.setCell ⟨b,0,none⟩ (.slice A2 m c2)):=by
 subst hm;have hlt:=h1.lt
 have hb2:b ∉ blk A2:=fun hm=>by
  rcases hs b hm with h | h
  ·exact h3 h
  ·omega
 refine⟨⟨c2,(h1.fr hf h3).setAt 0 _,?_,hb2⟩,?_⟩
 ·exact ho.fr ((Fq [b] w2).set (p:=⟨b,0,none⟩) (by simp) _) (fun k hk=>by simp;rintro rfl;exact hb2 hk)
 ·exact (hf.mono (fun k hk=>.inl (List.mem_cons_of_mem _ hk))).set (p:=⟨b,0,none⟩) (by simp) _
theorem wr_cells {w:World} {b c n:Nat} {A:Option Addr} (h1:BoxN w b 227 #[.slice A n c,.int .i64 0]):w.cell? ⟨b,0,none⟩=some (.slice A n c)/\w.frozen? ⟨b,0,none⟩=false:=⟨h1.c 0,h1.f 0⟩
theorem Number_any (w:World) (b:Nat) (A:Option Addr) (bs:Nm) (n:Nat) (h:WrAt w b A bs) (hn:n<=9223372036854775807) (hL:(bs++encU n).length<=70368744177664) :
 Calls prog 57 #[.pointer (some ⟨b,0,none⟩),.int .i64 (n:Int)] w (WPost w b A (bs++encU n)):=by
 have hw:=works_any w b A bs h;obtain⟨c,h1,h2,h3⟩:=h;have c0:=(wr_cells h1).1;have hA:=appendNatural_any A c bs n w (by omega) hL h2;obtain⟨t,ht⟩:=nmd (bs++encU n);rw[ht] at hA ⊢;have HW:=Hd hw;have HA:=Hd hA;have H1:=Hd h1;clear hw hA h1 h2 hL ht
 go_enter func57,ntmps57
 go_wp2_with (first
  | ((go_at_call 118;(with_reducible refine HW.out.mono ?_);rintro e w1 ⟨rfl,rfl⟩))
  | (go_at_call 119;(with_reducible refine HA.out.mono ?_);rintro e w2 ⟨A2,c2,rfl,ho,hf,hs⟩;have x0:=(wr_cells (H1.out.fr hf h3)).1;have xf:=(wr_cells (H1.out.fr hf h3)).2;have hp:=wr_put rfl H1.out h3 ho hf hs;have HP:=Hd hp;have HS:=Hd hs;clear hp ho hf hs))
 go_end0
 exact⟨rfl,A2,HP.out.1,HP.out.2,HS.out⟩
def flagB (v:Bool):UInt8:=if v then 1 else 0
theorem Flag_any (w:World) (b:Nat) (A:Option Addr) (bs:Nm) (v:Bool) (h:WrAt w b A bs) (hL:bs.length<=70368744177664) :
 Calls prog 122 #[.pointer (some ⟨b,0,none⟩),.bool v] w (WPost w b A (bs++[flagB v])):=by
 have hw:=works_any w b A bs h;obtain⟨c,h1,h2,h3⟩:=h;have c0:=(wr_cells h1).1;obtain⟨ii,hii,iz0,iz1,iz2⟩:=info_u8;have HW:=Hd hw;have H1:=Hd h1;have H2:=Hd h2;clear hw h1 h2
 cases v with
 | false =>
  have e1:dCells bs++[Value.int .u8 0]=dCells (bs++[flagB false]):=by rw[dcells_append];rfl
  have E1:=Hd e1;clear e1
  go_enter func122,ntmps122
  go_wp2_with (first
   | ((go_at_call 118;(with_reducible refine HW.out.mono ?_);rintro e w1 ⟨rfl,rfl⟩))
   | (at_builtin;(with_reducible refine wpList_app_tmp (w:=w) rfl (.tmp 13) (.tmp 15) 49 rfl 5 ii (.int .u8 0) 1 1 underlying49 hii iz0 iz1 iz2 rfl (by decide) A bs.length c _ rfl H2.out 1 1 [.int .u8 0] 5 rfl rfl (by simp[Value.oneCell']) (by unfold maxLen;omega) (by omega) ?_);intro A2 c2 w2 ho hf hs;rw[E1.out] at ho;have x0:=(wr_cells (H1.out.fr hf h3)).1;have xf:=(wr_cells (H1.out.fr hf h3)).2;have hp:=wr_put (by simp) H1.out h3 ho hf hs;have HP:=Hd hp;have HS:=Hd hs;clear hp ho hf hs))
  go_end0
  exact⟨rfl,A2,HP.out.1,HP.out.2,HS.out⟩
 | true =>
  have e1:dCells bs++[Value.int .u8 1]=dCells (bs++[flagB true]):=by rw[dcells_append];rfl
  have E1:=Hd e1;clear e1
  go_enter func122,ntmps122
  go_wp2_with (first
   | ((go_at_call 118;(with_reducible refine HW.out.mono ?_);rintro e w1 ⟨rfl,rfl⟩))
   | (at_builtin;(with_reducible refine wpList_app_tmp (w:=w) rfl (.tmp 13) (.tmp 15) 49 rfl 5 ii (.int .u8 0) 1 1 underlying49 hii iz0 iz1 iz2 rfl (by decide) A bs.length c _ rfl H2.out 1 1 [.int .u8 1] 5 rfl rfl (by simp[Value.oneCell']) (by unfold maxLen;omega) (by omega) ?_);intro A2 c2 w2 ho hf hs;rw[E1.out] at ho;have x0:=(wr_cells (H1.out.fr hf h3)).1;have xf:=(wr_cells (H1.out.fr hf h3)).2;have hp:=wr_put (by simp) H1.out h3 ho hf hs;have HP:=Hd hp;have HS:=Hd hs;clear hp ho hf hs))
  go_end0
  exact⟨rfl,A2,HP.out.1,HP.out.2,HS.out⟩
def encT (s:Nm):Nm:=encU s.length++s
theorem Text_any (w:World) (b:Nat) (A:Option Addr) (bs s:Nm) (h:WrAt w b A bs) (hn:s.length<=16777216) (hL:(bs++encT s).length<=70368744177664) :
 Calls prog 56 #[.pointer (some ⟨b,0,none⟩),encN s] w (WPost w b A (bs++encT s)):=by
 obtain⟨str,hstr,hsl,hsz⟩:=str_of s;rw[hstr];have hw:=works_any w b A bs h;obtain⟨c,h1,h2,h3⟩:=h;have c0:=(wr_cells h1).1;obtain⟨ii,hii,iz0,iz1,iz2⟩:=info_u8;have hle:(bs++encU s.length).length+s.length<=70368744177664:=by unfold encT at hL;rw[<-List.append_assoc,lla] at hL;exact hL
 have hA:=appendNatural_any A c bs s.length w (by omega) (by omega) h2;obtain⟨t,ht⟩:=nmd (bs++encU s.length);have ht2:bs++encT s=t++s:=by unfold encT;rw[<-List.append_assoc,ht]
 rw[ht2];rw[ht] at hA hle;have ht3:dCells t++dCells str.data.toList=dCells (t++s):=by rw[hsl,dcells_append]
 have ht4:t.length+str.size=(t++s).length:=by rw[hsz,lla]
 rw[<-hsz] at hA hn hle;have HW:=Hd hw;have HA:=Hd hA;have H1:=Hd h1;have HT3:=Hd ht3;have HT4:=Hd ht4;clear hw hA h1 h2 hL ht ht2 ht3 ht4 hsz hsl hstr
 go_enter func56,ntmps56
 go_wp2_with (first
  | ((go_at_call 118;(with_reducible refine HW.out.mono ?_);rintro e w1 ⟨rfl,rfl⟩))
  | (go_at_call 119;(with_reducible refine HA.out.mono ?_);rintro e w2 ⟨A2,c2,rfl,ho,hf,hs⟩;have HO:=Hd ho;have HF:=Hd hf;have HS:=Hd hs;clear ho hf hs)
  | (at_builtin;(with_reducible refine wpList_app_str (w:=w2) rfl (.tmp 21) (.tmp 22) 49 9 rfl 5 ii underlying49 underlying9 hii iz0 iz1 iz2 A2 t.length c2 _ rfl HO.out str rfl (by unfold maxLen;omega) (by omega) ?_);intro A3 c3 w3 ho hf hs;rw[HT3.out] at ho;have hf':=HF.out.sub hf HS.out;have hs':=HS.out.trans hs HF.out.size;have x0:=(wr_cells (H1.out.fr hf' h3)).1;have xf:=(wr_cells (H1.out.fr hf' h3)).2;have hp:=wr_put HT4.out H1.out h3 ho hf' hs';have HP:=Hd hp;have HS2:=Hd hs';clear hp ho hf hs hf' hs'))
 go_end0
 exact⟨rfl,A3,HP.out.1,HP.out.2,HS2.out⟩
end Go.Proofs.YtlpmiimgacfmkaaGreatDoor
