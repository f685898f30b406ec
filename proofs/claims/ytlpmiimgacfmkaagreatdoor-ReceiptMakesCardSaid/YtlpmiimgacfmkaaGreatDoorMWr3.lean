/- slices.Clone of bytes; (Writer).Bytes. -/
import Derived.Laws.Bits64b
import Derived.Laws.BitsAllLaws
import Derived.Test.YtlpmiimgacfmkaaGreatDoorMHsh4
set_option linter.all false
namespace Go.Proofs.YtlpmiimgacfmkaaGreatDoor
open Go.Proofs.Tryz
open Go.RowKit
set_option maxRecDepth 100000
set_option maxHeartbeats 4000000
section
variable {P:Program} {ops:Array Oper} {rest:List Oper} {o:Oper} {a:Act} {Q:Exit->Act->World->Prop}
theorem wpList_app {w:World} (hgd:o.guard=none) (s x:Operand) (t:TypeId) (ho:o.op=.call { callee:=.builtin .append,args:=#[s,x],argTypes:=#[t,t] })
 (e:TypeId) (i:TypeInfo) (z:Value) (size bytes:Nat) (ht:P.underlying t=some (.slice e)) (hi:P.info? e=some i) (hz:i.zero=some z) (hsize:i.size=size) (hby:i.bytes=bytes) (hzs:z.cells.size=size) (hsz:0<size)
 (A:Option Addr) (n c:Nat) (xs:List Value) (hs:a.eval s=.slice A n c) (hown:Own w e size A n c xs)
 (ad:Addr) (m c2:Nat) (news:List Value) (hx:a.eval x=.slice (some ad) m c2) (hl:news.length=m*size) (hnews:∀ j u,news[j]?=some u->w.cell? (ad.add j)=some u) (h1:∀ u∈news,u.oneCell'=true)
 (h63:n+m<=maxLen) (hbytes:(n+m)*bytes<=140737488355328)
 (h:∀ A' c' w',Own w' e size A' (n+m) c' (xs++news)->Fr (blk A) w w'->(∀ k∈blk A',k∈blk A \/ w.heap.size<=k)->wpList P ops Q rest (a.put o.dst (.slice A' (n+m) c')) w'):wpList P ops Q (o::rest) a w :=
 wpList_plain hgd fun _ hK=>wp_app s x t ho e i z size bytes ht hi hz hsize hby hzs hsz A n c xs hs hown ad m c2 news hx hl hnews h1 h63 hbytes fun A' c' w' h2 h3 h4=>hK _ _ (h A' c' w' h2 h3 h4)
end
theorem Own.empty (w:World) (e:TypeId) (size:Nat):Own (w.alloc (.cells #[] e)) e size (some ⟨w.heap.size,0,none⟩) 0 0 [] :=
 ⟨by simp,.inr ⟨w.heap.size,0,#[],rfl,Nat.zero_le _,World.alloc_heap_new w _,nlr _,Nat.zero_le _,by simp,by simp⟩⟩
theorem Row.cells {w:World} {B size n:Nat} {a:Addr} {xs:List Value} (h:Row w B size (some a) n xs) (ha:a.spot=none):∀ j u,xs[j]?=some u->w.cell? (a.add j)=some u:=by
 intro j u hu
 have hn:0<n:=by
  have hj:=(lgs.1 hu).1
  rcases Nat.eq_zero_or_pos n with h0 | h0
  ·have:=h.1;rw[h0] at this;omega
  ·exact h0
 obtain⟨b,off,e,hb,hc⟩:=h.2 hn
 injection e with e
 subst e;rw[Addr.add_mid];exact hc j u hu
def CloneRes (w:World) (l:Nm) (e:Ending) (w':World):Prop :=
 ∃ A' c',e=.returned (.slice A' l.length c')/\Own w' 5 1 A' l.length c' (dCells l)/\Fr [] w w'/\∀ k∈blk A',w.heap.size<=k
theorem Clone8_any (A:Option Addr) (n c B:Nat) (l:Nm) (w:World) (hr:Row w B 1 A n (dCells l)) (hsp:∀ a,A=some a->a.spot=none) (hn:n<=70368744177664):Calls prog 108 #[.slice A n c] w (CloneRes w l):=by
 have hl:l.length=n:=by have:=hr.1;rw[dcells_len] at this;omega
 cases A with
 | none =>
  have hn0:n=0:=by
   rcases Nat.eq_zero_or_pos n with h0 | h0
   ·exact h0
   ·obtain⟨b,off,e,_⟩:=hr.2 h0;simp at e
  subst hn0;obtain rfl:l=[]:=List.eq_nil_of_length_eq_zero hl;have hq:=Lib.run_eql_slice_nil (P:=prog) w 49 5 none 0 c 0 0 underlying49;simp only[Option.isNone_none] at hq;clear hr hl
  go_enter func108,ntmps108
  go_wp2_with fail
  go_ret
  exact⟨none,0,rfl,Own.nil _ _ _,Fq _ _,by simp[blk]⟩
 | some ad =>
  obtain⟨ii,hii,iz0,iz1,iz2⟩:=info_u8;have hc:=hr.cells (hsp ad rfl);have HC:=Hd hc;have HL:=Hd hl;have hq:=Lib.run_eql_slice_nil (P:=prog) w 49 5 (some ad) n c 0 0 underlying49;simp only[Option.isNone_some] at hq;clear hr hc hsp hl
  go_enter func108,ntmps108
  go_wp2_with (at_builtin;(with_reducible refine wpList_app (w:=w.alloc (.cells #[] 5)) rfl (.tmp 5) (.tmp 6) 49 rfl 5 ii (.int .u8 0) 1 1 underlying49 hii iz0 iz1 iz2 rfl (by decide) (some ⟨w.heap.size,0,none⟩) 0 0 [] rfl (Own.empty w _ _) ad n c (dCells l) rfl (by rw[dcells_len,HL.out];omega) (fun j u hu=>Lib.cell?_alloc_some _ (HC.out j u hu)) (dcells_one l) (by unfold maxLen;omega) (by omega) ?_);intro A2 c2 w2 ho hf hs;have HO:=Hd ho;have HF:=Hd hf;have HS:=Hd hs;clear ho hf hs)
  go_ret
  have ho:=HO.out;rw[List.nil_append,Nat.zero_add] at ho
  have hsz:∀ k∈blk A2,w.heap.size<=k:=fun k hk=>by
   rcases HS.out k hk with h | h
   ·simp[blk] at h;omega
   ·rw[wsA] at h;omega
  refine⟨A2,c2,ret_sl HL.out.symm,by rw[HL.out];exact ho,?_,hsz⟩;exact ((Fq [] w).alloc _).trans HF.out (fun x hx=>.inr (by simp[blk] at hx;omega))
def BytesRes (w:World) (l:Nm) (e:Ending) (w':World):Prop :=
 ∃ A' c',e=.returned (.tuple #[.slice A' l.length c',.int .i64 0])/\Own w' 5 1 A' l.length c' (dCells l)/\Fr [] w w'/\∀ k∈blk A',w.heap.size<=k
theorem Own.spot {w:World} {e:TypeId} {size n c:Nat} {A:Option Addr} {xs:List Value} (h:Own w e size A n c xs):∀ a,A=some a->a.spot=none:=by
 rintro a rfl
 rcases h.2 with ⟨h1,_⟩ | ⟨g,cap,cur,h1,_⟩
 ·injection h1 with h1;simp at h1
 ·injection h1 with h1;injection h1 with h1;rw[h1]
theorem Bytes_any (w:World) (b:Nat) (A:Option Addr) (bs:Nm) (h:WrAt w b A bs) (hn:bs.length<=70368744177664):Calls prog 58 #[.pointer (some ⟨b,0,none⟩)] w (BytesRes w bs):=by
 obtain⟨c,h1,h2,h3⟩:=h;have c0:=(wr_cells h1).1;have c1:=h1.k1;have hC:=Clone8_any A bs.length c _ bs w h2.row h2.spot hn;have HC:=Hd hC;clear hC h1 h2 h3
 go_enter func58,ntmps58
 go_wp2_with ((go_at_call 108;(with_reducible refine HC.out.mono ?_);rintro e w2 ⟨A2,c2,rfl,ho,hf,hs⟩;have HO:=Hd ho;have HF:=Hd hf;have HS:=Hd hs;clear ho hf hs))
 go_ret2
 exact⟨A2,c2,rfl,HO.out,HF.out,HS.out⟩
def lastN:Nm->Nat->Nat
 | _,0=>0
 | [],_+1=>0
 | c::r,m+1=>if 128<=c.toNat then lastN r m+1 else 0
def numV:Nm->Nat
 | []=>0
 | c::r=>numV r*128+c.toNat % 128
theorem numV_lt (l:Nm):numV l<128 ^ l.length:=by
 induction l with
 | nil=>decide
 | cons c r ih=>rw[numV,List.length_cons,Nat.pow_succ];omega
theorem lastN_le (l:Nm) (m:Nat):lastN l m<=m/\lastN l m<=l.length:=by
 induction m generalizing l with
 | zero=>simp[lastN]
 | succ m ih =>
  cases l with
  | nil=>simp[lastN]
  | cons c r =>
   rw[lastN]
   by_cases h:128<=c.toNat
   ·rw[if_pos h];have:=ih r;simp only[List.length_cons];omega
   ·rw[if_neg h];simp
def parseN (l:Nm):Nat × Nat × Int :=
 if lastN l 9=9 then (0,0,3) else if lastN l 9=l.length then (0,0,28) else if 0<lastN l 9/\(l.getD (lastN l 9) 0).toNat=0 then (0,0,3) else (numV (l.take (lastN l 9+1)),lastN l 9+1,0)
theorem drop_get {l:Nm} {k:Nat} (h:k<l.length):l.drop k=l.getD k 0::l.drop (k+1):=by
 rw[List.drop_eq_getElem_cons h,List.getD_eq_getElem?_getD,lge h];rfl
theorem take_drop_get {l:Nm} {k j:Nat} (hj:j<k) (hk:k<=l.length):(l.take k).drop j=l.getD j 0::(l.take k).drop (j+1):=by
 have h:j<(l.take k).length:=by rw[List.length_take];omega
 rw[drop_get h]
 congr 1
 rw[List.getD_eq_getElem?_getD,List.getD_eq_getElem?_getD,List.getElem?_take_of_lt hj]
theorem u64_or7 (u x:Nat) (hu:u<72057594037927936) (hx:x<128):bits .or .u64 ((u:Int)*128) (x:Int)=((u*128+x:Nat):Int):=by
 have h:=bits_or_u64_nat (u*128) x (by omega) (by omega);rw[show ((u*128:Nat):Int)=(u:Int)*128 by omega] at h;rw[h]
 congr 1
 have:=Nat.two_pow_add_eq_or_of_lt (i:=7) (b:=x) (by omega) u;rw[show 2 ^ 7*u=u*128 by omega] at this;exact this.symm
theorem u8_and127 (c:UInt8):bits .and .u8 ((c.toNat:Nat):Int) 127=((c.toNat % 128:Nat):Int):=by
 have key:∀ y:Fin 256,bits BinOp.and IntKind.u8 ((y.val:Nat):Int) 127=((y.val % 128:Nat):Int):=by decide +kernel
 have hc:c.toNat<256:=c.toNat_lt;exact key ⟨c.toNat,hc⟩
theorem Row.byte {w:World} {B n k:Nat} {A:Option Addr} {l:Nm} (h:Row w B 1 A n (dCells l)) (hk:k<n):∃ b off,A=some ⟨b,off,none⟩/\w.cell? ⟨b,off+k,none⟩=some (.int .u8 ((l.getD k 0).toNat:Int)):=by
 obtain⟨b,off,u,hA,hb,hu,hc⟩:=h.at1 hk;have hl:l.length=n:=by have:=h.1;rw[dcells_len] at this;omega
 rw[dcells_get (by omega)] at hu
 injection hu with hu
 exact⟨b,off,hA,by rw[hc,hu]⟩
def ValR (l:Nm) (k:Nat) (u i:Value):Prop :=
 (∃ m:Nat,m<=k/\i=.int .i64 (m:Int)/\u=.int .u64 ((numV ((l.take (k+1)).drop (m+1)):Nat):Int)) \/ (i=.int .i64 (-1)/\u=.int .u64 ((numV (l.take (k+1)):Nat):Int))
def tup3 (u:Nat) (s:Nat) (e:Int):Value:=.tuple #[.int .u64 (u:Int),.int .i64 (s:Int),.int .i64 e]
theorem parseNatural_any (A:Option Addr) (n c B:Nat) (l:Nm) (w:World) (hr:Row w B 1 A n (dCells l)) (hn:n<=70368744177664) :
 Calls prog 167 #[.slice A n c,.int .i64 9] w fun e w'=>e=.returned (tup3 (parseN l).1 (parseN l).2.1 (parseN l).2.2)/\w=w':=by
 have hl:l.length=n:=by have:=hr.1;rw[dcells_len] at this;omega
 obtain⟨q,hq⟩:=nmd (parseN l);obtain⟨K,hK⟩:=nmd (lastN l 9);have hKb:=lastN_le l 9;rw[hK] at hKb
 have hq2:(if K=9 then (0,0,3) else if K=n then (0,0,28) else if 0<K/\(l.getD K 0).toNat=0 then (0,0,3) else (numV (l.take (K+1)),K+1,0))=q:=by
  rw[<-hq];unfold parseN;rw[hK,hl]
 rw[hq];have HR:=Hd hr;have HL:=Hd hl;have HQ:=Hd hq2;have HK:=Hd hK;have hK9:K<=9:=hKb.1;have hKn:K<=n:=by omega
 clear hr hl hq hq2 hK hKb
 go_enter func167,ntmps167
 go_wp2_with fail
 go_loop [7] (fun i=>∃ k:Nat,k<=n/\k<=9/\i=.int .i64 (k:Int)/\k+lastN (l.drop k) (9 - k)=K) (fun i=>9 - (intOf i).toNat)
 case atStart=>exact⟨0,by omega,by omega,rfl,by rw[Nat.zero_add];exact HK.out⟩
 case round =>
  obtain⟨k,hkn,hk9,rfl,hkk⟩:=hrel;have HKK:=Hd hkk;clear hkk
  by_cases h1:k<n/\k<9/\128<=(l.getD k 0).toNat
  ·obtain⟨h1,h2,h3⟩:=h1
   obtain⟨b,off,rfl,hc⟩:=HR.out.byte h1;obtain⟨x,hx⟩:=nmd ((l.getD k 0).toNat);rw[hx] at hc h3;have HX:=Hd hx;have h1':(k:Int)<(n:Int):=by omega
   have h2':(k:Int)<9:=by omega
   have h3':(128:Int)<=(x:Int):=by omega
   clear hx
   go_wp2_with fail
   go_round
   case rel =>
    refine⟨k+1,by omega,by omega,by go_num,?_⟩;have e:=HKK.out;rw[drop_get (by have:=HL.out;omega),show 9 - k=(9 - (k+1))+1 by omega,lastN,if_pos (by have:=HX.out;omega)] at e;omega
   case measure=>simp[intOf];omega
  ·have hkK:k=K:=by
    have e:=HKK.out
    by_cases h2:k=9
    ·subst h2;rw[show 9 - 9=0 from rfl] at e;simp[lastN] at e;omega
    ·rw[show 9 - k=(9 - (k+1))+1 by omega] at e
     by_cases h3:k<n
     ·rw[drop_get (by have:=HL.out;omega),lastN,if_neg (by omega)] at e
      omega
     ·rw[List.drop_eq_nil_of_le (by have:=HL.out;omega)] at e
      simp[lastN] at e;omega
   clear HKK;subst hkK
   by_cases h9:k=9
   ·subst h9
    have e:=HQ.out;rw[if_pos rfl] at e;have HE:=Hd e;clear e;rw[show ((9:Nat):Int)=9 from rfl]
    by_cases h2:9<n
    ·have h2':(9:Int)<(n:Int):=by omega
     go_wp2_with fail
     go_ret3
     rw[<-HE.out];exact⟨rfl,rfl⟩
    ·have h2':¬ (9:Int)<(n:Int):=by omega
     go_wp2_with fail
     go_ret3
     rw[<-HE.out];exact⟨rfl,rfl⟩
   ·have h9':((k:Int) == 9)=false:=by simp;omega
    have h9l:(k:Int)<9:=by omega
    by_cases h2:k=n
    ·have h2':¬ (k:Int)<(n:Int):=by omega
     have h2'' : ((k : Int) == (n : Int)) = true := by simp; omega
     have e:=HQ.out;rw[if_neg h9,if_pos h2] at e;have HE:=Hd e;clear e h2
     go_wp2_with fail
     go_ret3
     rw[<-HE.out];exact⟨rfl,rfl⟩
    ·have hlt:k<n:=by omega
     have h2':(k:Int)<(n:Int):=by omega
     have h2'' : ((k : Int) == (n : Int)) = false := by simp; omega
     obtain⟨b,off,rfl,hc⟩:=HR.out.byte hlt;obtain⟨x,hx⟩:=nmd ((l.getD k 0).toNat);have e:=HQ.out;rw[if_neg h9,if_neg h2,hx] at e;have HE:=Hd e;have hx128:x<128:=by have:=h1;omega
     rw[hx] at hc;have HX:=Hd hx;have h3':¬ (128:Int)<=(x:Int):=by omega
     clear e h2 h1 hx
     by_cases h0:0<k/\x=0
     ·obtain⟨h0,rfl⟩:=h0
      have h0':(0:Int)<(k:Int):=by omega
      have e:=HE.out;rw[if_pos ⟨h0,rfl⟩] at e;have HE2:=Hd e;rw[show ((0:Nat):Int)=0 from rfl] at hc h3';clear e
      go_wp2_with fail
      go_ret3
      rw[<-HE2.out];exact⟨rfl,rfl⟩
     ·have e:=HE.out
      rw[if_neg h0] at e;have HE2:=Hd e;clear e HE
      by_cases hk0:0<k
      ·have h0':(0:Int)<(k:Int):=by omega
       have hx0:((x:Int) == 0)=false:=by simp;omega
       go_wp2_with fail
       go_loop [8,9] (ValR l k) (fun _ i=>(intOf i+1).toNat)
       case atStart=>exact .inl ⟨k,nlr _,rfl,by rw[List.drop_eq_nil_of_le (by rw[List.length_take];omega)];rfl⟩
       case round =>
        rcases hrel with ⟨m,hm,rfl,rfl⟩ | ⟨rfl,rfl⟩
        ·obtain⟨b2,off2,hA,hc2⟩:=HR.out.byte (k:=m) (by omega)
         injection hA with hA
         injection hA with hA1 hA2
         subst hA1 hA2;obtain⟨U,hU⟩:=nmd (numV ((l.take (k+1)).drop (m+1)))
         have hUl:U<72057594037927936:=by
          have h1:=numV_lt ((l.take (k+1)).drop (m+1));have h2:((l.take (k+1)).drop (m+1)).length<=8:=by rw[List.length_drop,List.length_take];omega
          have h3:128 ^ ((l.take (k+1)).drop (m+1)).length<=128 ^ 8:=Nat.pow_le_pow_right (by omega) h2;have h4:(128:Nat) ^ 8=72057594037927936:=by decide
          omega
         have hst:numV ((l.take (k+1)).drop m)=U*128+(l.getD m 0).toNat % 128:=by
          rw[take_drop_get (j:=m) (k:=k+1) (by omega) (by have:=HL.out;omega),numV,hU]
         have hand:=u8_and127 (l.getD m 0);have hor:=u64_or7 U ((l.getD m 0).toNat % 128) hUl (by omega);rw[hU];obtain⟨y,hy⟩:=nmd ((l.getD m 0).toNat);have hy256:y<256:=by rw[<-hy];exact UInt8.toNat_lt _
         rw[hy] at hc2 hst hand hor;rw[show ((y % 128:Nat):Int)=(y:Int) % 128 by omega] at hand hor;rw[show ((U*128+y % 128:Nat):Int)=(U:Int)*128+(y:Int) % 128 by omega] at hor;have HST:=Hd hst;have hm0:(0:Int)<=(m:Int):=by omega
         have hmn:(m:Int)<(n:Int):=by omega
         clear hst hU hy hc
         go_wp2_with fail
         go_round
         case rel =>
          by_cases hm1:m=0
          ·subst hm1
           exact .inr ⟨by go_num,by rw[show l.take (k+1)=(l.take (k+1)).drop 0 from rfl,HST.out];go_num⟩
          ·exact .inl ⟨m - 1,by omega,by congr 1;omega,by rw[show m - 1+1=m by omega,HST.out];go_num⟩
         case measure=>simp[intOf]
        ·have hm0:¬ (0:Int)<=-1:=by omega
         go_wp2_with fail
         go_ret3
         rw[<-HE2.out];exact⟨rfl,rfl⟩
      ·have h0':¬ (0:Int)<(k:Int):=by omega
       go_wp2_with fail
       go_loop [8,9] (ValR l k) (fun _ i=>(intOf i+1).toNat)
       case atStart=>exact .inl ⟨k,nlr _,rfl,by rw[List.drop_eq_nil_of_le (by rw[List.length_take];omega)];rfl⟩
       case round =>
        rcases hrel with ⟨m,hm,rfl,rfl⟩ | ⟨rfl,rfl⟩
        ·obtain⟨b2,off2,hA,hc2⟩:=HR.out.byte (k:=m) (by omega)
         injection hA with hA
         injection hA with hA1 hA2
         subst hA1 hA2;obtain⟨U,hU⟩:=nmd (numV ((l.take (k+1)).drop (m+1)))
         have hUl:U<72057594037927936:=by
          have h1:=numV_lt ((l.take (k+1)).drop (m+1));have h2:((l.take (k+1)).drop (m+1)).length<=8:=by rw[List.length_drop,List.length_take];omega
          have h3:128 ^ ((l.take (k+1)).drop (m+1)).length<=128 ^ 8:=Nat.pow_le_pow_right (by omega) h2;have h4:(128:Nat) ^ 8=72057594037927936:=by decide
          omega
         have hst:numV ((l.take (k+1)).drop m)=U*128+(l.getD m 0).toNat % 128:=by
          rw[take_drop_get (j:=m) (k:=k+1) (by omega) (by have:=HL.out;omega),numV,hU]
         have hand:=u8_and127 (l.getD m 0);have hor:=u64_or7 U ((l.getD m 0).toNat % 128) hUl (by omega);rw[hU];obtain⟨y,hy⟩:=nmd ((l.getD m 0).toNat);have hy256:y<256:=by rw[<-hy];exact UInt8.toNat_lt _
         rw[hy] at hc2 hst hand hor;rw[show ((y % 128:Nat):Int)=(y:Int) % 128 by omega] at hand hor;rw[show ((U*128+y % 128:Nat):Int)=(U:Int)*128+(y:Int) % 128 by omega] at hor;have HST:=Hd hst;have hm0:(0:Int)<=(m:Int):=by omega
         have hmn:(m:Int)<(n:Int):=by omega
         clear hst hU hy hc
         go_wp2_with fail
         go_round
         case rel =>
          by_cases hm1:m=0
          ·subst hm1
           exact .inr ⟨by go_num,by rw[show l.take (k+1)=(l.take (k+1)).drop 0 from rfl,HST.out];go_num⟩
          ·exact .inl ⟨m - 1,by omega,by congr 1;omega,by rw[show m - 1+1=m by omega,HST.out];go_num⟩
         case measure=>simp[intOf]
        ·have hm0:¬ (0:Int)<=-1:=by omega
         go_wp2_with fail
         go_ret3
         rw[<-HE2.out];exact⟨rfl,rfl⟩
end Go.Proofs.YtlpmiimgacfmkaaGreatDoor
