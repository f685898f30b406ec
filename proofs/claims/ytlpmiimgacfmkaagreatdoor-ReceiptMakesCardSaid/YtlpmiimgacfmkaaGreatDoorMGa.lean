/- Lists of changes of any length: read-only rows; orderly (step's and versions'). -/
import Derived.Test.YtlpmiimgacfmkaaGreatDoorMSt3
import Derived.Test.YtlpmiimgacfmkaaGreatDoorMQt
set_option linter.all false
namespace Go.Proofs.YtlpmiimgacfmkaaGreatDoor
open Go.Proofs.Tryz
open Go.RowKit
set_option maxRecDepth 100000
set_option maxHeartbeats 4000000
theorem row_get {α:Type} {f:α->List Value} {m:Nat} (hm:∀ x,(f x).length=m) {w:World} {B n:Nat} {A:Option Addr} {xs:List α} (h:Row w B m A n (xs.flatMap f)) (hn:0<n) :
 ∃ b off,A=some ⟨b,off,none⟩/\b<B/\∀ j x,xs[j]?=some x->∀ o,o<m->w.cell? ⟨b,off+j*m+o,none⟩=(f x)[o]?:=by
 obtain⟨b,off,hA,hb,hc⟩:=h.2 hn;refine⟨b,off,hA,hb,fun j x hx o ho=>?_⟩
 have h1:(xs.flatMap f)[j*m+o]?=(f x)[o]?:=by
  have:∀ (xs:List α) (j:Nat),xs[j]?=some x->(xs.flatMap f)[j*m+o]?=(f x)[o]?:=by
   intro xs
   induction xs with
   | nil=>intro j h;simp at h
   | cons y r ih =>
    intro j h
    cases j with
    | zero=>simp at h;subst h;rw[List.flatMap_cons,Nat.zero_mul,Nat.zero_add,List.getElem?_append_left (by rw[hm];exact ho)]
    | succ j=>rw[List.flatMap_cons,List.getElem?_append_right (by rw[hm,Nat.add_mul];omega),hm,show (j+1)*m+o - m=j*m+o by rw[Nat.add_mul];omega];exact ih j (by simpa using h)
  exact this xs j hx
 obtain⟨u,hu⟩:∃ u,(f x)[o]?=some u:=⟨_,lge (by rw[hm];exact ho)⟩;rw[hu] at h1 ⊢;have:=hc _ _ h1
 rwa [<-Nat.add_assoc] at this
theorem flatMap_len {α:Type} {f:α->List Value} {m:Nat} (hm:∀ x,(f x).length=m):∀ xs:List α,(xs.flatMap f).length=xs.length*m
 | []=>by simp
 | y::r=>by rw[List.flatMap_cons,lla,hm,flatMap_len hm r,List.length_cons,Nat.add_mul];omega
def Rd (w:World) (m:Nat) (A:Option Addr) (n:Nat) (xs:List Value):Prop:=Row w w.heap.size m A n xs
section
variable {w w':World} {m n c:Nat} {A:Option Addr} {xs:List Value} {S:List Nat}
theorem Rd.fr (h:Rd w m A n xs) (hf:Fr S w w') (hS:∀ k∈blk A,k ∉ S):Rd w' m A n xs:=⟨h.1,fun hn=>by
 obtain⟨b,off,e,hb,hc⟩:=h.2 hn;subst e;exact⟨b,off,rfl,Nat.lt_of_lt_of_le hb hf.size,fun j u hu=>(hf.cell (p:=⟨b,off+j,none⟩) hb (hS b (by simp[blk]))).trans (hc j u hu)⟩⟩
theorem Rd.fr0 (h:Rd w m A n xs) (hf:Fr [] w w'):Rd w' m A n xs:=h.fr hf (by simp)
theorem Own.rd {e:TypeId} (h:Own w e m A n c xs):Rd w m A n xs:=h.row
end
structure CH where
 n:ON
 v:Nm
 a:Bool
def CH.cs (c:CH):List Value:=[.int .i64 c.n.kind,encN c.n.owner,.int .i64 c.n.number,.int .i64 c.n.index,encN c.n.text,encN c.v,.bool c.a]
theorem ch_len (c:CH):c.cs.length=7:=rfl
def CH.fit (c:CH):Prop:=c.n.owner.length<=140737488355328/\c.n.text.length<=140737488355328/\c.v.length<=140737488355328
def Chs (w:World) (A:Option Addr) (l:List CH):Prop:=Rd w 7 A l.length (l.flatMap CH.cs)
theorem Chs.fr0 {w w':World} {A:Option Addr} {l:List CH} (h:Chs w A l) (hf:Fr [] w w'):Chs w' A l:=Rd.fr0 h hf
def oneB (c:CH):Bool:=decide (checkO c.n=0) && (decide (c.v.length<=65536) && !(c.a && neB c.v))
def nextB:Option ON->ON->Bool
 | none,_=>true
 | some q,n=>decide (cmpO q n<0)
def ordB:Option ON->List CH->Bool
 | _,[]=>true
 | p,c::r=>oneB c && (nextB p c.n && ordB (some c.n) r)
theorem valid_of_check {n:ON} (h:checkO n=0):validB n.owner=true:=by
 unfold checkO at h;split at h
 ·have h1:=h
  unfold checkU at h;split at h
  ·simp at h
  ·rename_i e1
   split at h
   ·simp at h
   split at h
   ·simp at h
   split at h
   ·simp at h
   split at h
   ·simp at h
   ·rename_i e5
    unfold tE1 at e1;unfold tV at e5
    cases hu:(us n.kind.toNat).owner with
    | true=>rw[hu] at e5;simpa using e5
    | false =>
     rw[hu] at e1;have:n.owner=[]:=by simpa [neB] using e1
     rw[this];decide
 ·simp at h
def prevO (l:List CH):Nat->Option ON
 | 0=>none
 | j+1=>(l[j]?).map CH.n
theorem ordB_step {l:List CH} {j:Nat} {c:CH} (hx:l[j]?=some c) (hB:ordB (prevO l j) (l.drop j)=ordB none l) (h1:oneB c=true) (h2:∀ q,prevO l j=some q->cmpO q c.n<0):ordB (prevO l (j+1)) (l.drop (j+1))=ordB none l:=by
 obtain⟨hj,rfl⟩:=lgs.1 hx;rw[List.drop_eq_getElem_cons hj,ordB,h1,Bool.true_and] at hB;rw[<-hB]
 show ordB ((l[j]?).map CH.n) _=_
 rw[hx]
 cases hp:prevO l j with
 | none=>simp[nextB]
 | some q=>simp[nextB,h2 q hp]
theorem ordB_bad {l:List CH} {j:Nat} {c:CH} (hx:l[j]?=some c) (hB:ordB (prevO l j) (l.drop j)=ordB none l) (h:oneB c=false \/ ∃ q,prevO l j=some q/\0<=cmpO q c.n):ordB none l=false:=by
 obtain⟨hj,rfl⟩:=lgs.1 hx;rw[<-hB,List.drop_eq_getElem_cons hj,ordB]
 rcases h with h | ⟨q,h1,h2⟩
 ·rw[h];rfl
 ·rw[h1]
  have:¬ cmpO q l[j].n<0:=by omega
  simp[nextB,this]
theorem OrderlyG (l:List CH) (A:Option Addr) (c:Nat) (w:World) (hok:Ok w) (h:Chs w A l) (hg:∀ x∈l,x.fit) (hl:l.length<=100000):Calls prog 170 #[.slice A l.length c] w (RetPost w (.bool (ordB none l))):=by
 obtain⟨n,hn⟩:=nmd (l.length);obtain⟨r,hr⟩:=nmd (ordB none l);have HL:=Hd (An hn (An hr h));have HOK:=Hd hok;have HG:=Hd hg;rw[hn] at hl ⊢;rw[hr];clear hn hr h hok hg
 go_enter func170,ntmps170
 go_wp2_with fail
 go_loopw [7] (fun i W=>∃ j:Nat,j<=n/\i=.int .i64 (j:Int)/\Fr [] w W/\ordB (prevO l j) (l.drop j)=r/\∀ q,prevO l j=some q->checkO q=0/\q.owner.length<=140737488355328) (fun i _=>n - (intOf i).toNat)
 case atStart=>exact⟨0,Nat.zero_le _,rfl,Fq _ _,HL.out.2.1,fun q hq=>by cases hq⟩
 case round =>
  obtain⟨j,hj,rfl,hfr,hB,hq⟩:=hrel;have HF:=Hd (An hfr (An hB hq));clear hfr hB hq
  by_cases hlt:j<n
  ·have hlt3:(j:Int)<(n:Int):=by omega
   have hrow:Row wr wr.heap.size 7 A n (l.flatMap CH.cs):=by have h:=HL.out.2.2.fr0 HF.out.1;unfold Chs Rd at h;rw[HL.out.1] at h;exact h
   obtain⟨b,off,rfl,hbl,hcl⟩:=row_get ch_len hrow (by omega);obtain⟨x,hx⟩:∃ x,l[j]?=some x:=⟨_,lge (by rw[HL.out.1];exact hlt)⟩;obtain⟨f1,f2,f3⟩:=HG.out x (lmg hx);have hcx:=hcl j x hx;obtain⟨⟨k,ow,nu,ix,tx⟩,v,ab⟩:=x;simp only at f1 f2 f3;obtain⟨so,hso,hso2,_⟩:=str_of ow;obtain⟨st,hst,hst2,_⟩:=str_of tx;obtain⟨sv,hsv,hsv2,_⟩:=str_of v;unfold CH.cs at hcx;simp only[hso,hst,hsv] at hcx;have y0:wr.cell? ⟨b,off+j*7,none⟩=some (.int .i64 k):=hcx 0 (by omega);have y1:wr.cell? ⟨b,off+j*7+1,none⟩=some (.string so):=hcx 1 (by omega);have y2:wr.cell? ⟨b,off+j*7+2,none⟩=some (.int .i64 nu):=hcx 2 (by omega);have y3:wr.cell? ⟨b,off+j*7+3,none⟩=some (.int .i64 ix):=hcx 3 (by omega);have y4:wr.cell? ⟨b,off+j*7+4,none⟩=some (.string st):=hcx 4 (by omega);have y5:wr.cell? ⟨b,off+j*7+5,none⟩=some (.string sv):=hcx 5 (by omega);have y6:wr.cell? ⟨b,off+j*7+6,none⟩=some (.bool ab):=hcx 6 (by omega);obtain⟨w1,hw1,hz1,n1,fw1⟩:=bxz wr #[.int .i64 k,.string so,.int .i64 nu,.int .i64 ix,.string st,.string sv,.bool ab] 95 wr.heap.size;obtain⟨ck,hck⟩:=nmd (checkO ⟨k,ow,nu,ix,tx⟩)
   have hC:Calls prog 53 #[.agg #[.int .i64 k,.string so,.int .i64 nu,.int .i64 ix,.string st]] w1 (ChkPost w1 ck):=by
    have h:=Check_any ⟨k,ow,nu,ix,tx⟩ w1 (HOK.out.fr0 (HF.out.1.then fw1)) f1 f2;rw[hck] at h;unfold encO at h;simp only[hso,hst] at h;exact h
   have HX:=Hd (An hx (An hck (An hso (An hst hsv2))));have HC:=Hd hC;have HN:=Hd (An n1 fw1);have hvl:(sv.size:Int)=(v.length:Int):=by rw[len_data,hsv2]
   clear hcx hcl hrow hx hck hso hso2 hst hst2 hsv hsv2 hC
   go_upto_region 4 with fail
   try rw[hw1]
   clear y0 y1 y2 y3 y4 y5 y6 hbl;obtain⟨x0,x1,x2,x3,x4,x5,x6⟩:=n1.m7;clear hw1 n1 fw1 hz1
   go_cut [30] from 12 to 30 (fun s W=>s=.bool (!oneB ⟨⟨k,ow,nu,ix,tx⟩,v,ab⟩)/\Fr [] w1 W)
   case first =>
    have hset:oneB ⟨⟨k,ow,nu,ix,tx⟩,v,ab⟩=(decide (ck=0) && (decide (v.length<=65536) && !(ab && neB v))):=by unfold oneB;simp only;rw[HX.out.2.1]
    have HS:=Hd hset;clear hset
    rcases Int.decEq ck 0 with hc0 | hc0
    ·have hce:(ck != 0)=true:=by simp[hc0]
     have hce2:decide (ck=0)=false:=decide_eq_false hc0;have HR:=Hd (show (!oneB ⟨⟨k,ow,nu,ix,tx⟩,v,ab⟩)=true by rw[HS.out,hce2];rfl);clear hvl
     go_wp2_with (go_at_call 53;(with_reducible refine HC.out.mono ?_);rintro e w2 ⟨rfl,hf2⟩;have H2:=Hd hf2;clear hf2)
     go_meet
     exact⟨congrArg Value.bool HR.out.symm,H2.out⟩
    ·subst hc0
     by_cases hvl2:v.length<=65536
     ·have hcl:(decide ((65536:Int)<(sv.size:Int)))=false:=decide_eq_false (by omega)
      have hcl2:(decide ((65536:Int)<(v.length:Int)))=false:=decide_eq_false (by omega)
      cases ab with
      | false =>
       have HR:=Hd (show (!oneB ⟨⟨k,ow,nu,ix,tx⟩,v,false⟩)=false by rw[HS.out];simp[hvl2]);clear hvl
       go_wp2_with (go_at_call 53;(with_reducible refine HC.out.mono ?_);rintro e w2 ⟨rfl,hf2⟩;have m2:=HN.out.1.fr hf2 (by simp);have z5:w2.cell? ⟨wr.heap.size,5,none⟩=some (.string sv):=m2.c 5;have z6:w2.cell? ⟨wr.heap.size,6,none⟩=some (.bool false):=m2.c 6;have H2:=Hd hf2;clear hf2 m2)
       go_meet
       exact⟨congrArg Value.bool HR.out.symm,H2.out⟩
      | true =>
       by_cases hx:v=[]
       ·have hx1:sv.data.toList=[]:=by rw[HX.out.2.2.2.2];exact hx
        have hx2:=isEmpty_of_nil hx1;have hx3:sv.toList=[]:=by rw[ByteArray.toList_eq];exact hx1
        have HR:=Hd (show (!oneB ⟨⟨k,ow,nu,ix,tx⟩,v,true⟩)=false by rw[HS.out];simp[hvl2,neB,hx]);clear hvl hx hx1
        go_wp2_with (go_at_call 53;(with_reducible refine HC.out.mono ?_);rintro e w2 ⟨rfl,hf2⟩;have m2:=HN.out.1.fr hf2 (by simp);have z5:w2.cell? ⟨wr.heap.size,5,none⟩=some (.string sv):=m2.c 5;have z6:w2.cell? ⟨wr.heap.size,6,none⟩=some (.bool true):=m2.c 6;have H2:=Hd hf2;clear hf2 m2)
        go_meet
        exact⟨congrArg Value.bool HR.out.symm,H2.out⟩
       ·have hx1:sv.data.toList≠[]:=by rw[HX.out.2.2.2.2];exact hx
        have hx2:=isEmpty_of_ne hx1;have hx3:sv.toList≠[]:=by rw[ByteArray.toList_eq];exact hx1
        have hx5:(sv.toList == [])=false:=by simpa using hx3
        have HR:=Hd (show (!oneB ⟨⟨k,ow,nu,ix,tx⟩,v,true⟩)=true by rw[HS.out];simp[hvl2,neB,hx]);clear hvl hx hx1
        go_wp2_with (go_at_call 53;(with_reducible refine HC.out.mono ?_);rintro e w2 ⟨rfl,hf2⟩;have m2:=HN.out.1.fr hf2 (by simp);have z5:w2.cell? ⟨wr.heap.size,5,none⟩=some (.string sv):=m2.c 5;have z6:w2.cell? ⟨wr.heap.size,6,none⟩=some (.bool true):=m2.c 6;have H2:=Hd hf2;clear hf2 m2)
        go_meet
        exact⟨congrArg Value.bool HR.out.symm,H2.out⟩
     ·have hcl:(decide ((65536:Int)<(sv.size:Int)))=true:=decide_eq_true (by omega)
      have hcl2:(decide ((65536:Int)<(v.length:Int)))=true:=decide_eq_true (by omega);have HR:=Hd (show (!oneB ⟨⟨k,ow,nu,ix,tx⟩,v,ab⟩)=true by rw[HS.out];simp[hvl2]);clear hvl
      go_wp2_with (go_at_call 53;(with_reducible refine HC.out.mono ?_);rintro e w2 ⟨rfl,hf2⟩;have m2:=HN.out.1.fr hf2 (by simp);have z5:w2.cell? ⟨wr.heap.size,5,none⟩=some (.string sv):=m2.c 5;have z6:w2.cell? ⟨wr.heap.size,6,none⟩=some (.bool ab):=m2.c 6;have H2:=Hd hf2;clear hf2 m2)
      go_meet
      exact⟨congrArg Value.bool HR.out.symm,H2.out⟩
   case rest =>
   obtain⟨rfl,hfc⟩:=hcut;clear x0 x1 x2 x3 x4 x5 x6 hvl
   cases hone:oneB ⟨⟨k,ow,nu,ix,tx⟩,v,ab⟩ with
   | false =>
    have HR:=Hd (ordB_bad HX.out.1 (by rw[HF.out.2.1];exact HL.out.2.1.symm) (.inl hone));have HFC:=Hd hfc;clear hfc hone
    go_wp2_with fail
    go_ret
    exact⟨by rw[<-HL.out.2.1,HR.out];rfl,(HF.out.1.then HN.out.2).then HFC.out⟩
   | true =>
    have hck0:checkO ⟨k,ow,nu,ix,tx⟩=0:=by unfold oneB at hone;simp at hone;exact hone.1
    have hvx:=valid_of_check hck0;have nc:=HN.out.1.fr hfc (by simp);have hfw:=HN.out.2.then hfc
    rcases Nat.eq_zero_or_pos j with hj0 | hj0
    ·subst hj0
     have HX2:=Hd (An hck0 (An hfw (ordB_step HX.out.1 (by rw[HF.out.2.1];exact HL.out.2.1.symm) hone (fun q hq=>by cases hq))));have HN2:=Hd nc;clear hone hck0 hvx nc hfw hfc
     go_upto_region 6 with fail
     refine wp_region_qall (fun W=>Fr [] wc W) (by kernel_rfl) (by kernel_rfl) ((Fq [] wc).drew) ?_;have HSS:=Hd (fun (W:World) (hW:Fr [] wc W)=>True.intro)
     repeat (
      first
      | go_big_quiet_skip
      | (go_big_quiet_want
         first
         | (go_big_quiet_op
            go_big_quiet_on)
         | (apply Exists.intro
            refine⟨fun W hW=>?_,?_⟩
            ·(obtain _:=HSS.out W hW
              go_simp
              first
              | done
              | (with_reducible exact rfl)
              | (with_reducible exact⟨rfl,rfl⟩)
              | (fail))
            simp only[Act.put,qA,qB,qC]
            go_big_quiet_on))
      )
     refine wpQuiet_nil ?_;intro W1 hW1
     go_wp2_with fail
     go_roundw
     case rel=>exact⟨1,by omega,by go_num,(HF.out.1.then HX2.out.2.1).then hW1,by rw[<-HL.out.2.1];exact HX2.out.2.2,fun q hq=>by rw[prevO,HX.out.1] at hq;cases hq;exact⟨HX2.out.1,f1⟩⟩
     case measure=>simp[intOf];omega
    ·obtain⟨m,rfl⟩:∃ m,j=m+1:=⟨j - 1,by omega⟩
     obtain⟨y,hy⟩:∃ y,l[m]?=some y:=⟨_,lge (by rw[HL.out.1];omega)⟩;have hpy:prevO l (m+1)=some y.n:=by rw[prevO,hy];rfl
     obtain⟨hcy,hly⟩:=HF.out.2.2 y.n hpy;have hvy:=valid_of_check hcy;obtain⟨g,hg⟩:=nmd (cmpO y.n ⟨k,ow,nu,ix,tx⟩);have hCm:=fun W=>CompareO_any y.n ⟨k,ow,nu,ix,tx⟩ W hvy hvx hly f1;rw[hg] at hCm;have hrow2:=row_get ch_len (B:=wr.heap.size) (by have h:=HL.out.2.2.fr0 HF.out.1;unfold Chs Rd at h;rw[HL.out.1] at h;exact h) (by omega:0<n);obtain⟨b',off',hA',hbl',hcl'⟩:=hrow2
     injection hA' with hA'
     injection hA' with hA1 hA2
     subst hA1 hA2;have hcy2:=hcl' m y hy;obtain⟨⟨k2,ow2,nu2,ix2,tx2⟩,v2,ab2⟩:=y;obtain⟨so2,hso2,_,_⟩:=str_of ow2;obtain⟨st2,hst2,_,_⟩:=str_of tx2;unfold CH.cs at hcy2;unfold encO at hCm;simp only[hso2,hst2,HX.out.2.2.1,HX.out.2.2.2.1] at hcy2 hCm
     have HSS:=Hd (fun (W:World) (hW:Fr [] wc W)=>(show (W.cell? ⟨b,off+m*7,none⟩=some (.int .i64 k2)/\W.cell? ⟨b,off+m*7+1,none⟩=some (.string so2)/\W.cell? ⟨b,off+m*7+2,none⟩=some (.int .i64 nu2)/\W.cell? ⟨b,off+m*7+3,none⟩=some (.int .i64 ix2)/\W.cell? ⟨b,off+m*7+4,none⟩=some (.string st2))/\W.cell? ⟨wr.heap.size,0,none⟩=some (.int .i64 k)/\W.cell? ⟨wr.heap.size,1,none⟩=some (.string so)/\W.cell? ⟨wr.heap.size,2,none⟩=some (.int .i64 nu)/\W.cell? ⟨wr.heap.size,3,none⟩=some (.int .i64 ix)/\W.cell? ⟨wr.heap.size,4,none⟩=some (.string st) from by
      have h1:=nc.fr hW (by simp);have h2:=fun o=>(hfw.then hW).cell (p:=⟨b,off+m*7+o,none⟩) hbl' (by simp);exact⟨⟨(h2 0).trans (hcy2 0 (by omega)),(h2 1).trans (hcy2 1 (by omega)),(h2 2).trans (hcy2 2 (by omega)),(h2 3).trans (hcy2 3 (by omega)),(h2 4).trans (hcy2 4 (by omega))⟩,h1.c 0,h1.c 1,h1.c 2,h1.c 3,h1.c 4⟩))
     have HC:=Hd hCm;have HX2:=Hd (An hck0 (An hfw (An hone (An hpy hg))));have hwr:IntKind.i64.wrap ((m:Nat):Int)=(m:Int):=by simp only[IntKind.wrap_i64];omega
     have hmn:((m:Nat):Int)<(n:Int):=by omega
     have e1:decide ((0:Int)<((m+1:Nat):Int))=true:=decide_eq_true (by omega);have e2:decide ((0:Int)<((m:Nat):Int)+1)=true:=decide_eq_true (by omega);clear hone hck0 hvx nc hfw hfc hcy hly hvy hcy2 hCm hy hpy hg hcl'
     go_upto_region 6 with fail
     refine wp_region_qall (fun W=>Fr [] wc W) (by kernel_rfl) (by kernel_rfl) ((Fq [] wc).drew) ?_
     repeat (
      first
      | go_big_quiet_skip
      | (go_big_quiet_want
         first
         | (go_big_quiet_op
            go_big_quiet_on)
         | (apply Exists.intro
            refine⟨fun W hW=>?_,?_⟩
            ·(obtain⟨⟨z0,z1,z2,z3,z4⟩,y0,y1,y2,y3,y4⟩:=HSS.out W hW
              go_simp
              first
              | done
              | (with_reducible exact rfl)
              | (with_reducible exact⟨rfl,rfl⟩)
              | ((go_at_call 103;(with_reducible refine (HC.out W).mono ?_);rintro e w' ⟨rfl,h⟩;exact⟨rfl,hW.then h⟩)))
            simp only[Act.put,qA,qB,qC]
            go_big_quiet_on))
      )
     refine wpQuiet_nil ?_;intro W1 hW1
     rcases Int.decLt g 0 with h0 | h0
     ·have e4:decide ((0:Int)<=g)=true:=decide_eq_true (by omega)
      have e5:decide (g<0)=false:=decide_eq_false (by omega);have HR:=Hd (ordB_bad HX.out.1 (by rw[HF.out.2.1];exact HL.out.2.1.symm) (.inr ⟨_,HX2.out.2.2.2.1,by rw[HX2.out.2.2.2.2];omega⟩))
      go_wp2_with fail
      go_ret
      exact⟨by rw[<-HL.out.2.1,HR.out];rfl,(HF.out.1.then HX2.out.2.1).then hW1⟩
     ·have e4:decide ((0:Int)<=g)=false:=decide_eq_false (by omega)
      have e5:decide (g<0)=true:=decide_eq_true (by omega);have HR:=Hd (ordB_step HX.out.1 (by rw[HF.out.2.1];exact HL.out.2.1.symm) HX2.out.2.2.1 (fun q hq=>by rw[HX2.out.2.2.2.1] at hq;cases hq;rw[HX2.out.2.2.2.2];exact h0))
      go_wp2_with fail
      go_roundw
      case rel=>exact⟨m+1+1,by omega,by go_num,(HF.out.1.then HX2.out.2.1).then hW1,by rw[<-HL.out.2.1];exact HR.out,fun q hq=>by rw[prevO,HX.out.1] at hq;cases hq;exact⟨HX2.out.1,f1⟩⟩
      case measure=>simp[intOf];omega
  ·obtain rfl:j=n:=by omega
   have HR:=Hd (show true=r by rw[<-HF.out.2.1,List.drop_of_length_le (by rw[HL.out.1];omega)];cases prevO l j <;> rfl)
   go_wp2_with fail
   go_ret
   exact⟨by rw[<-HR.out];rfl,HF.out.1⟩
theorem OrderlyVG (l:List CH) (A:Option Addr) (c:Nat) (w:World) (hok:Ok w) (h:Chs w A l) (hg:∀ x∈l,x.fit) (hl:l.length<=100000):Calls prog 190 #[.slice A l.length c] w (RetPost w (.bool (ordB none l))):=by
 obtain⟨n,hn⟩:=nmd (l.length);obtain⟨r,hr⟩:=nmd (ordB none l);have HL:=Hd (An hn (An hr h));have HOK:=Hd hok;have HG:=Hd hg;rw[hn] at hl ⊢;rw[hr];clear hn hr h hok hg
 go_enter func190,ntmps190
 go_wp2_with fail
 go_loopw [7] (fun i W=>∃ j:Nat,j<=n/\i=.int .i64 (j:Int)/\Fr [] w W/\ordB (prevO l j) (l.drop j)=r/\∀ q,prevO l j=some q->checkO q=0/\q.owner.length<=140737488355328) (fun i _=>n - (intOf i).toNat)
 case atStart=>exact⟨0,Nat.zero_le _,rfl,Fq _ _,HL.out.2.1,fun q hq=>by cases hq⟩
 case round =>
  obtain⟨j,hj,rfl,hfr,hB,hq⟩:=hrel;have HF:=Hd (An hfr (An hB hq));clear hfr hB hq
  by_cases hlt:j<n
  ·have hlt3:(j:Int)<(n:Int):=by omega
   have hrow:Row wr wr.heap.size 7 A n (l.flatMap CH.cs):=by have h:=HL.out.2.2.fr0 HF.out.1;unfold Chs Rd at h;rw[HL.out.1] at h;exact h
   obtain⟨b,off,rfl,hbl,hcl⟩:=row_get ch_len hrow (by omega);obtain⟨x,hx⟩:∃ x,l[j]?=some x:=⟨_,lge (by rw[HL.out.1];exact hlt)⟩;obtain⟨f1,f2,f3⟩:=HG.out x (lmg hx);have hcx:=hcl j x hx;obtain⟨⟨k,ow,nu,ix,tx⟩,v,ab⟩:=x;simp only at f1 f2 f3;obtain⟨so,hso,hso2,_⟩:=str_of ow;obtain⟨st,hst,hst2,_⟩:=str_of tx;obtain⟨sv,hsv,hsv2,_⟩:=str_of v;unfold CH.cs at hcx;simp only[hso,hst,hsv] at hcx;have y0:wr.cell? ⟨b,off+j*7,none⟩=some (.int .i64 k):=hcx 0 (by omega);have y1:wr.cell? ⟨b,off+j*7+1,none⟩=some (.string so):=hcx 1 (by omega);have y2:wr.cell? ⟨b,off+j*7+2,none⟩=some (.int .i64 nu):=hcx 2 (by omega);have y3:wr.cell? ⟨b,off+j*7+3,none⟩=some (.int .i64 ix):=hcx 3 (by omega);have y4:wr.cell? ⟨b,off+j*7+4,none⟩=some (.string st):=hcx 4 (by omega);have y5:wr.cell? ⟨b,off+j*7+5,none⟩=some (.string sv):=hcx 5 (by omega);have y6:wr.cell? ⟨b,off+j*7+6,none⟩=some (.bool ab):=hcx 6 (by omega);obtain⟨w1,hw1,hz1,n1,fw1⟩:=bxz wr #[.int .i64 k,.string so,.int .i64 nu,.int .i64 ix,.string st,.string sv,.bool ab] 95 wr.heap.size;obtain⟨ck,hck⟩:=nmd (checkO ⟨k,ow,nu,ix,tx⟩)
   have hC:Calls prog 53 #[.agg #[.int .i64 k,.string so,.int .i64 nu,.int .i64 ix,.string st]] w1 (ChkPost w1 ck):=by
    have h:=Check_any ⟨k,ow,nu,ix,tx⟩ w1 (HOK.out.fr0 (HF.out.1.then fw1)) f1 f2;rw[hck] at h;unfold encO at h;simp only[hso,hst] at h;exact h
   have HX:=Hd (An hx (An hck (An hso (An hst hsv2))));have HC:=Hd hC;have HN:=Hd (An n1 fw1);have hvl:(sv.size:Int)=(v.length:Int):=by rw[len_data,hsv2]
   clear hcx hcl hrow hx hck hso hso2 hst hst2 hsv hsv2 hC
   go_upto_region 4 with fail
   try rw[hw1]
   clear y0 y1 y2 y3 y4 y5 y6 hbl;obtain⟨x0,x1,x2,x3,x4,x5,x6⟩:=n1.m7;clear hw1 n1 fw1 hz1
   go_cut [30] from 12 to 30 (fun s W=>s=.bool (!oneB ⟨⟨k,ow,nu,ix,tx⟩,v,ab⟩)/\Fr [] w1 W)
   case first =>
    have hset:oneB ⟨⟨k,ow,nu,ix,tx⟩,v,ab⟩=(decide (ck=0) && (decide (v.length<=65536) && !(ab && neB v))):=by unfold oneB;simp only;rw[HX.out.2.1]
    have HS:=Hd hset;clear hset
    rcases Int.decEq ck 0 with hc0 | hc0
    ·have hce:(ck != 0)=true:=by simp[hc0]
     have hce2:decide (ck=0)=false:=decide_eq_false hc0;have HR:=Hd (show (!oneB ⟨⟨k,ow,nu,ix,tx⟩,v,ab⟩)=true by rw[HS.out,hce2];rfl);clear hvl
     go_wp2_with (go_at_call 53;(with_reducible refine HC.out.mono ?_);rintro e w2 ⟨rfl,hf2⟩;have H2:=Hd hf2;clear hf2)
     go_meet
     exact⟨congrArg Value.bool HR.out.symm,H2.out⟩
    ·subst hc0
     by_cases hvl2:v.length<=65536
     ·have hcl:(decide ((65536:Int)<(sv.size:Int)))=false:=decide_eq_false (by omega)
      have hcl2:(decide ((65536:Int)<(v.length:Int)))=false:=decide_eq_false (by omega)
      cases ab with
      | false =>
       have HR:=Hd (show (!oneB ⟨⟨k,ow,nu,ix,tx⟩,v,false⟩)=false by rw[HS.out];simp[hvl2]);clear hvl
       go_wp2_with (go_at_call 53;(with_reducible refine HC.out.mono ?_);rintro e w2 ⟨rfl,hf2⟩;have m2:=HN.out.1.fr hf2 (by simp);have z5:w2.cell? ⟨wr.heap.size,5,none⟩=some (.string sv):=m2.c 5;have z6:w2.cell? ⟨wr.heap.size,6,none⟩=some (.bool false):=m2.c 6;have H2:=Hd hf2;clear hf2 m2)
       go_meet
       exact⟨congrArg Value.bool HR.out.symm,H2.out⟩
      | true =>
       by_cases hx:v=[]
       ·have hx1:sv.data.toList=[]:=by rw[HX.out.2.2.2.2];exact hx
        have hx2:=isEmpty_of_nil hx1;have hx3:sv.toList=[]:=by rw[ByteArray.toList_eq];exact hx1
        have HR:=Hd (show (!oneB ⟨⟨k,ow,nu,ix,tx⟩,v,true⟩)=false by rw[HS.out];simp[hvl2,neB,hx]);clear hvl hx hx1
        go_wp2_with (go_at_call 53;(with_reducible refine HC.out.mono ?_);rintro e w2 ⟨rfl,hf2⟩;have m2:=HN.out.1.fr hf2 (by simp);have z5:w2.cell? ⟨wr.heap.size,5,none⟩=some (.string sv):=m2.c 5;have z6:w2.cell? ⟨wr.heap.size,6,none⟩=some (.bool true):=m2.c 6;have H2:=Hd hf2;clear hf2 m2)
        go_meet
        exact⟨congrArg Value.bool HR.out.symm,H2.out⟩
       ·have hx1:sv.data.toList≠[]:=by rw[HX.out.2.2.2.2];exact hx
        have hx2:=isEmpty_of_ne hx1;have hx3:sv.toList≠[]:=by rw[ByteArray.toList_eq];exact hx1
        have hx5:(sv.toList == [])=false:=by simpa using hx3
        have HR:=Hd (show (!oneB ⟨⟨k,ow,nu,ix,tx⟩,v,true⟩)=true by rw[HS.out];simp[hvl2,neB,hx]);clear hvl hx hx1
        go_wp2_with (go_at_call 53;(with_reducible refine HC.out.mono ?_);rintro e w2 ⟨rfl,hf2⟩;have m2:=HN.out.1.fr hf2 (by simp);have z5:w2.cell? ⟨wr.heap.size,5,none⟩=some (.string sv):=m2.c 5;have z6:w2.cell? ⟨wr.heap.size,6,none⟩=some (.bool true):=m2.c 6;have H2:=Hd hf2;clear hf2 m2)
        go_meet
        exact⟨congrArg Value.bool HR.out.symm,H2.out⟩
     ·have hcl:(decide ((65536:Int)<(sv.size:Int)))=true:=decide_eq_true (by omega)
      have hcl2:(decide ((65536:Int)<(v.length:Int)))=true:=decide_eq_true (by omega);have HR:=Hd (show (!oneB ⟨⟨k,ow,nu,ix,tx⟩,v,ab⟩)=true by rw[HS.out];simp[hvl2]);clear hvl
      go_wp2_with (go_at_call 53;(with_reducible refine HC.out.mono ?_);rintro e w2 ⟨rfl,hf2⟩;have m2:=HN.out.1.fr hf2 (by simp);have z5:w2.cell? ⟨wr.heap.size,5,none⟩=some (.string sv):=m2.c 5;have z6:w2.cell? ⟨wr.heap.size,6,none⟩=some (.bool ab):=m2.c 6;have H2:=Hd hf2;clear hf2 m2)
      go_meet
      exact⟨congrArg Value.bool HR.out.symm,H2.out⟩
   case rest =>
   obtain⟨rfl,hfc⟩:=hcut;clear x0 x1 x2 x3 x4 x5 x6 hvl
   cases hone:oneB ⟨⟨k,ow,nu,ix,tx⟩,v,ab⟩ with
   | false =>
    have HR:=Hd (ordB_bad HX.out.1 (by rw[HF.out.2.1];exact HL.out.2.1.symm) (.inl hone));have HFC:=Hd hfc;clear hfc hone
    go_wp2_with fail
    go_ret
    exact⟨by rw[<-HL.out.2.1,HR.out];rfl,(HF.out.1.then HN.out.2).then HFC.out⟩
   | true =>
    have hck0:checkO ⟨k,ow,nu,ix,tx⟩=0:=by unfold oneB at hone;simp at hone;exact hone.1
    have hvx:=valid_of_check hck0;have nc:=HN.out.1.fr hfc (by simp);have hfw:=HN.out.2.then hfc
    rcases Nat.eq_zero_or_pos j with hj0 | hj0
    ·subst hj0
     have HX2:=Hd (An hck0 (An hfw (ordB_step HX.out.1 (by rw[HF.out.2.1];exact HL.out.2.1.symm) hone (fun q hq=>by cases hq))));have HN2:=Hd nc;clear hone hck0 hvx nc hfw hfc
     go_upto_region 6 with fail
     refine wp_region_qall (fun W=>Fr [] wc W) (by kernel_rfl) (by kernel_rfl) ((Fq [] wc).drew) ?_;have HSS:=Hd (fun (W:World) (hW:Fr [] wc W)=>True.intro)
     repeat (
      first
      | go_big_quiet_skip
      | (go_big_quiet_want
         first
         | (go_big_quiet_op
            go_big_quiet_on)
         | (apply Exists.intro
            refine⟨fun W hW=>?_,?_⟩
            ·(obtain _:=HSS.out W hW
              go_simp
              first
              | done
              | (with_reducible exact rfl)
              | (with_reducible exact⟨rfl,rfl⟩)
              | (fail))
            simp only[Act.put,qA,qB,qC]
            go_big_quiet_on))
      )
     refine wpQuiet_nil ?_;intro W1 hW1
     go_wp2_with fail
     go_roundw
     case rel=>exact⟨1,by omega,by go_num,(HF.out.1.then HX2.out.2.1).then hW1,by rw[<-HL.out.2.1];exact HX2.out.2.2,fun q hq=>by rw[prevO,HX.out.1] at hq;cases hq;exact⟨HX2.out.1,f1⟩⟩
     case measure=>simp[intOf];omega
    ·obtain⟨m,rfl⟩:∃ m,j=m+1:=⟨j - 1,by omega⟩
     obtain⟨y,hy⟩:∃ y,l[m]?=some y:=⟨_,lge (by rw[HL.out.1];omega)⟩;have hpy:prevO l (m+1)=some y.n:=by rw[prevO,hy];rfl
     obtain⟨hcy,hly⟩:=HF.out.2.2 y.n hpy;have hvy:=valid_of_check hcy;obtain⟨g,hg⟩:=nmd (cmpO y.n ⟨k,ow,nu,ix,tx⟩);have hCm:=fun W=>CompareO_any y.n ⟨k,ow,nu,ix,tx⟩ W hvy hvx hly f1;rw[hg] at hCm;have hrow2:=row_get ch_len (B:=wr.heap.size) (by have h:=HL.out.2.2.fr0 HF.out.1;unfold Chs Rd at h;rw[HL.out.1] at h;exact h) (by omega:0<n);obtain⟨b',off',hA',hbl',hcl'⟩:=hrow2
     injection hA' with hA'
     injection hA' with hA1 hA2
     subst hA1 hA2;have hcy2:=hcl' m y hy;obtain⟨⟨k2,ow2,nu2,ix2,tx2⟩,v2,ab2⟩:=y;obtain⟨so2,hso2,_,_⟩:=str_of ow2;obtain⟨st2,hst2,_,_⟩:=str_of tx2;unfold CH.cs at hcy2;unfold encO at hCm;simp only[hso2,hst2,HX.out.2.2.1,HX.out.2.2.2.1] at hcy2 hCm
     have HSS:=Hd (fun (W:World) (hW:Fr [] wc W)=>(show (W.cell? ⟨b,off+m*7,none⟩=some (.int .i64 k2)/\W.cell? ⟨b,off+m*7+1,none⟩=some (.string so2)/\W.cell? ⟨b,off+m*7+2,none⟩=some (.int .i64 nu2)/\W.cell? ⟨b,off+m*7+3,none⟩=some (.int .i64 ix2)/\W.cell? ⟨b,off+m*7+4,none⟩=some (.string st2))/\W.cell? ⟨wr.heap.size,0,none⟩=some (.int .i64 k)/\W.cell? ⟨wr.heap.size,1,none⟩=some (.string so)/\W.cell? ⟨wr.heap.size,2,none⟩=some (.int .i64 nu)/\W.cell? ⟨wr.heap.size,3,none⟩=some (.int .i64 ix)/\W.cell? ⟨wr.heap.size,4,none⟩=some (.string st) from by
      have h1:=nc.fr hW (by simp);have h2:=fun o=>(hfw.then hW).cell (p:=⟨b,off+m*7+o,none⟩) hbl' (by simp);exact⟨⟨(h2 0).trans (hcy2 0 (by omega)),(h2 1).trans (hcy2 1 (by omega)),(h2 2).trans (hcy2 2 (by omega)),(h2 3).trans (hcy2 3 (by omega)),(h2 4).trans (hcy2 4 (by omega))⟩,h1.c 0,h1.c 1,h1.c 2,h1.c 3,h1.c 4⟩))
     have HC:=Hd hCm;have HX2:=Hd (An hck0 (An hfw (An hone (An hpy hg))));have hwr:IntKind.i64.wrap ((m:Nat):Int)=(m:Int):=by simp only[IntKind.wrap_i64];omega
     have hmn:((m:Nat):Int)<(n:Int):=by omega
     have e1:decide ((0:Int)<((m+1:Nat):Int))=true:=decide_eq_true (by omega);have e2:decide ((0:Int)<((m:Nat):Int)+1)=true:=decide_eq_true (by omega);clear hone hck0 hvx nc hfw hfc hcy hly hvy hcy2 hCm hy hpy hg hcl'
     go_upto_region 6 with fail
     refine wp_region_qall (fun W=>Fr [] wc W) (by kernel_rfl) (by kernel_rfl) ((Fq [] wc).drew) ?_
     repeat (
      first
      | go_big_quiet_skip
      | (go_big_quiet_want
         first
         | (go_big_quiet_op
            go_big_quiet_on)
         | (apply Exists.intro
            refine⟨fun W hW=>?_,?_⟩
            ·(obtain⟨⟨z0,z1,z2,z3,z4⟩,y0,y1,y2,y3,y4⟩:=HSS.out W hW
              go_simp
              first
              | done
              | (with_reducible exact rfl)
              | (with_reducible exact⟨rfl,rfl⟩)
              | ((go_at_call 103;(with_reducible refine (HC.out W).mono ?_);rintro e w' ⟨rfl,h⟩;exact⟨rfl,hW.then h⟩)))
            simp only[Act.put,qA,qB,qC]
            go_big_quiet_on))
      )
     refine wpQuiet_nil ?_;intro W1 hW1
     rcases Int.decLt g 0 with h0 | h0
     ·have e4:decide ((0:Int)<=g)=true:=decide_eq_true (by omega)
      have e5:decide (g<0)=false:=decide_eq_false (by omega);have HR:=Hd (ordB_bad HX.out.1 (by rw[HF.out.2.1];exact HL.out.2.1.symm) (.inr ⟨_,HX2.out.2.2.2.1,by rw[HX2.out.2.2.2.2];omega⟩))
      go_wp2_with fail
      go_ret
      exact⟨by rw[<-HL.out.2.1,HR.out];rfl,(HF.out.1.then HX2.out.2.1).then hW1⟩
     ·have e4:decide ((0:Int)<=g)=false:=decide_eq_false (by omega)
      have e5:decide (g<0)=true:=decide_eq_true (by omega);have HR:=Hd (ordB_step HX.out.1 (by rw[HF.out.2.1];exact HL.out.2.1.symm) HX2.out.2.2.1 (fun q hq=>by rw[HX2.out.2.2.2.1] at hq;cases hq;rw[HX2.out.2.2.2.2];exact h0))
      go_wp2_with fail
      go_roundw
      case rel=>exact⟨m+1+1,by omega,by go_num,(HF.out.1.then HX2.out.2.1).then hW1,by rw[<-HL.out.2.1];exact HR.out,fun q hq=>by rw[prevO,HX.out.1] at hq;cases hq;exact⟨HX2.out.1,f1⟩⟩
      case measure=>simp[intOf];omega
  ·obtain rfl:j=n:=by omega
   have HR:=Hd (show true=r by rw[<-HF.out.2.1,List.drop_of_length_le (by rw[HL.out.1];omega)];cases prevO l j <;> rfl)
   go_wp2_with fail
   go_ret
   exact⟨by rw[<-HR.out];rfl,HF.out.1⟩
end Go.Proofs.YtlpmiimgacfmkaaGreatDoor
