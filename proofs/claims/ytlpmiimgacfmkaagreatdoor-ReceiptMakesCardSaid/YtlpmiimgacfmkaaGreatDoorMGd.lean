/- state: search trees of any names: the small functions, join. -/
import Derived.Test.YtlpmiimgacfmkaaGreatDoorMGb
set_option linter.all false
namespace Go.Proofs.YtlpmiimgacfmkaaGreatDoor
open Go.Proofs.Tryz
open Go.RowKit
set_option maxRecDepth 100000
set_option maxHeartbeats 4000000
inductive TG
 | nil
 | node (b:Nat) (l:TG) (n:ON) (v:Nm) (h s y:Int) (r:TG)
def TG.adr:TG->Option Addr
 | .nil=>none
 | .node b _ _ _ _ _ _ _=>some ⟨b,0,none⟩
def TG.ptr (t:TG):Value:=.pointer t.adr
def TG.h:TG->Int
 | .nil=>0
 | .node _ _ _ _ h _ _ _=>h
def TG.s:TG->Int
 | .nil=>0
 | .node _ _ _ _ _ s _ _=>s
def TG.y:TG->Int
 | .nil=>0
 | .node _ _ _ _ _ _ y _=>y
def TG.cnt:TG->Nat
 | .nil=>0
 | .node _ l _ _ _ _ _ r=>l.cnt+1+r.cnt
def TG.ns:TG->List ON
 | .nil=>[]
 | .node _ l n _ _ _ _ r=>l.ns++n::r.ns
def nodeG (l r:Value) (n:ON) (v:Nm) (h s y:Int):Array Value:=#[l,r,.int .i64 n.kind,encN n.owner,.int .i64 n.number,.int .i64 n.index,encN n.text,encN v,.int .i64 h,.int .i64 s,.int .i64 y]
def TGat (w:World):TG->Prop
 | .nil=>True
 | .node b l n v h s y r=>BoxN w b 191 (nodeG l.ptr r.ptr n v h s y)/\TGat w l/\TGat w r
theorem TGat.fr0 {w w':World} (hf:Fr [] w w'):∀ {t:TG},TGat w t->TGat w' t
 | .nil,_=>trivial
 | .node _ _ _ _ _ _ _ _,h=>⟨h.1.fr hf (by simp),TGat.fr0 hf h.2.1,TGat.fr0 hf h.2.2⟩
def TG.wf:TG->Prop
 | .nil=>True
 | .node b l n v h s y r=>(l.wf/\r.wf)/\(1<=h/\h<=((TG.node b l n v h s y r).cnt:Int))/\s=((TG.node b l n v h s y r).cnt:Int)/\(0<=y/\y<=65536*((TG.node b l n v h s y r).cnt:Int))/\checkO n=0/\v.length<=65536
theorem TG.wf.nums {t:TG} (h:t.wf):0<=t.h/\t.h<=(t.cnt:Int)/\t.s=(t.cnt:Int)/\0<=t.y/\t.y<=65536*(t.cnt:Int):=by
 cases t with
 | nil=>exact⟨by decide,by decide,rfl,by decide,by decide⟩
 | node b l n v h0 s y r =>
  obtain⟨_,h1,h2,h3,_⟩:=h;exact⟨by show 0<=h0;omega,h1.2,h2,h3.1,h3.2⟩
theorem heightOf_g (t:TG) (w:World) (h:TGat w t):Calls prog 278 #[t.ptr] w fun e w'=>e=.returned (.int .i64 t.h)/\w'=w:=by
 cases t with
 | nil =>
  unfold TG.ptr TG.adr TG.h
  go_enter func278,ntmps278
  go_wp2_with fail
  go_ret
  exact⟨rfl,rfl⟩
 | node b l nm v h0 s0 y0 r =>
  have c:=h.1.c 8;unfold nodeG at c;simp only[List.getElem?_toArray,List.getElem?_cons_zero,List.getElem?_cons_succ] at c;clear h;unfold TG.ptr TG.adr TG.h
  go_enter func278,ntmps278
  go_wp2_with fail
  go_ret
  exact⟨rfl,rfl⟩
theorem sizeOf_g (t:TG) (w:World) (h:TGat w t):Calls prog 95 #[t.ptr] w fun e w'=>e=.returned (.int .i64 t.s)/\w'=w:=by
 cases t with
 | nil =>
  unfold TG.ptr TG.adr TG.s
  go_enter func95,ntmps95
  go_wp2_with fail
  go_ret
  exact⟨rfl,rfl⟩
 | node b l nm v h0 s0 y0 r =>
  have c:=h.1.c 9;unfold nodeG at c;simp only[List.getElem?_toArray,List.getElem?_cons_zero,List.getElem?_cons_succ] at c;clear h;unfold TG.ptr TG.adr TG.s
  go_enter func95,ntmps95
  go_wp2_with fail
  go_ret
  exact⟨rfl,rfl⟩
theorem bytesOf_g (t:TG) (w:World) (h:TGat w t):Calls prog 279 #[t.ptr] w fun e w'=>e=.returned (.int .i64 t.y)/\w'=w:=by
 cases t with
 | nil =>
  unfold TG.ptr TG.adr TG.y
  go_enter func279,ntmps279
  go_wp2_with fail
  go_ret
  exact⟨rfl,rfl⟩
 | node b l nm v h0 s0 y0 r =>
  have c:=h.1.c 10;unfold nodeG at c;simp only[List.getElem?_toArray,List.getElem?_cons_zero,List.getElem?_cons_succ] at c;clear h;unfold TG.ptr TG.adr TG.y
  go_enter func279,ntmps279
  go_wp2_with fail
  go_ret
  exact⟨rfl,rfl⟩
theorem join_g (l r:TG) (m:Nat) (ml mr:Value) (n:ON) (mh ms my:Int) (v:Nm) (w:World) (hl:TGat w l) (hr:TGat w r) (hm:BoxN w m 191 (nodeG ml mr n v mh ms my)) (wl:l.wf) (wr:r.wf) (hc:l.cnt+r.cnt<=100000) (hv:v.length<=65536) :
 Calls prog 268 #[l.ptr,.pointer (some ⟨m,0,none⟩),r.ptr] w fun e w'=>∃ b,e=.returned (.pointer (some ⟨b,0,none⟩))/\w.heap.size<=b/\TGat w' (.node b l n v (1+mx l.h r.h) (1+l.s+r.s) ((v.length:Int)+l.y+r.y) r)/\Fr [] w w':=by
 obtain⟨k,ow,nu,ix,tx⟩:=n;obtain⟨so,hso,q1,q2⟩:=str_of ow;obtain⟨st,hst,q3,q4⟩:=str_of tx;obtain⟨sv,hsv,hsv2,q5⟩:=str_of v;have hvl:(v.length:Int)=(sv.size:Int):=by rw[len_data,hsv2]
 rw[hvl];have hv2:(sv.size:Int)<=65536:=by omega
 have hmc:BoxN w m 191 #[ml,mr,.int .i64 k,.string so,.int .i64 nu,.int .i64 ix,.string st,.string sv,.int .i64 mh,.int .i64 ms,.int .i64 my]:=by unfold nodeG at hm;simp only[hso,hst,hsv] at hm;exact hm
 have hng:∀ (p q:Value) (a b c:Int),nodeG p q ⟨k,ow,nu,ix,tx⟩ v a b c=#[p,q,.int .i64 k,.string so,.int .i64 nu,.int .i64 ix,.string st,.string sv,.int .i64 a,.int .i64 b,.int .i64 c]:=fun p q a b c=>by unfold nodeG;simp only[hso,hst,hsv]
 have HNG:=Hd hng;obtain⟨sl1,sl2,sl3,sl4,sl5⟩:=wl.nums;obtain⟨sr1,sr2,sr3,sr4,sr5⟩:=wr.nums
 have HSS:=Hd (fun (W:World) (hW:Fr [] w W)=>(show W.cell? ⟨m,2,none⟩=some (.int .i64 k)/\W.cell? ⟨m,3,none⟩=some (.string so)/\W.cell? ⟨m,4,none⟩=some (.int .i64 nu)/\W.cell? ⟨m,5,none⟩=some (.int .i64 ix)/\W.cell? ⟨m,6,none⟩=some (.string st)/\W.cell? ⟨m,7,none⟩=some (.string sv) from by
  have hb:=hmc.fr hW (by simp);exact⟨hb.c 2,hb.c 3,hb.c 4,hb.c 5,hb.c 6,hb.c 7⟩))
 clear hng hso hst hsv hsv2 hvl hv q1 q2 q3 q4 q5;have HHL:=Hd (fun (W:World) (hW:Fr [] w W)=>heightOf_g l W (hl.fr0 hW));have HHR:=Hd (fun (W:World) (hW:Fr [] w W)=>heightOf_g r W (hr.fr0 hW));have HSL:=Hd (fun (W:World) (hW:Fr [] w W)=>sizeOf_g l W (hl.fr0 hW));have HSR:=Hd (fun (W:World) (hW:Fr [] w W)=>sizeOf_g r W (hr.fr0 hW));have HYL:=Hd (fun (W:World) (hW:Fr [] w W)=>bytesOf_g l W (hl.fr0 hW));have HYR:=Hd (fun (W:World) (hW:Fr [] w W)=>bytesOf_g r W (hr.fr0 hW));have HL:=Hd hl;have HR:=Hd hr;obtain⟨lp,hlp⟩:∃ p,l.ptr=.pointer p:=⟨_,rfl⟩;obtain⟨rp,hrp⟩:∃ p,r.ptr=.pointer p:=⟨_,rfl⟩;obtain⟨lh,hlh⟩:=nmd (l.h);obtain⟨rh,hrh⟩:=nmd (r.h);obtain⟨ls,hls⟩:=nmd (l.s);obtain⟨rs,hrs⟩:=nmd (r.s);obtain⟨ly,hly⟩:=nmd (l.y);obtain⟨ry,hry⟩:=nmd (r.y);rw[hlp] at HHL HSL HYL;rw[hrp] at HHR HSR HYR;rw[hlh] at HHL sl1 sl2;rw[hrh] at HHR sr1 sr2;rw[hls] at HSL sl3;rw[hrs] at HSR sr3;rw[hly] at HYL sl4 sl5;rw[hry] at HYR sr4 sr5;rw[hlp,hrp,hlh,hrh,hls,hrs,hly,hry];have HPL:=Hd hlp;have HPR:=Hd hrp;have hm0:=hm.lt;clear hlp hrp hlh hrh hls hrs hly hry hl hr hm hm0 hmc;have emx:mx lh rh=max lh rh:=by unfold mx;split <;> omega
 rw[emx];have e1:IntKind.i64.wrap (1+max lh rh)=1+max lh rh:=by simp only[IntKind.wrap_i64];omega
 obtain⟨q,hq⟩:=nmd (max lh rh);rw[hq];have HQ:=Hd hq;clear hq emx;have e2:IntKind.i64.wrap (1+ls)=1+ls:=by simp only[IntKind.wrap_i64];omega
 have e3:IntKind.i64.wrap (1+ls+rs)=1+ls+rs:=by simp only[IntKind.wrap_i64];omega
 have e4:IntKind.i64.wrap ((sv.size:Int)+ly)=(sv.size:Int)+ly:=by simp only[IntKind.wrap_i64];omega
 have e5:IntKind.i64.wrap ((sv.size:Int)+ly+ry)=(sv.size:Int)+ly+ry:=by simp only[IntKind.wrap_i64];omega
 clear sl1 sl2 sl3 sl4 sl5 sr1 sr2 sr3 sr4 sr5 hv2 hc wl wr
 go_enter func268,ntmps268
 go_upto_region 1 with fail
 refine wp_region_qtail (fun W=>Fr [] w W) 34 (by kernel_rfl) (by kernel_rfl) ((Fq [] w).drew) ?_;simp only[List.take_succ_cons,List.take_zero,qG,qH]
 repeat (
  first
  | go_big_quiet_skip
  | (go_big_quiet_want
     first
     | (go_big_quiet_op
        go_big_quiet_on)
     | (apply Exists.intro
        refine⟨fun W hW=>?_,?_⟩
        ·(obtain⟨z1,z2,z3,z4,z5,z6⟩:=HSS.out W hW
          go_simp
          first
          | done
          | (with_reducible exact rfl)
          | (with_reducible exact⟨rfl,rfl⟩)
          | (first | (go_at_call 278;first | with_reducible exact (HHL.out W hW).mono (fun e w' h=>⟨h.1,by rw[h.2];exact hW⟩) | with_reducible exact (HHR.out W hW).mono (fun e w' h=>⟨h.1,by rw[h.2];exact hW⟩)) | (go_at_call 95;first | with_reducible exact (HSL.out W hW).mono (fun e w' h=>⟨h.1,by rw[h.2];exact hW⟩) | with_reducible exact (HSR.out W hW).mono (fun e w' h=>⟨h.1,by rw[h.2];exact hW⟩)) | (go_at_call 279;first | with_reducible exact (HYL.out W hW).mono (fun e w' h=>⟨h.1,by rw[h.2];exact hW⟩) | with_reducible exact (HYR.out W hW).mono (fun e w' h=>⟨h.1,by rw[h.2];exact hW⟩))))
        simp only[Act.put,qA,qB,qC]
        go_big_quiet_on))
  )
 refine wpQuiet_nil ?_;intro W hW;generalize hq2:max lh rh=q2 at e1 ⊢;obtain rfl:q=q2:=by rw[<-hq2,<-HQ.out]
 clear hq2;have hf:=(Fr.alloc hW (.cells #[.pointer lp,.pointer rp,.int .i64 k,.string so,.int .i64 nu,.int .i64 ix,.string st,.string sv,.int .i64 (1+q),.int .i64 (1+ls+rs),.int .i64 ((sv.size:Int)+ly+ry)] 191));have hn:=BoxN.new W 191 #[.pointer lp,.pointer rp,.int .i64 k,.string so,.int .i64 nu,.int .i64 ix,.string st,.string sv,.int .i64 (1+q),.int .i64 (1+ls+rs),.int .i64 ((sv.size:Int)+ly+ry)];have HX:=Hd (An hW.size (An hf hn));clear hf hn HSS HHL HHR HSL HSR HYL HYR
 go_wp2_with fail
 go_ret
 refine⟨_,rfl,HX.out.1,⟨?_,HL.out.fr0 HX.out.2.1,HR.out.fr0 HX.out.2.1⟩,HX.out.2.1⟩;rw[HPL.out,HPR.out,HNG.out];exact HX.out.2.2
structure Tot {α:Type} (c:α->α->Int):Prop where
 anti:∀ a b,c b a=- c a b
 tr:∀ a b d,c a b<=0->c b d<=0->c a d<=0/\(c a d=0->c a b=0/\c b d=0)
theorem Tot.pull {α β:Type} {c:α->α->Int} (h:Tot c) (f:β->α):Tot (fun a b=>c (f a) (f b)):=⟨fun a b=>h.anti _ _,fun a b d=>h.tr _ _ _⟩
theorem Tot.lex {α:Type} {c1 c2:α->α->Int} (h1:Tot c1) (h2:Tot c2):Tot (fun a b=>if c1 a b≠0 then c1 a b else c2 a b):=by
 refine⟨fun a b=>?_,fun a b d x y=>?_⟩
 ·have e1:=h1.anti a b
  have e2:=h2.anti a b
  show (if c1 b a≠0 then c1 b a else c2 b a)=- (if c1 a b≠0 then c1 a b else c2 a b)
  by_cases h:c1 a b=0
  ·rw[if_neg (by omega),if_neg (by omega)];exact e2
  ·rw[if_pos (by omega),if_pos h];exact e1
 ·have x1:c1 a b<=0/\(c1 a b=0->c2 a b<=0):=by
   change (if c1 a b≠0 then c1 a b else c2 a b)<=0 at x
   split at x
   ·rename_i h;exact⟨x,fun e=>absurd e h⟩
   ·rename_i h;exact⟨by omega,fun _=>x⟩
  have y1:c1 b d<=0/\(c1 b d=0->c2 b d<=0):=by
   change (if c1 b d≠0 then c1 b d else c2 b d)<=0 at y
   split at y
   ·rename_i h;exact⟨y,fun e=>absurd e h⟩
   ·rename_i h;exact⟨by omega,fun _=>y⟩
  have z:=h1.tr a b d x1.1 y1.1
  show (if c1 a d≠0 then c1 a d else c2 a d)<=0/\((if c1 a d≠0 then c1 a d else c2 a d)=0->(if c1 a b≠0 then c1 a b else c2 a b)=0/\(if c1 b d≠0 then c1 b d else c2 b d)=0)
  by_cases h:c1 a d=0
  ·obtain⟨z1,z2⟩:=z.2 h
   rw[if_neg (by omega),if_neg (by omega),if_neg (by omega)];exact h2.tr a b d (x1.2 z1) (y1.2 z2)
  ·rw[if_pos h]
   exact⟨z.1,fun e=>absurd e h⟩
theorem Tot.of {α:Type} {c d:α->α->Int} (h:Tot c) (e:∀ a b,d a b=c a b):Tot d:=by
 have:d=c:=funext fun a=>funext fun b=>e a b;rw[this];exact h
theorem tot_int:Tot Lib.compareInt:=by
 refine⟨fun a b=>?_,fun a b d x y=>?_⟩
 ·unfold Lib.compareInt;split <;> split <;> first | omega | (split <;> omega)
 ·unfold Lib.compareInt at x y ⊢;grind
theorem tot_cmpL:Tot cmpL:=by
 refine⟨fun a=>?_,fun a=>?_⟩
 ·induction a with
  | nil=>intro b;cases b <;> rfl
  | cons x a ih =>
   intro b
   cases b with
   | nil=>rfl
   | cons y b=>have:=ih b;unfold cmpL;grind
 ·induction a with
  | nil=>intro b d x y;cases b <;> cases d <;> simp_all [cmpL]
  | cons p a ih =>
   intro b d x y
   cases b with
   | nil=>simp[cmpL] at x
   | cons q b =>
    cases d with
    | nil=>simp[cmpL] at y
    | cons s d=>have:=ih b d;unfold cmpL at x y ⊢;grind
theorem cmpS_cons (x y:UInt8) (a b:Nm):cmpS (x::a) (y::b)=if x.toNat<y.toNat then -1 else if y.toNat<x.toNat then 1 else cmpS a b:=by
 unfold cmpS
 have e:Op.bytesLess (x::a) (y::b)=(if x<y then true else if y<x then false else Op.bytesLess a b):=by
  have e0:Op.bytesLess (x::a) (y::b)=(decide (x<y) || (x == y && Op.bytesLess a b)):=rfl;rw[e0];have h1:x<y ↔ x.toNat<y.toNat:=UInt8.lt_iff_toNat_lt;have h2:y<x ↔ y.toNat<x.toNat:=UInt8.lt_iff_toNat_lt;have h3:x=y ↔ x.toNat=y.toNat:=UInt8.toNat_inj.symm
  by_cases c1:x<y
  ·rw[if_pos c1,decide_eq_true c1];rfl
  ·rw[if_neg c1,decide_eq_false c1,Bool.false_or]
   by_cases c2:y<x
   ·rw[if_pos c2]
    have:(x == y)=false:=by simp only[beq_eq_false_iff_ne];intro h;have:=h3.1 h;have:=h2.1 c2;omega
    rw[this];rfl
   ·rw[if_neg c2]
    have:x=y:=h3.2 (by have:=mt h1.2 c1;have:=mt h2.2 c2;omega);subst this;simp
 rw[e];have h1:x<y ↔ x.toNat<y.toNat:=UInt8.lt_iff_toNat_lt;have h2:y<x ↔ y.toNat<x.toNat:=UInt8.lt_iff_toNat_lt;have h3:x=y ↔ x.toNat=y.toNat:=UInt8.toNat_inj.symm
 by_cases c1:x.toNat<y.toNat
 ·rw[if_pos c1,if_pos (h1.2 c1)];rfl
 ·rw[if_neg c1,if_neg (fun h=>c1 (h1.1 h))]
  by_cases c2:y.toNat<x.toNat
  ·rw[if_pos c2,if_pos (h2.2 c2)]
   have:¬ (x::a=y::b):=by intro h;injection h with h _;have:=h3.1 h;omega
   simp[this]
  ·rw[if_neg c2,if_neg (fun h=>c2 (h2.1 h))]
   have:x=y:=h3.2 (by omega);subst this;simp
theorem tot_cmpS:Tot cmpS:=by
 refine⟨fun a=>?_,fun a=>?_⟩
 ·induction a with
  | nil=>intro b;cases b <;> rfl
  | cons x a ih =>
   intro b
   cases b with
   | nil=>rfl
   | cons y b=>have:=ih b;rw[cmpS_cons,cmpS_cons];grind
 ·induction a with
  | nil =>
   intro b d x y;have e:∀ (s:UInt8) (d:Nm),cmpS [] (s::d)=-1:=fun _ _=>rfl;have e2:∀ (s:UInt8) (d:Nm),cmpS (s::d) []=1:=fun _ _=>rfl;have e3:cmpS [] []=0:=rfl
   cases b <;> cases d <;> simp_all
  | cons p a ih =>
   intro b d x y;have e2:∀ (s:UInt8) (d:Nm),cmpS (s::d) []=1:=fun _ _=>rfl
   cases b with
   | nil=>simp[e2] at x
   | cons q b =>
    cases d with
    | nil=>simp[e2] at y
    | cons s d=>have:=ih b d;rw[cmpS_cons] at x y ⊢;rw[cmpS_cons,cmpS_cons];grind
theorem orL_two (x:Int) (l:List Int):orL (x::l)=if x≠0 then x else orL l:=by
 unfold orL;by_cases h:x=0
 ·rw[if_pos h,if_neg (by omega)];cases l <;> rfl
 ·rw[if_neg h,if_pos h]
theorem tot_cmpO:Tot cmpO:=by
 have t1:Tot (fun a b:ON=>Lib.compareInt a.kind b.kind):=tot_int.pull ON.kind;have t2:Tot (fun a b:ON=>cmpL (ordsOf a.owner) (ordsOf b.owner)):=tot_cmpL.pull (fun (a:ON)=>ordsOf a.owner);have t3:Tot (fun a b:ON=>Lib.compareInt a.number b.number):=tot_int.pull ON.number;have t4:Tot (fun a b:ON=>Lib.compareInt a.index b.index):=tot_int.pull ON.index;have t5:Tot (fun a b:ON=>cmpS a.text b.text):=tot_cmpS.pull ON.text;have t:=t1.lex (t2.lex (t3.lex (t4.lex t5)));refine t.of fun a b=>?_
 ·unfold cmpO
  rw[orL_two,orL_two,orL_two]
  have:(if cmpS a.text b.text≠0 then cmpS a.text b.text else orL [])=cmpS a.text b.text:=by
   split
   ·rfl
   ·rename_i h;show (0:Int)=_;omega
  rw[this]
theorem tot_cmpK:Tot cmpK:=by
 have t1:Tot (fun a b:KY=>Lib.compareInt a.rnd b.rnd):=tot_int.pull KY.rnd;have t2:Tot (fun a b:KY=>Lib.compareInt a.phase b.phase):=tot_int.pull KY.phase;have t3:Tot (fun a b:KY=>Lib.compareInt a.idx b.idx):=tot_int.pull KY.idx;have t4:Tot (fun a b:KY=>cmpL (ordsOf a.lin) (ordsOf b.lin)):=tot_cmpL.pull (fun (a:KY)=>ordsOf a.lin);have t:=t1.lex (t2.lex (t3.lex t4));refine t.of fun a b=>?_
 ·unfold cmpK
  rw[orL_two,orL_two,orL_two,orL_two]
  have:(if cmpL (ordsOf a.lin) (ordsOf b.lin)≠0 then cmpL (ordsOf a.lin) (ordsOf b.lin) else orL [])=cmpL (ordsOf a.lin) (ordsOf b.lin):=by
   split
   ·rfl
   ·rename_i h;show (0:Int)=_;omega
  rw[this]
def ltO (a b:ON):Prop:=cmpO a b<0
theorem ltO.trans {a b d:ON} (h1:ltO a b) (h2:ltO b d):ltO a d:=by
 unfold ltO at *;have:=tot_cmpO.tr a b d (by omega) (by omega)
 by_cases e:cmpO a d=0
 ·have:=this.2 e;omega
 ·have:=this.1;omega
theorem ltO.eqr {a b d:ON} (h1:ltO a b) (h2:cmpO b d=0):ltO a d:=by
 unfold ltO at *;have:=tot_cmpO.tr a b d (by omega) (by omega)
 by_cases e:cmpO a d=0
 ·have:=this.2 e;omega
 ·have:=this.1;omega
theorem ltO.eql {a b d:ON} (h1:cmpO a b=0) (h2:ltO b d):ltO a d:=by
 unfold ltO at *;have:=tot_cmpO.tr a b d (by omega) (by omega)
 by_cases e:cmpO a d=0
 ·have:=this.2 e;omega
 ·have:=this.1;omega
theorem ltO.flip {a b:ON} (h:0<cmpO a b):ltO b a:=by
 unfold ltO;have:=tot_cmpO.anti a b;omega
def SrtO:List ON->Prop:=List.Pairwise ltO
theorem srt_mid {a b:List ON} {n m:ON} (h:SrtO (a++n::b)) (e:cmpO m n=0):SrtO (a++m::b):=by
 unfold SrtO at *;rw[List.pairwise_append,List.pairwise_cons] at *;obtain⟨h1,⟨h2,h3⟩,h4⟩:=h;have e2:cmpO n m=0:=by have:=tot_cmpO.anti m n;omega
 refine⟨h1,⟨fun x hx=>ltO.eql e (h2 x hx),h3⟩,fun x hx y hy=>?_⟩
 rcases List.mem_cons.1 hy with rfl | hy
 ·exact ltO.eqr (h4 x hx n (by simp)) e2
 ·exact h4 x hx y (by simp[hy])
end Go.Proofs.YtlpmiimgacfmkaaGreatDoor
