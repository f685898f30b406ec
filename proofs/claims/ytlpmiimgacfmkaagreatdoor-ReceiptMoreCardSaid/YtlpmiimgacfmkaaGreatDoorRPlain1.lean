/- Part of the proof. -/
import Derived.WalkSpells
import Derived.WalkLawsBesides
import Derived.Lib.Hide
import Derived.RangeFuncNested
import Derived.RangeFuncBound
import Derived.Shelf.RegionOpen
import Derived.OwnWalkIn
import Derived.LoopNIn
import Derived.LoopIn
import Derived.Test.YtlpmiimgacfmkaaGreatDoorProg
set_option linter.all false
set_option maxHeartbeats 1000000
set_option maxRecDepth 100000
namespace Go.Proofs.YtlpmiimgacfmkaaGreatDoor
open Go.Proofs.Tryz
def oC(c:UInt8):Bool:=decide (48<=c.toNat) && decide (c.toNat<=57)
def jd(s:List UInt8)(a:Nat):Nat:=(((s.drop a).take 7).takeWhile oC).length
def i8(l:List UInt8):Nat:=l.foldl (λv c=>v*10+(c.toNat - 48)) 0
theorem nx(l:List UInt8)(c:UInt8):i8 (l++[c])=i8 l*10+(c.toNat - 48):=by simp[i8]
theorem kz{c:UInt8}(h:oC c=true):48<=c.toNat/\c.toNat<=57:=by
 simpa [oC]using h
theorem oD(l:List UInt8)(h:∀c∈l,oC c=true):i8 l<10 ^ l.length:=by
 have g:∀(l:List UInt8) (v n:Nat),(∀c∈l,oC c=true)->v<10 ^ n->l.foldl (λv c=>v*10+(c.toNat - 48)) v<10 ^ (n+l.length):=by
  intro l
  induction l with
  | nil=>intro v n _ d;simpa using d
  | cons c l f =>
   intro v n b d;have i:=kz (b c (by simp));have:=f (v*10+(c.toNat - 48)) (n+1) (λx e=>b x (by simp[e])) (by rw[Nat.pow_succ];omega);simpa [Nat.add_assoc,Nat.add_comm 1]using this
 have:=g l 0 0 h (by simp);simpa [i8]using this
theorem ud(s:List UInt8)(a k:Nat)(r:k<=7)(q:a+k<=s.length)(j:∀c∈(s.drop a).take k,oC c=true)
 (l:a+k=s.length \/ k=7 \/ ∃c,s[a+k]?=some c/\oC c=false):jd s a=k:=by
 unfold jd
 have f:(s.drop a).take 7=(s.drop a).take k++((s.drop a).drop k).take (7 - k):=by
  have:7=k+(7 - k):=by omega
  conv=>lhs;rw[this]
  rw[List.take_add]
 have g:(((s.drop a).drop k).take (7 - k)).takeWhile oC=[]:=by
  rcases l with h|h|⟨c,b,i⟩
  ·rw[List.drop_drop,List.drop_eq_nil_of_le (by omega)];simp
  ·subst h;simp
  ·rw[List.drop_drop]
   have e:a+k<s.length:=by
    rcases Nat.lt_or_ge (a+k) s.length with h|h
    ·exact h
    ·rw[List.getElem?_eq_none h]at b;cases b
   rw[List.drop_eq_getElem_cons e];rw[List.getElem?_eq_getElem e]at b
   injection b with b
   rcases Nat.eq_zero_or_pos (7 - k)with d|d
   ·rw[d];simp
   ·obtain⟨m,n⟩:∃m,7 - k=m+1:=⟨7 - k - 1,by omega⟩
    rw[n,List.take_succ_cons,List.takeWhile_cons,b,i];simp
 rw[f,List.takeWhile_append_of_pos j,g];simp;omega
theorem yi(s:List UInt8)(a:Nat):jd s a<=7:=by
 unfold jd;have b:=(List.takeWhile_sublist oC (l:=(s.drop a).take 7)).length_le;have d:=List.length_take_le 7 (s.drop a);omega
theorem sX(s:List UInt8)(a:Nat)(e:a<=s.length):a+jd s a<=s.length:=by
 unfold jd;have b:=(List.takeWhile_sublist oC (l:=(s.drop a).take 7)).length_le;have d:=List.length_take_le' 7 (s.drop a);simp at b d;omega
abbrev kA:=Nat × Nat × Nat
def gl(s:List UInt8)(a b:Nat):Nat :=
 if b=8 then 9 else if a=s.length then 4 else if jd s a=0 then 6 else if s[a]?=some 48 then 3 else if 6<jd s a then 2 else 0
def gd(s:List UInt8)(a b:Nat):kA × Nat :=
 if gl s a b=0 then((i8 ((s.drop a).take (jd s a)),a,0),a+jd s a)else((0,a,gl s a b),a)
def gi:Nat->List UInt8->Nat->Nat->List kA
 | 0,_,_,_=>[]
 | f+1,s,a,b =>
  (gd s a b).1::(if(gd s a b).1.2.2≠0 \/ (gd s a b).2=s.length then []
   else if s[(gd s a b).2]?≠some 46 then [(0,(gd s a b).2,6)]
   else gi f s ((gd s a b).2+1) (b+1))
def fT(s:List UInt8):List kA:=if s=[]then []else gi 9 s 0 0
def gp(s:List UInt8):Bool:=(fT s).all λp=>p.2.2 == 0
def fG(s:List UInt8):List Nat:=if gp s then(fT s).map (·.1)else []
theorem vi{s:List UInt8}{a c o p en:Nat}(d:a<=s.length)(h:gd s a c=((o,p,0),en)):c≠8/\en<=s.length:=by
 unfold gd at h;split at h
 ·rename_i b
  have e:c≠8:=by rintro rfl;simp[gl]at b
  have f:en=a+jd s a:=by simp at h;exact h.2.symm
  exact⟨e,by rw[f];exact sX s a d⟩
 ·rename_i b
  simp at h;exact absurd h.1.2.2 b
section
variable {s:List UInt8} {a c o p er en:Nat}
theorem pP(e:c<=8)(h:gd s a c=((o,p,er),en))(b:er≠0 \/ en=s.length):gi (9 - c) s a c=[(o,p,er)]:=by
 obtain⟨m,d⟩:∃m,9 - c=m+1:=⟨8 - c,by omega⟩;rw[d,gi,h];simp only;rw[if_pos b]
theorem vj(g:c<=8)(h:gd s a c=((o,p,er),en))(d:er=0)(e:en≠s.length)(b:s[en]?≠some 46):gi (9 - c) s a c=[(o,p,er),(0,en,6)]:=by
 obtain⟨m,f⟩:∃m,9 - c=m+1:=⟨8 - c,by omega⟩;rw[f,gi,h];simp only;rw[if_neg (by simp[d,e]),if_pos b]
theorem vk(i:c<=8)(h:gd s a c=((o,p,er),en))(d:er=0)(e:en≠s.length)(b:s[en]?=some 46):gi (9 - c) s a c=(o,p,er)::gi (9 - (c+1)) s (en+1) (c+1):=by
 obtain⟨m,f⟩:∃m,9 - c=m+1:=⟨8 - c,by omega⟩;have g:9 - (c+1)=m:=by omega
 rw[f,g,gi,h];simp only;rw[if_neg (by simp[d,e]),if_neg (by simp[b])]
theorem pQ(d:c<=8)(h:gd s a c=((o,p,er),en)):∃r,gi (9 - c) s a c=(o,p,er)::r:=by
 obtain⟨m,b⟩:∃m,9 - c=m+1:=⟨8 - c,by omega⟩;rw[b,gi,h];exact⟨_,rfl⟩
end
example:gp [55,46,49]=true:=by decide
example:fG [55,46,49]=[7,1]:=by decide
example:gp [48]=false:=by decide
example:gp [55,46]=false:=by decide
open Go.RowKit
theorem kM(c:UInt8)(w:World):
 Calls prog 272 #[.int .u8 (c.toNat:Int)] w λe w'=>e=.returned (.bool (oC c))/\w=w':=by
 by_cases b:48<=c.toNat
 ·have d:(48:Int)<=(c.toNat:Int):=by omega
  go_enter func272,ntmps272
  go_wp2
  go_ret
  refine⟨?_,rfl⟩;have e:decide ((c.toNat:Int)<=57)=decide (c.toNat<=57):=by rw[Bool.eq_iff_iff];simp;omega
  rw[e];simp[oC,b]
 ·have d:¬(48:Int)<=(c.toNat:Int):=by omega
  go_enter func272,ntmps272
  go_wp2
  go_ret
  refine⟨?_,rfl⟩;simp[oC,b]
def kN(p:kA):Value:=.agg #[.int .i64 (p.1:Int),.int .i64 (p.2.1:Int),.int .i64 (p.2.2:Int)]
theorem xo(s:List UInt8)(a k:Nat)(c:UInt8)(h:s[a+k]?=some c):(s.drop a).take (k+1)=(s.drop a).take k++[c]:=by
 have d:k<(s.drop a).length:=by
  have:=(List.getElem?_eq_some_iff.1 h).1;simp;omega
 rw[List.take_succ_eq_append_getElem d]
 congr 1
 have b:=(List.getElem?_eq_some_iff.1 h).2;simp[b]
theorem gZ{s:List UInt8}{a count e:Nat}(h:gl s a count=e)(b:e≠0):gd s a count=((0,a,e),a):=by
 unfold gd;rw[if_neg (by omega),h]
theorem pn{s:List UInt8}{a count k:Nat}(h:gl s a count=0)(b:jd s a=k):gd s a count=((i8 ((s.drop a).take k),a,0),a+k):=by
 unfold gd;rw[if_pos h,b]
theorem iw{s:ByteArray}{a:Nat}(h:a<s.size):s.data.toList[a]?=some s[a]:=by
 have b:a<s.data.toList.length:=by simpa using h
 rw[List.getElem?_eq_getElem b];rfl
theorem fM(s:ByteArray):s.data.toList.length=s.size:=by simp
section
variable {s:ByteArray} {a count k:Nat}
theorem Gh(h:((count:Int) == 8)=true):gl s.data.toList a count=9:=by
 have:count=8:=by have:=eq_of_beq h;omega
 unfold gl;rw[if_pos this]
theorem Gw(h:((count:Int) == 8)=false)(b:((a:Int) == (s.size:Int))=true):gl s.data.toList a count=4:=by
 have h:count≠8:=by have:=ne_of_beq_false h;omega
 have b:a=s.size:=by have:=eq_of_beq b;omega
 unfold gl;rw[if_neg h,if_pos (by rw[fM];exact b)]
theorem Gx(d:jd s.data.toList a=k)(h:((count:Int) == 8)=false)(b:((a:Int) == (s.size:Int))=false)(c:((a:Int)+k == (a:Int))=true):gl s.data.toList a count=6:=by
 have h:count≠8:=by have:=ne_of_beq_false h;omega
 have b:a≠s.size:=by have:=ne_of_beq_false b;omega
 have c:k=0:=by have:=eq_of_beq c;omega
 unfold gl;rw[if_neg h,if_neg (by rw[fM];exact b),if_pos (by omega)]
theorem Gi(f:jd s.data.toList a=k)(h:((count:Int) == 8)=false)(b:((a:Int) == (s.size:Int))=false)(d:((a:Int)+k == (a:Int))=false)(e:a<s.size)(c:(((s[a]).toNat:Int) == 48)=true):gl s.data.toList a count=3:=by
 have h:count≠8:=by have:=ne_of_beq_false h;omega
 have b:a≠s.size:=by have:=ne_of_beq_false b;omega
 have d:k≠0:=by have:=ne_of_beq_false d;omega
 have c:s[a]=48:=by have:=eq_of_beq c;exact UInt8.toNat_inj.1 (by simp;omega)
 unfold gl;rw[if_neg h,if_neg (by rw[fM];exact b),if_neg (by omega),if_pos (by rw[iw e,c])]
theorem Gq(i:jd s.data.toList a=k)(h:((count:Int) == 8)=false)(c:((a:Int) == (s.size:Int))=false)(d:((a:Int)+k == (a:Int))=false)(f:a<s.size)(b:(((s[a]).toNat:Int) == 48)=false)(g:6<(a:Int)+k - a):gl s.data.toList a count=2:=by
 have h:count≠8:=by have:=ne_of_beq_false h;omega
 have c:a≠s.size:=by have:=ne_of_beq_false c;omega
 have d:k≠0:=by have:=ne_of_beq_false d;omega
 have b:s[a]≠48:=by intro e;rw[e]at b;simp at b
 unfold gl;rw[if_neg h,if_neg (by rw[fM];exact c),if_neg (by omega),if_neg (by rw[iw f];simpa using b),if_pos (by omega)]
theorem Gj(i:jd s.data.toList a=k)(h:((count:Int) == 8)=false)(c:((a:Int) == (s.size:Int))=false)(d:((a:Int)+k == (a:Int))=false)(f:a<s.size)(b:(((s[a]).toNat:Int) == 48)=false)(g:(a:Int)+k - a<=6):gl s.data.toList a count=0:=by
 have h:count≠8:=by have:=ne_of_beq_false h;omega
 have c:a≠s.size:=by have:=ne_of_beq_false c;omega
 have d:k≠0:=by have:=ne_of_beq_false d;omega
 have b:s[a]≠48:=by intro e;rw[e]at b;simp at b
 unfold gl;rw[if_neg h,if_neg (by rw[fM];exact c),if_neg (by omega),if_neg (by rw[iw f];simpa using b),if_neg (by omega)]
end
theorem zS(s:ByteArray)(a count:Nat)(w:World)(B:s.size<=9223372036854775000)(u:a<=s.size)(t:count<=1000):
 Calls prog 247 #[.string s,.int .i64 (a:Int),.int .i64 (count:Int)] w λe w' =>
  e=.returned (.tuple #[kN (gd s.data.toList a count).1,.int .i64 ((gd s.data.toList a count).2:Int)])/\Below w.heap.size w w':=by
 go_enter func247,ntmps247
 go_wp2
 go_loop [8,9] (λe o=>∃k:Nat,k<=7/\a+k<=s.size/\e=.int .i64 ((a:Int)+k)/\(∀c∈(s.data.toList.drop a).take k,oC c=true)/\o=.int .i64 (i8 ((s.data.toList.drop a).take k):Int)) (λe _=>s.size - (intOf e).toNat)
 case atStart=>exact⟨0,by omega,by omega,by simp,by simp,by simp[i8]⟩
 case round =>
  obtain⟨k,l,A,rfl,j,rfl⟩:=hrel;have h:=Lib.hid j
  have C:i8 ((s.data.toList.drop a).take k)<10 ^ 7:=by
   have q:=oD _ j;have f:((s.data.toList.drop a).take k).length<=7:=by have:=List.length_take_le k (s.data.toList.drop a);omega
   exact Nat.lt_of_lt_of_le q (Nat.pow_le_pow_right (by omega) f)
  clear j
  by_cases p:a+k<s.size
  ·by_cases z:k<=6
   ·by_cases g:oC s[a+k]=true
    ·have x:=kz g
     have m:=Lib.hid (xo s.data.toList a k s[a+k] (iw p))
     go_wp2_with (go_at_call 272;refine(kM _ _).mono ?_;rintro e w' ⟨rfl,rfl⟩)
     go_round
     case rel =>
      refine⟨k+1,by omega,by omega,by go_num,?_,?_⟩
      ·rw[m.out]
       intro c r
       rcases List.mem_append.1 r with i|i
       ·exact h.out c i
       ·rw[List.mem_singleton]at i;rw[i];exact g
      ·rw[m.out,nx]
       congr 1
       omega
     case measure=>simp[intOf];omega
    ·have d:=Lib.hid (ud s.data.toList a k l (by rw[fM];omega) h.out (.inr (.inr ⟨_,iw p,by simpa using g⟩)))
     have y:oC s[a+k]=false:=by simpa using g
     clear g
     go_wp2_with (go_at_call 272;refine(kM _ _).mono ?_;rintro e w' ⟨rfl,rfl⟩)
     all_goals first
      | (have b:=gZ (Gh (s:=s) (a:=a) (by assumption)) (by decide);exact bodyPost_ret (v:=.tuple #[.agg #[.int .i64 0,.int .i64 (a:Int),.int .i64 9],.int .i64 (a:Int)]) (by simp[results,results247,go_sem]) rfl ⟨by rw[b];rfl,(Below.refl _ _).alloc (Nat.le_refl _) _⟩)
      | (exact bodyPost_ret (v:=.tuple #[.agg #[.int .i64 0,.int .i64 (a:Int),.int .i64 4],.int .i64 (a:Int)]) (by simp[results,results247,go_sem]) rfl ⟨by rw[b];rfl,(Below.refl _ _).alloc (Nat.le_refl _) _⟩)
      | (have b:=gZ (Gx (s:=s) (a:=a) d.out (by assumption) (by assumption) (by assumption)) (by decide);exact bodyPost_ret (v:=.tuple #[.agg #[.int .i64 0,.int .i64 (a:Int),.int .i64 6],.int .i64 (a:Int)]) (by simp[results,results247,go_sem]) rfl ⟨by rw[b];rfl,(Below.refl _ _).alloc (Nat.le_refl _) _⟩)
      | (have b:=gZ (Gi (s:=s) (a:=a) d.out (by assumption) (by assumption) (by assumption) (by assumption) (by assumption)) (by decide);exact bodyPost_ret (v:=.tuple #[.agg #[.int .i64 0,.int .i64 (a:Int),.int .i64 3],.int .i64 (a:Int)]) (by simp[results,results247,go_sem]) rfl ⟨by rw[b];rfl,(Below.refl _ _).alloc (Nat.le_refl _) _⟩)
      | (exact bodyPost_ret (v:=.tuple #[.agg #[.int .i64 0,.int .i64 (a:Int),.int .i64 2],.int .i64 (a:Int)]) (by simp[results,results247,go_sem]) rfl ⟨by rw[b];rfl,(Below.refl _ _).alloc (Nat.le_refl _) _⟩)
      | (have b:=pn (Gj (s:=s) (a:=a) d.out (by assumption) (by assumption) (by assumption) (by assumption) (by assumption) (by assumption)) d.out;exact bodyPost_ret (v:=.tuple #[.agg #[.int .i64 (i8 ((s.data.toList.drop a).take k):Int),.int .i64 (a:Int),.int .i64 0],.int .i64 ((a:Int)+k)]) (by simp[results,results247,go_sem]) rfl ⟨by rw[b];rfl,(Below.refl _ _).alloc (Nat.le_refl _) _⟩)
      | (exfalso;have f:((a:Int) == (s.size:Int))=false:=by assumption
         have:=ne_of_beq_false f;omega)
   ·have n:k=7:=by omega
    have d:=Lib.hid (ud s.data.toList a k l (by rw[fM];omega) h.out (.inr (.inl n)));clear n
    go_wp2_with (go_at_call 272;refine(kM _ _).mono ?_;rintro e w' ⟨rfl,rfl⟩)
    all_goals first
     | (have b:=gZ (Gh (s:=s) (a:=a) (by assumption)) (by decide);exact bodyPost_ret (v:=.tuple #[.agg #[.int .i64 0,.int .i64 (a:Int),.int .i64 9],.int .i64 (a:Int)]) (by simp[results,results247,go_sem]) rfl ⟨by rw[b];rfl,(Below.refl _ _).alloc (Nat.le_refl _) _⟩)
     | (exact bodyPost_ret (v:=.tuple #[.agg #[.int .i64 0,.int .i64 (a:Int),.int .i64 4],.int .i64 (a:Int)]) (by simp[results,results247,go_sem]) rfl ⟨by rw[b];rfl,(Below.refl _ _).alloc (Nat.le_refl _) _⟩)
     | (exact bodyPost_ret (v:=.tuple #[.agg #[.int .i64 0,.int .i64 (a:Int),.int .i64 6],.int .i64 (a:Int)]) (by simp[results,results247,go_sem]) rfl ⟨by rw[b];rfl,(Below.refl _ _).alloc (Nat.le_refl _) _⟩)
     | (have b:=gZ (Gi (s:=s) (a:=a) d.out (by assumption) (by assumption) (by assumption) (by assumption) (by assumption)) (by decide);exact bodyPost_ret (v:=.tuple #[.agg #[.int .i64 0,.int .i64 (a:Int),.int .i64 3],.int .i64 (a:Int)]) (by simp[results,results247,go_sem]) rfl ⟨by rw[b];rfl,(Below.refl _ _).alloc (Nat.le_refl _) _⟩)
     | (have b:=gZ (Gq (s:=s) (a:=a) d.out (by assumption) (by assumption) (by assumption) (by assumption) (by assumption) (by assumption)) (by decide);exact bodyPost_ret (v:=.tuple #[.agg #[.int .i64 0,.int .i64 (a:Int),.int .i64 2],.int .i64 (a:Int)]) (by simp[results,results247,go_sem]) rfl ⟨by rw[b];rfl,(Below.refl _ _).alloc (Nat.le_refl _) _⟩)
     | (have b:=pn (Gj (s:=s) (a:=a) d.out (by assumption) (by assumption) (by assumption) (by assumption) (by assumption) (by assumption)) d.out;exact bodyPost_ret (v:=.tuple #[.agg #[.int .i64 (i8 ((s.data.toList.drop a).take k):Int),.int .i64 (a:Int),.int .i64 0],.int .i64 ((a:Int)+k)]) (by simp[results,results247,go_sem]) rfl ⟨by rw[b];rfl,(Below.refl _ _).alloc (Nat.le_refl _) _⟩)
     | (exfalso;have f:((a:Int) == (s.size:Int))=false:=by assumption
        have:=ne_of_beq_false f;omega)
  ·have d:=Lib.hid (ud s.data.toList a k l (by rw[fM];omega) h.out (.inl (by rw[fM];omega)))
   go_wp2_with (go_at_call 272;refine(kM _ _).mono ?_;rintro e w' ⟨rfl,rfl⟩)
   all_goals first
    | (have b:=gZ (Gh (s:=s) (a:=a) (by assumption)) (by decide);exact bodyPost_ret (v:=.tuple #[.agg #[.int .i64 0,.int .i64 (a:Int),.int .i64 9],.int .i64 (a:Int)]) (by simp[results,results247,go_sem]) rfl ⟨by rw[b];rfl,(Below.refl _ _).alloc (Nat.le_refl _) _⟩)
    | (have b:=gZ (Gw (s:=s) (a:=a) (by assumption) (by assumption)) (by decide);exact bodyPost_ret (v:=.tuple #[.agg #[.int .i64 0,.int .i64 (a:Int),.int .i64 4],.int .i64 (a:Int)]) (by simp[results,results247,go_sem]) rfl ⟨by rw[b];rfl,(Below.refl _ _).alloc (Nat.le_refl _) _⟩)
    | (exact bodyPost_ret (v:=.tuple #[.agg #[.int .i64 0,.int .i64 (a:Int),.int .i64 6],.int .i64 (a:Int)]) (by simp[results,results247,go_sem]) rfl ⟨by rw[b];rfl,(Below.refl _ _).alloc (Nat.le_refl _) _⟩)
    | (have b:=gZ (Gi (s:=s) (a:=a) d.out (by assumption) (by assumption) (by assumption) (by assumption) (by assumption)) (by decide);exact bodyPost_ret (v:=.tuple #[.agg #[.int .i64 0,.int .i64 (a:Int),.int .i64 3],.int .i64 (a:Int)]) (by simp[results,results247,go_sem]) rfl ⟨by rw[b];rfl,(Below.refl _ _).alloc (Nat.le_refl _) _⟩)
    | (have b:=gZ (Gq (s:=s) (a:=a) d.out (by assumption) (by assumption) (by assumption) (by assumption) (by assumption) (by assumption)) (by decide);exact bodyPost_ret (v:=.tuple #[.agg #[.int .i64 0,.int .i64 (a:Int),.int .i64 2],.int .i64 (a:Int)]) (by simp[results,results247,go_sem]) rfl ⟨by rw[b];rfl,(Below.refl _ _).alloc (Nat.le_refl _) _⟩)
    | (have b:=pn (Gj (s:=s) (a:=a) d.out (by assumption) (by assumption) (by assumption) (by assumption) (by assumption) (by assumption)) d.out;exact bodyPost_ret (v:=.tuple #[.agg #[.int .i64 (i8 ((s.data.toList.drop a).take k):Int),.int .i64 (a:Int),.int .i64 0],.int .i64 ((a:Int)+k)]) (by simp[results,results247,go_sem]) rfl ⟨by rw[b];rfl,(Below.refl _ _).alloc (Nat.le_refl _) _⟩)
    | (exfalso;have f:((a:Int) == (s.size:Int))=false:=by assumption
       have:=ne_of_beq_false f;omega)
theorem BQ(s:ByteArray)(a count o p c b:Nat)(w:World)(j:s.size<=9223372036854775000)(d:a<=s.size)(g:count<=1000)(i:gd s.data.toList a count=((o,p,c),b)):
 Calls prog 247 #[.string s,.int .i64 (a:Int),.int .i64 (count:Int)] w λe w' =>
  e=.returned (.tuple #[.agg #[.int .i64 (o:Int),.int .i64 (p:Int),.int .i64 (c:Int)],.int .i64 (b:Int)])/\Below w.heap.size w w':=by
 refine(zS s a count w j d g).mono λe w' ⟨h,f⟩=>⟨?_,f⟩;rw[h,i];rfl
theorem mV{s:ByteArray}(h:s.data.toList≠[]):s.toList.isEmpty=false:=by
 rw[ByteArray.toList_eq];simpa using h
theorem rx{s:ByteArray}(h:s.data.toList=[]):s.toList.isEmpty=true:=by
 rw[ByteArray.toList_eq,h];rfl
open Go.RowKit Go.Shelf
attribute [local go_sem] Oper.semAt_some
def lO(W b:World):Prop:=∀(k:Nat) (cs:Array Value) (t:TypeId) (a:Nat × Nat),(t=325 \/ t=9)->W.heap[k]?=some (.cells cs t a)->b.heap[k]?=some (.cells cs t a)
theorem qx{A B C:World}(h:lO A B)(k:lO B C):lO A C:=λi cs t a b c=>k i cs t a b (h i cs t a b c)
theorem yl{w:World}(W:World)(l:Nat)(o d:Obj)(_:w.heap.size<=l)(h:W.heap[l]?=some o)(b:o.isCells=false)(_:o.isWalk=false):lO W (W.putObj l d):=by
 intro k cs t e _ a
 have c:k≠l:=by
  rintro rfl;rw[a]at h
  injection h with h
  subst h;simp[Obj.isCells]at b
 rw[World.putObj_heap_other c];exact a
theorem xp(W:World):lO W W:=λ_ _ _ _ _ h=>h
theorem mc{W a:World}(h:Below W.heap.size W a):lO W a:=λk cs t d _ b=>by
 have c:=(Array.getElem?_eq_some_iff.1 b).1;rw[h.block k c];exact b
theorem vm(n:Nat)(s:ByteArray)(w:World):
 CallsIn Fence.wide n prog 197 #[.string s] w λe w'=>e=.returned (.func (.func 246) #[] #[.pointer (some ⟨w.heap.size,0,none⟩)])/\w'=w.alloc (.cells #[.string s] 9):=by
 refine callsIn_of_wp func197 rfl trivial ?_ rfl;simp only[ntmps197,List.size_toArray,List.length_cons,List.length_nil,Nat.reduceAdd,Nat.reduceSub,Array.replicate_succ,Array.replicate_zero,List.push_toArray,List.append_toArray,List.nil_append,List.cons_append]
 gi_wp2
 go_ret
 exact⟨rfl,rfl⟩
theorem ue{a w:World}(h:Below a.heap.size a w):a.grownBy w none:=⟨h.os,h.tape,h.output,h.size,λi b _=>h.block i b⟩
theorem zT(n:Nat)(an:1<=n)(l i:Nat)(s:ByteArray)(hs:s.size<=9223372036854775000)(F:s.data.toList≠[])(J N:List kA->World->Prop)
 (hJ:∀b (X Y:World),J b X->Below X.heap.size X Y->J b Y)
 (P:∀b x W,J b W->b.length<(fT s.data.toList).length->YieldAt Fence.wide (n - 1) prog l #[kN x] W λe j =>
  (e=.returned (.bool true)/\J (b++[x]) j/\lO W j) \/ (e=.returned (.bool false)/\N (b++[x]) j))
 (W:World) (ah:W.heap[i]?=some (.cells #[.string s] 9 (0,0))) (h0:J [] W) :
 CallsIn Fence.wide n prog 246 #[.func (.yield l) #[] #[],.pointer (some ⟨i,0,none⟩)] W λe j=>(∃v,e=.returned v) /\
  ((∃ys,ys=fT s.data.toList/\J ys j) \/ (∃b,b <+: fT s.data.toList/\N b j)):=by
 have aC:0<s.size:=by
  rw[<-fM];exact List.length_pos_iff.2 F
 refine callsIn_of_wp func246 rfl trivial ?_ rfl;simp only[ntmps246,List.size_toArray,List.length_cons,List.length_nil,Nat.reduceAdd,Nat.reduceSub,Array.replicate_succ,Array.replicate_zero,List.push_toArray,List.append_toArray,List.nil_append,List.cons_append]
 gi_wp2
 gi_loopw [3,4] (λat_ B wr=>∃(b:List kA) (a c:Nat),at_=.int .i64 (a:Int)/\B=.int .i64 (c:Int)/\a<=s.size/\c<=8/\fT s.data.toList=b++gi (9 - c) s.data.toList a c/\J b wr/\wr.heap[i]?=some (.cells #[.string s] 9 (0,0)))
  (λ_ B _=>9 - (intOf B).toNat)
 case atStart=>exact⟨[],0,0,rfl,rfl,by omega,by omega,by simp[fT,F],h0,ah⟩
 case round =>
  obtain⟨b,a,c,rfl,rfl,Q,k,U,aj,C⟩:=hrel;have h:=Lib.hid U;have K:=Lib.hid C;have ax:wr.cell? ⟨i,0,none⟩=some (.string s):=by simp[World.cell?,C]
  have aB:=mV F;clear U C;obtain⟨⟨⟨o,p,f⟩,d⟩,T⟩:∃r,gd s.data.toList a c=r:=⟨_,rfl⟩;have g:=Lib.hid T;clear T
  have ao:b.length<(fT s.data.toList).length:=by
   obtain⟨r,H⟩:=pQ k g.out;rw[h.out,H];simp
  gi_wp2_with (refine⟨trivial,?_⟩;gi_at_call 247;refine(callsIn_wide.2 (BQ s a c o p f d _ hs Q (by omega) g.out)).mono ?_;rintro e w' ⟨rfl,R⟩)
  have S:Below wr.heap.size wr (w'.alloc (.cells #[.int .i64 (o:Int),.int .i64 (p:Int),.int .i64 (f:Int)] 325)):=R.alloc R.size _;have V:=World.alloc_heap_new w' (.cells #[.int .i64 (o:Int),.int .i64 (p:Int),.int .i64 (f:Int)] 325)
  have O:(w'.alloc (.cells #[.int .i64 (o:Int),.int .i64 (p:Int),.int .i64 (f:Int)] 325)).heap[i]?=some (.cells #[.string s] 9 (0,0)):=by
   have z:=(Array.getElem?_eq_some_iff.1 K.out).1;rw[S.block i z];exact K.out
  obtain⟨fn,aE,ar,au,A,hR⟩:=P b (o,p,f) _ (hJ b _ _ aj S) ao;simp only[kN]at A;have HX:=Lib.hid V;have aa:=Lib.hid O;clear V O;rw[A];refine⟨λ_=>an,hR.mono ?_⟩;rintro e q (⟨rfl,w,y⟩|⟨rfl,ak⟩)
  ·have I:=y _ _ _ _ (.inl rfl) HX.out
   have D:=y _ _ _ _ (.inr rfl) aa.out;have av:q.cell? ⟨w'.heap.size,2,none⟩=some (.int .i64 (f:Int)):=by simp[World.cell?,I]
   have ay:q.cell? ⟨i,0,none⟩=some (.string s):=by simp[World.cell?,D]
   have ab:=Lib.hid D;have aq:=Lib.hid I;have HK:=Lib.hid y;clear I D y A
   by_cases t:f=0
   ·have E:=vi (by rw[fM];exact Q) (t ▸ g.out)
    rw[fM]at E;have az:=E.2;have aw:c<=7:=by omega
    have t1:((f:Int) != 0)=false:=by subst t;rfl
    have L:=Lib.hid t;clear t E
    by_cases u:d=s.size
    ·have t2:((d:Int) == (s.size:Int))=true:=by simp[u]
     have ad:=Lib.hid u;clear u
     gi_wp2
     refine bodyPost_ret (results_none rfl _ _ _) rfl ?_;exact⟨⟨_,rfl⟩,.inl ⟨_,by rw[h.out,pP k g.out (.inr (by rw[fM];exact ad.out))],w⟩⟩
    ·have z:d<s.size:=by omega
     have t2:((d:Int) == (s.size:Int))=false:=by simp;omega
     by_cases m:s[d]=46
     ·have t3:(((s[d]).toNat:Int) != 46)=false:=by rw[m];rfl
      have ac:=Lib.hid m;clear m
      gi_wp2
      go_roundw
      case rel=>exact⟨b++[(o,p,f)],d+1,c+1,by go_num,by go_num,by omega,by omega,by rw[h.out,vk k g.out L.out (by rw[fM];exact u) (by rw[iw z,ac.out])];simp,w,ab.out⟩
      case measure=>simp[intOf];omega
     ·have t3:(((s[d]).toNat:Int) != 46)=true:=by
       rw[bne_iff_ne];intro e;exact m (UInt8.toNat_inj.1 (by simp;omega))
      have G:=vj k g.out L.out (by rw[fM];exact u) (by rw[iw z];simpa using m);obtain⟨ag,ap,ae,af,Z,am⟩:=P _ (0,d,6) q w (by rw[h.out,G];simp);have aD:(Instr.yield l #[.agg #[.int .i64 0,.int .i64 (d:Int),.int .i64 6]]).run prog q=.ok (.round l ag ap ae af) q:=Z;clear Z;have M:=Lib.hid G;clear G m
      gi_wp2
      refine am.mono ?_;rintro e W4 (⟨rfl,ai,aA⟩|⟨rfl,al⟩)
      ·gi_wp2
       refine bodyPost_ret (results_none rfl _ _ _) rfl ?_;exact⟨⟨_,rfl⟩,.inl ⟨_,by rw[h.out,M.out];simp,ai⟩⟩
      ·gi_wp2
       refine bodyPost_ret (results_none rfl _ _ _) rfl ?_;exact⟨⟨_,rfl⟩,.inr ⟨_,by rw[h.out,M.out];simp,al⟩⟩
   ·have t1:((f:Int) != 0)=true:=by rw[bne_iff_ne];omega
    gi_wp2
    refine bodyPost_ret (results_none rfl _ _ _) rfl ?_;exact⟨⟨_,rfl⟩,.inl ⟨_,by rw[h.out,pP k g.out (.inl t)],w⟩⟩
  ·clear A
   gi_wp2
   refine bodyPost_ret (results_none rfl _ _ _) rfl ?_;obtain⟨r,H⟩:=pQ k g.out;exact⟨⟨_,rfl⟩,.inr ⟨_,⟨r,by rw[h.out,H];simp⟩,ak⟩⟩
attribute [local go_sem] Oper.semAt_some
theorem BR{w W:World}{a:Nat}{o:Obj}(h:w.heap[a]?=some o)(b:Below w.heap.size w W):W.heap[a]?=some o:=by
 rw[b.block a (Array.getElem?_eq_some_iff.1 h).1];exact h
theorem xq(n l a:Nat)(s:ByteArray)(g:s.data.toList=[])(W:World)(b:W.heap[a]?=some (.cells #[.string s] 9 (0,0)))(J:World->Prop)(f:J W):
 CallsIn Fence.wide n prog 246 #[.func (.yield l) #[] #[],.pointer (some ⟨a,0,none⟩)] W λe c=>(∃v,e=.returned v)/\J c:=by
 have h:W.cell? ⟨a,0,none⟩=some (.string s):=by simp[World.cell?,b]
 have i:=rx g;clear b;refine callsIn_of_wp func246 rfl trivial ?_ rfl;simp only[ntmps246,List.size_toArray,List.length_cons,List.length_nil,Nat.reduceAdd,Nat.reduceSub,Array.replicate_succ,Array.replicate_zero,List.push_toArray,List.append_toArray,List.nil_append,List.cons_append]
 gi_wp2
 gi_loopw [3,4] (λat_ d wr=>at_=.int .i64 0/\d=.int .i64 0/\wr=W) (λ_ _ _=>0)
 case atStart=>exact⟨rfl,rfl,rfl⟩
 case round =>
  obtain⟨rfl,rfl,rfl⟩:=hrel
  gi_wp2
  go_end0
  exact⟨⟨_,rfl⟩,f⟩
theorem pR(n:Nat)(p:1<=n)(s:ByteArray)(q:s.size<=9223372036854775000)(a:Nat)(w:World)(h:w.heap[a]?=some (.cells #[.string s] 9 (0,0))):
 SeqStopsK Fence.wide n prog 246 #[.pointer (some ⟨a,0,none⟩)] (λx:kA=>#[kN x]) lO (λu=>u=fT s.data.toList) (λc=>c <+: fT s.data.toList) (fT s.data.toList).length w:=λl J g W hW i _ j d=>by
 have f:=BR h hW
 by_cases b:s.data.toList=[]
 ·refine(xq n l a s b W f (J []) d).mono λe v ⟨m,o⟩=>⟨m,.inl ⟨[],?_,o⟩⟩
  simp[fT,b]
 ·exact zT n p l a s q b J g (λc X Y t k=>i c X Y none t (ue k) (λr e=>by cases e)) j W f d
def gq(l:List kA):Nat:=((l.find? λp=>p.2.2 != 0).map (·.2.2)).getD 0
def PartAt(W:World)(B:Nat)(x:kA):Prop:=W.heap[B]?=some (.cells #[.int .i64 (x.1:Int),.int .i64 (x.2.1:Int),.int .i64 (x.2.2:Int)] 325 (0,0))
theorem PartAt.lt{W:World}{B:Nat}{x:kA}(h:PartAt W B x):B<W.heap.size:=(Array.getElem?_eq_some_iff.1 h).1
theorem PartAt.own(B:Nat)(x:kA):Own (λ(_:Unit) W=>PartAt W B x):=λ_ X Y row a d f =>
 (d.block B a.lt (λe=>by obtain⟨o,b,c⟩:=f B e.symm;rw[show X.heap[B]?=_ from a]at b;cases b;cases c)).trans a
theorem PartAt.cell1{W:World}{B:Nat}{x:kA}(h:PartAt W B x):W.cell? ⟨B,1,none⟩=some (.int .i64 (x.2.1:Int)):=by
 unfold PartAt at h;simp[World.cell?,h]
theorem PartAt.cell2{W:World}{B:Nat}{x:kA}(h:PartAt W B x):W.cell? ⟨B,2,none⟩=some (.int .i64 (x.2.2:Int)):=by
 unfold PartAt at h;simp[World.cell?,h]
theorem PartAt.cell0{W:World}{B:Nat}{x:kA}(h:PartAt W B x):W.cell? ⟨B,0,none⟩=some (.int .i64 (x.1:Int)):=by
 unfold PartAt at h;simp[World.cell?,h]
theorem kU{l:List kA}(h:∀x∈l,x.2.2=0):gq l=0:=by
 unfold gq;rw[List.find?_eq_none.2 (λx a=>by simp[h x a])];rfl
theorem kV{l:List kA}{x:kA}(h:∀y∈l,y.2.2=0)(a:x.2.2≠0):gq (l++[x])=x.2.2:=by
 unfold gq;rw[List.find?_append,List.find?_eq_none.2 (λx a=>by simp[h x a])];simp[a]
theorem lP{l m:List kA}(h:l <+: m)(a:gq l≠0):gq m=gq l:=by
 obtain⟨r,rfl⟩:=h;unfold gq at a ⊢;rw[List.find?_append]
 cases b:l.find? λp=>p.2.2 != 0 with
 | none=>rw[b]at a;simp at a
 | some x=>simp
def lC(w W:World)(nm:ByteArray)(at_ a:Int):World:=((W.setCell ⟨w.heap.size,0,none⟩ (.string nm)).setCell ⟨w.heap.size+1,0,none⟩ (.int .i64 at_)).setCell ⟨w.heap.size+1+1,0,none⟩ (.int .i64 a)
theorem oE{w W:World}(at_ a:Int)(nm:ByteArray){g:ByteArray}{b e0:Int}(c:Boxed W w.heap.size 29 (.string g))(d:Boxed W (w.heap.size+1) 3 (.int .i64 b))(e:Boxed W (w.heap.size+1+1) 40 (.int .i64 e0))(f:Below w.heap.size w W):
 KeepsOthers W (lC w W nm at_ a)/\(Boxed (lC w W nm at_ a) w.heap.size 29 (.string nm)/\Boxed (lC w W nm at_ a) (w.heap.size+1) 3 (.int .i64 at_)) /\
 Boxed (lC w W nm at_ a) (w.heap.size+1+1) 40 (.int .i64 a)/\Below w.heap.size w (lC w W nm at_ a):=by
 unfold lC;refine⟨?_,⟨?_,?_⟩,?_,?_⟩
 ·exact((KeepsOthers.setCell _ _ _).trans (KeepsOthers.setCell _ _ _)).trans (KeepsOthers.setCell _ _ _)
 ·exact((c.set (.string nm)).other (B':=w.heap.size+1) (by omega) (.int .i64 at_)).other (B':=w.heap.size+1+1) (by omega) (.int .i64 a)
 ·exact((d.other (B':=w.heap.size) (by omega) (.string nm)).set (.int .i64 at_)).other (B':=w.heap.size+1+1) (by omega) (.int .i64 a)
 ·exact((e.other (B':=w.heap.size) (by omega) (.string nm)).other (B':=w.heap.size+1) (by omega) (.int .i64 at_)).set (.int .i64 a)
 ·exact((f.setCell (p:=⟨w.heap.size,0,none⟩) (Nat.le_refl _) _).setCell (p:=⟨w.heap.size+1,0,none⟩) (by simp) _).setCell (p:=⟨w.heap.size+1+1,0,none⟩) (by simp;omega) _
theorem sY{w X:World}{D:Nat}{nm:ByteArray}{at_ a:Int}(h:w.heap.size+4<=D)(g:X.heap[D]?=some (.deferred (some [])))
 (b:Boxed X w.heap.size 29 (.string nm)) (c:Boxed X (w.heap.size+1) 3 (.int .i64 at_)) (d:Boxed X (w.heap.size+1+1) 40 (.int .i64 a)) (f:Below w.heap.size w X) :
 (X.putObj D (.deferred none)).cell? ⟨w.heap.size,0,none⟩=some (.string nm)/\(X.putObj D (.deferred none)).cell? ⟨w.heap.size+1,0,none⟩=some (.int .i64 at_) /\
 (X.putObj D (.deferred none)).cell? ⟨w.heap.size+1+1,0,none⟩=some (.int .i64 a)/\Below w.heap.size w (X.putObj D (.deferred none)):=by
 refine⟨?_,?_,?_,?_⟩
 ·exact(b.kept (grownBy_putObj' X D (.deferred none)) (λe=>by injection e;omega)).cell
 ·exact(c.kept (grownBy_putObj' X D (.deferred none)) (λe=>by injection e;omega)).cell
 ·exact(d.kept (grownBy_putObj' X D (.deferred none)) (λe=>by injection e;omega)).cell
 ·exact f.trans (belowK_b (w:=w) (Nat.le_refl _) X D _ _ (by omega) g rfl rfl)
theorem xr(s:ByteArray)(w:World)(p:s.size<=9223372036854775000):
 Calls prog 168 #[.string s] w λe w'=>(∃nm at_,e=.returned (.tuple #[.string nm,.int .i64 at_,.int .i64 (gq (fT s.data.toList):Int)]))/\Below w.heap.size w w':=by
 refine(callsIn_wide (n:=5)).1 ?_;refine callsIn_of_wp_marks func168 rfl trivial ?_ rfl;simp only[ntmps168,List.size_toArray,List.length_cons,List.length_nil,Nat.reduceAdd,Nat.reduceSub,Array.replicate_succ,Array.replicate_zero,List.push_toArray,List.append_toArray,List.nil_append,List.cons_append]
 gi_wp2_with (refine⟨trivial,?_⟩;gi_at_call 197;refine(vm _ _ _).mono ?_;rintro e w' ⟨rfl,rfl⟩)
 have J:=(((Boxed.new w 29 (.string ⟨#[]⟩)).alloc (.cells #[.int .i64 0] 3)).alloc (.cells #[.int .i64 0] 40)).alloc (.cells #[.string s] 9);have A:=((Boxed.new (w.alloc (.cells #[.string ⟨#[]⟩] 29)) 3 (.int .i64 0)).alloc (.cells #[.int .i64 0] 40)).alloc (.cells #[.string s] 9);have B:=(Boxed.new ((w.alloc (.cells #[.string ⟨#[]⟩] 29)).alloc (.cells #[.int .i64 0] 3)) 40 (.int .i64 0)).alloc (.cells #[.string s] 9);have C:=Boxed.new (((w.alloc (.cells #[.string ⟨#[]⟩] 29)).alloc (.cells #[.int .i64 0] 3)).alloc (.cells #[.int .i64 0] 40)) 9 (.string s);simp only[World.size_alloc]at A B C
 have K:Below w.heap.size w ((((w.alloc (.cells #[.string ⟨#[]⟩] 29)).alloc (.cells #[.int .i64 0] 3)).alloc (.cells #[.int .i64 0] 40)).alloc (.cells #[.string s] 9)) :=
  ((((Below.refl _ w).alloc (Nat.le_refl _) _).alloc (by simp) _).alloc (by simp;omega) _).alloc (by simp;omega) _
 have ac:((((w.alloc (.cells #[.string ⟨#[]⟩] 29)).alloc (.cells #[.int .i64 0] 3)).alloc (.cells #[.int .i64 0] 40)).alloc (.cells #[.string s] 9)).heap.size=w.heap.size+4:=by simp
 obtain⟨v,N⟩:∃v,(((w.alloc (.cells #[.string ⟨#[]⟩] 29)).alloc (.cells #[.int .i64 0] 3)).alloc (.cells #[.int .i64 0] 40)).alloc (.cells #[.string s] 9)=v:=⟨_,rfl⟩;rw[N]at J A B C K ac ⊢;clear N
 refine wpIn_rangeFunc_ownH rfl (by omega) (gf:=246) (lb:=#[.pointer (some ⟨w.heap.size+1+1+1,0,none⟩)]) rfl trivial (enters_of func246 (by kernel_rfl) rfl)
  (pR 4 (by omega) s p (w.heap.size+1+1+1) v C) qx yl (Below.refl _ _) (λ_=>rfl)
  (λg W=>(∀x∈g,x.2.2=0)/\((Boxed W w.heap.size 29 (.string ⟨#[]⟩)/\Boxed W (w.heap.size+1) 3 (.int .i64 0))/\Boxed W (w.heap.size+1+1) 40 (.int .i64 0))/\Below w.heap.size w W)
  (λc g W=>(c=.ret/\gq g≠0)/\(∃at_:Int,(Boxed W w.heap.size 29 (.string ⟨#[]⟩)/\Boxed W (w.heap.size+1) 3 (.int .i64 at_))/\Boxed W (w.heap.size+1+1) 40 (.int .i64 (gq g:Int)))/\Below w.heap.size w W)
  (OwnFrom.and (ownFrom_pure _ _) (OwnFrom.and (OwnFrom.and (OwnFrom.and (Own.from (boxed_own _ _ _) _) (Own.from (boxed_own _ _ _) _)) (Own.from (boxed_own _ _ _) _)) (ownFrom_below (Nat.le_refl _) (by omega))))
  (λc g X Y row p k o=>by
   obtain⟨E,⟨at_,⟨F,G⟩,Z⟩,h5⟩:=p;have H:=λr e=>(o r e).2;exact⟨E,⟨at_,⟨boxed_own _ _ (λ(_:Unit)=>_) () X Y row F k H,boxed_own _ _ (λ(_:Unit)=>_) () X Y row G k H⟩,boxed_own _ _ (λ(_:Unit)=>_) () X Y row Z k H⟩,ownFrom_below (Nat.le_refl _) (by omega) () X Y row h5 k o⟩)
  ⟨by simp,⟨⟨J,A⟩,B⟩,K⟩
  (λx z W=>∃h,w.heap.size+1+1<h/\PartAt W h x/\z={ tmps:=#[.string s,undef,.pointer (some ⟨w.heap.size,0,none⟩),.pointer (some ⟨w.heap.size+1,0,none⟩),.pointer (some ⟨w.heap.size+1+1,0,none⟩),.pointer (some ⟨h,0,none⟩),.string s,.func (.func 246) #[] #[.pointer (some ⟨w.heap.size+1+1+1,0,none⟩)],kN x,undef,undef,undef,undef,undef,undef,undef,undef],defers:=[] })
  (λx z _ X Y row p k o=>by obtain⟨h,E,F,G⟩:=p;exact⟨h,E,PartAt.own h x () X Y row F k (λr e=>(o r e).2),G⟩)
  ?assign ?body ?done ?stop
 case assign =>
  rintro l g x W ad ⟨i,⟨⟨b,d⟩,a⟩,f⟩ j;unfold kN
  gi_wp2
  exact j _ _ ((KeepsOthers.alloc _ _).from _) (mc ((Below.refl _ W).alloc (Nat.le_refl _) _)) ⟨i,⟨⟨b.alloc _,d.alloc _⟩,a.alloc _⟩,f.alloc f.size _⟩ ⟨W.heap.size,a.lt,World.alloc_heap_new W _,rfl⟩
 case body =>
  rintro l g x z W hl ⟨r,o⟩ ⟨i,⟨⟨b,d⟩,a⟩,f⟩ ⟨h,ae,M,rfl⟩ af;have p1:=M.cell1;have p2:=M.cell2
  by_cases m:x.2.2=0
  ·have t:((x.2.2:Int) != 0)=false:=by rw[m];rfl
   have O:=Lib.hid m;clear m
   gi_wp2
   exact⟨KeepsFrom.refl _ _,xp _,λy hy=>(List.mem_append.1 hy).elim (i y) (λe=>by rw[List.mem_singleton]at e;rw[e];exact O.out),⟨⟨b,d⟩,a⟩,f⟩
  ·have t:((x.2.2:Int) != 0)=true:=by rw[bne_iff_ne];omega
   have P:=b.cell;have Q:=d.cell;have S:=a.cell;have T:=b.frozen;have U:=d.frozen;have V:=a.frozen;have ag:prog.follows .mixedOrders=true:=by kernel_rfl
   have R:=Lib.hid (oE (x.2.1:Int) (x.2.2:Int) ⟨#[]⟩ b d a f)
   gi_wp2
   gi_region_o
   all_goals gi_wp2
   all_goals exact⟨(R.out.1.trans (KeepsOthers.drew _)).from _,⟨rfl,by rw[kV i m];exact m⟩,⟨_,R.out.2.1,by rw[kV i m];exact R.out.2.2.1⟩,R.out.2.2.2.drew⟩
 case done =>
  rintro I ys W hD rfl ⟨i,⟨⟨b,d⟩,a⟩,f⟩ j;have P:=b.cell;have Q:=d.cell;have S:=a.cell;have T:=b.frozen;have U:=d.frozen;have V:=a.frozen;have R:=Lib.hid (oE 0 0 s b d a f)
  gi_wp2
  have L:=R.out.1.same I _ j rfl;obtain⟨e0,q,u,D⟩:=sY (by omega) L R.out.2.1.1 R.out.2.1.2 R.out.2.2.1 R.out.2.2.2;refine⟨by simp,.inl ⟨_,_,rfl,run_takeDeferred L,?_⟩⟩;refine⟨.tuple #[.string s,.int .i64 0,.int .i64 0],?_,⟨s,0,by rw[kU i];rfl⟩,D⟩;simp only[lC]at e0 q u;simp[results,Tryz.f168,go_sem,e0,q,u]
 case stop =>
  rintro I c g W hD ab ⟨⟨rfl,aa⟩,⟨at_,⟨b,d⟩,a⟩,f⟩ j
  gi_wp2
  obtain⟨e0,q,u,D⟩:=sY (by omega) j b d a f;refine⟨by simp,.inl ⟨_,_,rfl,run_takeDeferred j,?_⟩⟩;refine⟨.tuple #[.string ⟨#[]⟩,.int .i64 at_,.int .i64 (gq g:Int)],?_,⟨⟨#[]⟩,at_,by rw[lP ab aa]⟩,D⟩;simp[results,Tryz.f168,go_sem,e0,q,u]
attribute [local go_sem] Oper.semAt_some
theorem nz(s:List UInt8):gp s=(gq (fT s) == 0):=by
 unfold gp
 by_cases h:∀x∈fT s,x.2.2=0
 ·rw[kU h,List.all_eq_true.2 (λx a=>by simp[h x a])];rfl
 ·have c:(fT s).all (λp=>p.2.2 == 0)=false:=by
   rw[List.all_eq_false];simp only[Classical.not_forall]at h;obtain⟨x,a,d⟩:=h;exact⟨x,a,by simpa using d⟩
  rw[c]
  symm
  rw[beq_eq_false_iff_ne];unfold gq
  cases b:(fT s).find? λp=>p.2.2 != 0 with
  | none =>
   exfalso
   rw[List.find?_eq_none]at b
   apply h
   intro x a
   simpa using b x a
  | some x =>
   have:=List.find?_some b;simpa using this
theorem mG(s:ByteArray)(w:World)(d:s.size<=9223372036854775000):
 Calls prog 115 #[.string s] w λe w'=>e=.returned (.bool (gp s.data.toList))/\Below w.heap.size w w':=by
 have a:=nz s.data.toList;have b:=Lib.hid a;clear a
 go_enter func115,ntmps115
 go_wp2_with (go_at_call 168;refine(xr s _ d).mono ?_;rintro e w' ⟨⟨nm,at_,rfl⟩,c⟩)
 go_ret
 refine⟨?_,c⟩;rw[b.out];simp only[Array.getD_eq_getD_getElem?];have e:(((gq (fT s.data.toList):Nat):Int) == 0)=(gq (fT s.data.toList) == 0):=by rw[Bool.eq_iff_iff];simp
 simp[e]
theorem ry:∀(f:Nat) (s:List UInt8) (a c:Nat),(gi f s a c).length<=f+1
 | 0,_,_,_=>by simp[gi]
 | f+1,s,a,c=>by
  rw[gi];simp only[List.length_cons];have:=ry f s ((gd s a c).2+1) (c+1);split
  ·simp
  ·split
   ·simp
   ·omega
theorem pS(s:List UInt8):(fT s).length<=10:=by
 unfold fT;split
 ·simp
 ·exact ry 9 s 0 0
def kB(n:Nat):Value:=.int .i64 (n:Int)
theorem Tryz.infoInt:(prog.info? 3).map (λi=>(i.zero,i.size,i.bytes))=some (some (.int .i64 0),1,8):=by kernel_rfl
theorem zU{W d:World}{base l n:Nat}{v:Value}{xs:List Value}(h:W.ownsRow base 3 l v n xs)(i:W.grownBy d v.ownBlock):lO W d:=by
 intro k cs t p b c;have j:=(Array.getElem?_eq_some_iff.1 c).1;rw[i.block k j ?_];exact c
 rcases h.2 with⟨rfl,_⟩|⟨g,m,o,rfl,_,a,_⟩
 ·simp[Value.ownBlock]
 ·intro e
  obtain rfl:k=g:=by simpa [Value.ownBlock]using e
  rw[c]at a
  injection a with a
  injection a with _ f
  subst f
  rcases b with b|b <;> exact absurd b (by decide)
theorem zV{W:World}{B:Nat}{u v:Value}(h:Boxed W B 36 u):lO W (W.setCell ⟨B,0,none⟩ v):=by
 intro k cs t e b a
 have d:k≠B:=by
  rintro rfl;rw[show W.heap[k]?=_ from h]at a
  injection a with a
  injection a with _ c
  subst c
  rcases b with b|b <;> exact absurd b (by decide)
 rw[Below.heap_setCell _ _ _ _ d];exact a
def OrdI(w:World)(a:List kA)(W:World):Prop:=(∀x∈a,x.2.2=0)/\((Boxed W w.heap.size 36 (.slice none 0 0)/\(∃v,Boxed W (w.heap.size+1) 36 v/\W.ownsRow w.heap.size 3 1 v a.length (a.map λx=>kB x.1)/\True))/\Below w.heap.size w W)
def OrdX(w:World)(c:Code)(a:List kA)(W:World):Prop:=(c=.ret/\gq a≠0)/\Boxed W w.heap.size 36 (.slice none 0 0)/\Below w.heap.size w W
theorem OrdI.own{w:World}{B:Nat}(b:w.heap.size<=B):OwnFrom B (OrdI w) :=
 OwnFrom.and (ownFrom_pure _ _) (OwnFrom.and (OwnFrom.and (Own.from (boxed_own _ _ _) _) (Own.from (holdsRow_own w.heap.size (w.heap.size+1) 36 3 1 (λa:List kA=>a.length) (λa=>a.map λx=>kB x.1) (λ_ _=>True)) _)) (ownFrom_below (Nat.le_refl _) b))
theorem OrdX.own{w:World}{B:Nat}(a:w.heap.size<=B)(c:Code):OwnFrom B (OrdX w c) :=
 OwnFrom.and (ownFrom_pure _ _) (OwnFrom.and (Own.from (boxed_own _ _ _) _) (ownFrom_below (Nat.le_refl _) a))
theorem BS{w W c:World}{a:List kA}{x:kA}{v:Value}{d:Obj}{g b:Nat}(m:∀x∈a,x.2.2=0)(t:x.2.2=0)(j:Boxed W w.heap.size 36 (.slice none 0 0))(l:Boxed W (w.heap.size+1) 36 v)
 (i:W.ownsRow w.heap.size 3 1 v a.length (a.map λx=>kB x.1)) (k:Below w.heap.size w W)
 (p:c.ownsRow w.heap.size 3 1 (.slice (some ⟨g,0,none⟩) (a.length+1) b) (a.length+1) ((a.map λx=>kB x.1)++[.int .i64 (x.1:Int)])) (f:(W.alloc d).grownBy c v.ownBlock) :
 KeepsOthers W (c.setCell ⟨w.heap.size+1,0,none⟩ (.slice (some ⟨g,0,none⟩) (a.length+1) b))/\lO W (c.setCell ⟨w.heap.size+1,0,none⟩ (.slice (some ⟨g,0,none⟩) (a.length+1) b))/\OrdI w (a++[x]) (c.setCell ⟨w.heap.size+1,0,none⟩ (.slice (some ⟨g,0,none⟩) (a.length+1) b)):=by
 obtain⟨r,s,q,o,n⟩:=l.appended (by decide) i k.size (by omega) p f;have z:lO W (W.alloc d):=mc ((Below.refl _ W).alloc (Nat.le_refl _) _);have A:=zU (i.alloc d) f;have B:=zV (v:=.slice (some ⟨g,0,none⟩) (a.length+1) b) r;refine⟨o,qx (qx z A) B,?_,⟨?_,⟨_,s,?_,trivial⟩⟩,k.trans n⟩
 ·intro y u
  rcases List.mem_append.1 u with h|h
  ·exact m y h
  ·rw[List.mem_singleton]at h;rw[h];exact t
 ·exact((j.alloc d).kept f (j.not_row (by decide) i)).other (by omega) _
 ·have e:(a++[x]).length=a.length+1:=by simp
  rw[e,List.map_append];exact q
theorem ym{w X:World}{D n:Nat}{v:Value}{xs:List Value}(f:w.heap.size+3<=D)(a:X.heap[D]?=some (.deferred (some [])))(b:Boxed X w.heap.size 36 v)(d:X.ownsRow w.heap.size 3 1 v n xs)(c:Below w.heap.size w X):
 (X.putObj D (.deferred none)).cell? ⟨w.heap.size,0,none⟩=some v/\(X.putObj D (.deferred none)).ownsRow w.heap.size 3 1 v n xs/\Below w.heap.size w (X.putObj D (.deferred none)):=by
 refine⟨?_,?_,?_⟩
 ·exact(b.kept (grownBy_putObj' X D (.deferred none)) (λe=>by injection e;omega)).cell
 ·exact ownsRow_putObj d _ a rfl
 ·exact c.trans (belowK_b (w:=w) (Nat.le_refl _) X D _ _ (by omega) a rfl rfl)
theorem Dn{w W:World}{n:Nat}{u v:Value}{xs:List Value}(a:Boxed W w.heap.size 36 u)(b:W.ownsRow w.heap.size 3 1 v n xs)(c:Below w.heap.size w W):
 KeepsOthers W (W.setCell ⟨w.heap.size,0,none⟩ v)/\Boxed (W.setCell ⟨w.heap.size,0,none⟩ v) w.heap.size 36 v/\(W.setCell ⟨w.heap.size,0,none⟩ v).ownsRow w.heap.size 3 1 v n xs/\Below w.heap.size w (W.setCell ⟨w.heap.size,0,none⟩ v) :=
 ⟨KeepsOthers.setCell _ _ _,a.set v,b.kept (grownBy_setCell' W w.heap.size v) (.inr (a.not_row (by decide) b).symm),c.setCell (p:=⟨w.heap.size,0,none⟩) (Nat.le_refl _) _⟩
theorem zW{s:List UInt8}(h:gq (fT s)=0):fG s=(fT s).map (·.1):=by
 unfold fG;rw[if_pos (by rw[nz,h];rfl)]
theorem xt{s:List UInt8}(h:gq (fT s)≠0):fG s=[]:=by
 unfold fG;rw[if_neg (by rw[nz];simpa using h)]
theorem oF(s:ByteArray)(w:World)(D:s.size<=9223372036854775000):
 Calls prog 186 #[.string s] w λe w'=>∃v,e=.returned v/\w'.ownsRow w.heap.size 3 1 v (fG s.data.toList).length ((fG s.data.toList).map kB)/\Below w.heap.size w w':=by
 refine(callsIn_wide (n:=5)).1 ?_;refine callsIn_of_wp_marks func186 rfl trivial ?_ rfl;simp only[ntmps186,List.size_toArray,List.length_cons,List.length_nil,Nat.reduceAdd,Nat.reduceSub,Array.replicate_succ,Array.replicate_zero,List.push_toArray,List.append_toArray,List.nil_append,List.cons_append];obtain⟨i0,hi,ac,ad,ae⟩:=info_parts Tryz.infoInt
 gi_wp2_with (refine⟨trivial,?_⟩;gi_at_call 197;refine(vm _ _ _).mono ?_;rintro e w' ⟨rfl,rfl⟩)
 have F:=((Boxed.new w 36 (.slice none 0 0)).alloc (.cells #[.slice none 0 0] 36)).alloc (.cells #[.string s] 9);have q:=(Boxed.new (w.alloc (.cells #[.slice none 0 0] 36)) 36 (.slice none 0 0)).alloc (.cells #[.string s] 9);have u:=Boxed.new ((w.alloc (.cells #[.slice none 0 0] 36)).alloc (.cells #[.slice none 0 0] 36)) 9 (.string s);simp only[World.size_alloc]at q u
 have G:Below w.heap.size w (((w.alloc (.cells #[.slice none 0 0] 36)).alloc (.cells #[.slice none 0 0] 36)).alloc (.cells #[.string s] 9)) :=
  (((Below.refl _ w).alloc (Nat.le_refl _) _).alloc (by simp) _).alloc (by simp;omega) _
 have ab:(((w.alloc (.cells #[.slice none 0 0] 36)).alloc (.cells #[.slice none 0 0] 36)).alloc (.cells #[.string s] 9)).heap.size=w.heap.size+3:=by simp
 obtain⟨m,J⟩:∃m,((w.alloc (.cells #[.slice none 0 0] 36)).alloc (.cells #[.slice none 0 0] 36)).alloc (.cells #[.string s] 9)=m:=⟨_,rfl⟩;rw[J]at F q u G ab ⊢;clear J;have an:=pS s.data.toList
 refine wpIn_rangeFunc_ownH rfl (by omega) (gf:=246) (lb:=#[.pointer (some ⟨w.heap.size+1+1,0,none⟩)]) rfl trivial (enters_of func246 (by kernel_rfl) rfl)
  (pR 4 (by omega) s D (w.heap.size+1+1) m u) qx yl (Below.refl _ _) (λ_=>rfl)
  (OrdI w) (OrdX w) (OrdI.own (by omega)) (OrdX.own (by omega))
  ⟨by simp,⟨F,⟨_,q,World.ownsRow_nil _ _ _ _,trivial⟩⟩,G⟩
  (λx o W=>∃h,w.heap.size+1<h/\PartAt W h x/\o={ tmps:=#[.string s,undef,.pointer (some ⟨w.heap.size,0,none⟩),.pointer (some ⟨w.heap.size+1,0,none⟩),.pointer (some ⟨h,0,none⟩),.string s,.func (.func 246) #[] #[.pointer (some ⟨w.heap.size+1+1,0,none⟩)],kN x,undef,undef,undef,undef,undef,undef,undef,undef,undef],defers:=[] })
  (λx o _ X Y row D K O=>by obtain⟨h,h1,h2,h3⟩:=D;exact⟨h,h1,PartAt.own h x () X Y row h2 K (λr e=>(O r e).2),h3⟩)
  ?assign ?body ?done ?stop
 case assign =>
  rintro l Q x W af ⟨i,⟨a,⟨v,d,f,_⟩⟩,b⟩ j;unfold kN
  gi_wp2
  exact j _ _ ((KeepsOthers.alloc _ _).from _) (mc ((Below.refl _ W).alloc (Nat.le_refl _) _)) ⟨i,⟨a.alloc _,⟨v,d.alloc _,f.alloc _,trivial⟩⟩,b.alloc b.size _⟩ ⟨W.heap.size,d.lt,World.alloc_heap_new W _,rfl⟩
 case body =>
  rintro l Q x o W A ⟨r,O⟩ ⟨i,⟨a,⟨v,d,f,_⟩⟩,b⟩ ⟨h,ak,I,rfl⟩ ao;have p0:=I.cell0;have p2:=I.cell2;have d1:=d.cell;have aj:=b.size
  by_cases k:x.2.2=0
  ·have t:((x.2.2:Int) != 0)=false:=by rw[k];rfl
   have V:=Lib.hid k;clear k
   gi_wp2_with (gi_at_builtin;refine wpListIn_append_own _ rfl _ _ 36 rfl w.heap.size 3 i0 (.int .i64 0) 1 8 underlying36 hi ac ad ae rfl (by decide) _ _ _ rfl (f.alloc _) ⟨W.heap.size,0,none⟩ 1 1 [.int .i64 (x.1:Int)] rfl rfl (cell_one_new _ _ _) (by simp[Value.oneCell']) (by unfold maxLen;omega) (by omega) (by simp;omega) ?_;intro v' w1 C L _;obtain⟨g',ah,rfl⟩:=ownsRow_succ C;obtain⟨P,_⟩:=d.appended (by decide) f b.size (by omega) C L;have al:=P.cell;have am:=P.frozen;have R:=Lib.hid (BS (x:=x) i V.out a d f b C L))
   exact⟨R.out.1.from _,R.out.2.1,R.out.2.2⟩
  ·have t:((x.2.2:Int) != 0)=true:=by rw[bne_iff_ne];omega
   have Z:=a.cell;have f0:=a.frozen;have R:=Lib.hid (kV i k)
   gi_wp2
   exact⟨(KeepsOthers.setCell _ _ _).from _,⟨rfl,by rw[R.out];exact k⟩,a.set _,b.setCell (p:=⟨w.heap.size,0,none⟩) (Nat.le_refl _) _⟩
 case done =>
  rintro E ys W hD rfl ⟨i,⟨a,⟨v,d,f,_⟩⟩,b⟩ j;have Z:=a.cell;have f0:=a.frozen;have d1:=d.cell;have e:=kU i;have hE:=Lib.hid e;clear e;have S:=Lib.hid (Dn a f b);have B:=zW hE.out;have A:(fG s.data.toList).length=(fT s.data.toList).length:=by rw[B];simp
  have M:(fG s.data.toList).map kB=(fT s.data.toList).map λx=>kB x.1:=by rw[B];simp
  have T:=Lib.hid A;have U:=Lib.hid M;clear B A M
  rcases f.2 with⟨rfl,_⟩|⟨g,ag,ai,rfl,K⟩
  all_goals
   gi_wp2
   have H:=S.out.1.same E _ j rfl;obtain⟨e0,y,z⟩:=ym (by omega) H S.out.2.1 S.out.2.2.1 S.out.2.2.2;refine⟨by simp,.inl ⟨_,_,rfl,run_takeDeferred H,?_⟩⟩;refine⟨_,?_,⟨_,rfl,by rw[T.out,U.out];exact y,z⟩⟩;simp[results,Tryz.f186,go_sem,e0]
 case stop =>
  rintro E c Q W hD aa ⟨⟨rfl,N⟩,a,b⟩ j
  gi_wp2
  obtain⟨e0,y,z⟩:=ym (by omega) j a (World.ownsRow_nil _ _ _ _) b;refine⟨by simp,.inl ⟨_,_,rfl,run_takeDeferred j,?_⟩⟩;refine⟨_,?_,⟨_,rfl,by rw[xt (by rw[lP aa N];exact N)];exact y,z⟩⟩;simp[results,Tryz.f186,go_sem,e0]
end Go.Proofs.YtlpmiimgacfmkaaGreatDoor
