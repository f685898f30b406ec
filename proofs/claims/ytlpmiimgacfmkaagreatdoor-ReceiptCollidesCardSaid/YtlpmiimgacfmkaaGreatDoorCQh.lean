/- Part of the proof. -/
import Derived.OrdersHeld
import Derived.RangeFuncNested
import Derived.RangeFuncBound
import Derived.Shelf.RegionOpen
import Derived.OwnWalkIn
import Derived.LoopNIn
import Derived.LoopIn
import Derived.Test.YtlpmiimgacfmkaaGreatDoorCBase
set_option linter.all false
set_option maxHeartbeats 1000000
set_option maxRecDepth 100000
namespace Go.Proofs.YtlpmiimgacfmkaaGreatDoor
open Go.Proofs.Tryz List
open Go.RowKit
section
variable {P:Program} {ops:Array Oper} {md:Region.Mode} {Q:Exit->Act->World->Prop} {C:World->Prop} {n:Nat} {L:Array Bool->Act->World->Prop}
def wU(P:Program)(md:Region.Mode)(ops:Array Oper)(Q:Exit->Act->World->Prop)(C:World->Prop)(n:Nat)(L:Array Bool->Act->World->Prop):Nat->Array Bool->Act->World->Prop
 | 0,S,a,w=>L S a w
 | f+1,S,a,w=>Region.ready md ops S≠[]/\∀i∈Region.ready md ops S,i<n/\wpOp P ops Q i (λb w'=>C w'/\wU P md ops Q C n L f (S.setIfInBounds i true) b w') a w
def mj{g:Nat}(e:∀S a w,L S a w->wpAny P md ops Q g S a w)(f:Nat):∀(S:Array Bool) (a:Act) (w:World),wU P md ops Q C n L f S a w->wpAny P md ops Q (f+g) S a w:=by
 induction f with
 | zero=>intro S a w h;rw[Nat.zero_add];exact e S a w h
 | succ f k =>
  intro S a w h;rw[Nat.add_right_comm];exact⟨λd=>absurd d h.1,λi j=>wpOp_mono (λb w' c=>k _ b w' c.2) (h.2 i j).2⟩
def wV{i:Nat}{o:Oper}{v:Value}(x:ops[i]?=some o)(Z:Region.noSelect ops=true)(J:Region.sinkB md ops n=true)(D:Region.chainB md ops n=true)(I:n<ops.size)(r:i<n)
 (hQ:∀c a w,Q (.panic c) (a.put o.dst v) w->Q (.panic c) a w) (R:∀S a w,L S a w->∀j∈Region.ready md ops S,n<=j) (f:Nat) :
 ∀(S:Array Bool) (a:Act) (w:World),HeadInv md ops n S ->
  (∀j m,ops[j]?=some m->j≠i->S.getD j true=false->(∀e∈m.after,Region.binds md e=true->e.on≠i)->o.apart ops m=true) ->
  i∈Region.ready md ops S->YieldsIf P ops C o v a->C w->wU P md ops Q C n L f (S.setIfInBounds i true) (a.put o.dst v) w->wU P md ops Q C n L (f+1) S a w:=by
 have K:=Region.noSelect_spec Z
 induction f with
 | zero =>
  intro S a w u _ g t p H;have s:=(mem_ready.1 g).1;refine⟨λh=>by rw[h]at g;simp at g,λj l=>?_⟩
  by_cases d:j=i
  ·subst d;exact⟨r,t.wpOp x p ⟨p,H⟩⟩
  ·have y:=Nat.lt_of_not_le λh=>tail_waits J D I u _ i rfl r s j h l
   have:=R _ _ _ H j (ready_mono l d)
   omega
 | succ f ih =>
  intro S a w u B g t p H;have s:=(mem_ready.1 g).1;refine⟨λh=>by rw[h]at g;simp at g,λj l=>?_⟩
  by_cases d:j=i
  ·subst d;exact⟨r,t.wpOp x p ⟨p,H⟩⟩
  ·have y:=Nat.lt_of_not_le λh=>tail_waits J D I u _ i rfl r s j h l
   refine⟨y,?_⟩;have⟨F,m,z,N⟩:=mem_ready.1 l
   have Y:∀e∈m.after,Region.binds md e=true->e.on≠i:=by
    intro e T O U;have A:=N e T O;rw[U,getD_both s]at A;exact absurd A qs
   have hq:=wpOp_putIf z (B j m z d F Y) (λcs b=>K i o cs b x) (λcs b=>K j m cs b z) hQ t (H.2 j (ready_mono l d)).2;refine wpOp_mono (λM w' q=>?_) hq;refine⟨q.2.1,ih (S.setIfInBounds j true) M w' (u.set l y) ?_ (ready_mono g (Ne.symm d)) q.1 q.2.1 ?_⟩
   ·intro k ok V W G X
    refine B k ok V W ?_ X
    by_cases E:j=k
    ·subst E;exact F
    ·rw[getD_set_ne true E]at G;exact G
   ·rw[Array.setIfInBounds_comm _ _ d]
    exact q.2.2
def jh(P:Program)(md:Region.Mode)(ops:Array Oper)(Q:Exit->Act->World->Prop)(C:World->Prop)(n:Nat)(L:Array Bool->Act->World->Prop)(f:Nat)(S:Array Bool)(a:Act)(w:World):Prop:=HeadInv md ops n S->wU P md ops Q C n L f S a w
def fm{i:Nat}{d:Oper}{v:Value}{f:Nat}{S:Array Bool}{a:Act}{w:World}(b:(Region.noSelect ops && Region.sinkB md ops n && Region.chainB md ops n && decide (n<ops.size))=true)(p:∀S a w,L S a w->∀j∈Region.ready md ops S,n<=j)
 (g:ops[i]?=some d) (h:i<n) (e:(Region.free md ops S i && (Region.ready md ops S).contains i)=true)
 (hQ:∀c a w,Q (.panic c) (a.put d.dst v) w->Q (.panic c) a w) (q:YieldsIf P ops C d v a) (o:C w)
 (m:jh P md ops Q C n L f (S.setIfInBounds i true) (a.put d.dst v) w):jh P md ops Q C n L (f+1) S a w:=by
 simp only[Bool.and_eq_true,decide_eq_true_eq]at b e;intro l;have k:i∈Region.ready md ops S:=by simpa using e.2
 exact wV g b.1.1.1 b.1.1.2 b.1.2 b.2 h hQ p f S a w l (Region.free_spec g e.1) k q o (m (l.set k h))
def yS{i:Nat}{c:Oper}{f:Nat}{S:Array Bool}{a:Act}{w:World}(d:Region.ready md ops S=[i])(e:i<n)(m:ops[i]?=some c)
 (h:∀K:Act->World->Prop,(∀b w',C w'->jh P md ops Q C n L f (S.setIfInBounds i true) b w'->K b w')->if Region.wanted c (yielded ops a.tmps)=true then c.wp P a w K Q else K (a.put c.dst undef) w):jh P md ops Q C n L (f+1) S a w:=by
 intro p;refine⟨by rw[d];simp,λj g=>?_⟩;rw[d]at g;obtain rfl:j=i:=by simpa using g
 refine⟨e,?_⟩;have o:j∈Region.ready md ops S:=by rw[d];simp
 exact wpOp_step m λK l=>h K λb w' k hW=>l b w' ⟨k,hW (p.set o e)⟩
def iy{i j:Nat}{d e:Oper}{f:Nat}{S:Array Bool}{a:Act}{w:World}(c:Region.ready md ops S=[i,j])(l:i<n)(o:j<n)(s:ops[i]?=some d)(u:ops[j]?=some e)
 (q:∀K:Act->World->Prop,(∀b w',C w'->jh P md ops Q C n L f (S.setIfInBounds i true) b w'->K b w')->if Region.wanted d (yielded ops a.tmps)=true then d.wp P a w K Q else K (a.put d.dst undef) w)
 (r:∀K:Act->World->Prop,(∀b w',C w'->jh P md ops Q C n L f (S.setIfInBounds j true) b w'->K b w')->if Region.wanted e (yielded ops a.tmps)=true then e.wp P a w K Q else K (a.put e.dst undef) w):jh P md ops Q C n L (f+1) S a w:=by
 intro p;refine⟨by rw[c];simp,λm k=>?_⟩;have t:i∈Region.ready md ops S:=by rw[c];simp
 have v:j∈Region.ready md ops S:=by rw[c];simp
 rw[c]at k;simp only[mem_cons,not_mem_nil,or_false]at k
 rcases k with rfl|rfl
 ·exact⟨l,wpOp_step s λK h=>q K λb w' g hW=>h b w' ⟨g,hW (p.set t l)⟩⟩
 ·exact⟨o,wpOp_step u λK h=>r K λb w' g hW=>h b w' ⟨g,hW (p.set v o)⟩⟩
def eV{S:Array Bool}{a:Act}{w:World}(h:L S a w):jh P md ops Q C n L 0 S a w:=λ_=>h
def eU(C:World->Prop){m:Nat}{a:Act}{w:World}{l:List Oper}(n:Nat)(i:P.follows .mixedOrders=true)
 (h:jh P .any l.toArray Q C n (λS a w=>Region.seqB .any l.toArray (l.toArray.size - n) n S=true/\wpList P l.toArray Q (l.drop n) a w) n (Array.replicate l.toArray.size false) a w.drew) (p:n<=l.length):(Code.region m l.toArray true).wp P Q a w:=by
 have o:HeadInv .any l.toArray n (Array.replicate l.toArray.size false) :=
  ⟨qs,λj q _ f=>absurd f (by rw[getD_replicate_false];simp),λt _ k=>getD_in (by simpa using k) (getD_replicate_false _ _)⟩
 refine wp_region_any i ?_;have d:(l.drop n).length=l.toArray.size - n:=qs
 have b:=mj (g:=l.toArray.size - n) (λS e w' c=>by
  have:=wpAny_of_seq (md:=.any) (Q':=Q) (l.drop n) n S e w' (λj=>by simp[List.getElem?_drop]) (by rw[d];exact c.1) c.2
  rwa [d]at this) _ _ _ _ (h o)
 rw[show n+(l.toArray.size - n)=l.toArray.size by simp;omega]at b;exact b
def fh{l:List Oper}{g n:Nat}:∀(S:Array Bool) (a:Act) (w:World),(Region.seqB .any l.toArray g n S=true/\wpList P l.toArray Q (l.drop n) a w)->∀j∈Region.ready .any l.toArray S,n<=j:=λ_ _ _ h=>seqB_ready h.1
end
abbrev fc(_ : Nat)(P : Program)(md : Region.Mode)(ops : Array Oper)(Q : Exit -> Act -> World -> Prop)(C : World -> Prop)(n : Nat)(L : Array Bool -> Act -> World -> Prop)(f : Nat)(S : Array Bool)(a : Act)(w : World): Prop := jh P md ops Q C n L f S a w
def JI{P : Program}{ops : Array Oper}{Q : Exit -> Act -> World -> Prop}{C : World -> Prop}{n : Nat}{L : Array Bool -> Act -> World -> Prop}{i : Nat}{oi : Oper}{v : Value}{f : Nat}{S : Array Bool}{a : Act}{w : World}(hi : ops[i]? = some oi)(hy : YieldsIf P ops C oi v a)
    (h : fc (i + 1) P .any ops Q C n L f (S.setIfInBounds i true) (a.put oi.dst v) w) (hB : (Region.noSelect ops && Region.sinkB .any ops n && Region.chainB .any ops n && decide (n < ops.size)) = true := by kernel_rfl) (hdone : ∀S a w, L S a w -> ∀j ∈ Region.ready .any ops S, n <= j := by exact fh)
    (hin : i < n := by decide) (hf : (Region.free .any ops S i && (Region.ready .any ops S).contains i) = true := by kernel_rfl) (hQ : ∀c a w, Q (.panic c) (a.put oi.dst v) w -> Q (.panic c) a w := by exact λ_ _ _ h => h) (hC : C w := by assumption) : fc i P .any ops Q C n L (f + 1) S a w :=
  fm hB hdone hi hin hf hQ hy hC h
def JJ{P : Program}{ops : Array Oper}{Q : Exit -> Act -> World -> Prop}{C : World -> Prop}{n : Nat}{L : Array Bool -> Act -> World -> Prop}{i : Nat}{oi : Oper}{v : Value}{f : Nat}{S : Array Bool}{a : Act}{w : World}(hi : ops[i]? = some oi)(hy : ∀W, C W -> (execOp a.eval oi).run P W = .ok (.value v) W)
    (h : fc (i + 1) P .any ops Q C n L f (S.setIfInBounds i true) (a.put oi.dst v) w) (hw : Region.wanted oi (yielded ops a.tmps) = true := by rfl) (hB : (Region.noSelect ops && Region.sinkB .any ops n && Region.chainB .any ops n && decide (n < ops.size)) = true := by kernel_rfl) (hdone : ∀S a w, L S a w -> ∀j ∈ Region.ready .any ops S, n <= j := by exact fh)
    (hin : i < n := by decide) (hf : (Region.free .any ops S i && (Region.ready .any ops S).contains i) = true := by kernel_rfl) (hQ : ∀c a w, Q (.panic c) (a.put oi.dst v) w -> Q (.panic c) a w := by exact λ_ _ _ h => h) (hC : C w := by assumption) : fc i P .any ops Q C n L (f + 1) S a w :=
  fm hB hdone hi hin hf hQ (Or.inl ⟨hw, hy⟩) hC h
def gJ{P : Program}{ops : Array Oper}{Q : Exit -> Act -> World -> Prop}{C : World -> Prop}{n : Nat}{L : Array Bool -> Act -> World -> Prop}{i : Nat}{oi : Oper}{v : Value}{f : Nat}{S : Array Bool}{a : Act}{w : World}(hi : ops[i]? = some oi)
    (h : fc (i + 1) P .any ops Q C n L f (S.setIfInBounds i true) (a.put oi.dst v) w) (hw : Region.wanted oi (yielded ops a.tmps) = true := by rfl) (hy : ∀W, C W -> (execOp a.eval oi).run P W = .ok (.value v) W := by intro W hW; have hQ := HSS.out W hW; go_simp; try with_reducible rfl) (hB : (Region.noSelect ops && Region.sinkB .any ops n && Region.chainB .any ops n && decide (n < ops.size)) = true := by kernel_rfl) (hdone : ∀S a w, L S a w -> ∀j ∈ Region.ready .any ops S, n <= j := by exact fh)
    (hin : i < n := by decide) (hf : (Region.free .any ops S i && (Region.ready .any ops S).contains i) = true := by kernel_rfl) (hQ : ∀c a w, Q (.panic c) (a.put oi.dst v) w -> Q (.panic c) a w := by exact λ_ _ _ h => h) (hC : C w := by assumption) : fc i P .any ops Q C n L (f + 1) S a w :=
  fm hB hdone hi hin hf hQ (Or.inl ⟨hw, hy⟩) hC h
def mS{P : Program}{ops : Array Oper}{Q : Exit -> Act -> World -> Prop}{C : World -> Prop}{n : Nat}{L : Array Bool -> Act -> World -> Prop}{i : Nat}{oi : Oper}{f : Nat}{S : Array Bool}{a : Act}{w : World}(hi : ops[i]? = some oi)
    (h : jh P .any ops Q C n L f (S.setIfInBounds i true) (a.put oi.dst undef) w) (hw : Region.wanted oi (yielded ops a.tmps) = false := by rfl) (hB : (Region.noSelect ops && Region.sinkB .any ops n && Region.chainB .any ops n && decide (n < ops.size)) = true := by kernel_rfl) (hdone : ∀S a w, L S a w -> ∀j ∈ Region.ready .any ops S, n <= j := by exact fh)
    (hin : i < n := by decide) (hf : (Region.free .any ops S i && (Region.ready .any ops S).contains i) = true := by kernel_rfl) (hQ : ∀c a w, Q (.panic c) (a.put oi.dst undef) w -> Q (.panic c) a w := by exact λ_ _ _ h => h) (hC : C w := by assumption) : jh P .any ops Q C n L (f + 1) S a w :=
  fm hB hdone hi hin hf hQ (Or.inr ⟨hw, rfl⟩) hC h
def hO{P : Program}{md : Region.Mode}{ops : Array Oper}{Q : Exit -> Act -> World -> Prop}{C : World -> Prop}{n : Nat}{L : Array Bool -> Act -> World -> Prop}{i : Nat}{oi : Oper}{f : Nat}{S : Array Bool}{a : Act}{w : World}(hi : ops[i]? = some oi)
    (h : ∀K : Act -> World -> Prop, (∀b w', C w' -> jh P md ops Q C n L f (S.setIfInBounds i true) b w' -> K b w') -> oi.wp P a w K Q) (hr : Region.ready md ops S = [i] := by kernel_rfl) (hin : i < n := by decide) (hw : Region.wanted oi (yielded ops a.tmps) = true := by rfl) : jh P md ops Q C n L (f + 1) S a w :=
  yS hr hin hi λK c => by rw [if_pos hw]; exact h K c
def JK{P : Program}{md : Region.Mode}{ops : Array Oper}{Q : Exit -> Act -> World -> Prop}{C : World -> Prop}{n : Nat}{p : Array Bool -> Prop}{q : Act -> World -> Prop}{S : Array Bool}{a : Act}{w : World}(h : q a w)(hs : p S := by kernel_rfl): jh P md ops Q C n (λS a w => p S /\ q a w) 0 S a w := eV ⟨hs, h⟩
def uh(c:UInt8):Bool:=decide (48<=c.toNat) && decide (c.toNat<=57)
def kF(s:List UInt8)(a:Nat):Nat:=(((s.drop a).take 7).takeWhile uh).length
def lm(l:List UInt8):Nat:=l.foldl (λv c=>v*10+(c.toNat - 48)) 0
def yT(l:List UInt8)(c:UInt8):lm (l++[c])=lm l*10+(c.toNat - 48):=by simp[lm]
def sG{c:UInt8}(h:uh c=true):48<=c.toNat/\c.toNat<=57:=by
 simpa [uh]using h
def wW(l:List UInt8)(h:∀c∈l,uh c=true):lm l<10 ^ l.length:=by
 have g:∀(l:List UInt8) (v n:Nat),(∀c∈l,uh c=true)->v<10 ^ n->l.foldl (λv c=>v*10+(c.toNat - 48)) v<10 ^ (n+l.length):=by
  intro l
  induction l with
  | nil=>intro v n _ d;simpa using d
  | cons c l f =>
   intro v n b d;have i:=sG (b c (by simp));have:=f (v*10+(c.toNat - 48)) (n+1) (λx e=>b x (by simp[e])) (by rw[Nat.pow_succ];omega);simpa [Nat.add_assoc,Nat.add_comm 1]using this
 have:=g l 0 0 h (by simp);simpa [lm]using this
def vm(s:List UInt8)(a k:Nat)(r:k<=7)(q:a+k<=s.length)(j:∀c∈(s.drop a).take k,uh c=true)
 (l:a+k=s.length \/ k=7 \/ ∃c,s[a+k]?=some c/\uh c=false):kF s a=k:=by
 unfold kF
 have f:(s.drop a).take 7=(s.drop a).take k++((s.drop a).drop k).take (7 - k):=by
  have:7=k+(7 - k):=by omega
  conv=>lhs;rw[this]
  rw[List.take_add]
 have g:(((s.drop a).drop k).take (7 - k)).takeWhile uh=[]:=by
  rcases l with h|h|⟨c,b,i⟩
  ·rw[List.drop_drop,List.drop_eq_nil_of_le (by omega)];simp
  ·subst h;simp
  ·rw[List.drop_drop]
   have e:a+k<s.length:=by
    rcases Nat.lt_or_ge (a+k) s.length with h|h
    ·exact h
    ·rw[List.getElem?_eq_none h]at b;cases b
   rw[List.drop_eq_getElem_cons e];rw[List.getElem?_eq_getElem e]at b
   injection b with b
   rcases Nat.eq_zero_or_pos (7 - k)with d|d
   ·rw[d];simp
   ·obtain⟨m,n⟩:∃m,7 - k=m+1:=⟨7 - k - 1,by omega⟩
    rw[n,List.take_succ_cons,List.takeWhile_cons,b,i];simp
 rw[f,List.takeWhile_append_of_pos j,g];simp;omega
def Af(s:List UInt8)(a:Nat):kF s a<=7:=by
 unfold kF;have b:=(List.takeWhile_sublist uh (l:=(s.drop a).take 7)).length_le;have d:=List.length_take_le 7 (s.drop a);omega
def BL(s:List UInt8)(a:Nat)(e:a<=s.length):a+kF s a<=s.length:=by
 unfold kF;have b:=(List.takeWhile_sublist uh (l:=(s.drop a).take 7)).length_le;have d:=List.length_take_le' 7 (s.drop a);simp at b d;omega
abbrev kG:=Nat × Nat × Nat
def gA(s:List UInt8)(a b:Nat):Nat :=
 if b=8 then 9 else if a=s.length then 4 else if kF s a=0 then 6 else if s[a]?=some 48 then 3 else if 6<kF s a then 2 else 0
def gm(s:List UInt8)(a b:Nat):kG × Nat :=
 if gA s a b=0 then((lm ((s.drop a).take (kF s a)),a,0),a+kF s a)else((0,a,gA s a b),a)
def iz:Nat->List UInt8->Nat->Nat->List kG
 | 0,_,_,_=>[]
 | f+1,s,a,b =>
  (gm s a b).1::(if(gm s a b).1.2.2≠0 \/ (gm s a b).2=s.length then []
   else if s[(gm s a b).2]?≠some 46 then [(0,(gm s a b).2,6)]
   else iz f s ((gm s a b).2+1) (b+1))
def fO(s:List UInt8):List kG:=if s=[]then []else iz 9 s 0 0
def gF(s:List UInt8):Bool:=(fO s).all λp=>p.2.2 == 0
def fT(s:List UInt8):List Nat:=if gF s then(fO s).map (·.1)else []
def wX{s:List UInt8}{a c o p en:Nat}(d:a<=s.length)(h:gm s a c=((o,p,0),en)):c≠8/\en<=s.length:=by
 unfold gm at h;split at h
 ·rename_i b
  have e:c≠8:=by rintro rfl;simp[gA]at b
  have f:en=a+kF s a:=by simp at h;exact h.2.symm
  exact⟨e,by rw[f];exact BL s a d⟩
 ·rename_i b
  simp at h;exact absurd h.1.2.2 b
section
variable {s:List UInt8} {a c o p er en:Nat}
def p9(e:c<=8)(h:gm s a c=((o,p,er),en))(b:er≠0 \/ en=s.length):iz (9 - c) s a c=[(o,p,er)]:=by
 obtain⟨m,d⟩:∃m,9 - c=m+1:=⟨8 - c,by omega⟩;rw[d,iz,h];simp only;rw[if_pos b]
def wZ(g:c<=8)(h:gm s a c=((o,p,er),en))(d:er=0)(e:en≠s.length)(b:s[en]?≠some 46):iz (9 - c) s a c=[(o,p,er),(0,en,6)]:=by
 obtain⟨m,f⟩:∃m,9 - c=m+1:=⟨8 - c,by omega⟩;rw[f,iz,h];simp only;rw[if_neg (by simp[d,e]),if_pos b]
def xa(i:c<=8)(h:gm s a c=((o,p,er),en))(d:er=0)(e:en≠s.length)(b:s[en]?=some 46):iz (9 - c) s a c=(o,p,er)::iz (9 - (c+1)) s (en+1) (c+1):=by
 obtain⟨m,f⟩:∃m,9 - c=m+1:=⟨8 - c,by omega⟩;have g:9 - (c+1)=m:=by omega
 rw[f,g,iz,h];simp only;rw[if_neg (by simp[d,e]),if_neg (by simp[b])]
def qe(d:c<=8)(h:gm s a c=((o,p,er),en)):∃r,iz (9 - c) s a c=(o,p,er)::r:=by
 obtain⟨m,b⟩:∃m,9 - c=m+1:=⟨8 - c,by omega⟩;rw[b,iz,h];exact⟨_,rfl⟩
end
example:gF [55,46,49]=true:=by decide
example:fT [55,46,49]=[7,1]:=by decide
example:gF [48]=false:=by decide
example:gF [55,46]=false:=by decide
def kP(c:UInt8)(w:World):
 Calls prog 272 #[.int .u8 (c.toNat:Int)] w λe w'=>e=.returned (.bool (uh c))/\w=w':=by
 by_cases b:48<=c.toNat
 ·have d:(48:Int)<=(c.toNat:Int):=by omega
  go_enter func272,ntmps272
  go_wp2
  go_ret
  refine⟨?_,rfl⟩;have e:decide ((c.toNat:Int)<=57)=decide (c.toNat<=57):=by rw[Bool.eq_iff_iff];simp;omega
  rw[e];simp[uh,b]
 ·have d:¬(48:Int)<=(c.toNat:Int):=by omega
  go_enter func272,ntmps272
  go_wp2
  go_ret
  refine⟨?_,rfl⟩;simp[uh,b]
def kQ(p:kG):Value:=.agg #[.int .i64 (p.1:Int),.int .i64 (p.2.1:Int),.int .i64 (p.2.2:Int)]
def yU(s:List UInt8)(a k:Nat)(c:UInt8)(h:s[a+k]?=some c):(s.drop a).take (k+1)=(s.drop a).take k++[c]:=by
 have d:k<(s.drop a).length:=by
  have:=(List.getElem?_eq_some_iff.1 h).1;simp;omega
 rw[take_succ_eq_append_getElem d]
 congr 1
 have b:=(List.getElem?_eq_some_iff.1 h).2;simp[b]
def il{s:List UInt8}{a count e:Nat}(h:gA s a count=e)(b:e≠0):gm s a count=((0,a,e),a):=by
 unfold gm;rw[if_neg (by omega),h]
def pI{s:List UInt8}{a count k:Nat}(h:gA s a count=0)(b:kF s a=k):gm s a count=((lm ((s.drop a).take k),a,0),a+k):=by
 unfold gm;rw[if_pos h,b]
def iC{s:ByteArray}{a:Nat}(h:a<s.size):s.data.toList[a]?=some s[a]:=by
 have b:a<s.data.toList.length:=by simpa using h
 rw[List.getElem?_eq_getElem b];rfl
def fL(s:ByteArray):s.data.toList.length=s.size:=by simp
section
variable {s:ByteArray} {a count k:Nat}
def Ji(h:((count:Int) == 8)=true):gA s.data.toList a count=9:=by
 have:count=8:=by have:=eq_of_beq h;omega
 unfold gA;rw[if_pos this]
def JB(h:((count:Int) == 8)=false)(b:((a:Int) == (s.size:Int))=true):gA s.data.toList a count=4:=by
 have h:count≠8:=by have:=ne_of_beq_false h;omega
 have b:a=s.size:=by have:=eq_of_beq b;omega
 unfold gA;rw[if_neg h,if_pos (by rw[fL];exact b)]
def JC(d:kF s.data.toList a=k)(h:((count:Int) == 8)=false)(b:((a:Int) == (s.size:Int))=false)(c:((a:Int)+k == (a:Int))=true):gA s.data.toList a count=6:=by
 have h:count≠8:=by have:=ne_of_beq_false h;omega
 have b:a≠s.size:=by have:=ne_of_beq_false b;omega
 have c:k=0:=by have:=eq_of_beq c;omega
 unfold gA;rw[if_neg h,if_neg (by rw[fL];exact b),if_pos (by omega)]
def Jj(f:kF s.data.toList a=k)(h:((count:Int) == 8)=false)(b:((a:Int) == (s.size:Int))=false)(d:((a:Int)+k == (a:Int))=false)(e:a<s.size)(c:(((s[a]).toNat:Int) == 48)=true):gA s.data.toList a count=3:=by
 have h:count≠8:=by have:=ne_of_beq_false h;omega
 have b:a≠s.size:=by have:=ne_of_beq_false b;omega
 have d:k≠0:=by have:=ne_of_beq_false d;omega
 have c:s[a]=48:=by have:=eq_of_beq c;exact UInt8.toNat_inj.1 (by simp;omega)
 unfold gA;rw[if_neg h,if_neg (by rw[fL];exact b),if_neg (by omega),if_pos (by rw[iC e,c])]
def Ju(i:kF s.data.toList a=k)(h:((count:Int) == 8)=false)(c:((a:Int) == (s.size:Int))=false)(d:((a:Int)+k == (a:Int))=false)(f:a<s.size)(b:(((s[a]).toNat:Int) == 48)=false)(g:6<(a:Int)+k - a):gA s.data.toList a count=2:=by
 have h:count≠8:=by have:=ne_of_beq_false h;omega
 have c:a≠s.size:=by have:=ne_of_beq_false c;omega
 have d:k≠0:=by have:=ne_of_beq_false d;omega
 have b:s[a]≠48:=by intro e;rw[e]at b;simp at b
 unfold gA;rw[if_neg h,if_neg (by rw[fL];exact c),if_neg (by omega),if_neg (by rw[iC f];simpa using b),if_pos (by omega)]
def Jk(i:kF s.data.toList a=k)(h:((count:Int) == 8)=false)(c:((a:Int) == (s.size:Int))=false)(d:((a:Int)+k == (a:Int))=false)(f:a<s.size)(b:(((s[a]).toNat:Int) == 48)=false)(g:(a:Int)+k - a<=6):gA s.data.toList a count=0:=by
 have h:count≠8:=by have:=ne_of_beq_false h;omega
 have c:a≠s.size:=by have:=ne_of_beq_false c;omega
 have d:k≠0:=by have:=ne_of_beq_false d;omega
 have b:s[a]≠48:=by intro e;rw[e]at b;simp at b
 unfold gA;rw[if_neg h,if_neg (by rw[fL];exact c),if_neg (by omega),if_neg (by rw[iC f];simpa using b),if_neg (by omega)]
end
def BM(s:ByteArray)(a count:Nat)(w:World)(B:s.size<=9223372036854775000)(u:a<=s.size)(t:count<=1000):
 Calls prog 247 #[.string s,.int .i64 (a:Int),.int .i64 (count:Int)] w λe w' =>
  e=.returned (.tuple #[kQ (gm s.data.toList a count).1,.int .i64 ((gm s.data.toList a count).2:Int)])/\Below w.heap.size w w':=by
 go_enter func247,ntmps247
 go_wp2
 go_loop [8,9] (λe o=>∃k:Nat,k<=7/\a+k<=s.size/\e=.int .i64 ((a:Int)+k)/\(∀c∈(s.data.toList.drop a).take k,uh c=true)/\o=.int .i64 (lm ((s.data.toList.drop a).take k):Int)) (λe _=>s.size - (intOf e).toNat)
 case atStart=>exact⟨0,by omega,by omega,by simp,by simp,by simp[lm]⟩
 case round =>
  obtain⟨k,l,A,rfl,j,rfl⟩:=hrel;have h:=Lib.hid j
  have C:lm ((s.data.toList.drop a).take k)<10 ^ 7:=by
   have q:=wW _ j;have f:((s.data.toList.drop a).take k).length<=7:=by have:=length_take_le k (s.data.toList.drop a);omega
   exact Nat.lt_of_lt_of_le q (Nat.pow_le_pow_right (by omega) f)
  clear j
  by_cases p:a+k<s.size
  ·by_cases z:k<=6
   ·by_cases g:uh s[a+k]=true
    ·have x:=sG g
     have m:=Lib.hid (yU s.data.toList a k s[a+k] (iC p))
     go_wp2_with (go_at_call 272;refine(kP _ _).mono ?_;rintro e w' ⟨rfl,rfl⟩)
     go_round
     case rel =>
      refine⟨k+1,by omega,by omega,by go_num,?_,?_⟩
      ·rw[m.out]
       intro c r
       rcases mem_append.1 r with i|i
       ·exact h.out c i
       ·rw[mem_singleton]at i;rw[i];exact g
      ·rw[m.out,yT]
       congr 1
       omega
     case measure=>simp[intOf];omega
    ·have d:=Lib.hid (vm s.data.toList a k l (by rw[fL];omega) h.out (.inr (.inr ⟨_,iC p,by simpa using g⟩)))
     have y:uh s[a+k]=false:=by simpa using g
     clear g
     go_wp2_with (go_at_call 272;refine(kP _ _).mono ?_;rintro e w' ⟨rfl,rfl⟩)
     all_goals first
      | (have b:=il (Ji (s:=s) (a:=a) (by assumption)) (by decide);exact bodyPost_ret (v:=.tuple #[.agg #[.int .i64 0,.int .i64 (a:Int),.int .i64 9],.int .i64 (a:Int)]) (by simp[results,results247,go_sem]) rfl ⟨by rw[b];rfl,(Below.refl _ _).alloc (Nat.le_refl _) _⟩)
      | (exact bodyPost_ret (v:=.tuple #[.agg #[.int .i64 0,.int .i64 (a:Int),.int .i64 4],.int .i64 (a:Int)]) (by simp[results,results247,go_sem]) rfl ⟨by rw[b];rfl,(Below.refl _ _).alloc (Nat.le_refl _) _⟩)
      | (have b:=il (JC (s:=s) (a:=a) d.out (by assumption) (by assumption) (by assumption)) (by decide);exact bodyPost_ret (v:=.tuple #[.agg #[.int .i64 0,.int .i64 (a:Int),.int .i64 6],.int .i64 (a:Int)]) (by simp[results,results247,go_sem]) rfl ⟨by rw[b];rfl,(Below.refl _ _).alloc (Nat.le_refl _) _⟩)
      | (have b:=il (Jj (s:=s) (a:=a) d.out (by assumption) (by assumption) (by assumption) (by assumption) (by assumption)) (by decide);exact bodyPost_ret (v:=.tuple #[.agg #[.int .i64 0,.int .i64 (a:Int),.int .i64 3],.int .i64 (a:Int)]) (by simp[results,results247,go_sem]) rfl ⟨by rw[b];rfl,(Below.refl _ _).alloc (Nat.le_refl _) _⟩)
      | (exact bodyPost_ret (v:=.tuple #[.agg #[.int .i64 0,.int .i64 (a:Int),.int .i64 2],.int .i64 (a:Int)]) (by simp[results,results247,go_sem]) rfl ⟨by rw[b];rfl,(Below.refl _ _).alloc (Nat.le_refl _) _⟩)
      | (have b:=pI (Jk (s:=s) (a:=a) d.out (by assumption) (by assumption) (by assumption) (by assumption) (by assumption) (by assumption)) d.out;exact bodyPost_ret (v:=.tuple #[.agg #[.int .i64 (lm ((s.data.toList.drop a).take k):Int),.int .i64 (a:Int),.int .i64 0],.int .i64 ((a:Int)+k)]) (by simp[results,results247,go_sem]) rfl ⟨by rw[b];rfl,(Below.refl _ _).alloc (Nat.le_refl _) _⟩)
      | (exfalso;have f:((a:Int) == (s.size:Int))=false:=by assumption
         have:=ne_of_beq_false f;omega)
   ·have n:k=7:=by omega
    have d:=Lib.hid (vm s.data.toList a k l (by rw[fL];omega) h.out (.inr (.inl n)));clear n
    go_wp2_with (go_at_call 272;refine(kP _ _).mono ?_;rintro e w' ⟨rfl,rfl⟩)
    all_goals first
     | (have b:=il (Ji (s:=s) (a:=a) (by assumption)) (by decide);exact bodyPost_ret (v:=.tuple #[.agg #[.int .i64 0,.int .i64 (a:Int),.int .i64 9],.int .i64 (a:Int)]) (by simp[results,results247,go_sem]) rfl ⟨by rw[b];rfl,(Below.refl _ _).alloc (Nat.le_refl _) _⟩)
     | (exact bodyPost_ret (v:=.tuple #[.agg #[.int .i64 0,.int .i64 (a:Int),.int .i64 4],.int .i64 (a:Int)]) (by simp[results,results247,go_sem]) rfl ⟨by rw[b];rfl,(Below.refl _ _).alloc (Nat.le_refl _) _⟩)
     | (exact bodyPost_ret (v:=.tuple #[.agg #[.int .i64 0,.int .i64 (a:Int),.int .i64 6],.int .i64 (a:Int)]) (by simp[results,results247,go_sem]) rfl ⟨by rw[b];rfl,(Below.refl _ _).alloc (Nat.le_refl _) _⟩)
     | (have b:=il (Jj (s:=s) (a:=a) d.out (by assumption) (by assumption) (by assumption) (by assumption) (by assumption)) (by decide);exact bodyPost_ret (v:=.tuple #[.agg #[.int .i64 0,.int .i64 (a:Int),.int .i64 3],.int .i64 (a:Int)]) (by simp[results,results247,go_sem]) rfl ⟨by rw[b];rfl,(Below.refl _ _).alloc (Nat.le_refl _) _⟩)
     | (have b:=il (Ju (s:=s) (a:=a) d.out (by assumption) (by assumption) (by assumption) (by assumption) (by assumption) (by assumption)) (by decide);exact bodyPost_ret (v:=.tuple #[.agg #[.int .i64 0,.int .i64 (a:Int),.int .i64 2],.int .i64 (a:Int)]) (by simp[results,results247,go_sem]) rfl ⟨by rw[b];rfl,(Below.refl _ _).alloc (Nat.le_refl _) _⟩)
     | (have b:=pI (Jk (s:=s) (a:=a) d.out (by assumption) (by assumption) (by assumption) (by assumption) (by assumption) (by assumption)) d.out;exact bodyPost_ret (v:=.tuple #[.agg #[.int .i64 (lm ((s.data.toList.drop a).take k):Int),.int .i64 (a:Int),.int .i64 0],.int .i64 ((a:Int)+k)]) (by simp[results,results247,go_sem]) rfl ⟨by rw[b];rfl,(Below.refl _ _).alloc (Nat.le_refl _) _⟩)
     | (exfalso;have f:((a:Int) == (s.size:Int))=false:=by assumption
        have:=ne_of_beq_false f;omega)
  ·have d:=Lib.hid (vm s.data.toList a k l (by rw[fL];omega) h.out (.inl (by rw[fL];omega)))
   go_wp2_with (go_at_call 272;refine(kP _ _).mono ?_;rintro e w' ⟨rfl,rfl⟩)
   all_goals first
    | (have b:=il (Ji (s:=s) (a:=a) (by assumption)) (by decide);exact bodyPost_ret (v:=.tuple #[.agg #[.int .i64 0,.int .i64 (a:Int),.int .i64 9],.int .i64 (a:Int)]) (by simp[results,results247,go_sem]) rfl ⟨by rw[b];rfl,(Below.refl _ _).alloc (Nat.le_refl _) _⟩)
    | (have b:=il (JB (s:=s) (a:=a) (by assumption) (by assumption)) (by decide);exact bodyPost_ret (v:=.tuple #[.agg #[.int .i64 0,.int .i64 (a:Int),.int .i64 4],.int .i64 (a:Int)]) (by simp[results,results247,go_sem]) rfl ⟨by rw[b];rfl,(Below.refl _ _).alloc (Nat.le_refl _) _⟩)
    | (exact bodyPost_ret (v:=.tuple #[.agg #[.int .i64 0,.int .i64 (a:Int),.int .i64 6],.int .i64 (a:Int)]) (by simp[results,results247,go_sem]) rfl ⟨by rw[b];rfl,(Below.refl _ _).alloc (Nat.le_refl _) _⟩)
    | (have b:=il (Jj (s:=s) (a:=a) d.out (by assumption) (by assumption) (by assumption) (by assumption) (by assumption)) (by decide);exact bodyPost_ret (v:=.tuple #[.agg #[.int .i64 0,.int .i64 (a:Int),.int .i64 3],.int .i64 (a:Int)]) (by simp[results,results247,go_sem]) rfl ⟨by rw[b];rfl,(Below.refl _ _).alloc (Nat.le_refl _) _⟩)
    | (have b:=il (Ju (s:=s) (a:=a) d.out (by assumption) (by assumption) (by assumption) (by assumption) (by assumption) (by assumption)) (by decide);exact bodyPost_ret (v:=.tuple #[.agg #[.int .i64 0,.int .i64 (a:Int),.int .i64 2],.int .i64 (a:Int)]) (by simp[results,results247,go_sem]) rfl ⟨by rw[b];rfl,(Below.refl _ _).alloc (Nat.le_refl _) _⟩)
    | (have b:=pI (Jk (s:=s) (a:=a) d.out (by assumption) (by assumption) (by assumption) (by assumption) (by assumption) (by assumption)) d.out;exact bodyPost_ret (v:=.tuple #[.agg #[.int .i64 (lm ((s.data.toList.drop a).take k):Int),.int .i64 (a:Int),.int .i64 0],.int .i64 ((a:Int)+k)]) (by simp[results,results247,go_sem]) rfl ⟨by rw[b];rfl,(Below.refl _ _).alloc (Nat.le_refl _) _⟩)
    | (exfalso;have f:((a:Int) == (s.size:Int))=false:=by assumption
       have:=ne_of_beq_false f;omega)
def D8(s:ByteArray)(a count o p c b:Nat)(w:World)(j:s.size<=9223372036854775000)(d:a<=s.size)(g:count<=1000)(i:gm s.data.toList a count=((o,p,c),b)):
 Calls prog 247 #[.string s,.int .i64 (a:Int),.int .i64 (count:Int)] w λe w' =>
  e=.returned (.tuple #[.agg #[.int .i64 (o:Int),.int .i64 (p:Int),.int .i64 (c:Int)],.int .i64 (b:Int)])/\Below w.heap.size w w':=by
 refine(BM s a count w j d g).mono λe w' ⟨h,f⟩=>⟨?_,f⟩;rw[h,i];rfl
def mZ{s:ByteArray}(h:s.data.toList≠[]):s.toList.isEmpty=false:=by
 rw[ByteArray.toList_eq];simpa using h
def sH{s:ByteArray}(h:s.data.toList=[]):s.toList.isEmpty=true:=by
 rw[ByteArray.toList_eq,h];rfl
open Go.RowKit Go.Shelf
attribute [local go_sem] Oper.semAt_some
def lO(W b:World):Prop:=∀(k:Nat) (cs:Array Value) (t:TypeId) (a:Nat × Nat),(t=325 \/ t=9)->W.heap[k]?=some (.cells cs t a)->b.heap[k]?=some (.cells cs t a)
def qY{A B C:World}(h:lO A B)(k:lO B C):lO A C:=λi cs t a b c=>k i cs t a b (h i cs t a b c)
def Ag{w:World}(W:World)(l:Nat)(o d:Obj)(_:w.heap.size<=l)(h:W.heap[l]?=some o)(b:o.isCells=false)(_:o.isWalk=false):lO W (W.putObj l d):=by
 intro k cs t e _ a
 have c:k≠l:=by
  rintro rfl;rw[a]at h
  injection h with h
  subst h;simp[Obj.isCells]at b
 rw[World.putObj_heap_other c];exact a
def yV(W:World):lO W W:=λ_ _ _ _ _ h=>h
def mo{W a:World}(h:Below W.heap.size W a):lO W a:=λk cs t d _ b=>by
 have c:=(Array.getElem?_eq_some_iff.1 b).1;rw[h.block k c];exact b
def xh(n:Nat)(s:ByteArray)(w:World):
 CallsIn Fence.wide n prog 197 #[.string s] w λe w'=>e=.returned (.func (.func 246) #[] #[.pointer (some ⟨w.heap.size,0,none⟩)])/\w'=w.alloc (.cells #[.string s] 9):=by
 refine callsIn_of_wp func197 rfl trivial ?_ rfl;simp only[ntmps197,size_toArray,length_cons,length_nil,Nat.reduceAdd,Nat.reduceSub,Array.replicate_succ,Array.replicate_zero,push_toArray,append_toArray,nil_append,cons_append]
 gi_wp2
 go_ret
 exact⟨rfl,rfl⟩
def vn{a w:World}(h:Below a.heap.size a w):a.grownBy w none:=⟨h.os,h.tape,h.output,h.size,λi b _=>h.block i b⟩
def BN(n:Nat)(an:1<=n)(l i:Nat)(s:ByteArray)(hs:s.size<=9223372036854775000)(F:s.data.toList≠[])(J N:List kG->World->Prop)
 (hJ:∀b (X Y:World),J b X->Below X.heap.size X Y->J b Y)
 (P:∀b x W,J b W->b.length<(fO s.data.toList).length->YieldAt Fence.wide (n - 1) prog l #[kQ x] W λe j =>
  (e=.returned (.bool true)/\J (b++[x]) j/\lO W j) \/ (e=.returned (.bool false)/\N (b++[x]) j))
 (W:World) (ah:W.heap[i]?=some (.cells #[.string s] 9 (0,0))) (h0:J [] W) :
 CallsIn Fence.wide n prog 246 #[.func (.yield l) #[] #[],.pointer (some ⟨i,0,none⟩)] W λe j=>(∃v,e=.returned v) /\
  ((∃ys,ys=fO s.data.toList/\J ys j) \/ (∃b,b <+: fO s.data.toList/\N b j)):=by
 have aC:0<s.size:=by
  rw[<-fL];exact length_pos_iff.2 F
 refine callsIn_of_wp func246 rfl trivial ?_ rfl;simp only[ntmps246,size_toArray,length_cons,length_nil,Nat.reduceAdd,Nat.reduceSub,Array.replicate_succ,Array.replicate_zero,push_toArray,append_toArray,nil_append,cons_append]
 gi_wp2
 gi_loopw [3,4] (λat_ B wr=>∃(b:List kG) (a c:Nat),at_=.int .i64 (a:Int)/\B=.int .i64 (c:Int)/\a<=s.size/\c<=8/\fO s.data.toList=b++iz (9 - c) s.data.toList a c/\J b wr/\wr.heap[i]?=some (.cells #[.string s] 9 (0,0)))
  (λ_ B _=>9 - (intOf B).toNat)
 case atStart=>exact⟨[],0,0,rfl,rfl,by omega,by omega,by simp[fO,F],h0,ah⟩
 case round =>
  obtain⟨b,a,c,rfl,rfl,Q,k,U,aj,C⟩:=hrel;have h:=Lib.hid U;have K:=Lib.hid C;have ax:wr.cell? ⟨i,0,none⟩=some (.string s):=by simp[World.cell?,C]
  have aB:=mZ F;clear U C;obtain⟨⟨⟨o,p,f⟩,d⟩,T⟩:∃r,gm s.data.toList a c=r:=⟨_,rfl⟩;have g:=Lib.hid T;clear T
  have ao:b.length<(fO s.data.toList).length:=by
   have⟨r,H⟩:=qe k g.out;rw[h.out,H];simp
  gi_wp2_with (refine⟨trivial,?_⟩;gi_at_call 247;refine(callsIn_wide.2 (D8 s a c o p f d _ hs Q (by omega) g.out)).mono ?_;rintro e w' ⟨rfl,R⟩)
  have S:Below wr.heap.size wr (w'.alloc (.cells #[.int .i64 (o:Int),.int .i64 (p:Int),.int .i64 (f:Int)] 325)):=R.alloc R.size _;have V:=World.alloc_heap_new w' (.cells #[.int .i64 (o:Int),.int .i64 (p:Int),.int .i64 (f:Int)] 325)
  have O:(w'.alloc (.cells #[.int .i64 (o:Int),.int .i64 (p:Int),.int .i64 (f:Int)] 325)).heap[i]?=some (.cells #[.string s] 9 (0,0)):=by
   have z:=(Array.getElem?_eq_some_iff.1 K.out).1;rw[S.block i z];exact K.out
  have⟨fn,aE,ar,au,A,hR⟩:=P b (o,p,f) _ (hJ b _ _ aj S) ao;simp only[kQ]at A;have HX:=Lib.hid V;have aa:=Lib.hid O;clear V O;rw[A];refine⟨λ_=>an,hR.mono ?_⟩;rintro e q (⟨rfl,w,y⟩|⟨rfl,ak⟩)
  ·have I:=y _ _ _ _ (.inl rfl) HX.out
   have D:=y _ _ _ _ (.inr rfl) aa.out;have av:q.cell? ⟨w'.heap.size,2,none⟩=some (.int .i64 (f:Int)):=by simp[World.cell?,I]
   have ay:q.cell? ⟨i,0,none⟩=some (.string s):=by simp[World.cell?,D]
   have ab:=Lib.hid D;have aq:=Lib.hid I;have HK:=Lib.hid y;clear I D y A
   by_cases t:f=0
   ·have E:=wX (by rw[fL];exact Q) (t ▸ g.out)
    rw[fL]at E;have az:=E.2;have aw:c<=7:=by omega
    have t1:((f:Int) != 0)=false:=by subst t;rfl
    have L:=Lib.hid t;clear t E
    by_cases u:d=s.size
    ·have t2:((d:Int) == (s.size:Int))=true:=by simp[u]
     have ad:=Lib.hid u;clear u
     gi_wp2
     refine bodyPost_ret (results_none rfl _ _ _) rfl ?_;exact⟨⟨_,rfl⟩,.inl ⟨_,by rw[h.out,p9 k g.out (.inr (by rw[fL];exact ad.out))],w⟩⟩
    ·have z:d<s.size:=by omega
     have t2:((d:Int) == (s.size:Int))=false:=by simp;omega
     by_cases m:s[d]=46
     ·have t3:(((s[d]).toNat:Int) != 46)=false:=by rw[m];rfl
      have ac:=Lib.hid m;clear m
      gi_wp2
      go_roundw
      case rel=>exact⟨b++[(o,p,f)],d+1,c+1,by go_num,by go_num,by omega,by omega,by rw[h.out,xa k g.out L.out (by rw[fL];exact u) (by rw[iC z,ac.out])];simp,w,ab.out⟩
      case measure=>simp[intOf];omega
     ·have t3:(((s[d]).toNat:Int) != 46)=true:=by
       rw[bne_iff_ne];intro e;exact m (UInt8.toNat_inj.1 (by simp;omega))
      have G:=wZ k g.out L.out (by rw[fL];exact u) (by rw[iC z];simpa using m);have⟨ag,ap,ae,af,Z,am⟩:=P _ (0,d,6) q w (by rw[h.out,G];simp);have aD:(Instr.yield l #[.agg #[.int .i64 0,.int .i64 (d:Int),.int .i64 6]]).run prog q=.ok (.round l ag ap ae af) q:=Z;clear Z;have M:=Lib.hid G;clear G m
      gi_wp2
      refine am.mono ?_;rintro e W4 (⟨rfl,ai,aA⟩|⟨rfl,al⟩)
      ·gi_wp2
       refine bodyPost_ret (results_none rfl _ _ _) rfl ?_;exact⟨⟨_,rfl⟩,.inl ⟨_,by rw[h.out,M.out];simp,ai⟩⟩
      ·gi_wp2
       refine bodyPost_ret (results_none rfl _ _ _) rfl ?_;exact⟨⟨_,rfl⟩,.inr ⟨_,by rw[h.out,M.out];simp,al⟩⟩
   ·have t1:((f:Int) != 0)=true:=by rw[bne_iff_ne];omega
    gi_wp2
    refine bodyPost_ret (results_none rfl _ _ _) rfl ?_;exact⟨⟨_,rfl⟩,.inl ⟨_,by rw[h.out,p9 k g.out (.inl t)],w⟩⟩
  ·clear A
   gi_wp2
   refine bodyPost_ret (results_none rfl _ _ _) rfl ?_;have⟨r,H⟩:=qe k g.out;exact⟨⟨_,rfl⟩,.inr ⟨_,⟨r,by rw[h.out,H];simp⟩,ak⟩⟩
section
variable {P:Program} {r n:Nat} {ops:Array Oper} {Q:Exit->Act->World->Prop} {md:Region.Mode}
def Oper.plainB(o:Oper):Bool:=match o.op with
 | .defer _=>false
 | _=>true
def Oper.plain_spec{o:Oper}(h:Oper.plainB o=true):∀c,o.op≠.defer c:=by
 intro c a;simp[Oper.plainB,a]at h
def ui{o:Oper}{a:Act}{w:World}{K:Act->World->Prop}(g:Oper.plainB o=true)(h:o.wp P a w K Q):o.wpIn (Fence.wide.inRound r) n P a w K Q:=by
 refine⟨λ_ _=>trivial,?_⟩;rw[Oper.semAt_eq _ _ _ (Oper.plain_spec g)];unfold Oper.wp at h;generalize (execOp a.eval o).run P w=i at h ⊢
 cases i with
 | ok x w' =>
  cases x with
  | value v=>exact h
  | skip=>exact h
  | defer d=>exact h
  | enter f args=>exact⟨λh=>by simp[Fence.wide]at h,callsIn_wide.2 h⟩
  | row rw args=>exact⟨λh=>by simp[Fence.wide]at h,λc cs _=>by
   obtain ⟨v, j, b, e⟩ := h c cs
   exact⟨v, j, b, stepsIn_wide.2 e⟩⟩
  | _=>exact h.elim
 | halt x w'=>cases x <;> exact h
def BO{i:Nat}{K:Act->World->Prop}{a:Act}{w:World}(e:∀o,ops[i]?=some o->Oper.plainB o=true)(hQ:∀a w,¬Q .outgrown a w)(h:wpOp P ops Q i K a w):wpOpIn (Fence.wide.inRound r) n P ops Q i K a w:=by
 unfold wpOp at h;unfold wpOpIn
 cases b:ops[i]? with
 | none=>simpa [b]using h
 | some o =>
  simp only[b]at h ⊢;split at h
  ·rename_i c
   rw[if_pos c]
   rcases h with h|⟨_,d,f,h⟩
   ·exact ui (e o b) h
   ·exact absurd h (hQ d f)
  ·rename_i c
   rw[if_neg c];exact⟨λ_ _=>trivial,h⟩
def yW(d:∀(i:Nat) (o:Oper),ops[i]?=some o->Oper.plainB o=true)(hQ:∀a w,¬Q .outgrown a w)(f:Nat):∀(S:Array Bool) (a:Act) (w:World),wpAny P md ops Q f S a w->wpAnyIn (Fence.wide.inRound r) n P md ops Q f S a w:=by
 induction f with
 | zero=>intro S a w h;exact h
 | succ f g =>
  intro S a w h;exact⟨h.1,λi e=>wpOpIn_mono (λb w' c=>g _ b w' c) (BO (d i) hQ (h.2 i e))⟩
end
section
variable {P:Program} {r m:Nat} {Q:Exit->Act->World->Prop}
def yX(C:World->Prop){a:Act}{w:World}{l:List Oper}(n:Nat)
 (h:jh P .any l.toArray Q C n (λS a w=>Region.seqB .any l.toArray (l.toArray.size - n) n S=true/\wpList P l.toArray Q (l.drop n) a w) n (Array.replicate l.toArray.size false) a w) (o:n<=l.length):wpAny P .any l.toArray Q l.toArray.size (Array.replicate l.toArray.size false) a w:=by
 have k:HeadInv .any l.toArray n (Array.replicate l.toArray.size false) :=
  ⟨qs,λj p _ f=>absurd f (by rw[getD_replicate_false];simp),λt _ i=>getD_in (by simpa using i) (getD_replicate_false _ _)⟩
 have d:(l.drop n).length=l.toArray.size - n:=qs
 have b:=mj (g:=l.toArray.size - n) (λS e w' c=>by
  have:=wpAny_of_seq (md:=.any) (Q':=Q) (l.drop n) n S e w' (λj=>by simp[List.getElem?_drop]) (by rw[d];exact c.1) c.2
  rwa [d]at this) _ _ _ _ (h k)
 rw[show n+(l.toArray.size - n)=l.toArray.size by simp;omega]at b;exact b
def iA(C:World->Prop){f:Nat}{a:Act}{w:World}{l:List Oper}(n:Nat)(c:P.follows .mixedOrders=true)(b:l.all Oper.plainB=true)(hQ:∀a w,¬Q .outgrown a w)
 (h:jh P .any l.toArray Q C n (λS a w=>Region.seqB .any l.toArray (l.toArray.size - n) n S=true/\wpList P l.toArray Q (l.drop n) a w) n (Array.replicate l.toArray.size false) a w.drew) (d:n<=l.length):(Code.region f l.toArray true).wpIn (Fence.wide.inRound r) m P Q a w :=
 wpIn_region_any c (yW (λi o e=>by
  have:o∈l:=gH (by simpa using e);exact all_eq_true.1 b o this) hQ _ _ _ _ (yX C n h d))
end
def i6{w W:World}{r:Nat}(o:Obj){S:List Nat}(h:Fr S w W)(a:r∈S \/ w.heap.size<=r):Fr S w (W.putObj r o) :=
 ⟨h.os,h.tape,h.output,by simpa using h.size,λk c b=>(World.putObj_heap_other (by rintro rfl;rcases a with a|a;exact b a;omega)).trans (h.block k c b)⟩
end Go.Proofs.YtlpmiimgacfmkaaGreatDoor
