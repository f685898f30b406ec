/- Part of the proof. -/
import Derived.Sort.Grow
import Derived.Test.YtlpmiimgacfmkaaGreatDoorCRd3
import Derived.Test.YtlpmiimgacfmkaaGreatDoorCShelf1
set_option linter.all false
set_option maxHeartbeats 4000000
set_option maxRecDepth 100000
namespace Go.Proofs.YtlpmiimgacfmkaaGreatDoor
open Go.Proofs.Tryz List
open Go
def AZ{α:Type}:Result α->World
 | .ok _ w=>w
 | .halt _ w=>w
def o8{α:Type}:∀(a:Ask α) (w:World),w.drawn<=(w.ask a).2.drawn
 | .done _,w=>Nat.le_refl _
 | .ask what range k,w=>by
  unfold World.ask;simp only;split
  ·exact o8 (k 0) w
  ·exact Nat.le_trans (Nat.le_succ _) (o8 (k _) { w with drawn:=w.drawn+1 })
def A8(w:World)(c:Sys):w.drawn<=(w.sys c).2.drawn:=by
 unfold World.sys;have h:=o8 (Kernel.perform c w.os) w;split
 ·exact Nat.le_refl _
 ·next a=>rw[a]at h;exact h
def qI{p:Program}{w:World}{a:Addr}{u:TypeId}{k:Addr}{v:Value}{b:Bool}{r:World × List Addr}(h:w.viewStore p a u k v b=.ok r):r.1.drawn=w.drawn:=by
 unfold World.viewStore at h;simp only[bind,Except.bind,pure,Except.pure]at h
 repeat' split at h
 all_goals first|(cases h;done)|(injection h with h;subst h;rfl)
def rR{p:Program}{w w':World}{a:Addr}{v:Value}{b:Bool}{l:List Addr}(h:w.farStore p a v b=.ok (w',l)):w'.drawn=w.drawn:=by
 unfold World.farStore at h;split at h
 ·split at h
  ·next r c =>
   injection h with h
   subst h;exact qI c
  ·cases h
 ·cases h
def uV(w:World)(a:Addr)(n:Nat):(w.freeze a n).drawn=w.drawn:=by
 unfold World.freeze;split <;> rfl
def kq{α:Type}(p:Program):∀(s:Sem α) (w:World),w.drawn<=(AZ (s.run p w)).drawn:=by
 intro s
 induction s with
 | pure a=>intro w;exact Nat.le_refl _
 | load m a k ih =>
  intro w;unfold Sem.run;split
  ·exact ih _ w
  ·split
   ·exact ih _ w
   ·exact Nat.le_refl _
 | store m a v k ih =>
  intro w
  have main:w.drawn<=(AZ (match w.cell? a with
   | some _ => if w.frozen? a then Result.halt (.unsupported (.unsafePointer "a write to bytes that a string shares")) w else k.run p (w.setCell a v)
   | none=>match w.farStore p a v (m == .atomic)with
    | .ok (w,_)=>k.run p w
    | .error h=>.halt h w)).drawn:=by
   split
   ·split
    ·exact Nat.le_refl _
    ·exact ih (w.setCell a v)
   ·split
    ·next h=>rw[<-rR h];exact ih _
    ·exact Nat.le_refl _
  cases v <;> simp only[Sem.run] <;> first|exact Nat.le_refl _|exact main
 | new o k ih=>intro w;unfold Sem.run;exact ih _ { w with heap:=w.heap.push o }
 | shape r k ih=>intro w;unfold Sem.run;exact ih _ w
 | freeze a n k ih=>intro w;unfold Sem.run;rw[<-uV w a n];exact ih _
 | frozen a k ih=>intro w;unfold Sem.run;exact ih _ w
 | getObj r k ih =>
  intro w;unfold Sem.run;split
  ·exact Nat.le_refl _
  ·exact ih _ w
  ·exact Nat.le_refl _
 | setObj r o k ih =>
  intro w;unfold Sem.run;split
  ·exact Nat.le_refl _
  ·exact ih { w with heap:=w.heap.setIfInBounds r o }
  ·exact Nat.le_refl _
 | choose q k ih =>
  intro w;unfold Sem.run;split
  ·exact ih _ w
  ·exact Nat.le_trans (Nat.le_succ _) (ih _ { w with drawn:=w.drawn+1 })
 | sys c k ih=>intro w;unfold Sem.run;exact Nat.le_trans (A8 w c) (ih _ _)
 | program k ih=>intro w;unfold Sem.run;exact ih _ w
 | mark m k ih=>intro w;unfold Sem.run;exact ih w
 | halt h=>intro w;exact Nat.le_refl _
section
variable {α:Type} {p:Program} {s:Sem α} {w w':World} {x:α} {hh:Halt} {es es':Array Event} {n:Nat}
def ie(e:s.run p w=.ok x w')(h:n<=w.drawn):n<=w'.drawn:=by
 have:=kq p s w;rw[e]at this;exact Nat.le_trans h this
def Di(e:s.run p w=.halt hh w')(h:n<=w.drawn):n<=w'.drawn:=by
 have:=kq p s w;rw[e]at this;exact Nat.le_trans h this
def zK{r:Result α}(e:s.runT p w es=(r,es'))(h:n<=w.drawn):n<=(AZ r).drawn:=by
 have a:=Sem.runT_fst p s w es;rw[e]at a;simp only at a;rw[a];exact Nat.le_trans h (kq p s w)
def iQ{r:Result α}(e:(s.runT p w es).1=r)(h:n<=w.drawn):n<=(AZ r).drawn:=by
 rw[Sem.runT_fst]at e;rw[<-e];exact Nat.le_trans h (kq p s w)
def oj(es:Array Event)(h:n<=w.drawn):n<=(AZ (s.runT p w es).1).drawn:=by
 rw[Sem.runT_fst];exact Nat.le_trans h (kq p s w)
end
def s8(n:Nat):GStep->Prop
 | .go _ w _=>n<=w.drawn
 | .comm _ _ _ _ w _=>n<=w.drawn
 | .spawn _ _ w _=>n<=w.drawn
 | .count _ w _=>n<=w.drawn
 | .timer _ _ w _=>n<=w.drawn
 | .alone _ _ w _=>n<=w.drawn
 | .newcoro _ _ _ w _=>n<=w.drawn
 | .coroswitch _ _ _ w _=>n<=w.drawn
 | .collect _ w _=>n<=w.drawn
 | .watch _ w _=>n<=w.drawn
 | .ended _ _ _=>True
def iu{n:Nat}{es:Array Event}{g:GStep}(h:s8 n g):s8 n (g.after es):=by
 cases g <;> exact h
def kO{n:Nat}{c:Prop}[Decidable c]{a b:GStep}(d:s8 n a)(e:s8 n b):s8 n (if c then a else b):=by
 split
 ·exact d
 ·exact e
section
variable {p:Program} {n:Nat} {w:World}
def wn(a:Nat)(t:ByteArray)(o:Outcome):s8 n (endWith w a t o):=by
 unfold endWith;simp only
 repeat' split
 all_goals exact trivial
def ol{a:Frame}{m:String}(h:n<=w.drawn):s8 n (endThrow a m w):=h
def A9{c:Frame}{a:List ByteArray}{m:String}{b:Bool}(h:n<=w.drawn):s8 n (dieOf c a m b w):=h
def lM{a:Frame}{v:Value}(h:n<=w.drawn):s8 n (endPrinting p a v w):=by
 unfold endPrinting;simp only;split
 ·exact ol h
 ·exact trivial
def om{a:Frame}{cs:List Frame}{d:Option Dying}{m:String}(h:n<=w.drawn):s8 n (endFatal p a cs d m w):=by
 unfold endFatal;simp only;split
 ·next e=>exact A9 (ie e h)
 ·exact trivial
 ·exact trivial
def iY{b:Bool}{a:Frame}{cs:List Frame}{d:Option Dying}{v:Value}(h:n<=w.drawn):s8 n (doReturn p b a cs d v w):=by
 unfold doReturn;simp only
 repeat' split
 all_goals first|exact trivial|exact h
def o9{c:Frame}{cs:List Frame}{b:Option Dying}{d:Deferred}(h:n<=w.drawn):s8 n (callDeferred p c cs b d w):=by
 unfold callDeferred;refine kO trivial ?_
 ·have a:=oj (p:=p) (s:=invoke d.target d.args) #[] h
  generalize (invoke d.target d.args).runT p w #[]=r at a ⊢;obtain⟨r,es⟩:=r;simp only at a ⊢;refine iu ?_
  repeat' split
  all_goals first|exact trivial|exact a|exact om a
def yv{g:Bool}{b:Frame}{cs:List Frame}{f:Option Dying}(h:n<=w.drawn):s8 n (unwind p g b cs f w):=by
 unfold unwind;split
 ·next c _ _ _ =>
  have a:=oj (p:=p) (s:=Instr.takeDeferred c) #[] h;generalize (Instr.takeDeferred c).runT p w #[]=r at a ⊢;obtain⟨r,es⟩:=r;simp only at a ⊢;refine iu ?_;split
  ·exact a
  ·exact trivial
 ·exact o9 h
 ·split
  ·exact trivial
  ·split
   ·exact trivial
   ·split
    ·exact h
    ·split
     ·split
      ·exact h
      ·split
       ·next e=>exact ie e h
       ·exact trivial
       ·exact trivial
     ·split
      ·exact lM h
      ·exact trivial
  ·split
   ·exact iY h
   ·next d _ =>
    have a:=oj (p:=p) (s:=results d b.tmps) #[] h;generalize (results d b.tmps).runT p w #[]=r at a ⊢;obtain⟨r,es⟩:=r;simp only at a ⊢;refine iu ?_;split
    ·exact iY a
    ·exact trivial
    ·exact trivial
def Ba{fr:Frame}{cs:List Frame}{dy:Option Dying}{g:Nat}(h:n<=w.drawn):s8 n (early p fr cs dy g w):=by
 have hn:∀w:World,n<=w.drawn->s8 n (match w.heap[g]? with
  | some (.pending c elem)=>.go { frame:=fr,callers:=cs,status:=.running,dying:=dy } { w with heap:=w.heap.setIfInBounds g (.cells c elem) }
  | _ => .ended (.stuck "early: the variable does not wait" (fr.pos p)) w) := by
  intro w h;split
  ·exact h
  ·exact trivial
 unfold early;simp only
 repeat' split
 all_goals first|exact trivial|exact h|exact hn _ h|(rename_i w1 e _ _ _ _;exact(ie (w':=w1) e h))|exact(ie (s:=choose (.early g)) (by assumption) h)
def ws{a:Frame}{d:Dying}{f:Fatal}(h:n<=w.drawn):s8 n (writeOn p a d f w):=by
 unfold writeOn;simp only;split
 ·exact trivial
 ·split
  ·next e=>exact zK e h
  ·next e=>exact zK e h
  ·exact trivial
  ·exact trivial
def Fb{f:Frame}{d:Dying}(h:n<=w.drawn):s8 n (die p f d w):=by
 unfold die;split
 ·exact ws h
 ·simp only
  split
  ·refine kO h ?_
   exact wn _ _ _
  ·split
   ·exact h
   ·split
    ·next e=>exact ie e h
    ·exact trivial
   ·next t c b _ =>
    have a:=oj (p:=p) (s:=invoke (.fn (.method b) #[]) #[.iface t c]) #[] h;generalize (invoke (.fn (.method b) #[]) #[.iface t c]).runT p w #[]=r at a ⊢;obtain⟨r,es⟩:=r;simp only at a ⊢;refine iu ?_;split
    all_goals first|exact trivial|exact a|exact lM a
   ·exact trivial
def kt{b:Bool}{d:Frame}{cs:List Frame}{c:Option Dying}{s:Sem Next}(h:n<=w.drawn):s8 n (stepG.apply p b d cs c s w):=by
 unfold stepG.apply
 have a:n<=(AZ (if b then s.runT p w #[]else(s.run p w,#[])).1).drawn:=by
  split
  ·exact oj #[] h
  ·exact Nat.le_trans h (kq p s w)
 generalize (if b then s.runT p w #[]else(s.run p w,#[]))=r at a ⊢;obtain⟨r,es⟩:=r;simp only at a ⊢;refine iu ?_
 repeat' split
 all_goals first|exact trivial|exact a|exact om a|exact Ba a|exact ol a|skip
def Dj{c:Bool}{b:Frame}{cs:List Frame}{a:Option Dying}(h:n<=w.drawn):s8 n (stepG.oper p c b cs a w):=by
 unfold stepG.oper;split
 ·exact trivial
 ·split
  ·exact kt h
  ·exact kt h
def Dk{d c:Bool}{b:Frame}{cs:List Frame}{a:Option Dying}(h:n<=w.drawn):s8 n (stepG.exec p d c b cs a w):=by
 unfold stepG.exec;simp only;split
 ·(split
   ·first|exact kO h trivial|exact trivial|exact h
   ·refine iu ?_
    split
    ·next e=>exact iY (iQ e h)
    ·exact trivial)
 ·(split
   ·first|exact kO h trivial|exact trivial|exact h
   ·refine iu ?_
    split
    ·next e=>exact iY (iQ e h)
    ·exact trivial)
 ·exact h
 ·exact h
 ·exact h
 ·exact h
 ·exact h
 ·split
  ·exact h
  ·exact trivial
 ·exact h
 ·exact h
 ·exact h
 ·exact h
 ·unfold Option.elim
  split
  ·exact h
  ·(split
    ·first|exact kO h trivial|exact trivial|exact h
    ·refine iu ?_
     split
     ·next e=>exact iY (iQ e h)
     ·exact trivial)
 ·unfold Option.elim
  split
  ·exact h
  ·(split
    ·first|exact kO h trivial|exact trivial|exact h
    ·refine iu ?_
     split
     ·next e=>exact iY (iQ e h)
     ·exact trivial)
 ·refine iu ?_
  split
  ·next e=>exact kt (iQ e h)
  ·exact trivial
 ·exact trivial
 ·exact kt h
 ·refine iu ?_
  split
  ·next e=>exact iQ e h
  ·next e=>exact iQ e h
  ·exact trivial
 ·exact trivial
 ·exact kt h
 ·unfold Option.elim
  split
  ·exact kt h
  ·exact trivial
 ·refine kO h ?_
  split
  ·next e=>exact ie e h
  ·exact trivial
 ·exact h
 ·refine kO (Dj h) h
def Bb{b a:Bool}{g:Goroutine}(h:n<=w.drawn):s8 n (stepG p b g w a):=by
 unfold stepG;simp only;split
 ·exact Fb h
 ·exact Dk h
 ·exact yv h
def ER(n:Nat):Stepped->Prop
 | .next m=>n<=m.world.drawn
 | .ended _ _=>True
def zL{n:Nat}{c:Prop}[Decidable c]{a b:Stepped}(d:ER n a)(e:ER n b):ER n (if c then a else b):=by
 split
 ·exact d
 ·exact e
def qJ{rest:Rest}{a:Array CommCase}{w w':World}(h:waitingAt rest a w=some w'):w'.drawn=w.drawn:=by
 unfold waitingAt at h;split at h
 ·split at h
  ·injection h with h;subst h;rfl
  ·cases h
 ·injection h with h;subst h;rfl
def qK{rest:Rest}{gs:Array Goroutine}{i:Nat}{g:Goroutine}{d:Array CommCase}{c:Bool}{j:CommShape}(h:n<=w.drawn):ER n (communicate p rest gs i g d c j w).1:=by
 unfold communicate;simp only;split
 ·exact trivial
 ·split
  ·split
   ·split
    ·next e=>show n<=_;rw[qJ e];exact h
    ·exact trivial
   ·exact h
  ·split
   ·exact trivial
   ·next e =>
    have a:=ie e h;split
    ·split
     ·next b=>exact Di b a
     ·exact trivial
    ·exact a
    ·exact a
    ·split
     ·exact a
     ·split
      ·next b=>have f:=ie b a;exact f
      ·exact trivial
    ·exact a
    ·exact a
    ·exact trivial
def wt{gs:Array Goroutine}{rest:Rest}(h:n<=w.drawn):ER n (look p gs rest w):=by
 unfold look;split
 ·simp only
  refine zL trivial ?_;split
  ·exact trivial
  ·split
   ·next e=>have a:=ie e h;exact a
   ·exact trivial
   ·exact trivial
 ·exact trivial
def wu(w:World)(c:Nat):(drain w c).2.drawn=w.drawn:=by
 unfold drain;split <;> rfl
def oo(m:Machine)(k:Nat)(t:Timer)(a b:Nat):(retime m k t a b).2.world.drawn=m.world.drawn:=by
 unfold retime;simp only
 cases t.chan
 ·rfl
 ·exact wu _ _
def tg{m m':Machine}{g:TimerOp}{v:Value}(h:timerOp m g=.ok (v,m')):m'.world.drawn=m.world.drawn:=by
 have e:∀(d:Machine) (b:Addr) (f:Nat->Timer->Value × Machine),(∀k t,(f k t).2.world.drawn=m.world.drawn)->timerOp.named d b f=.ok (v,m')->m'.world.drawn=m.world.drawn:=by
  intro d b f i h;unfold timerOp.named at h;split at h
  ·next c _ =>
   injection h with h
   have:=i c (d.rest.timers.getD c default);rw[h]at this;exact this
  ·cases h
 cases g with
 | new t =>
  simp only[timerOp]at h;split at h
  ·injection h with h;injection h with _ h;subst h;rfl
  ·split at h
   ·split at h
    ·cases h
    ·injection h with h;injection h with _ h;subst h;rfl
   ·cases h
 | stop b=>exact e _ _ _ (λk t=>oo m k t _ _) h
 | reset b j q =>
  simp only[timerOp]at h;split at h
  ·next o a =>
   refine e _ _ _ (λk t=>?_) h;rw[oo];unfold timerOp.opened at a;split at a
   ·split at a
    ·injection a with a;subst a;rfl
    ·cases a
   ·injection a with a;subst a;rfl
  ·cases h
 | deadline l r u j =>
  simp only[timerOp]at h
  injection h with h;injection h with _ h;subst h;rfl
def Dl{m:Machine}{i:Nat}{j:Bool}(l:n<=m.world.drawn):ER n (runT p m i j).1:=by
 unfold runT;simp only;have q:∀(g:Goroutine),s8 n (stepG p (i == 0) g m.world j):=λg=>Bb l;generalize (m.gs.swapAt! i _)=k;obtain⟨g,gs⟩:=k;simp only;have a:=q g;generalize stepG p (i == 0) g m.world j=s at a ⊢
 cases s with
 | ended o w es=>exact trivial
 | comm h r b v w es=>exact qK a
 | go h w es=>exact a
 | spawn h c w es=>exact a
 | count h w es =>
  simp only
  exact zL trivial a
 | alone h t w es=>exact a
 | collect h w es=>exact wt a
 | watch h w es=>exact a
 | newcoro h c d w es=>exact a
 | coroswitch h c e w es =>
  simp only;split
  ·exact a
  ·split
   ·next f=>simp only[endThrow,dieOf]at f;injection f with _ f;rw[<-f];exact a
   ·exact trivial
  ·exact trivial
 | timer h u w es =>
  simp only;split
  ·next f=>show n<=_;rw[tg f];exact a
  ·split
   ·next f=>simp only[endThrow,dieOf]at f;injection f with _ f;rw[<-f];exact a
   ·exact trivial
  ·exact trivial
  ·exact trivial
def Bc{m:Machine}{k:Nat}(h:n<=m.world.drawn):ER n (serve p m k):=by
 unfold serve;split
 ·exact trivial
 ·exact h
 ·simp only
  split
  ·exact trivial
  ·exact h
def Hs(n:Nat):Move->Prop
 | .goroutine m _=>n<=m.world.drawn
 | .machine s _=>ER n s
def lv{n:Nat}{c:Prop}[Decidable c]{a b:Move}(d:Hs n a)(e:Hs n b):Hs n (if c then a else b):=by
 split
 ·exact d
 ·exact e
def pk{m:Machine}(i:n<=m.world.drawn):Hs n (askOn p m):=by
 unfold askOn;simp only;split
 ·exact trivial
 ·next e =>
  have b:=ie e i;refine lv (Bc b) ?_;split
  ·split
   ·exact b
   ·refine lv b ?_
    split
    ·exact trivial
    ·exact trivial
  ·split
   ·(split
     ·exact trivial
     ·next d =>
      have a:=ie d b;refine lv a ?_;split
      ·exact trivial
      ·next f=>have h:=ie f a;exact h)
   ·split
    ·exact trivial
    ·next c =>
     have g:=ie c b
     (split
      ·exact trivial
      ·next d =>
       have a:=ie d g;refine lv a ?_;split
       ·exact trivial
       ·next f=>have h:=ie f a;exact h)
    ·next c=>have g:=ie c b;exact g
    ·next c =>
     have g:=ie c b
     (split
      ·exact trivial
      ·next d =>
       have a:=ie d g;refine lv a ?_;split
       ·exact trivial
       ·next f=>have h:=ie f a;exact h)
def zN{m:Machine}(h:n<=m.world.drawn):Hs n (ask p m):=by
 unfold ask;split
 ·split
  ·exact trivial
  ·next e =>
   have a:=ie e h;have b:=wt (p:=p) (gs:=m.gs) (rest:=m.rest) a;split
   ·next c=>rw[c]at b;exact pk b
   ·exact b
  ·next e=>have a:=ie e h;exact pk a
 ·exact pk h
def Dm{m:Machine}(h:n<=m.world.drawn):Hs n (move p m):=by
 unfold move;split
 ·exact lv h trivial
 ·split
  ·exact lv h (zN h)
  ·exact zN h
def Dn{m:Machine}(h:n<=m.world.drawn):ER n (step p m):=by
 unfold step stepT;have:=Dm (p:=p) h;split
 ·next e=>rw[e]at this;exact Dl this
 ·next e=>rw[e]at this;exact this
def wv:∀(k:Nat) {m:Machine},n<=m.world.drawn->ER n (runN p k m)
 | 0,_,h=>h
 | k+1,m,h=>by
  unfold runN;have:=Dn (p:=p) h;split
  ·next e=>rw[e]at this;exact wv k this
  ·exact this
def pT{m m':Machine}(h:Steps p m m'):m.world.drawn<=m'.world.drawn:=by
 obtain⟨k,a⟩:=h;have:=wv (p:=p) k (Nat.le_refl m.world.drawn);rw[a]at this;exact this
end
def ww{P:Program}{f:FuncId}{args:Array Value}{w:World}{R:Ending->World->Prop}(h:Calls P f args w R)(g:∀w',¬R .outgrown w'):
 Calls P f args w λe w'=>R e w'/\w.drawn<=w'.drawn:=by
 intro cs;have⟨e,w',a,d,b,i,j⟩:=h cs;refine⟨e,w',a,⟨d,?_⟩,b,i,j⟩
 cases e with
 | returned v=>exact pT (m:=lone (Frame.enter P f args .normal) cs w) (m':=lone a cs w') b
 | panicked c=>exact pT (m:=lone (Frame.enter P f args .normal) cs w) (m':=lone a cs w') b
 | outgrown=>exact absurd d (g w')
open Go.RowKit Go.Sort
def Row.len1{α:Type}{w:World}{B n:Nat}{A:Option Addr}{f:α->Value}{xs:List α}(h:Row w B 1 A n (xs.map f)):xs.length=n:=by simpa using h.1
def th{w w':World}(h:Below w.heap.size w w')(k:w.drawn<=w'.drawn):∃q os,w'=grow (w.drewN q) os:=by
 refine⟨w'.drawn - w.drawn,w'.heap.extract w.heap.size w'.heap.size,?_⟩;obtain⟨a,s,b,os,r⟩:=w';obtain⟨d,e,f,j,g⟩:=h;simp only at d e f j g k;subst d e f
 have n:a=w.heap++a.extract w.heap.size a.size:=by
  apply Array.ext
  ·simp;omega
  ·intro i o p
   rcases Nat.lt_or_ge i w.heap.size with c|m
   ·have:=g i c
    rw[Array.getElem?_eq_getElem o,Array.getElem?_eq_getElem c]at this
    injection this with this
    rw[this,Array.getElem_append_left c]
   ·rw[Array.getElem_append_right m]
    simp
    congr 1
    omega
 have l:b=w.drawn+(b - w.drawn):=qo
 show (⟨a,w.tape,b,w.os,w.output⟩:World)=⟨w.heap++a.extract w.heap.size a.size,w.tape,w.drawn+(b - w.drawn),w.os,w.output⟩
 rw[<-n,<-l]
def yx{P:Program}{f:FuncId}{args:Array Value}{w:World}{v:Value}(h:Calls P f args w λe w'=>e=.returned v/\Below w.heap.size w w'):
 Calls P f args w λe w'=>e=.returned v/\∃q os,w'=grow (w.drewN q) os :=
 (ww h (λw' d=>by cases d.1)).mono λ_ _ ⟨⟨c,a⟩,b⟩=>⟨c,th a b⟩
def j5:List Nat->List Nat->Int
 | [],[]=>0
 | [],_::_=>-1
 | _::_,[]=>1
 | x::xs,y::a=>if x<y then -1 else if y<x then 1 else j5 xs a
def tO{xs a:List Nat}:∀(k:Nat),(∀j,j<k->xs[j]?=a[j]?)->k<=xs.length->k<=a.length->j5 xs a=j5 (xs.drop k) (a.drop k)
 | 0,_,_,_=>by simp
 | k+1,h,c,d=>by
  rw[tO k (λj b=>h j qo) qo qo];rw[drop_eq_getElem_cons (i:=k) qo,drop_eq_getElem_cons (l:=a) (i:=k) qo];have e:=h k qo;rw[gg qo,gg qo]at e
  injection e with e
  rw[j5,if_neg qo,if_neg qo]
def po(B A':Option Addr)(n m c d:Nat)(xs b:List Nat)(w:World)(aa:n<=1000)(hm:m<=1000)(R:∀x∈xs,x<=10000000)(S:∀x∈b,x<=10000000)
 (E:Row w w.heap.size 1 B n (xs.map kH)) (F:Row w w.heap.size 1 A' m (b.map kH)) :
 Calls prog 185 #[.slice B n c,.slice A' m d] w λe w'=>e=.returned (.int .i64 (j5 xs b))/\w=w':=by
 have v:=Hd E.len1;have o:=Hd F.len1;clear R S
 go_enter func185,ntmps185
 go_wp2
 go_loop [11] (λi=>∃k:Nat,k<=n/\k<=m/\i=k/\(∀j,j<k->xs[j]?=b[j]?)) (λi=>n - (intOf i).toNat)
 case atStart=>exact⟨0,qo,qo,rfl,λj K=>absurd K qo⟩
 case round =>
  obtain⟨k,T,U,rfl,s⟩:=hrel;have G:=tO k s (by rw[v.out];exact T) (by rw[o.out];exact U);have l:=Hd G;have M:=Hd s;clear s G
  by_cases V:k<n
  ·obtain⟨Z,o1,u,rfl,_,z,P⟩:=E.at1 V
   rw[List.getElem?_map]at z;obtain⟨x,p,rfl⟩:=Option.map_eq_some_iff.1 z;clear z
   have H:xs.drop k=x::xs.drop (k+1):=by
    have t:=(gV.1 p).1;rw[drop_eq_getElem_cons t,(gV.1 p).2]
   have O:=Hd p;have q:=Hd H;clear p H;unfold kH at P
   by_cases X:k<m
   ·obtain⟨b2,o2,u,rfl,_,A,Q⟩:=F.at1 X
    rw[List.getElem?_map]at A;obtain⟨y,g,rfl⟩:=Option.map_eq_some_iff.1 A;clear A
    have I:b.drop k=y::b.drop (k+1):=by
     have t:=(gV.1 g).1;rw[drop_eq_getElem_cons t,(gV.1 g).2]
    have r:=Hd g;have C:=Hd I;clear g I;unfold kH at Q;have a:=λW=>Tryz.cmp_Compare_int (x:Int) (y:Int) W
    by_cases L:x<y
    ·have f:Lib.compareInt (x:Int) (y:Int)=-1:=by unfold Lib.compareInt;rw[if_pos qo]
     rw[f]at a;have h:=Hd a;clear a f
     go_wp2_with fail
     refine(h.out _).mono ?_;rintro e w' ⟨rfl,rfl⟩
     go_wp2_with fail
     go_ret
     refine⟨?_,rfl⟩;rw[l.out,q.out,C.out,j5,if_pos L];rfl
    ·by_cases Y:y<x
     ·have f:Lib.compareInt (x:Int) (y:Int)=1:=by unfold Lib.compareInt;rw[if_neg qo,if_pos qo]
      rw[f]at a;have h:=Hd a;clear a f
      go_wp2_with fail
      refine(h.out _).mono ?_;rintro e w' ⟨rfl,rfl⟩
      go_wp2_with fail
      go_ret
      refine⟨?_,rfl⟩;rw[l.out,q.out,C.out,j5,if_neg L,if_pos Y];rfl
     ·have f:Lib.compareInt (x:Int) (y:Int)=0:=by unfold Lib.compareInt;rw[if_neg qo,if_neg qo]
      have J:x=y:=qo
      have N:=Hd J;rw[f]at a;have h:=Hd a;clear a f J
      go_wp2_with fail
      refine(h.out _).mono ?_;rintro e w' ⟨rfl,rfl⟩
      go_wp2_with fail
      go_round
      case rel=>exact⟨k+1,qo,qo,by go_num,λj K=>by
       rcases Nat.lt_or_ge j k with D|D
       ·exact M.out j D
       ·obtain rfl:j=k:=qo
        rw[O.out,r.out,N.out]⟩
      case measure=>simp[intOf];omega
   ·go_wp2
    go_ret
    refine⟨?_,rfl⟩;rw[l.out,q.out,drop_eq_nil_of_le (show b.length<=_ by rw[o.out];omega)];rfl
  ·by_cases ab:n<m
   ·obtain⟨y,ys',g⟩:∃y ys',b.drop k=y::ys':=⟨_,_,drop_eq_getElem_cons (by rw[o.out];omega)⟩
    have r:=Hd g;clear g
    go_wp2
    go_ret
    refine⟨?_,rfl⟩;rw[l.out,r.out,drop_eq_nil_of_le (by rw[v.out];omega)];rfl
   ·go_wp2
    go_ret
    refine⟨?_,rfl⟩;rw[l.out,drop_eq_nil_of_le (show b.length<=_ by rw[o.out];omega),drop_eq_nil_of_le (by rw[v.out];omega)];rfl
def rS(s:Nm):(fT s).length<=10:=by
 unfold fT;split
 ·have:=qg s;simpa using this
 ·simp
def uW(s:Nm)(a c:Nat):(gm s a c).1.1<=10000000:=by
 unfold gm;split
 ·simp only
  have g:∀x∈(s.drop a).take (kF s a),uh x=true:=by
   intro x d
   have e:(s.drop a).take (kF s a)=((s.drop a).take 7).takeWhile uh:=by
    unfold kF;have b:((s.drop a).take 7).takeWhile uh <+: (s.drop a):=(takeWhile_prefix _).trans (take_prefix _ _);exact(prefix_iff_eq_take.1 b).symm
   rw[e]at d;have:=all_takeWhile (p:=uh) (l:=(s.drop a).take 7);rw[all_eq_true]at this;exact this x d
  have b:=wW _ g
  have f:((s.drop a).take (kF s a)).length<=7:=by
   have:=length_take_le (kF s a) (s.drop a);have:=Af s a;omega
  have h:10 ^ ((s.drop a).take (kF s a)).length<=10 ^ 7:=Nat.pow_le_pow_right qo f;omega
 ·simp
def ot:∀(f:Nat) (s:Nm) (a c:Nat),∀x∈iz f s a c,x.1<=10000000
 | 0,_,_,_,x,b=>by simp[iz]at b
 | f+1,s,a,c,x,b=>by
  rw[iz,mem_cons]at b
  rcases b with h|h
  ·rw[h];exact uW s a c
  ·split at h
   ·simp at h
   ·split at h
    ·rw[ip]at h;rw[h];simp
    ·exact ot f s _ _ x h
def ou(s:Nm):∀x∈fT s,x<=10000000:=by
 intro x a;unfold fT at a;split at a
 ·obtain⟨y,b,rfl⟩:=mem_map.1 a
  unfold fO at b;split at b
  ·simp at b
  ·exact ot 9 s 0 0 y b
 ·simp at a
def tP:∀l:List Nat,j5 l l=0
 | []=>rfl
 | x::l=>by rw[j5,if_neg qo,if_neg qo];exact tP l
def mW(x y:ByteArray)(w:World)(s:x.size<=140737488355328)(t:y.size<=140737488355328)(z:gF x.data.toList=true)(A:gF y.data.toList=true):
 Calls prog 152 #[.string x,.string y] w λe w'=>e=.returned (.int .i64 (j5 (fT x.data.toList) (fT y.data.toList)))/\Below w.heap.size w w':=by
 by_cases a:x.data.toList=y.data.toList
 ·have t1:=Ct a
  have j:Hid (j5 (fT x.data.toList) (fT y.data.toList)=0):=by unfold Hid;rw[a];exact tP _
  clear a
  go_enter func152,ntmps152
  go_wp2
  go_ret
  exact⟨by rw[j.out];rfl,Below.refl _ _⟩
 ·have t1:=Cr a
  clear a
  go_enter func152,ntmps152
  go_wp2_with fail
  refine(mP x _ qo).mono ?_;rintro e B ⟨rfl,b⟩
  go_wp2_with fail
  refine(mP y _ qo).mono ?_;rintro e w2 ⟨rfl,c⟩
  go_wp2_with fail
  refine(oM x _ qo).mono ?_;rintro e C ⟨u,rfl,g,f⟩;obtain⟨A3,k,rfl,m⟩:=nJ g
  go_wp2_with fail
  refine(oM y _ qo).mono ?_;rintro e p ⟨v,rfl,h,d⟩;obtain⟨i,l,rfl,o⟩:=nJ h;have n:=(m.below d).more d.size;have q:=rS x.data.toList;have r:=rS y.data.toList;clear g h
  go_wp2_with fail
  refine(po A3 i _ _ k l _ _ p qo qo (ou _) (ou _) n o).mono ?_;rintro e D ⟨rfl,rfl⟩
  go_wp2_with fail
  go_ret
  exact⟨rfl,((b.trans (c.mono b.size)).trans (f.mono (Nat.le_trans b.size c.size))).trans (d.mono (Nat.le_trans (Nat.le_trans b.size c.size) f.size))⟩
open Go.RowKit
structure ON where
 kind:Int
 owner:Nm
 number:Int
 index:Int
 text:Nm
def ON.cells(n:ON):List Value:=[.int .i64 n.kind,fg n.owner,.int .i64 n.number,.int .i64 n.index,fg n.text]
def fu(n:ON):Value:=.agg #[.int .i64 n.kind,fg n.owner,.int .i64 n.number,.int .i64 n.index,fg n.text]
def iR(k:Int):Bool:=decide (1<=k/\k<=20)
def fM(n m:Int):Bool:=decide (0<=n/\n<=m)
def mX(c:UInt8):Bool:=decide (33<=c.toNat/\c.toNat<=126/\c.toNat≠47)
def jG(s:Nm):Bool:=decide (s≠[]/\s.length<=32) && s.all mX
def yz(k:Int)(w:World):Calls prog 114 #[.int .i64 k] w λe w'=>e=.returned (.bool (iR k))/\w=w':=by
 by_cases a:1<=k
 ·by_cases b:k<=20
  ·have e:iR k=true:=by simp[iR,a,b]
   rw[e]
   go_enter func114,ntmps114
   go_wp2
   go_ret
   exact⟨rfl,rfl⟩
  ·have e:iR k=false:=by simp only[iR,decide_eq_false_iff_not];omega
   rw[e]
   go_enter func114,ntmps114
   go_wp2
   go_ret
   exact⟨rfl,rfl⟩
 ·have e:iR k=false:=by simp only[iR,decide_eq_false_iff_not];omega
  rw[e]
  go_enter func114,ntmps114
  go_wp2
  go_ret
  exact⟨rfl,rfl⟩
def rT(n m:Int)(w:World):Calls prog 116 #[.int .i64 n,.int .i64 m] w λe w'=>e=.returned (.bool (fM n m))/\w=w':=by
 by_cases a:0<=n
 ·by_cases b:n<=m
  ·have e:fM n m=true:=by simp[fM,a,b]
   rw[e]
   go_enter func116,ntmps116
   go_wp2
   go_ret
   exact⟨rfl,rfl⟩
  ·have e:fM n m=false:=by simp only[fM,decide_eq_false_iff_not];omega
   rw[e]
   go_enter func116,ntmps116
   go_wp2
   go_ret
   exact⟨rfl,rfl⟩
 ·have e:fM n m=false:=by simp only[fM,decide_eq_false_iff_not];omega
  rw[e]
  go_enter func116,ntmps116
  go_wp2
  go_ret
  exact⟨rfl,rfl⟩
def jz(n a m:Int)(w:World):Calls prog 124 #[.int .i64 n,.int .i64 a,.int .i64 m] w λe w'=>e=.returned (.bool (decide (a<=n/\n<=m)))/\w=w':=by
 by_cases b:a<=n
 ·by_cases c:n<=m
  ·rw[show decide (a<=n/\n<=m)=true by simp[b,c]]
   go_enter func124,ntmps124
   go_wp2
   go_ret
   exact⟨rfl,rfl⟩
  ·rw[show decide (a<=n/\n<=m)=false by simp[c]]
   go_enter func124,ntmps124
   go_wp2
   go_ret
   exact⟨rfl,rfl⟩
 ·rw[show decide (a<=n/\n<=m)=false by simp[b]]
  go_enter func124,ntmps124
  go_wp2
  go_ret
  exact⟨rfl,rfl⟩
def Dp{s:Nm}{k:Nat}{c:UInt8}{p:UInt8->Bool}(h:s[k]?=some c):(s.take (k+1)).all p=((s.take k).all p && p c):=by
 rw[nz h,all_append];simp
def Dq(s:ByteArray)(w:World)(M:s.size<=9223372036854775000):Calls prog 117 #[.string s] w λe w'=>e=.returned (.bool (jG s.data.toList))/\w=w':=by
 have B:=fL s
 by_cases a:s.data.toList=[]
 ·have e:jG s.data.toList=false:=by simp[jG,a]
  rw[e];have I : s.toList = [] := by rw [ByteArray.toList_eq]; exact a
  go_enter func117,ntmps117
  go_wp2
  go_ret
  exact⟨rfl,rfl⟩
 ·have H:=mZ a
  have t:s.toList≠[]:=by rw[ByteArray.toList_eq];exact a
  have J:(s.toList == [])=false:=by simpa using t
  by_cases K:32<s.size
  ·have e:jG s.data.toList=false:=by simp[jG];intro _ h;omega
   rw[e];have u:(32:Int)<(s.size:Int):=qo
   go_enter func117,ntmps117
   go_wp2
   go_ret
   exact⟨rfl,rfl⟩
  ·have e:jG s.data.toList=s.data.toList.all mX:=by
    unfold jG;rw[show decide (s.data.toList≠[]/\s.data.toList.length<=32)=true by simp only[decide_eq_true_eq];exact⟨a,qo⟩];simp
   rw[e];have u:¬(32:Int)<(s.size:Int):=qo
   have n:=Hd B;have⟨r,g⟩:=eR (s.data.toList.all mX);rw[g];have d:=Hd g
   go_enter func117,ntmps117
   go_wp2
   go_loop [13] (λi=>∃k:Nat,k<=s.size/\i=k/\(s.data.toList.take k).all mX=true) (λi=>s.size - (intOf i).toNat)
   case atStart=>exact⟨0,qo,rfl,rfl⟩
   case round =>
    obtain⟨k,L,rfl,v⟩:=hrel;have c:=Hd v
    by_cases C:k<s.size
    ·have D:(k:Int)<(s.size:Int):=qo
     have f:=iC C
     have z:mX s[k]=false->r=false:=λy=>by
      rw[<-d.out];rw[Bool.eq_false_iff];intro j;rw[all_eq_true]at j;have:=j s[k] (gH f);rw[y]at this
      cases this
     have m:=Hd f;have b:=Hd z
     by_cases E:s[k].toNat<33
     ·have o:(s[k].toNat:Int)<33:=qo
      have e:=b.out (by simp only[mX,decide_eq_false_iff_not];omega);subst e
      go_wp2
      go_ret
      exact⟨rfl,rfl⟩
     ·have o:¬(s[k].toNat:Int)<33:=qo
      by_cases F:126<s[k].toNat
      ·have p:(126:Int)<(s[k].toNat:Int):=qo
       have e:=b.out (by simp only[mX,decide_eq_false_iff_not];omega);subst e
       go_wp2
       go_ret
       exact⟨rfl,rfl⟩
      ·have p:¬(126:Int)<(s[k].toNat:Int):=qo
       by_cases G:s[k].toNat=47
       ·have q:((s[k].toNat:Int) == 47)=true:=by simp;omega
        have e:=b.out (by simp only[mX,decide_eq_false_iff_not];omega);subst e
        go_wp2
        go_ret
        exact⟨rfl,rfl⟩
       ·have q:((s[k].toNat:Int) == 47)=false:=by simp;omega
        have x:(s.data.toList.take (k+1)).all mX=true:=by rw[Dp m.out,c.out];simp only[mX,Bool.true_and,decide_eq_true_eq];omega
        have l:=Hd x
        go_wp2
        go_round
        case rel=>exact⟨k+1,qo,by go_num,l.out⟩
        case measure=>simp[intOf];omega
    ·have A:k=s.size:=qo
     have e:r=true:=by
      rw[<-d.out];have h:=c.out;rw[A,take_of_length_le (by rw[n.out];exact fW _)]at h;exact h
     subst e;have D:¬(k:Int)<(s.size:Int):=qo
     go_wp2
     go_ret
     exact⟨rfl,rfl⟩
def s9(s:Nm):Bool:=decide (s≠[])
def Gu(u:Usage)(n:ON):Bool:=!u.owner && s9 n.owner
def Gv(u:Usage)(n:ON):Bool:=!u.number && decide (n.number≠0)
def GV(u:Usage)(n:ON):Bool:=!u.index && decide (n.index≠0)
def Ht(u:Usage)(n:ON):Bool:=!u.text && s9 n.text
def tV(u:Usage)(n:ON):Bool:=u.owner && !gF n.owner
def tN(u:Usage)(n:ON):Bool:=u.number && !fM n.number 1073741824
def tI(u:Usage)(n:ON):Bool:=u.index && !fM n.index u.most
def tW(u:Usage)(n:ON):Bool:=u.text && !jG n.text
def kU(u:Usage)(n:ON):Int :=
 if Gu u n then 1 else if Gv u n then 1 else if GV u n then 1 else if Ht u n then 1 else if tV u n then 12 else if tN u n then 2 else if tI u n then 2 else if tW u n then 12 else 0
def eY(n:ON):Int:=if iR n.kind then kU (us n.kind.toNat) n else 11
def iS(s:ByteArray):s.size=s.data.toList.length:=by rw[Lib.size_eq]
def rU{w:World}(b:Ok w){k:Nat}(a:k<21):w.cell? ⟨0,k*6,none⟩=some (fg (us k).word)/\w.cell? ⟨0,k*6+1,none⟩=some (.bool (us k).owner)/\w.cell? ⟨0,k*6+2,none⟩=some (.bool (us k).number)/\w.cell? ⟨0,k*6+3,none⟩=some (.bool (us k).index)/\w.cell? ⟨0,k*6+4,none⟩=some (.bool (us k).text)/\w.cell? ⟨0,k*6+5,none⟩=some (.int .i64 (us k).most) :=
 ⟨b.uss k a 0 _ rfl,b.uss k a 1 _ rfl,b.uss k a 2 _ rfl,b.uss k a 3 _ rfl,b.uss k a 4 _ rfl,b.uss k a 5 _ rfl⟩
def qU(w:World)(r:Int)(e:Ending)(w':World):Prop:=e=.returned (.int .i64 r)/\Fr [] w w'
def ld(n:ON)(w:World)(ac:Ok w)(ho:n.owner.length<=140737488355328)(ht:n.text.length<=140737488355328):Calls prog 53 #[fu n] w (qU w (eY n)):=by
 obtain⟨N,l,j,i,m⟩:=n;unfold fu eY;simp only at ho ht ⊢;have⟨os,X,L,an⟩:=eS l;have⟨ts,Y,M,ao⟩:=eS m;rw[X,Y];have y:=λW=>yz N W
 cases E:iR N with
 | false =>
  rw[E]at y;have O:=Hd y;clear y E X Y
  go_enter func53,ntmps53
  go_wp2_with ((go_at_call 114;(with_reducible refine(O.out _).mono ?_);rintro e I ⟨rfl,rfl⟩))
  go_ret
  exact⟨rfl,(Fq [] w).alloc _⟩
 | true =>
  obtain⟨k,hk,am⟩:∃k:Nat,N=(k:Int)/\k<21:=by
   simp only[iR,decide_eq_true_eq]at E;exact⟨N.toNat,qo,qo⟩
  subst hk;rw[E]at y;rw[if_pos rfl,show ((k:Nat):Int).toNat=k from rfl];have⟨I,af,U,V⟩:=kJ w #[k,os,j,i,ts] 31;have⟨e0,P,Q,R,S,T⟩:=rU (ac.fr0 V) am;have⟨u,hu⟩:=eR (us k);rw[hu]at e0 P Q R S T ⊢;obtain⟨uw,q,p,o,t,z⟩:=u;simp only at e0 P Q R S T;have⟨r,F⟩:=eR (kU ⟨uw,q,p,o,t,z⟩ ⟨(k:Int),l,j,i,m⟩);rw[F];unfold kU Gu Gv GV Ht tV tN tI tW at F;simp only at F;have b:=Hd F;clear F;have⟨us,ae,_,_⟩:=eS uw;rw[ae]at e0;have x0:=U.c 0;simp only[List.getElem?_toArray,List.getElem?_cons_zero,List.getElem?_cons_succ]at x0;have al:(k:Int)<21:=qo
  have O:=Hd y;have aj:=Hd af;have ah:=Hd U;have ai:=Hd V;clear y E X Y hu ae af U V an ao
  go_enter func53,ntmps53
  go_upto_region 1 with fail
  rw[aj.out]
  go_upto_region 4 with((go_at_call 114;(with_reducible refine(O.out _).mono ?_);rintro e I ⟨rfl,rfl⟩))
  have⟨w2,G⟩:=eR (I.alloc (.cells #[us,.bool q,.bool p,.bool o,.bool t,z] 216));have aa:Fr [] w w2:=by rw[<-G];exact ai.alloc _
  have ab:BoxN w2 w.heap.size 31 #[k,os,j,i,ts]:=by rw[<-G];exact ah.alloc _
  have ad:BoxN w2 I.heap.size 216 #[us,.bool q,.bool p,.bool o,.bool t,z]:=by rw[<-G];exact BoxN.new I _ _
  rw[G];have A:=Hd aa;have B:=Hd ab;have C:=Hd ad;clear G aa ab ad e0 P Q R S T x0 al ac;have n1:=B.k1;have n2:=B.k2;have n3:=B.k3;have n4:=B.k4;have v1:=C.k1;have v2:=C.k2;have v3:=C.k3;have v4:=C.k4
  go_upto_region 4 with fail
  go_cut [12]from 13 to 20 (λs W=>s=.bool (!q && s9 l)/\w2=W)
  case first =>
   cases q with
   | true =>
    go_wp2
    go_meet
    exact⟨rfl,rfl⟩
   | false =>
    by_cases d:l=[]
    ·have h:os.data.toList=[]:=by rw[L];exact d
     have H:os.toList=[]:=by rw[ByteArray.toList_eq];exact h
     have f:(!false && s9 l)=false:=by simp[s9,d]
     have g:=Hd f;clear d h f
     go_wp2
     go_meet
     exact⟨congrArg Value.bool g.symm,rfl⟩
    ·have h:os.data.toList≠[]:=by rw[L];exact d
     have H:os.toList≠[]:=by rw[ByteArray.toList_eq];exact h
     have Z:(os.toList == [])=false:=by simpa using H
     have f:(!false && s9 l)=true:=by simp[s9,d]
     have g:=Hd f;clear d h f
     go_wp2
     go_meet
     exact⟨congrArg Value.bool g.symm,rfl⟩
  case rest =>
  obtain⟨rfl,rfl⟩:=hcut
  cases a:(!q && s9 l)with
  | true =>
   have e:=b.out;rw[if_pos a]at e;subst e;clear b a
   go_wp2
   go_ret
   exact⟨rfl,A.out⟩
  | false =>
  have e:=b.out;rw[if_neg (by rw[a];simp)]at e
  replace b:=Hd e
  clear a e
  go_upto_region 5 with fail
  go_cut [12]from 21 to 28 (λs W=>s=.bool (!p && decide (j≠0))/\w2=W)
  case first =>
   cases p with
   | true =>
    go_wp2
    go_meet
    exact⟨rfl,rfl⟩
   | false =>
    by_cases d:j=0
    ·have h:(j == 0)=true:=by simp[d]
     have f:(!false && decide (j≠0))=false:=by simp[d]
     have g:=Hd f;clear f;subst d
     go_wp2
     go_meet
     exact⟨congrArg Value.bool g.symm,rfl⟩
    ·have h:(j == 0)=false:=by simp[d]
     have Z:(j != 0)=true:=by simp[d]
     have f:(!false && decide (j≠0))=true:=by simp[d]
     have g:=Hd f;clear f d
     go_wp2
     go_meet
     exact⟨congrArg Value.bool g.symm,rfl⟩
  case rest =>
  obtain⟨rfl,rfl⟩:=hcut
  cases a:(!p && decide (j≠0))with
  | true =>
   have e:=b.out;rw[if_pos a]at e;subst e;clear b a
   go_wp2
   go_ret
   exact⟨rfl,A.out⟩
  | false =>
  have e:=b.out;rw[if_neg (by rw[a];simp)]at e
  replace b:=Hd e
  clear a e
  go_upto_region 6 with fail
  go_cut [12]from 29 to 36 (λs W=>s=.bool (!o && decide (i≠0))/\w2=W)
  case first =>
   cases o with
   | true =>
    go_wp2
    go_meet
    exact⟨rfl,rfl⟩
   | false =>
    by_cases d:i=0
    ·have h:(i == 0)=true:=by simp[d]
     have f:(!false && decide (i≠0))=false:=by simp[d]
     have g:=Hd f;clear f;subst d
     go_wp2
     go_meet
     exact⟨congrArg Value.bool g.symm,rfl⟩
    ·have h:(i == 0)=false:=by simp[d]
     have Z:(i != 0)=true:=by simp[d]
     have f:(!false && decide (i≠0))=true:=by simp[d]
     have g:=Hd f;clear f d
     go_wp2
     go_meet
     exact⟨congrArg Value.bool g.symm,rfl⟩
  case rest =>
  obtain⟨rfl,rfl⟩:=hcut
  cases a:(!o && decide (i≠0))with
  | true =>
   have e:=b.out;rw[if_pos a]at e;subst e;clear b a
   go_wp2
   go_ret
   exact⟨rfl,A.out⟩
  | false =>
  have e:=b.out;rw[if_neg (by rw[a];simp)]at e
  replace b:=Hd e
  clear a e
  go_upto_region 7 with fail
  go_cut [12]from 37 to 44 (λs W=>s=.bool (!t && s9 m)/\w2=W)
  case first =>
   cases t with
   | true =>
    go_wp2
    go_meet
    exact⟨rfl,rfl⟩
   | false =>
    by_cases d:m=[]
    ·have h:ts.data.toList=[]:=by rw[M];exact d
     have H:ts.toList=[]:=by rw[ByteArray.toList_eq];exact h
     have f:(!false && s9 m)=false:=by simp[s9,d]
     have g:=Hd f;clear d h f
     go_wp2
     go_meet
     exact⟨congrArg Value.bool g.symm,rfl⟩
    ·have h:ts.data.toList≠[]:=by rw[M];exact d
     have H:ts.toList≠[]:=by rw[ByteArray.toList_eq];exact h
     have Z:(ts.toList == [])=false:=by simpa using H
     have f:(!false && s9 m)=true:=by simp[s9,d]
     have g:=Hd f;clear d h f
     go_wp2
     go_meet
     exact⟨congrArg Value.bool g.symm,rfl⟩
  case rest =>
  obtain⟨rfl,rfl⟩:=hcut
  cases a:(!t && s9 m)with
  | true =>
   have e:=b.out;rw[if_pos a]at e;subst e;clear b a
   go_wp2
   go_ret
   exact⟨rfl,A.out⟩
  | false =>
  have e:=b.out;rw[if_neg (by rw[a];simp)]at e
  replace b:=Hd e
  clear a e;have ap:gF os.data.toList=gF l:=by rw[L]
  have aq:jG ts.data.toList=jG m:=by rw[M]
  have ar:os.size<=140737488355328:=by rw[iS,L];exact ho
  have au:ts.size<=140737488355328:=by rw[iS,M];exact ht
  clear ap aq
  go_upto_region 9 with fail
  go_cut [45]from 46 to 53 (λs W=>s=.bool (q && !gF l)/\Fr [] w2 W)
  case first =>
   cases q with
   | false =>
    go_wp2
    go_meet
    exact⟨rfl,Fq _ _⟩
   | true =>
    go_wp2_with ((go_at_call 115;(with_reducible refine(mP os w2 qo).mono ?_);rintro e v ⟨rfl,ak⟩))
    go_meet
    exact⟨congrArg Value.bool (by first|rfl|(rw[HVL.out];rfl)),Fr.of_below ak⟩
  case rest =>
  obtain⟨rfl,K⟩:=hcut;have x:=Hd (A.then K);have J:=Hd (B.fr K qs);have D:=Hd (C.fr K qs);clear n1 n2 n3 n4 v1 v2 v3 v4 K;have n2:=J.k2;have n3:=J.k3;have n4:=J.k4;have v2:=D.k2;have v3:=D.k3;have v4:=D.k4;have v5:=D.k5;have⟨v,ag⟩:=eR (wc);rw[ag]at n2 n3 n4 v2 v3 v4 v5 x J D ⊢;clear ag
  cases a:(q && !gF l)with
  | true =>
   have e:=b.out;rw[if_pos a]at e;subst e;clear b a
   go_wp2
   go_ret
   exact⟨rfl,x.out⟩
  | false =>
  have e:=b.out;rw[if_neg (by rw[a];simp)]at e
  replace b:=Hd e
  clear a e
  go_upto_region 11 with fail
  go_cut [54]from 55 to 62 (λs W=>s=.bool (p && !fM j 1073741824)/\v=W)
  case first =>
   cases p with
   | false =>
    go_wp2
    go_meet
    exact⟨rfl,rfl⟩
   | true =>
    go_wp2_with ((go_at_call 116;(with_reducible refine(rT j 1073741824 v).mono ?_);rintro e w4 ⟨rfl,rfl⟩))
    go_meet
    exact⟨rfl,rfl⟩
  case rest =>
  obtain⟨rfl,rfl⟩:=hcut
  cases a:(p && !fM j 1073741824)with
  | true =>
   have e:=b.out;rw[if_pos a]at e;subst e;clear b a
   go_wp2
   go_ret
   exact⟨rfl,x.out⟩
  | false =>
  have e:=b.out;rw[if_neg (by rw[a];simp)]at e
  replace b:=Hd e
  clear a e
  go_upto_region 12 with fail
  go_cut [54]from 63 to 72 (λs W=>s=.bool (o && !fM i z)/\v=W)
  case first =>
   cases o with
   | false =>
    go_wp2
    go_meet
    exact⟨rfl,rfl⟩
   | true =>
    go_wp2_with ((go_at_call 116;(with_reducible refine(rT i z v).mono ?_);rintro e w4 ⟨rfl,rfl⟩))
    go_meet
    exact⟨rfl,rfl⟩
  case rest =>
  obtain⟨rfl,rfl⟩:=hcut
  cases a:(o && !fM i z)with
  | true =>
   have e:=b.out;rw[if_pos a]at e;subst e;clear b a
   go_wp2
   go_ret
   exact⟨rfl,x.out⟩
  | false =>
  have e:=b.out;rw[if_neg (by rw[a];simp)]at e
  replace b:=Hd e
  clear a e
  go_upto_region 14 with fail
  go_cut [73]from 74 to 81 (λs W=>s=.bool (t && !jG m)/\v=W)
  case first =>
   cases t with
   | false =>
    go_wp2
    go_meet
    exact⟨rfl,rfl⟩
   | true =>
    go_wp2_with ((go_at_call 117;(with_reducible refine(Dq ts v qo).mono ?_);rintro e w4 ⟨rfl,rfl⟩))
    go_meet
    exact⟨congrArg Value.bool (by first|rfl|(rw[HWL.out];rfl)),rfl⟩
  case rest =>
  obtain⟨rfl,rfl⟩:=hcut
  cases a:(t && !jG m)with
  | true =>
   have e:=b.out;rw[if_pos a]at e;subst e;clear b a
   go_wp2
   go_ret
   exact⟨rfl,x.out⟩
  | false =>
  have e:=b.out;rw[if_neg (by rw[a];simp)]at e
  replace b:=Hd e
  clear a e;have e:=b.out;subst e;clear b
  go_wp2
  go_ret
  exact⟨rfl,x.out⟩
end Go.Proofs.YtlpmiimgacfmkaaGreatDoor
