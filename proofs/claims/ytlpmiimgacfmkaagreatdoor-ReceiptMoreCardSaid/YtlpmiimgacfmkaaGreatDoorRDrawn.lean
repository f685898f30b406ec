/- Part of the proof. -/
import Derived.Sort.Grow
import Derived.Test.YtlpmiimgacfmkaaGreatDoorRPlain1
import Derived.Test.YtlpmiimgacfmkaaGreatDoorRShelf1
import Derived.Test.YtlpmiimgacfmkaaGreatDoorRWr1
set_option linter.all false
set_option maxHeartbeats 4000000
set_option maxRecDepth 100000
namespace Go.Proofs.YtlpmiimgacfmkaaGreatDoor
open Go.Proofs.Tryz
open Go
def yZ{α:Type}:Result α->World
 | .ok _ w=>w
 | .halt _ w=>w
theorem oZ{α:Type}:∀(a:Ask α) (w:World),w.drawn<=(w.ask a).2.drawn
 | .done _,w=>Nat.le_refl _
 | .ask what range k,w=>by
  unfold World.ask;simp only;split
  ·exact oZ (k 0) w
  ·exact Nat.le_trans (Nat.le_succ _) (oZ (k _) { w with drawn:=w.drawn+1 })
theorem y8(w:World)(c:Sys):w.drawn<=(w.sys c).2.drawn:=by
 unfold World.sys;have h:=oZ (Kernel.perform c w.os) w;split
 ·exact Nat.le_refl _
 ·next a=>rw[a]at h;exact h
theorem qc{p:Program}{w:World}{a:Addr}{u:TypeId}{k:Addr}{v:Value}{b:Bool}{r:World × List Addr}(h:w.viewStore p a u k v b=.ok r):r.1.drawn=w.drawn:=by
 unfold World.viewStore at h;simp only[bind,Except.bind,pure,Except.pure]at h
 repeat' split at h
 all_goals first|(cases h;done)|(injection h with h;subst h;rfl)
theorem qU{p:Program}{w w':World}{a:Addr}{v:Value}{b:Bool}{l:List Addr}(h:w.farStore p a v b=.ok (w',l)):w'.drawn=w.drawn:=by
 unfold World.farStore at h;split at h
 ·split at h
  ·next r c =>
   injection h with h
   subst h;exact qc c
  ·cases h
 ·cases h
theorem tL(w:World)(a:Addr)(n:Nat):(w.freeze a n).drawn=w.drawn:=by
 unfold World.freeze;split <;> rfl
theorem ka{α:Type}(p:Program):∀(s:Sem α) (w:World),w.drawn<=(yZ (s.run p w)).drawn:=by
 intro s
 induction s with
 | pure a=>intro w;exact Nat.le_refl _
 | load m a k ih =>
  intro w;unfold Sem.run;split
  ·exact ih _ w
  ·split
   ·exact ih _ w
   ·exact Nat.le_refl _
 | store m a v k ih =>
  intro w
  have main:w.drawn<=(yZ (match w.cell? a with
   | some _ => if w.frozen? a then Result.halt (.unsupported (.unsafePointer "a write to bytes that a string shares")) w else k.run p (w.setCell a v)
   | none=>match w.farStore p a v (m == .atomic)with
    | .ok (w,_)=>k.run p w
    | .error h=>.halt h w)).drawn:=by
   split
   ·split
    ·exact Nat.le_refl _
    ·exact ih (w.setCell a v)
   ·split
    ·next h=>rw[<-qU h];exact ih _
    ·exact Nat.le_refl _
  cases v <;> simp only[Sem.run] <;> first|exact Nat.le_refl _|exact main
 | new o k ih=>intro w;unfold Sem.run;exact ih _ { w with heap:=w.heap.push o }
 | shape r k ih=>intro w;unfold Sem.run;exact ih _ w
 | freeze a n k ih=>intro w;unfold Sem.run;rw[<-tL w a n];exact ih _
 | frozen a k ih=>intro w;unfold Sem.run;exact ih _ w
 | getObj r k ih =>
  intro w;unfold Sem.run;split
  ·exact Nat.le_refl _
  ·exact ih _ w
  ·exact Nat.le_refl _
 | setObj r o k ih =>
  intro w;unfold Sem.run;split
  ·exact Nat.le_refl _
  ·exact ih { w with heap:=w.heap.setIfInBounds r o }
  ·exact Nat.le_refl _
 | choose q k ih =>
  intro w;unfold Sem.run;split
  ·exact ih _ w
  ·exact Nat.le_trans (Nat.le_succ _) (ih _ { w with drawn:=w.drawn+1 })
 | sys c k ih=>intro w;unfold Sem.run;exact Nat.le_trans (y8 w c) (ih _ _)
 | program k ih=>intro w;unfold Sem.run;exact ih _ w
 | mark m k ih=>intro w;unfold Sem.run;exact ih w
 | halt h=>intro w;exact Nat.le_refl _
section
variable {α:Type} {p:Program} {s:Sem α} {w w':World} {x:α} {hh:Halt} {es es':Array Event} {n:Nat}
theorem gW(e:s.run p w=.ok x w')(h:n<=w.drawn):n<=w'.drawn:=by
 have:=ka p s w;rw[e]at this;exact Nat.le_trans h this
theorem Bp(e:s.run p w=.halt hh w')(h:n<=w.drawn):n<=w'.drawn:=by
 have:=ka p s w;rw[e]at this;exact Nat.le_trans h this
theorem xP{r:Result α}(e:s.runT p w es=(r,es'))(h:n<=w.drawn):n<=(yZ r).drawn:=by
 have a:=Sem.runT_fst p s w es;rw[e]at a;simp only at a;rw[a];exact Nat.le_trans h (ka p s w)
theorem iO{r:Result α}(e:(s.runT p w es).1=r)(h:n<=w.drawn):n<=(yZ r).drawn:=by
 rw[Sem.runT_fst]at e;rw[<-e];exact Nat.le_trans h (ka p s w)
theorem ob(es:Array Event)(h:n<=w.drawn):n<=(yZ (s.runT p w es).1).drawn:=by
 rw[Sem.runT_fst];exact Nat.le_trans h (ka p s w)
end
def se(n:Nat):GStep->Prop
 | .go _ w _=>n<=w.drawn
 | .comm _ _ _ _ w _=>n<=w.drawn
 | .spawn _ _ w _=>n<=w.drawn
 | .count _ w _=>n<=w.drawn
 | .timer _ _ w _=>n<=w.drawn
 | .alone _ _ w _=>n<=w.drawn
 | .newcoro _ _ _ w _=>n<=w.drawn
 | .coroswitch _ _ _ w _=>n<=w.drawn
 | .collect _ w _=>n<=w.drawn
 | .watch _ w _=>n<=w.drawn
 | .ended _ _ _=>True
theorem im{n:Nat}{es:Array Event}{g:GStep}(h:se n g):se n (g.after es):=by
 cases g <;> exact h
theorem kJ{n:Nat}{c:Prop}[Decidable c]{a b:GStep}(d:se n a)(e:se n b):se n (if c then a else b):=by
 split
 ·exact d
 ·exact e
section
variable {p:Program} {n:Nat} {w:World}
theorem uK(a:Nat)(t:ByteArray)(o:Outcome):se n (endWith w a t o):=by
 unfold endWith;simp only
 repeat' split
 all_goals exact trivial
theorem oc{a:Frame}{m:String}(h:n<=w.drawn):se n (endThrow a m w):=h
theorem ze{c:Frame}{a:List ByteArray}{m:String}{b:Bool}(h:n<=w.drawn):se n (dieOf c a m b w):=h
theorem lN{a:Frame}{v:Value}(h:n<=w.drawn):se n (endPrinting p a v w):=by
 unfold endPrinting;simp only;split
 ·exact oc h
 ·exact trivial
theorem od{a:Frame}{cs:List Frame}{d:Option Dying}{m:String}(h:n<=w.drawn):se n (endFatal p a cs d m w):=by
 unfold endFatal;simp only;split
 ·next e=>exact ze (gW e h)
 ·exact trivial
 ·exact trivial
theorem iX{b:Bool}{a:Frame}{cs:List Frame}{d:Option Dying}{v:Value}(h:n<=w.drawn):se n (doReturn p b a cs d v w):=by
 unfold doReturn;simp only
 repeat' split
 all_goals first|exact trivial|exact h
theorem o0{c:Frame}{cs:List Frame}{b:Option Dying}{d:Deferred}(h:n<=w.drawn):se n (callDeferred p c cs b d w):=by
 unfold callDeferred;refine kJ trivial ?_
 ·have a:=ob (p:=p) (s:=invoke d.target d.args) #[] h
  generalize (invoke d.target d.args).runT p w #[]=r at a ⊢;obtain⟨r,es⟩:=r;simp only at a ⊢;refine im ?_
  repeat' split
  all_goals first|exact trivial|exact a|exact od a
theorem wN{g:Bool}{b:Frame}{cs:List Frame}{f:Option Dying}(h:n<=w.drawn):se n (unwind p g b cs f w):=by
 unfold unwind;split
 ·next c _ _ _ =>
  have a:=ob (p:=p) (s:=Instr.takeDeferred c) #[] h;generalize (Instr.takeDeferred c).runT p w #[]=r at a ⊢;obtain⟨r,es⟩:=r;simp only at a ⊢;refine im ?_;split
  ·exact a
  ·exact trivial
 ·exact o0 h
 ·split
  ·exact trivial
  ·split
   ·exact trivial
   ·split
    ·exact h
    ·split
     ·split
      ·exact h
      ·split
       ·next e=>exact gW e h
       ·exact trivial
       ·exact trivial
     ·split
      ·exact lN h
      ·exact trivial
  ·split
   ·exact iX h
   ·next d _ =>
    have a:=ob (p:=p) (s:=results d b.tmps) #[] h;generalize (results d b.tmps).runT p w #[]=r at a ⊢;obtain⟨r,es⟩:=r;simp only at a ⊢;refine im ?_;split
    ·exact iX a
    ·exact trivial
    ·exact trivial
theorem zf{fr:Frame}{cs:List Frame}{dy:Option Dying}{g:Nat}(h:n<=w.drawn):se n (early p fr cs dy g w):=by
 have hn:∀w:World,n<=w.drawn->se n (match w.heap[g]? with
  | some (.pending c elem)=>.go { frame:=fr,callers:=cs,status:=.running,dying:=dy } { w with heap:=w.heap.setIfInBounds g (.cells c elem) }
  | _ => .ended (.stuck "early: the variable does not wait" (fr.pos p)) w) := by
  intro w h;split
  ·exact h
  ·exact trivial
 unfold early;simp only
 repeat' split
 all_goals first|exact trivial|exact h|exact hn _ h|(rename_i w1 e _ _ _ _;exact(gW (w':=w1) e h))|exact(gW (s:=choose (.early g)) (by assumption) h)
theorem uL{a:Frame}{d:Dying}{f:Fatal}(h:n<=w.drawn):se n (writeOn p a d f w):=by
 unfold writeOn;simp only;split
 ·exact trivial
 ·split
  ·next e=>exact xP e h
  ·next e=>exact xP e h
  ·exact trivial
  ·exact trivial
theorem C7{f:Frame}{d:Dying}(h:n<=w.drawn):se n (die p f d w):=by
 unfold die;split
 ·exact uL h
 ·simp only
  split
  ·refine kJ h ?_
   exact uK _ _ _
  ·split
   ·exact h
   ·split
    ·next e=>exact gW e h
    ·exact trivial
   ·next t c b _ =>
    have a:=ob (p:=p) (s:=invoke (.fn (.method b) #[]) #[.iface t c]) #[] h;generalize (invoke (.fn (.method b) #[]) #[.iface t c]).runT p w #[]=r at a ⊢;obtain⟨r,es⟩:=r;simp only at a ⊢;refine im ?_;split
    all_goals first|exact trivial|exact a|exact lN a
   ·exact trivial
theorem ke{b:Bool}{d:Frame}{cs:List Frame}{c:Option Dying}{s:Sem Next}(h:n<=w.drawn):se n (stepG.apply p b d cs c s w):=by
 unfold stepG.apply
 have a:n<=(yZ (if b then s.runT p w #[]else(s.run p w,#[])).1).drawn:=by
  split
  ·exact ob #[] h
  ·exact Nat.le_trans h (ka p s w)
 generalize (if b then s.runT p w #[]else(s.run p w,#[]))=r at a ⊢;obtain⟨r,es⟩:=r;simp only at a ⊢;refine im ?_
 repeat' split
 all_goals first|exact trivial|exact a|exact od a|exact zf a|exact oc a|skip
theorem Bq{c:Bool}{b:Frame}{cs:List Frame}{a:Option Dying}(h:n<=w.drawn):se n (stepG.oper p c b cs a w):=by
 unfold stepG.oper;split
 ·exact trivial
 ·split
  ·exact ke h
  ·exact ke h
theorem Br{d c:Bool}{b:Frame}{cs:List Frame}{a:Option Dying}(h:n<=w.drawn):se n (stepG.exec p d c b cs a w):=by
 unfold stepG.exec;simp only;split
 ·(split
   ·first|exact kJ h trivial|exact trivial|exact h
   ·refine im ?_
    split
    ·next e=>exact iX (iO e h)
    ·exact trivial)
 ·(split
   ·first|exact kJ h trivial|exact trivial|exact h
   ·refine im ?_
    split
    ·next e=>exact iX (iO e h)
    ·exact trivial)
 ·exact h
 ·exact h
 ·exact h
 ·exact h
 ·exact h
 ·split
  ·exact h
  ·exact trivial
 ·exact h
 ·exact h
 ·exact h
 ·exact h
 ·unfold Option.elim
  split
  ·exact h
  ·(split
    ·first|exact kJ h trivial|exact trivial|exact h
    ·refine im ?_
     split
     ·next e=>exact iX (iO e h)
     ·exact trivial)
 ·unfold Option.elim
  split
  ·exact h
  ·(split
    ·first|exact kJ h trivial|exact trivial|exact h
    ·refine im ?_
     split
     ·next e=>exact iX (iO e h)
     ·exact trivial)
 ·refine im ?_
  split
  ·next e=>exact ke (iO e h)
  ·exact trivial
 ·exact trivial
 ·exact ke h
 ·refine im ?_
  split
  ·next e=>exact iO e h
  ·next e=>exact iO e h
  ·exact trivial
 ·exact trivial
 ·exact ke h
 ·unfold Option.elim
  split
  ·exact ke h
  ·exact trivial
 ·refine kJ h ?_
  split
  ·next e=>exact gW e h
  ·exact trivial
 ·exact h
 ·refine kJ (Bq h) h
theorem zg{b a:Bool}{g:Goroutine}(h:n<=w.drawn):se n (stepG p b g w a):=by
 unfold stepG;simp only;split
 ·exact C7 h
 ·exact Br h
 ·exact wN h
def CN(n:Nat):Stepped->Prop
 | .next m=>n<=m.world.drawn
 | .ended _ _=>True
theorem xQ{n:Nat}{c:Prop}[Decidable c]{a b:Stepped}(d:CN n a)(e:CN n b):CN n (if c then a else b):=by
 split
 ·exact d
 ·exact e
theorem qe{rest:Rest}{a:Array CommCase}{w w':World}(h:waitingAt rest a w=some w'):w'.drawn=w.drawn:=by
 unfold waitingAt at h;split at h
 ·split at h
  ·injection h with h;subst h;rfl
  ·cases h
 ·injection h with h;subst h;rfl
theorem qf{rest:Rest}{gs:Array Goroutine}{i:Nat}{g:Goroutine}{d:Array CommCase}{c:Bool}{j:CommShape}(h:n<=w.drawn):CN n (communicate p rest gs i g d c j w).1:=by
 unfold communicate;simp only;split
 ·exact trivial
 ·split
  ·split
   ·split
    ·next e=>show n<=_;rw[qe e];exact h
    ·exact trivial
   ·exact h
  ·split
   ·exact trivial
   ·next e =>
    have a:=gW e h;split
    ·split
     ·next b=>exact Bp b a
     ·exact trivial
    ·exact a
    ·exact a
    ·split
     ·exact a
     ·split
      ·next b=>have f:=gW b a;exact f
      ·exact trivial
    ·exact a
    ·exact a
    ·exact trivial
theorem uM{gs:Array Goroutine}{rest:Rest}(h:n<=w.drawn):CN n (look p gs rest w):=by
 unfold look;split
 ·simp only
  refine xQ trivial ?_;split
  ·exact trivial
  ·split
   ·next e=>have a:=gW e h;exact a
   ·exact trivial
   ·exact trivial
 ·exact trivial
theorem uN(w:World)(c:Nat):(drain w c).2.drawn=w.drawn:=by
 unfold drain;split <;> rfl
theorem oe(m:Machine)(k:Nat)(t:Timer)(a b:Nat):(retime m k t a b).2.world.drawn=m.world.drawn:=by
 unfold retime;simp only
 cases t.chan
 ·rfl
 ·exact uN _ _
theorem sh{m m':Machine}{g:TimerOp}{v:Value}(h:timerOp m g=.ok (v,m')):m'.world.drawn=m.world.drawn:=by
 have e:∀(d:Machine) (b:Addr) (f:Nat->Timer->Value × Machine),(∀k t,(f k t).2.world.drawn=m.world.drawn)->timerOp.named d b f=.ok (v,m')->m'.world.drawn=m.world.drawn:=by
  intro d b f i h;unfold timerOp.named at h;split at h
  ·next c _ =>
   injection h with h
   have:=i c (d.rest.timers.getD c default);rw[h]at this;exact this
  ·cases h
 cases g with
 | new t =>
  simp only[timerOp]at h;split at h
  ·injection h with h;injection h with _ h;subst h;rfl
  ·split at h
   ·split at h
    ·cases h
    ·injection h with h;injection h with _ h;subst h;rfl
   ·cases h
 | stop b=>exact e _ _ _ (λk t=>oe m k t _ _) h
 | reset b j q =>
  simp only[timerOp]at h;split at h
  ·next o a =>
   refine e _ _ _ (λk t=>?_) h;rw[oe];unfold timerOp.opened at a;split at a
   ·split at a
    ·injection a with a;subst a;rfl
    ·cases a
   ·injection a with a;subst a;rfl
  ·cases h
 | deadline l r u j =>
  simp only[timerOp]at h
  injection h with h;injection h with _ h;subst h;rfl
theorem Bs{m:Machine}{i:Nat}{j:Bool}(l:n<=m.world.drawn):CN n (runT p m i j).1:=by
 unfold runT;simp only;have q:∀(g:Goroutine),se n (stepG p (i == 0) g m.world j):=λg=>zg l;generalize (m.gs.swapAt! i _)=k;obtain⟨g,gs⟩:=k;simp only;have a:=q g;generalize stepG p (i == 0) g m.world j=s at a ⊢
 cases s with
 | ended o w es=>exact trivial
 | comm h r b v w es=>exact qf a
 | go h w es=>exact a
 | spawn h c w es=>exact a
 | count h w es =>
  simp only
  exact xQ trivial a
 | alone h t w es=>exact a
 | collect h w es=>exact uM a
 | watch h w es=>exact a
 | newcoro h c d w es=>exact a
 | coroswitch h c e w es =>
  simp only;split
  ·exact a
  ·split
   ·next f=>simp only[endThrow,dieOf]at f;injection f with _ f;rw[<-f];exact a
   ·exact trivial
  ·exact trivial
 | timer h u w es =>
  simp only;split
  ·next f=>show n<=_;rw[sh f];exact a
  ·split
   ·next f=>simp only[endThrow,dieOf]at f;injection f with _ f;rw[<-f];exact a
   ·exact trivial
  ·exact trivial
  ·exact trivial
theorem zh{m:Machine}{k:Nat}(h:n<=m.world.drawn):CN n (serve p m k):=by
 unfold serve;split
 ·exact trivial
 ·exact h
 ·simp only
  split
  ·exact trivial
  ·exact h
def E9(n:Nat):Move->Prop
 | .goroutine m _=>n<=m.world.drawn
 | .machine s _=>CN n s
theorem lv{n:Nat}{c:Prop}[Decidable c]{a b:Move}(d:E9 n a)(e:E9 n b):E9 n (if c then a else b):=by
 split
 ·exact d
 ·exact e
theorem o3{m:Machine}(i:n<=m.world.drawn):E9 n (askOn p m):=by
 unfold askOn;simp only;split
 ·exact trivial
 ·next e =>
  have b:=gW e i;refine lv (zh b) ?_;split
  ·split
   ·exact b
   ·refine lv b ?_
    split
    ·exact trivial
    ·exact trivial
  ·split
   ·(split
     ·exact trivial
     ·next d =>
      have a:=gW d b;refine lv a ?_;split
      ·exact trivial
      ·next f=>have h:=gW f a;exact h)
   ·split
    ·exact trivial
    ·next c =>
     have g:=gW c b
     (split
      ·exact trivial
      ·next d =>
       have a:=gW d g;refine lv a ?_;split
       ·exact trivial
       ·next f=>have h:=gW f a;exact h)
    ·next c=>have g:=gW c b;exact g
    ·next c =>
     have g:=gW c b
     (split
      ·exact trivial
      ·next d =>
       have a:=gW d g;refine lv a ?_;split
       ·exact trivial
       ·next f=>have h:=gW f a;exact h)
theorem xR{m:Machine}(h:n<=m.world.drawn):E9 n (ask p m):=by
 unfold ask;split
 ·split
  ·exact trivial
  ·next e =>
   have a:=gW e h;have b:=uM (p:=p) (gs:=m.gs) (rest:=m.rest) a;split
   ·next c=>rw[c]at b;exact o3 b
   ·exact b
  ·next e=>have a:=gW e h;exact o3 a
 ·exact o3 h
theorem Bt{m:Machine}(h:n<=m.world.drawn):E9 n (move p m):=by
 unfold move;split
 ·exact lv h trivial
 ·split
  ·exact lv h (xR h)
  ·exact xR h
theorem Bu{m:Machine}(h:n<=m.world.drawn):CN n (step p m):=by
 unfold step stepT;have:=Bt (p:=p) h;split
 ·next e=>rw[e]at this;exact Bs this
 ·next e=>rw[e]at this;exact this
theorem uO:∀(k:Nat) {m:Machine},n<=m.world.drawn->CN n (runN p k m)
 | 0,_,h=>h
 | k+1,m,h=>by
  unfold runN;have:=Bu (p:=p) h;split
  ·next e=>rw[e]at this;exact uO k this
  ·exact this
theorem pK{m m':Machine}(h:Steps p m m'):m.world.drawn<=m'.world.drawn:=by
 obtain⟨k,a⟩:=h;have:=uO (p:=p) k (Nat.le_refl m.world.drawn);rw[a]at this;exact this
end
theorem uP{P:Program}{f:FuncId}{args:Array Value}{w:World}{R:Ending->World->Prop}(h:Calls P f args w R)(g:∀w',¬R .outgrown w'):
 Calls P f args w λe w'=>R e w'/\w.drawn<=w'.drawn:=by
 intro cs;obtain⟨e,w',a,d,b,i,j⟩:=h cs;refine⟨e,w',a,⟨d,?_⟩,b,i,j⟩
 cases e with
 | returned v=>exact pK (m:=lone (Frame.enter P f args .normal) cs w) (m':=lone a cs w') b
 | panicked c=>exact pK (m:=lone (Frame.enter P f args .normal) cs w) (m':=lone a cs w') b
 | outgrown=>exact absurd d (g w')
open Go.RowKit Go.Sort
theorem Row.len1{α:Type}{w:World}{B n:Nat}{A:Option Addr}{f:α->Value}{xs:List α}(h:Row w B 1 A n (xs.map f)):xs.length=n:=by simpa using h.1
theorem si{w w':World}(h:Below w.heap.size w w')(k:w.drawn<=w'.drawn):∃q os,w'=grow (w.drewN q) os:=by
 refine⟨w'.drawn - w.drawn,w'.heap.extract w.heap.size w'.heap.size,?_⟩;obtain⟨a,s,b,os,r⟩:=w';obtain⟨d,e,f,j,g⟩:=h;simp only at d e f j g k;subst d e f
 have n:a=w.heap++a.extract w.heap.size a.size:=by
  apply Array.ext
  ·simp;omega
  ·intro i o p
   rcases Nat.lt_or_ge i w.heap.size with c|m
   ·have:=g i c
    rw[Array.getElem?_eq_getElem o,Array.getElem?_eq_getElem c]at this
    injection this with this
    rw[this,Array.getElem_append_left c]
   ·rw[Array.getElem_append_right m]
    simp
    congr 1
    omega
 have l:b=w.drawn+(b - w.drawn):=qo
 show (⟨a,w.tape,b,w.os,w.output⟩:World)=⟨w.heap++a.extract w.heap.size a.size,w.tape,w.drawn+(b - w.drawn),w.os,w.output⟩
 rw[<-n,<-l]
theorem wO{P:Program}{f:FuncId}{args:Array Value}{w:World}{v:Value}(h:Calls P f args w λe w'=>e=.returned v/\Below w.heap.size w w'):
 Calls P f args w λe w'=>e=.returned v/\∃q os,w'=grow (w.drewN q) os :=
 (uP h (λw' d=>by cases d.1)).mono λ_ _ ⟨⟨c,a⟩,b⟩=>⟨c,si a b⟩
def jt:List Nat->List Nat->Int
 | [],[]=>0
 | [],_::_=>-1
 | _::_,[]=>1
 | x::xs,y::a=>if x<y then -1 else if y<x then 1 else jt xs a
theorem sI{xs a:List Nat}:∀(k:Nat),(∀j,j<k->xs[j]?=a[j]?)->k<=xs.length->k<=a.length->jt xs a=jt (xs.drop k) (a.drop k)
 | 0,_,_,_=>by simp
 | k+1,h,c,d=>by
  rw[sI k (λj b=>h j qo) qo qo];rw[List.drop_eq_getElem_cons (i:=k) qo,List.drop_eq_getElem_cons (l:=a) (i:=k) qo];have e:=h k qo;rw[gx qo,gx qo]at e
  injection e with e
  rw[jt,if_neg qo,if_neg qo]
theorem o5(B A':Option Addr)(n m c d:Nat)(xs b:List Nat)(w:World)(aa:n<=1000)(hm:m<=1000)(R:∀x∈xs,x<=10000000)(S:∀x∈b,x<=10000000)
 (E:Row w w.heap.size 1 B n (xs.map kB)) (F:Row w w.heap.size 1 A' m (b.map kB)) :
 Calls prog 185 #[.slice B n c,.slice A' m d] w λe w'=>e=.returned (.int .i64 (jt xs b))/\w=w':=by
 have v:=Hd E.len1;have o:=Hd F.len1;clear R S
 go_enter func185,ntmps185
 go_wp2
 go_loop [11] (λi=>∃k:Nat,k<=n/\k<=m/\i=k/\(∀j,j<k->xs[j]?=b[j]?)) (λi=>n - (intOf i).toNat)
 case atStart=>exact⟨0,qo,qo,rfl,λj K=>absurd K qo⟩
 case round =>
  obtain⟨k,T,U,rfl,s⟩:=hrel;have G:=sI k s (by rw[v.out];exact T) (by rw[o.out];exact U);have l:=Hd G;have M:=Hd s;clear s G
  by_cases V:k<n
  ·obtain⟨Z,o1,u,rfl,_,z,P⟩:=E.at1 V
   rw[List.getElem?_map]at z;obtain⟨x,p,rfl⟩:=Option.map_eq_some_iff.1 z;clear z
   have H:xs.drop k=x::xs.drop (k+1):=by
    have t:=(i9.1 p).1;rw[List.drop_eq_getElem_cons t,(i9.1 p).2]
   have O:=Hd p;have q:=Hd H;clear p H;unfold kB at P
   by_cases X:k<m
   ·obtain⟨b2,o2,u,rfl,_,A,Q⟩:=F.at1 X
    rw[List.getElem?_map]at A;obtain⟨y,g,rfl⟩:=Option.map_eq_some_iff.1 A;clear A
    have I:b.drop k=y::b.drop (k+1):=by
     have t:=(i9.1 g).1;rw[List.drop_eq_getElem_cons t,(i9.1 g).2]
    have r:=Hd g;have C:=Hd I;clear g I;unfold kB at Q;have a:=λW=>Tryz.cmp_Compare_int (x:Int) (y:Int) W
    by_cases L:x<y
    ·have f:Lib.compareInt (x:Int) (y:Int)=-1:=by unfold Lib.compareInt;rw[if_pos qo]
     rw[f]at a;have h:=Hd a;clear a f
     go_wp2_with fail
     refine(h.out _).mono ?_;rintro e w' ⟨rfl,rfl⟩
     go_wp2_with fail
     go_ret
     refine⟨?_,rfl⟩;rw[l.out,q.out,C.out,jt,if_pos L];rfl
    ·by_cases Y:y<x
     ·have f:Lib.compareInt (x:Int) (y:Int)=1:=by unfold Lib.compareInt;rw[if_neg qo,if_pos qo]
      rw[f]at a;have h:=Hd a;clear a f
      go_wp2_with fail
      refine(h.out _).mono ?_;rintro e w' ⟨rfl,rfl⟩
      go_wp2_with fail
      go_ret
      refine⟨?_,rfl⟩;rw[l.out,q.out,C.out,jt,if_neg L,if_pos Y];rfl
     ·have f:Lib.compareInt (x:Int) (y:Int)=0:=by unfold Lib.compareInt;rw[if_neg qo,if_neg qo]
      have J:x=y:=qo
      have N:=Hd J;rw[f]at a;have h:=Hd a;clear a f J
      go_wp2_with fail
      refine(h.out _).mono ?_;rintro e w' ⟨rfl,rfl⟩
      go_wp2_with fail
      go_round
      case rel=>exact⟨k+1,qo,qo,by go_num,λj K=>by
       rcases Nat.lt_or_ge j k with D|D
       ·exact M.out j D
       ·obtain rfl:j=k:=qo
        rw[O.out,r.out,N.out]⟩
      case measure=>simp[intOf];omega
   ·go_wp2_with fail
    go_ret
    refine⟨?_,rfl⟩;rw[l.out,q.out,List.drop_eq_nil_of_le (show b.length<=_ by rw[o.out];omega)];rfl
  ·by_cases ab:n<m
   ·obtain⟨y,ys',g⟩:∃y ys',b.drop k=y::ys':=⟨_,_,List.drop_eq_getElem_cons (by rw[o.out];omega)⟩
    have r:=Hd g;clear g
    go_wp2_with fail
    go_ret
    refine⟨?_,rfl⟩;rw[l.out,r.out,List.drop_eq_nil_of_le (by rw[v.out];omega)];rfl
   ·go_wp2_with fail
    go_ret
    refine⟨?_,rfl⟩;rw[l.out,List.drop_eq_nil_of_le (show b.length<=_ by rw[o.out];omega),List.drop_eq_nil_of_le (by rw[v.out];omega)];rfl
theorem qV(s:Nm):(fG s).length<=10:=by
 unfold fG;split
 ·have:=pS s;simpa using this
 ·simp
theorem tM(s:Nm)(a c:Nat):(gd s a c).1.1<=10000000:=by
 unfold gd;split
 ·simp only
  have g:∀x∈(s.drop a).take (jd s a),oC x=true:=by
   intro x d
   have e:(s.drop a).take (jd s a)=((s.drop a).take 7).takeWhile oC:=by
    unfold jd;have b:((s.drop a).take 7).takeWhile oC <+: (s.drop a):=(List.takeWhile_prefix _).trans (List.take_prefix _ _);exact(List.prefix_iff_eq_take.1 b).symm
   rw[e]at d;have:=List.all_takeWhile (p:=oC) (l:=(s.drop a).take 7);rw[List.all_eq_true]at this;exact this x d
  have b:=oD _ g
  have f:((s.drop a).take (jd s a)).length<=7:=by
   have:=List.length_take_le (jd s a) (s.drop a);have:=yi s a;omega
  have h:10 ^ ((s.drop a).take (jd s a)).length<=10 ^ 7:=Nat.pow_le_pow_right qo f;omega
 ·simp
theorem oh:∀(f:Nat) (s:Nm) (a c:Nat),∀x∈gi f s a c,x.1<=10000000
 | 0,_,_,_,x,b=>by simp[gi]at b
 | f+1,s,a,c,x,b=>by
  rw[gi,List.mem_cons]at b
  rcases b with h|h
  ·rw[h];exact tM s a c
  ·split at h
   ·simp at h
   ·split at h
    ·rw[gI]at h;rw[h];simp
    ·exact oh f s _ _ x h
theorem oj(s:Nm):∀x∈fG s,x<=10000000:=by
 intro x a;unfold fG at a;split at a
 ·obtain⟨y,b,rfl⟩:=List.mem_map.1 a
  unfold fT at b;split at b
  ·simp at b
  ·exact oh 9 s 0 0 y b
 ·simp at a
theorem sJ:∀l:List Nat,jt l l=0
 | []=>rfl
 | x::l=>by rw[jt,if_neg qo,if_neg qo];exact sJ l
theorem mS(x y:ByteArray)(w:World)(s:x.size<=140737488355328)(t:y.size<=140737488355328)(z:gp x.data.toList=true)(A:gp y.data.toList=true):
 Calls prog 152 #[.string x,.string y] w λe w'=>e=.returned (.int .i64 (jt (fG x.data.toList) (fG y.data.toList)))/\Below w.heap.size w w':=by
 by_cases a:x.data.toList=y.data.toList
 ·have t1:=AW a
  have j:Hid (jt (fG x.data.toList) (fG y.data.toList)=0):=by unfold Hid;rw[a];exact sJ _
  clear a
  go_enter func152,ntmps152
  go_wp2_with fail
  go_ret
  exact⟨by rw[j.out];rfl,Below.refl _ _⟩
 ·have t1:=AU a
  clear a
  go_enter func152,ntmps152
  go_wp2_with fail
  refine(mG x _ qo).mono ?_;rintro e B ⟨rfl,b⟩
  go_wp2_with fail
  refine(mG y _ qo).mono ?_;rintro e w2 ⟨rfl,c⟩
  go_wp2_with fail
  refine(oF x _ qo).mono ?_;rintro e C ⟨u,rfl,g,f⟩;obtain⟨A3,k,rfl,m⟩:=nN g
  go_wp2_with fail
  refine(oF y _ qo).mono ?_;rintro e p ⟨v,rfl,h,d⟩;obtain⟨i,l,rfl,o⟩:=nN h;have n:=(m.below d).more d.size;have q:=qV x.data.toList;have r:=qV y.data.toList;clear g h
  go_wp2_with fail
  refine(o5 A3 i _ _ k l _ _ p qo qo (oj _) (oj _) n o).mono ?_;rintro e D ⟨rfl,rfl⟩
  go_wp2_with fail
  go_ret
  exact⟨rfl,((b.trans (c.mono b.size)).trans (f.mono (Nat.le_trans b.size c.size))).trans (d.mono (Nat.le_trans (Nat.le_trans b.size c.size) f.size))⟩
open Go.RowKit
structure ON where
 kind:Int
 owner:Nm
 number:Int
 index:Int
 text:Nm
def ON.cells(n:ON):List Value:=[.int .i64 n.kind,ft n.owner,.int .i64 n.number,.int .i64 n.index,ft n.text]
def fg(n:ON):Value:=.agg #[.int .i64 n.kind,ft n.owner,.int .i64 n.number,.int .i64 n.index,ft n.text]
def iP(k:Int):Bool:=decide (1<=k/\k<=20)
def fO(n m:Int):Bool:=decide (0<=n/\n<=m)
def mT(c:UInt8):Bool:=decide (33<=c.toNat/\c.toNat<=126/\c.toNat≠47)
def jB(s:Nm):Bool:=decide (s≠[]/\s.length<=32) && s.all mT
theorem wP(k:Int)(w:World):Calls prog 114 #[.int .i64 k] w λe w'=>e=.returned (.bool (iP k))/\w=w':=by
 by_cases a:1<=k
 ·by_cases b:k<=20
  ·have e:iP k=true:=by simp[iP,a,b]
   rw[e]
   go_enter func114,ntmps114
   go_wp2_with fail
   go_ret
   exact⟨rfl,rfl⟩
  ·have e:iP k=false:=by simp only[iP,decide_eq_false_iff_not];omega
   rw[e]
   go_enter func114,ntmps114
   go_wp2_with fail
   go_ret
   exact⟨rfl,rfl⟩
 ·have e:iP k=false:=by simp only[iP,decide_eq_false_iff_not];omega
  rw[e]
  go_enter func114,ntmps114
  go_wp2_with fail
  go_ret
  exact⟨rfl,rfl⟩
theorem qW(n m:Int)(w:World):Calls prog 116 #[.int .i64 n,.int .i64 m] w λe w'=>e=.returned (.bool (fO n m))/\w=w':=by
 by_cases a:0<=n
 ·by_cases b:n<=m
  ·have e:fO n m=true:=by simp[fO,a,b]
   rw[e]
   go_enter func116,ntmps116
   go_wp2_with fail
   go_ret
   exact⟨rfl,rfl⟩
  ·have e:fO n m=false:=by simp only[fO,decide_eq_false_iff_not];omega
   rw[e]
   go_enter func116,ntmps116
   go_wp2_with fail
   go_ret
   exact⟨rfl,rfl⟩
 ·have e:fO n m=false:=by simp only[fO,decide_eq_false_iff_not];omega
  rw[e]
  go_enter func116,ntmps116
  go_wp2_with fail
  go_ret
  exact⟨rfl,rfl⟩
theorem jy(n a m:Int)(w:World):Calls prog 124 #[.int .i64 n,.int .i64 a,.int .i64 m] w λe w'=>e=.returned (.bool (decide (a<=n/\n<=m)))/\w=w':=by
 by_cases b:a<=n
 ·by_cases c:n<=m
  ·rw[show decide (a<=n/\n<=m)=true by simp[b,c]]
   go_enter func124,ntmps124
   go_wp2_with fail
   go_ret
   exact⟨rfl,rfl⟩
  ·rw[show decide (a<=n/\n<=m)=false by simp[c]]
   go_enter func124,ntmps124
   go_wp2_with fail
   go_ret
   exact⟨rfl,rfl⟩
 ·rw[show decide (a<=n/\n<=m)=false by simp[b]]
  go_enter func124,ntmps124
  go_wp2_with fail
  go_ret
  exact⟨rfl,rfl⟩
theorem Bv{s:Nm}{k:Nat}{c:UInt8}{p:UInt8->Bool}(h:s[k]?=some c):(s.take (k+1)).all p=((s.take k).all p && p c):=by
 rw[np h,List.all_append];simp
theorem Bw(s:ByteArray)(w:World)(M:s.size<=9223372036854775000):Calls prog 117 #[.string s] w λe w'=>e=.returned (.bool (jB s.data.toList))/\w=w':=by
 have B:=fM s
 by_cases a:s.data.toList=[]
 ·have e:jB s.data.toList=false:=by simp[jB,a]
  rw[e];have I : s.toList = [] := by rw [ByteArray.toList_eq]; exact a
  go_enter func117,ntmps117
  go_wp2_with fail
  go_ret
  exact⟨rfl,rfl⟩
 ·have H:=mV a
  have t:s.toList≠[]:=by rw[ByteArray.toList_eq];exact a
  have J:(s.toList == [])=false:=by simpa using t
  by_cases K:32<s.size
  ·have e:jB s.data.toList=false:=by simp[jB];intro _ h;omega
   rw[e];have u:(32:Int)<(s.size:Int):=qo
   go_enter func117,ntmps117
   go_wp2_with fail
   go_ret
   exact⟨rfl,rfl⟩
  ·have e:jB s.data.toList=s.data.toList.all mT:=by
    unfold jB;rw[show decide (s.data.toList≠[]/\s.data.toList.length<=32)=true by simp only[decide_eq_true_eq];exact⟨a,qo⟩];simp
   rw[e];have u:¬(32:Int)<(s.size:Int):=qo
   have n:=Hd B;obtain⟨r,g⟩:=eR (s.data.toList.all mT);rw[g];have d:=Hd g
   go_enter func117,ntmps117
   go_wp2_with fail
   go_loop [13] (λi=>∃k:Nat,k<=s.size/\i=k/\(s.data.toList.take k).all mT=true) (λi=>s.size - (intOf i).toNat)
   case atStart=>exact⟨0,qo,rfl,rfl⟩
   case round =>
    obtain⟨k,L,rfl,v⟩:=hrel;have c:=Hd v
    by_cases C:k<s.size
    ·have D:(k:Int)<(s.size:Int):=qo
     have f:=iw C
     have z:mT s[k]=false->r=false:=λy=>by
      rw[<-d.out];rw[Bool.eq_false_iff];intro j;rw[List.all_eq_true]at j;have:=j s[k] (iu f);rw[y]at this
      cases this
     have m:=Hd f;have b:=Hd z
     by_cases E:s[k].toNat<33
     ·have o:(s[k].toNat:Int)<33:=qo
      have e:=b.out (by simp only[mT,decide_eq_false_iff_not];omega);subst e
      go_wp2_with fail
      go_ret
      exact⟨rfl,rfl⟩
     ·have o:¬(s[k].toNat:Int)<33:=qo
      by_cases F:126<s[k].toNat
      ·have p:(126:Int)<(s[k].toNat:Int):=qo
       have e:=b.out (by simp only[mT,decide_eq_false_iff_not];omega);subst e
       go_wp2_with fail
       go_ret
       exact⟨rfl,rfl⟩
      ·have p:¬(126:Int)<(s[k].toNat:Int):=qo
       by_cases G:s[k].toNat=47
       ·have q:((s[k].toNat:Int) == 47)=true:=by simp;omega
        have e:=b.out (by simp only[mT,decide_eq_false_iff_not];omega);subst e
        go_wp2_with fail
        go_ret
        exact⟨rfl,rfl⟩
       ·have q:((s[k].toNat:Int) == 47)=false:=by simp;omega
        have x:(s.data.toList.take (k+1)).all mT=true:=by rw[Bv m.out,c.out];simp only[mT,Bool.true_and,decide_eq_true_eq];omega
        have l:=Hd x
        go_wp2_with fail
        go_round
        case rel=>exact⟨k+1,qo,by go_num,l.out⟩
        case measure=>simp[intOf];omega
    ·have A:k=s.size:=qo
     have e:r=true:=by
      rw[<-d.out];have h:=c.out;rw[A,List.take_of_length_le (by rw[n.out];exact fV _)]at h;exact h
     subst e;have D:¬(k:Int)<(s.size:Int):=qo
     go_wp2_with fail
     go_ret
     exact⟨rfl,rfl⟩
def qg(s:Nm):Bool:=decide (s≠[])
def Ej(u:Usage)(n:ON):Bool:=!u.owner && qg n.owner
def Ek(u:Usage)(n:ON):Bool:=!u.number && decide (n.number≠0)
def EC(u:Usage)(n:ON):Bool:=!u.index && decide (n.index≠0)
def Fa(u:Usage)(n:ON):Bool:=!u.text && qg n.text
def tV(u:Usage)(n:ON):Bool:=u.owner && !gp n.owner
def tN(u:Usage)(n:ON):Bool:=u.number && !fO n.number 1073741824
def tI(u:Usage)(n:ON):Bool:=u.index && !fO n.index u.most
def tW(u:Usage)(n:ON):Bool:=u.text && !jB n.text
def kT(u:Usage)(n:ON):Int :=
 if Ej u n then 1 else if Ek u n then 1 else if EC u n then 1 else if Fa u n then 1 else if tV u n then 12 else if tN u n then 2 else if tI u n then 2 else if tW u n then 12 else 0
def eX(n:ON):Int:=if iP n.kind then kT (us n.kind.toNat) n else 11
theorem jO(s:ByteArray):s.size=s.data.toList.length:=by rw[Lib.size_eq]
theorem qX{w:World}(b:Ok w){k:Nat}(a:k<21):w.cell? ⟨0,k*6,none⟩=some (ft (us k).word)/\w.cell? ⟨0,k*6+1,none⟩=some (.bool (us k).owner)/\w.cell? ⟨0,k*6+2,none⟩=some (.bool (us k).number)/\w.cell? ⟨0,k*6+3,none⟩=some (.bool (us k).index)/\w.cell? ⟨0,k*6+4,none⟩=some (.bool (us k).text)/\w.cell? ⟨0,k*6+5,none⟩=some (.int .i64 (us k).most) :=
 ⟨b.uss k a 0 _ rfl,b.uss k a 1 _ rfl,b.uss k a 2 _ rfl,b.uss k a 3 _ rfl,b.uss k a 4 _ rfl,b.uss k a 5 _ rfl⟩
def ol(w:World)(r:Int)(e:Ending)(w':World):Prop:=e=.returned (.int .i64 r)/\Fr [] w w'
theorem ld(n:ON)(w:World)(ac:Ok w)(ho:n.owner.length<=140737488355328)(ht:n.text.length<=140737488355328):Calls prog 53 #[fg n] w (ol w (eX n)):=by
 obtain⟨N,l,j,i,m⟩:=n;unfold fg eX;simp only at ho ht ⊢;obtain⟨os,X,L,an⟩:=eT l;obtain⟨ts,Y,M,ao⟩:=eT m;rw[X,Y];have y:=λW=>wP N W
 cases E:iP N with
 | false =>
  rw[E]at y;have O:=Hd y;clear y E X Y
  go_enter func53,ntmps53
  go_wp2_with ((go_at_call 114;(with_reducible refine(O.out _).mono ?_);rintro e I ⟨rfl,rfl⟩))
  go_ret
  exact⟨rfl,(Fq [] w).alloc _⟩
 | true =>
  obtain⟨k,hk,am⟩:∃k:Nat,N=(k:Int)/\k<21:=by
   simp only[iP,decide_eq_true_eq]at E;exact⟨N.toNat,qo,qo⟩
  subst hk;rw[E]at y;rw[if_pos rfl,show ((k:Nat):Int).toNat=k from rfl];obtain⟨I,af,U,V⟩:=kS w #[k,os,j,i,ts] 31;obtain⟨e0,P,Q,R,S,T⟩:=qX (ac.fr0 V) am;obtain⟨u,hu⟩:=eR (us k);rw[hu]at e0 P Q R S T ⊢;obtain⟨uw,q,p,o,t,z⟩:=u;simp only at e0 P Q R S T;obtain⟨r,F⟩:=eR (kT ⟨uw,q,p,o,t,z⟩ ⟨(k:Int),l,j,i,m⟩);rw[F];unfold kT Ej Ek EC Fa tV tN tI tW at F;simp only at F;have b:=Hd F;clear F;obtain⟨us,ae,_,_⟩:=eT uw;rw[ae]at e0;have x0:=U.c 0;simp only[List.getElem?_toArray,List.getElem?_cons_zero,List.getElem?_cons_succ]at x0;have al:(k:Int)<21:=qo
  have O:=Hd y;have aj:=Hd af;have ah:=Hd U;have ai:=Hd V;clear y E X Y hu ae af U V an ao
  go_enter func53,ntmps53
  go_upto_region 1 with fail
  rw[aj.out]
  go_upto_region 4 with((go_at_call 114;(with_reducible refine(O.out _).mono ?_);rintro e I ⟨rfl,rfl⟩))
  obtain⟨w2,G⟩:=eR (I.alloc (.cells #[us,.bool q,.bool p,.bool o,.bool t,z] 216));have aa:Fr [] w w2:=by rw[<-G];exact ai.out.alloc _
  have ab:BoxN w2 w.heap.size 31 #[k,os,j,i,ts]:=by rw[<-G];exact ah.out.alloc _
  have ad:BoxN w2 I.heap.size 216 #[us,.bool q,.bool p,.bool o,.bool t,z]:=by rw[<-G];exact BoxN.new I _ _
  rw[G];have A:=Hd aa;have B:=Hd ab;have C:=Hd ad;clear G aa ab ad e0 P Q R S T x0 al ac;have n1:=B.out.k1;have n2:=B.out.k2;have n3:=B.out.k3;have n4:=B.out.k4;have v1:=C.out.k1;have v2:=C.out.k2;have v3:=C.out.k3;have v4:=C.out.k4
  go_upto_region 4 with fail
  go_cut [12]from 13 to 20 (λs W=>s=.bool (!q && qg l)/\w2=W)
  case first =>
   cases q with
   | true =>
    go_wp2_with fail
    go_meet
    exact⟨rfl,rfl⟩
   | false =>
    by_cases d:l=[]
    ·have h:os.data.toList=[]:=by rw[L];exact d
     have H:os.toList=[]:=by rw[ByteArray.toList_eq];exact h
     have f:(!false && qg l)=false:=by simp[qg,d]
     have g:=Hd f;clear d h f
     go_wp2_with fail
     go_meet
     exact⟨congrArg Value.bool g.out.symm,rfl⟩
    ·have h:os.data.toList≠[]:=by rw[L];exact d
     have H:os.toList≠[]:=by rw[ByteArray.toList_eq];exact h
     have Z:(os.toList == [])=false:=by simpa using H
     have f:(!false && qg l)=true:=by simp[qg,d]
     have g:=Hd f;clear d h f
     go_wp2_with fail
     go_meet
     exact⟨congrArg Value.bool g.out.symm,rfl⟩
  case rest =>
  obtain⟨rfl,rfl⟩:=hcut
  cases a:(!q && qg l)with
  | true =>
   have e:=b.out;rw[if_pos a]at e;subst e;clear b a
   go_wp2_with fail
   go_ret
   exact⟨rfl,A.out⟩
  | false =>
  have e:=b.out;rw[if_neg (by rw[a];simp)]at e
  replace b:=Hd e
  clear a e
  go_upto_region 5 with fail
  go_cut [12]from 21 to 28 (λs W=>s=.bool (!p && decide (j≠0))/\w2=W)
  case first =>
   cases p with
   | true =>
    go_wp2_with fail
    go_meet
    exact⟨rfl,rfl⟩
   | false =>
    by_cases d:j=0
    ·have h:(j == 0)=true:=by simp[d]
     have f:(!false && decide (j≠0))=false:=by simp[d]
     have g:=Hd f;clear f;subst d
     go_wp2_with fail
     go_meet
     exact⟨congrArg Value.bool g.out.symm,rfl⟩
    ·have h:(j == 0)=false:=by simp[d]
     have Z:(j != 0)=true:=by simp[d]
     have f:(!false && decide (j≠0))=true:=by simp[d]
     have g:=Hd f;clear f d
     go_wp2_with fail
     go_meet
     exact⟨congrArg Value.bool g.out.symm,rfl⟩
  case rest =>
  obtain⟨rfl,rfl⟩:=hcut
  cases a:(!p && decide (j≠0))with
  | true =>
   have e:=b.out;rw[if_pos a]at e;subst e;clear b a
   go_wp2_with fail
   go_ret
   exact⟨rfl,A.out⟩
  | false =>
  have e:=b.out;rw[if_neg (by rw[a];simp)]at e
  replace b:=Hd e
  clear a e
  go_upto_region 6 with fail
  go_cut [12]from 29 to 36 (λs W=>s=.bool (!o && decide (i≠0))/\w2=W)
  case first =>
   cases o with
   | true =>
    go_wp2_with fail
    go_meet
    exact⟨rfl,rfl⟩
   | false =>
    by_cases d:i=0
    ·have h:(i == 0)=true:=by simp[d]
     have f:(!false && decide (i≠0))=false:=by simp[d]
     have g:=Hd f;clear f;subst d
     go_wp2_with fail
     go_meet
     exact⟨congrArg Value.bool g.out.symm,rfl⟩
    ·have h:(i == 0)=false:=by simp[d]
     have Z:(i != 0)=true:=by simp[d]
     have f:(!false && decide (i≠0))=true:=by simp[d]
     have g:=Hd f;clear f d
     go_wp2_with fail
     go_meet
     exact⟨congrArg Value.bool g.out.symm,rfl⟩
  case rest =>
  obtain⟨rfl,rfl⟩:=hcut
  cases a:(!o && decide (i≠0))with
  | true =>
   have e:=b.out;rw[if_pos a]at e;subst e;clear b a
   go_wp2_with fail
   go_ret
   exact⟨rfl,A.out⟩
  | false =>
  have e:=b.out;rw[if_neg (by rw[a];simp)]at e
  replace b:=Hd e
  clear a e
  go_upto_region 7 with fail
  go_cut [12]from 37 to 44 (λs W=>s=.bool (!t && qg m)/\w2=W)
  case first =>
   cases t with
   | true =>
    go_wp2_with fail
    go_meet
    exact⟨rfl,rfl⟩
   | false =>
    by_cases d:m=[]
    ·have h:ts.data.toList=[]:=by rw[M];exact d
     have H:ts.toList=[]:=by rw[ByteArray.toList_eq];exact h
     have f:(!false && qg m)=false:=by simp[qg,d]
     have g:=Hd f;clear d h f
     go_wp2_with fail
     go_meet
     exact⟨congrArg Value.bool g.out.symm,rfl⟩
    ·have h:ts.data.toList≠[]:=by rw[M];exact d
     have H:ts.toList≠[]:=by rw[ByteArray.toList_eq];exact h
     have Z:(ts.toList == [])=false:=by simpa using H
     have f:(!false && qg m)=true:=by simp[qg,d]
     have g:=Hd f;clear d h f
     go_wp2_with fail
     go_meet
     exact⟨congrArg Value.bool g.out.symm,rfl⟩
  case rest =>
  obtain⟨rfl,rfl⟩:=hcut
  cases a:(!t && qg m)with
  | true =>
   have e:=b.out;rw[if_pos a]at e;subst e;clear b a
   go_wp2_with fail
   go_ret
   exact⟨rfl,A.out⟩
  | false =>
  have e:=b.out;rw[if_neg (by rw[a];simp)]at e
  replace b:=Hd e
  clear a e;have ap:gp os.data.toList=gp l:=by rw[L]
  have aq:jB ts.data.toList=jB m:=by rw[M]
  have ar:os.size<=140737488355328:=by rw[jO,L];exact ho
  have au:ts.size<=140737488355328:=by rw[jO,M];exact ht
  clear ap aq
  go_upto_region 9 with fail
  go_cut [45]from 46 to 53 (λs W=>s=.bool (q && !gp l)/\Fr [] w2 W)
  case first =>
   cases q with
   | false =>
    go_wp2_with fail
    go_meet
    exact⟨rfl,Fq _ _⟩
   | true =>
    go_wp2_with ((go_at_call 115;(with_reducible refine(mG os w2 qo).mono ?_);rintro e v ⟨rfl,ak⟩))
    go_meet
    exact⟨congrArg Value.bool (by first|rfl|(rw[HVL.out];rfl)),Fr.of_below ak⟩
  case rest =>
  obtain⟨rfl,K⟩:=hcut;have x:=Hd (A.out.then K);have J:=Hd (B.out.fr K qs);have D:=Hd (C.out.fr K qs);clear n1 n2 n3 n4 v1 v2 v3 v4 K;have n2:=J.out.k2;have n3:=J.out.k3;have n4:=J.out.k4;have v2:=D.out.k2;have v3:=D.out.k3;have v4:=D.out.k4;have v5:=D.out.k5;obtain⟨v,ag⟩:=eR (wc);rw[ag]at n2 n3 n4 v2 v3 v4 v5 x J D ⊢;clear ag
  cases a:(q && !gp l)with
  | true =>
   have e:=b.out;rw[if_pos a]at e;subst e;clear b a
   go_wp2_with fail
   go_ret
   exact⟨rfl,x.out⟩
  | false =>
  have e:=b.out;rw[if_neg (by rw[a];simp)]at e
  replace b:=Hd e
  clear a e
  go_upto_region 11 with fail
  go_cut [54]from 55 to 62 (λs W=>s=.bool (p && !fO j 1073741824)/\v=W)
  case first =>
   cases p with
   | false =>
    go_wp2_with fail
    go_meet
    exact⟨rfl,rfl⟩
   | true =>
    go_wp2_with ((go_at_call 116;(with_reducible refine(qW j 1073741824 v).mono ?_);rintro e w4 ⟨rfl,rfl⟩))
    go_meet
    exact⟨rfl,rfl⟩
  case rest =>
  obtain⟨rfl,rfl⟩:=hcut
  cases a:(p && !fO j 1073741824)with
  | true =>
   have e:=b.out;rw[if_pos a]at e;subst e;clear b a
   go_wp2_with fail
   go_ret
   exact⟨rfl,x.out⟩
  | false =>
  have e:=b.out;rw[if_neg (by rw[a];simp)]at e
  replace b:=Hd e
  clear a e
  go_upto_region 12 with fail
  go_cut [54]from 63 to 72 (λs W=>s=.bool (o && !fO i z)/\v=W)
  case first =>
   cases o with
   | false =>
    go_wp2_with fail
    go_meet
    exact⟨rfl,rfl⟩
   | true =>
    go_wp2_with ((go_at_call 116;(with_reducible refine(qW i z v).mono ?_);rintro e w4 ⟨rfl,rfl⟩))
    go_meet
    exact⟨rfl,rfl⟩
  case rest =>
  obtain⟨rfl,rfl⟩:=hcut
  cases a:(o && !fO i z)with
  | true =>
   have e:=b.out;rw[if_pos a]at e;subst e;clear b a
   go_wp2_with fail
   go_ret
   exact⟨rfl,x.out⟩
  | false =>
  have e:=b.out;rw[if_neg (by rw[a];simp)]at e
  replace b:=Hd e
  clear a e
  go_upto_region 14 with fail
  go_cut [73]from 74 to 81 (λs W=>s=.bool (t && !jB m)/\v=W)
  case first =>
   cases t with
   | false =>
    go_wp2_with fail
    go_meet
    exact⟨rfl,rfl⟩
   | true =>
    go_wp2_with ((go_at_call 117;(with_reducible refine(Bw ts v qo).mono ?_);rintro e w4 ⟨rfl,rfl⟩))
    go_meet
    exact⟨congrArg Value.bool (by first|rfl|(rw[HWL.out];rfl)),rfl⟩
  case rest =>
  obtain⟨rfl,rfl⟩:=hcut
  cases a:(t && !jB m)with
  | true =>
   have e:=b.out;rw[if_pos a]at e;subst e;clear b a
   go_wp2_with fail
   go_ret
   exact⟨rfl,x.out⟩
  | false =>
  have e:=b.out;rw[if_neg (by rw[a];simp)]at e
  replace b:=Hd e
  clear a e;have e:=b.out;subst e;clear b
  go_wp2_with fail
  go_ret
  exact⟨rfl,x.out⟩
def lR(a b:Nm):Int:=if Op.bytesLess a b then -1 else if a=b then 0 else 1
theorem nf(s:ByteArray)(w:World):Calls prog 193 #[.string s] w λe w'=>e=.returned (.bool false)/\w=w':=by
 go_enter func193,ntmps193
 go_wp2_with fail
 go_ret
 exact⟨rfl,rfl⟩
theorem tO(a b:ByteArray)(w:World):Calls prog 163 #[.string a,.string b] w λe w'=>e=.returned (.int .i64 (lR a.data.toList b.data.toList))/\w=w':=by
 have d:=ByteArray.toList_eq a;have f:=ByteArray.toList_eq b;rw[<-d,<-f];unfold lR;clear d f
 cases i:Op.bytesLess a.toList b.toList with
 | true =>
  rw[if_pos rfl]
  go_enter func163,ntmps163
  go_wp2_with ((go_at_call 193;(with_reducible refine(nf _ w).mono ?_);rintro e g ⟨rfl,rfl⟩))
  go_ret
  exact⟨rfl,rfl⟩
 | false =>
  rw[if_neg qs]
  by_cases c:a.toList=b.toList
  ·rw[if_pos c]
   have h:(a.toList == b.toList)=true:=by simpa using c
   clear c
   go_enter func163,ntmps163
   go_wp2_with ((go_at_call 193;(with_reducible refine(nf _ w).mono ?_);rintro e g ⟨rfl,rfl⟩))
   go_ret
   exact⟨rfl,rfl⟩
  ·rw[if_neg c]
   have h:(a.toList == b.toList)=false:=by simpa using c
   clear c
   go_enter func163,ntmps163
   go_wp2_with ((go_at_call 193;(with_reducible refine(nf _ w).mono ?_);rintro e g ⟨rfl,rfl⟩))
   go_ret
   exact⟨rfl,rfl⟩
def tP:List Int->Int
 | []=>0
 | x::r=>if x=0 then tP r else x
theorem wQ(A:Option Addr)(n c B:Nat)(xs:List Int)(w:World)(l:Row w B 1 A n (xs.map uA))(H:n<=1000):Calls prog 132 #[.slice A n c] w λe w'=>e=.returned (.int .i64 (tP xs))/\w=w':=by
 have r:xs.length=n:=by simpa using l.1
 obtain⟨q,a⟩:=eR (tP xs);rw[a];have y:=Hd l;have p:=Hd r;have v:=Hd a;clear l r a
 go_enter func132,ntmps132
 go_wp2_with fail
 go_loop [8] (λi=>∃k:Nat,k<=n/\i=k/\tP (xs.drop k)=q) (λi=>n - (intOf i).toNat)
 case atStart=>exact⟨0,Nat.zero_le _,rfl,v.out⟩
 case round =>
  obtain⟨k,G,rfl,a⟩:=hrel;have m:=Hd a;clear a
  by_cases D:k<n
  ·obtain⟨b,off,u,rfl,_,d,C⟩:=y.out.at1 D
   have j:k<xs.length:=by have:=p.out;omega
   rw[List.getElem?_map,gx j]at d;have h:=List.drop_eq_getElem_cons j;obtain⟨x,s⟩:=eR (xs[k]);rw[s]at d h
   injection d with d
   subst d;unfold uA at C;have g:=m.out;rw[h]at g;unfold tP at g;have o:=Hd g;have E:(k:Int)<(n:Int):=qo
   clear h s g j
   by_cases f:x=0
   ·have e:=o.out
    rw[if_pos f]at e;have t:=Hd e;subst f;clear e
    go_wp2_with fail
    go_round
    case rel=>exact⟨k+1,qo,by go_num,t.out⟩
    case measure=>simp[intOf];omega
   ·have e:=o.out
    rw[if_neg f]at e;subst e
    have F:(x != 0)=true:=by simpa using f
    go_wp2_with fail
    go_ret
    exact⟨rfl,rfl⟩
  ·have e:=m.out
   rw[List.drop_eq_nil_of_le (by have:=p.out;omega)]at e;have z:=e;subst z;have E:¬(k:Int)<(n:Int):=qo
   clear e
   go_wp2_with fail
   go_ret
   exact⟨rfl,rfl⟩
def fW(a b:ON):Int :=
 if Lib.compareInt a.kind b.kind≠0 then Lib.compareInt a.kind b.kind
 else if jt (fG a.owner) (fG b.owner)≠0 then jt (fG a.owner) (fG b.owner)
 else tP [Lib.compareInt a.number b.number,Lib.compareInt a.index b.index,lR a.text b.text]
def ja(w:World)(r:Int)(e:Ending)(w':World):Prop:=e=.returned (.int .i64 r)/\Fr [] w w'
theorem lw(a b:ON)(w:World)(V:gp a.owner=true)(Y:gp b.owner=true)(ha:a.owner.length<=140737488355328)(hb:b.owner.length<=140737488355328):Calls prog 103 #[fg a,fg b] w (ja w (fW a b)):=by
 obtain⟨r,v⟩:=eR (fW a b);rw[v];unfold fW at v;obtain⟨F,o1,q,p,t1⟩:=a;obtain⟨C,o2,l,k,t2⟩:=b;simp only at V Y ha hb v;unfold fg;simp only;obtain⟨U,af,S,ao⟩:=eT o1;obtain⟨p2,ag,T,ap⟩:=eT o2;obtain⟨x,ah,ai,_⟩:=eT t1;obtain⟨s,aj,ak,_⟩:=eT t2;rw[af,ag,ah,aj];obtain⟨Z,A⟩:=eR (w.alloc (.cells #[F,U,q,p,x] 31));obtain⟨w2,B⟩:=eR (Z.alloc (.cells #[C,p2,l,k,s] 31));have ae:Fr [] w w2:=by rw[<-B,<-A];exact((Fq [] w).alloc _).alloc _
 have N:BoxN w2 w.heap.size 31 #[F,U,q,p,x]:=by rw[<-B,<-A];exact(BoxN.new w _ _).alloc _
 have O:BoxN w2 (w.heap.size+1) 31 #[C,p2,l,k,s]:=by rw[<-B];have:=BoxN.new Z 31 #[C,p2,l,k,s];rw[show Z.heap.size=w.heap.size+1 by rw[<-A,kX]]at this;exact this
 have E:=mS U p2 w2 qo qo (by rw[S];exact V) (by rw[T];exact Y);rw[S,T]at E;obtain⟨L,Q⟩:=eR (Lib.compareInt F C);obtain⟨M,R⟩:=eR (jt (fG o1) (fG o2));rw[R]at E;rw[Q,R]at v;have P:=λW=>Tryz.cmp_Compare_int F C W;rw[Q]at P;obtain⟨x0,x1⟩:=N.m2;obtain⟨y0,y1⟩:=O.m2;have i:=Hd v;have ac:=Hd A;have ad:=Hd B;have D:=Hd ae;have HA:=Hd N;have HB:=Hd O;have G:=Hd E;have I:=Hd P;clear v A B ae N O E P Q R V Y af ag S T ah aj ao ap
 go_enter func103,ntmps103
 go_upto_region 1 with fail
 rw[ac.out,ad.out]
 by_cases y:L=0
 ·have am:(L != 0)=false:=by simp[y]
  have e:=i.out;rw[if_neg (by simpa using y)]at e
  replace i:=Hd e
  clear e y
  by_cases z:M=0
  ·have an:(M != 0)=false:=by simp[z]
   have e:=i.out;rw[if_neg (by simpa using z)]at e
   replace i:=Hd e
   clear e z
   go_upto_region 5 with(first
    | (go_at_call 133;(with_reducible refine(I.out _).mono ?_);rintro e w6 ⟨rfl,rfl⟩)
    | (go_at_call 152;(with_reducible refine G.out.mono ?_);rintro e d ⟨rfl,o⟩;have H:=Hd (D.out.then (Fr.of_below o));have m:=Hd (HA.out.later o);have n:=Hd (HB.out.later o);clear o))
   go_upto_region 7 with fail
   have al:=m.out.drew.k2;have z1:=n.out.drew.k2;have z2:=m.out.drew.k3;have z3:=n.out.drew.k3;have z4:=m.out.drew.k4;have z5:=n.out.drew.k4;have ab:=Hd (λW=>Tryz.cmp_Compare_int q l W);have aa:=Hd (λW=>Tryz.cmp_Compare_int p k W);have J:=Hd (λW=>tO x s W);rw[ai,ak]at J;clear ai ak;generalize Lib.compareInt q l=f at ab i;generalize Lib.compareInt p k=g at aa i;generalize lR t1 t2=h at J i;have S3:d.drew.cell? ⟨w.heap.size,2,none⟩=some (.int .i64 q)/\d.drew.cell? ⟨w.heap.size+1,2,none⟩=some (.int .i64 l)/\d.drew.cell? ⟨w.heap.size,3,none⟩=some (.int .i64 p)/\d.drew.cell? ⟨w.heap.size+1,3,none⟩=some (.int .i64 k)/\d.drew.cell? ⟨w.heap.size,4,none⟩=some (.string x)/\d.drew.cell? ⟨w.heap.size+1,4,none⟩=some (.string s):=⟨al,z1,z2,z3,z4,z5⟩;have K:(d.alloc (.cells #[.int .i64 f,.int .i64 g,.int .i64 h] 3)).drew.cell? ⟨w.heap.size,2,none⟩=some (.int .i64 q)/\(d.alloc (.cells #[.int .i64 f,.int .i64 g,.int .i64 h] 3)).drew.cell? ⟨w.heap.size+1,2,none⟩=some (.int .i64 l)/\(d.alloc (.cells #[.int .i64 f,.int .i64 g,.int .i64 h] 3)).drew.cell? ⟨w.heap.size,3,none⟩=some (.int .i64 p)/\(d.alloc (.cells #[.int .i64 f,.int .i64 g,.int .i64 h] 3)).drew.cell? ⟨w.heap.size+1,3,none⟩=some (.int .i64 k)/\(d.alloc (.cells #[.int .i64 f,.int .i64 g,.int .i64 h] 3)).drew.cell? ⟨w.heap.size,4,none⟩=some (.string x)/\(d.alloc (.cells #[.int .i64 f,.int .i64 g,.int .i64 h] 3)).drew.cell? ⟨w.heap.size+1,4,none⟩=some (.string s):=⟨(m.out.alloc _).drew.c 2,(n.out.alloc _).drew.c 2,(m.out.alloc _).drew.c 3,(n.out.alloc _).drew.c 3,(m.out.alloc _).drew.c 4,(n.out.alloc _).drew.c 4⟩;have F4:Fr [] w ((d.alloc (.cells #[.int .i64 f,.int .i64 g,.int .i64 h] 3)).drew):=(H.out.alloc _).drew
   have R4:Row ((d.alloc (.cells #[.int .i64 f,.int .i64 g,.int .i64 h] 3)).drew) (d.alloc (.cells #[.int .i64 f,.int .i64 g,.int .i64 h] 3)).drew.heap.size 1 (some ⟨d.heap.size,0,none⟩) 3 ([f,g,h].map uA):=by
    refine⟨qs,λ_=>⟨_,0,rfl,by simp[World.drew],λj u hu=>?_⟩⟩;have:=kf d [.int .i64 f,.int .i64 g,.int .i64 h] 3 j u (by simpa [uA]using hu);rw[fx]at this;rw[Nat.zero_add];exact this
   clear al z1 z2 z3 z4 z5 ac ad G D HA HB m n x0 x1 y0 y1;generalize w.heap.size=t at S3 K ⊢;generalize hX:(d.alloc (.cells #[.int .i64 f,.int .i64 g,.int .i64 h] 3)).drew=X at K F4 R4
   go_region_held3 (λW=>W.cell? ⟨t,2,none⟩=some (.int .i64 q)/\W.cell? ⟨t+1,2,none⟩=some (.int .i64 l)/\W.cell? ⟨t,3,none⟩=some (.int .i64 p)/\W.cell? ⟨t+1,3,none⟩=some (.int .i64 k)/\W.cell? ⟨t,4,none⟩=some (.string x)/\W.cell? ⟨t+1,4,none⟩=some (.string s)) (first|with_reducible exact S3|with_reducible exact K) (first
    | (go_at_call 133;(with_reducible refine(ab.out _).mono ?_);rintro e w7 ⟨rfl,rfl⟩)
    | (go_at_call 133;(with_reducible refine(aa.out _).mono ?_);rintro e w7 ⟨rfl,rfl⟩)
    | (go_at_call 163;(with_reducible refine(J.out _).mono ?_);rintro e w7 ⟨rfl,rfl⟩)
    | (go_at_call 132;(with_reducible refine(wQ _ 3 3 _ _ _ R4 qo).mono ?_);rintro e w7 ⟨rfl,rfl⟩))
   all_goals
    go_wp2_with fail
    go_ret
    exact⟨by rw[i.out];rfl,F4⟩
  ·have an:(M != 0)=true:=by simpa using z
   have e:=i.out;rw[if_pos (by simpa using z)]at e;subst e
   go_wp2_with (first
    | (go_at_call 133;(with_reducible refine(I.out _).mono ?_);rintro e w6 ⟨rfl,rfl⟩)
    | (go_at_call 152;(with_reducible refine G.out.mono ?_);rintro e d ⟨rfl,o⟩;have H:=Hd (D.out.then (Fr.of_below o));clear o))
   go_ret
   exact⟨rfl,H.out⟩
 ·have am:(L != 0)=true:=by simpa using y
  have e:=i.out;rw[if_pos (by simpa using y)]at e;subst e
  go_wp2_with ((go_at_call 133;(with_reducible refine(I.out _).mono ?_);rintro e w6 ⟨rfl,rfl⟩))
  go_ret
  exact⟨rfl,D.out⟩
end Go.Proofs.YtlpmiimgacfmkaaGreatDoor
