/- Part of the proof. -/
import Derived.DeepKeys4
import Derived.Deep.Cut
import Derived.Deep.RegionHeld3
import Derived.Deep.DrawnRows
import Derived.Test.YtlpmiimgacfmkaaGreatDoorCBase
set_option linter.all false
set_option maxHeartbeats 4000000
set_option maxRecDepth 100000
namespace Go.Proofs.YtlpmiimgacfmkaaGreatDoor
open Go.Proofs.Tryz List
open Go.RowKit
def MapIs(P:Program)(k:TypeId)(w:World)(r:Nat)(kvs:List (Value × Value)):Prop :=
 ∃es clock,w.heap[r]?=some (.map es clock)/\MapKept.Stamped es clock/\(∀x∈es.toList,∃l,keyOf P k x.key=some l)/\es.toList.map (λx=>(x.key,x.val))=kvs
section
variable {P:Program} {w w':World} {t k e:TypeId} {r:Nat} {key z v:Value} {kl:Lit} {kvs:List (Value × Value)}
def MapIs.at_(h:MapIs P k w r kvs)(c:w'.heap[r]?=w.heap[r]?):MapIs P k w' r kvs:=by
 obtain⟨es,clock,a,b⟩:=h;exact⟨es,clock,c.trans a,b⟩
def MapIs.lt(h:MapIs P k w r kvs):r<w.heap.size:=by
 obtain⟨es,clock,a,_⟩:=h;exact(Array.getElem?_eq_some_iff.1 a).1
def MapIs.new(w:World):MapIs P k (w.alloc (.map #[] 0)) w.heap.size []:=⟨#[],0,(MapKept.heap_alloc w _).1,MapKept.stamped_empty 0,qs,rfl⟩
def MapIs.look_none(K:Maps.Keyed P k)(m:P.underlying t=some (.map k e))(h:MapIs P k w r kvs)(d:keyOf P k key=some kl)(l:∀p∈kvs,p.1≠key)(n:(zeroValue e).run P w=.ok z w)(c:Bool):
 (Instr.lookup t (.map (some r)) key c).run P w=.ok (if c then .tuple #[z,.bool false]else z) w:=by
 obtain⟨es,clock,g,o,i,rfl⟩:=h
 rcases K.find w d es.toList i with⟨a,b⟩|⟨j,e0,a,b,f⟩
 ·simp[Instr.lookup,run_underlying m,MapKept.run_getObj_map g,K.check w _ d,a,n,Result.andThen]
 ·exact absurd f (l _ (mem_map.2 ⟨e0,gH b,rfl⟩))
def MapIs.look_some(K:Maps.Keyed P k)(H:P.underlying t=some (.map k e))(u:MapIs P k w r kvs)(g:keyOf P k key=some kl)(F:(key,v)∈kvs)(c:Bool):
 (Instr.lookup t (.map (some r)) key c).run P w=.ok (if c then .tuple #[v,.bool true]else v) w:=by
 obtain⟨es,clock,y,A,B,rfl⟩:=u;have⟨x,h,C⟩:=mem_map.1 F
 injection C with f D
 rcases K.find w g es.toList B with⟨d,b⟩|⟨j,e0,d,b,s⟩
 ·exact absurd f (b x h)
 ·have I:e0.val=v:=by
   have⟨i,a⟩:=mem_iff_getElem?.1 h
   have E:j=i:=by
    have G:=A.2.2;have l:(es.toList.map (·.key))[j]?=some key:=by rw[List.getElem?_map,b,<-s];rfl
    have m:(es.toList.map (·.key))[i]?=some key:=by rw[List.getElem?_map,a,<-f];rfl
    have n:=(gV.1 l);have p:=(gV.1 m);obtain⟨J,o⟩:=n;obtain⟨L,q⟩:=p;exact(getElem_inj G).1 (o.trans q.symm)
   subst E;rw[b]at a
   injection a with a
   rw[a];exact D
  simp[Instr.lookup,run_underlying H,MapKept.run_getObj_map y,K.check w _ g,d,Result.andThen,I]
def MapIs.put_new(K:Maps.Keyed P k)(ht:P.underlying t=some (.map k e))(h:MapIs P k w r kvs)(hkey:keyOf P k key=some kl)(hn:∀p∈kvs,p.1≠key):
 ∃w',(Instr.mapUpdate t (.map (some r)) key v).run P w=.ok () w'/\Fr [r] w w'/\MapIs P k w' r (kvs++[(key,v)]):=by
 obtain⟨es,clock,h1,h2,h3,rfl⟩:=h
 rcases K.find w hkey es.toList h3 with⟨f1,f2⟩|⟨j,e0,f1,f2,f3⟩
 ·refine⟨{ w with heap:=w.heap.setIfInBounds r (.map (es.push { key:=key,val:=v,born:=clock }) (clock+1)) },by simp[Instr.mapUpdate,run_underlying ht,MapKept.run_getObj_map h1,K.check w _ hkey,f1,MapKept.run_setObj_map _ h1,Result.andThen],⟨rfl,rfl,rfl,by simp,λj _ hj=>(MapKept.heap_set h1).2 j (by simpa using hj)⟩,_,_,(MapKept.heap_set h1).1,MapKept.stamped_push h2 f2,?_,?_⟩
  ·intro x hx
   simp only[Array.toList_push,mem_append,ip]at hx
   rcases hx with hx|rfl
   ·exact h3 x hx
   ·exact⟨kl,hkey⟩
  ·simp
 ·exact absurd f3 (hn _ (mem_map.2 ⟨e0,gH f2,rfl⟩))
def MapIs.put_old{l1 l2:List (Value × Value)}{v0:Value}(K:Maps.Keyed P k)(ht:P.underlying t=some (.map k e))(h:MapIs P k w r (l1++(key,v0)::l2))(hkey:keyOf P k key=some kl):
 ∃w',(Instr.mapUpdate t (.map (some r)) key v).run P w=.ok () w'/\Fr [r] w w'/\MapIs P k w' r (l1++(key,v)::l2):=by
 obtain⟨es,clock,h1,h2,h3,h4⟩:=h;have hkk:es.toList.map (·.key)=(l1++(key,v0)::l2).map (·.1):=by rw[<-h4,map_map];rfl
 rcases K.find w hkey es.toList h3 with⟨f1,f2⟩|⟨j,e0,f1,f2,f3⟩
 ·have:key∈es.toList.map (·.key):=by rw[hkk];simp
  have⟨x,hx,he⟩:=mem_map.1 this;exact absurd he (f2 x hx)
 ·have hj:es[j]?=some e0:=by simpa using f2
  have hjl:j=l1.length:=by
   have hnd:=h2.2.2;have a1:(es.toList.map (·.key))[j]?=some key:=by rw[List.getElem?_map,f2,<-f3];rfl
   have a2:(es.toList.map (·.key))[l1.length]?=some key:=by rw[hkk,List.getElem?_map];simp
   have⟨b1l,b1e⟩:=gV.1 a1;have⟨b2l,b2e⟩:=gV.1 a2;exact(getElem_inj hnd).1 (b1e.trans b2e.symm)
  have hkey':∀e',es[j]?=some e'->({ e' with key:=key,val:=v }:MapEntry).key=e'.key:=λe' he'=>by rw[hj]at he';cases he';exact f3.symm
  refine⟨{ w with heap:=w.heap.setIfInBounds r (.map (es.modify j λe=>{ e with key:=key,val:=v }) clock) },by simp[Instr.mapUpdate,run_underlying ht,MapKept.run_getObj_map h1,K.check w _ hkey,f1,hj,f3,K.stays w hkey,MapKept.run_setObj_map _ h1,Result.andThen],⟨rfl,rfl,rfl,by simp,λi _ hi=>(MapKept.heap_set h1).2 i (by simpa using hi)⟩,_,_,(MapKept.heap_set h1).1,MapKept.stamped_modify h2 _ _ (λ_ _=>rfl) (λe' _ he'=>hkey' e' he'),?_,?_⟩
  ·intro x hx
   rcases MapFrom.mem_modify hx with hx|⟨y,hy,rfl⟩
   ·exact h3 x hx
   ·exact⟨kl,hkey⟩
  ·rw[Array.toList_modify]
   apply ext_getElem?
   intro i;have h4i:=congrArg (·[i]?) h4;simp only[List.getElem?_map]at h4i ⊢;rw[List.getElem?_modify];subst hjl
   by_cases hi:l1.length=i
   ·subst hi
    rw[f2];simp
   ·have hL:(l1++(key,v)::l2)[i]?=(l1++(key,v0)::l2)[i]?:=by
     rw[List.getElem?_append,List.getElem?_append];split
     ·rfl
     ·rename_i h0
      obtain⟨m,hm⟩:∃m,i - l1.length=m+1:=⟨i - l1.length - 1,by omega⟩;rw[hm];rfl
    rw[hL,<-h4i];simp[hi]
end
section
variable {P:Program} {w w':World} {k:TypeId} {r:Nat} {S:List Nat} {kvs:List (Value × Value)}
def MapIs.fr(h:MapIs P k w r kvs)(b:Fr S w w')(a:r ∉ S):MapIs P k w' r kvs:=h.at_ (b.block r h.lt a)
end
def jB:Maps.Keyed prog 31:=Maps.Keyed.of_law (deep_law (m:=4) qo qk qk qk)
def wM:Maps.Keyed prog 270:=Maps.Keyed.of_law (deep_law (m:=4) qo qk qk qk)
def oE:Maps.Keyed prog 3:=Maps.int_keyed (q:=.i64) underlying3
def zW(i:Int):Value:=.agg #[.int .i64 16,.string ⟨#[]⟩,.int .i64 i,.int .i64 0,.string ⟨#[]⟩]
def jf(i j:Int):Value:=.agg #[.int .i64 i,.int .i64 j]
inductive TR
 | nil
 | node (b:Nat) (l:TR) (i:Int) (v:ByteArray) (h s y:Int) (r:TR)
def TR.adr:TR->Option Addr
 | .nil=>none
 | .node b _ _ _ _ _ _ _=>some ⟨b,0,none⟩
def TR.ptr(t:TR):Value:=.pointer t.adr
def mx(a b:Int):Int:=if a<b then b else a
def TR.s:TR->Int
 | .nil=>0
 | .node _ _ _ _ _ s _ _=>s
def GD(l r:Value)(i:Int)(v:ByteArray)(h s y:Int):Array Value:=#[l,r,.int .i64 16,.string ⟨#[]⟩,.int .i64 i,.int .i64 0,.string ⟨#[]⟩,.string v,.int .i64 h,.int .i64 s,.int .i64 y]
def TRat(w:World):TR->Prop
 | .nil=>True
 | .node b l i v h s y r=>BoxN w b 191 (GD l.ptr r.ptr i v h s y)/\TRat w l/\TRat w r
def TRat.fr0{w w':World}(a:Fr [] w w'):∀ {t:TR},TRat w t->TRat w' t
 | .nil,_=>trivial
 | .node _ _ _ _ _ _ _ _,h=>⟨h.1.fr a qs,TRat.fr0 a h.2.1,TRat.fr0 a h.2.2⟩
def yK(t:TR)(w:World)(h:TRat w t):Calls prog 95 #[t.ptr] w λe w'=>e=.returned (.int .i64 t.s)/\w'=w:=by
 cases t with
 | nil =>
  unfold TR.ptr TR.adr TR.s
  go_enter func95,ntmps95
  go_wp2
  go_ret
  exact⟨rfl,rfl⟩
 | node b l i v a d f r =>
  have c:=h.1.c 9;unfold GD at c;simp only[List.getElem?_toArray,List.getElem?_cons_zero,List.getElem?_cons_succ]at c;clear h;unfold TR.ptr TR.adr TR.s
  go_enter func95,ntmps95
  go_wp2
  go_ret
  exact⟨rfl,rfl⟩
def ll(n x:Int):Int:=bits BinOp.or IntKind.u32 (x*2 ^ (32 - n).toNat % 4294967296) (x / 2 ^ n.toNat)
def Fw(x:Int)(w:World):Calls prog 182 #[.int .i64 2,.int .u32 x] w λe w'=>e=.returned (.int .u32 (ll 2 x))/\w'=w:=by
 go_enter func182,ntmps182
 have a:bits BinOp.and IntKind.u64 (IntKind.u64.wrap (-2)) 31=30:=qr
 go_wp2
 go_ret
 exact⟨rfl,rfl⟩
def Fx(x:Int)(w:World):Calls prog 182 #[.int .i64 6,.int .u32 x] w λe w'=>e=.returned (.int .u32 (ll 6 x))/\w'=w:=by
 go_enter func182,ntmps182
 have a:bits BinOp.and IntKind.u64 (IntKind.u64.wrap (-6)) 31=26:=qr
 go_wp2
 go_ret
 exact⟨rfl,rfl⟩
def Fy(x:Int)(w:World):Calls prog 182 #[.int .i64 7,.int .u32 x] w λe w'=>e=.returned (.int .u32 (ll 7 x))/\w'=w:=by
 go_enter func182,ntmps182
 have a:bits BinOp.and IntKind.u64 (IntKind.u64.wrap (-7)) 31=25:=qr
 go_wp2
 go_ret
 exact⟨rfl,rfl⟩
def DI(x:Int)(w:World):Calls prog 182 #[.int .i64 11,.int .u32 x] w λe w'=>e=.returned (.int .u32 (ll 11 x))/\w'=w:=by
 go_enter func182,ntmps182
 have a:bits BinOp.and IntKind.u64 (IntKind.u64.wrap (-11)) 31=21:=qr
 go_wp2
 go_ret
 exact⟨rfl,rfl⟩
def DJ(x:Int)(w:World):Calls prog 182 #[.int .i64 13,.int .u32 x] w λe w'=>e=.returned (.int .u32 (ll 13 x))/\w'=w:=by
 go_enter func182,ntmps182
 have a:bits BinOp.and IntKind.u64 (IntKind.u64.wrap (-13)) 31=19:=qr
 go_wp2
 go_ret
 exact⟨rfl,rfl⟩
def DK(x:Int)(w:World):Calls prog 182 #[.int .i64 17,.int .u32 x] w λe w'=>e=.returned (.int .u32 (ll 17 x))/\w'=w:=by
 go_enter func182,ntmps182
 have a:bits BinOp.and IntKind.u64 (IntKind.u64.wrap (-17)) 31=15:=qr
 go_wp2
 go_ret
 exact⟨rfl,rfl⟩
def DL(x:Int)(w:World):Calls prog 182 #[.int .i64 18,.int .u32 x] w λe w'=>e=.returned (.int .u32 (ll 18 x))/\w'=w:=by
 go_enter func182,ntmps182
 have a:bits BinOp.and IntKind.u64 (IntKind.u64.wrap (-18)) 31=14:=qr
 go_wp2
 go_ret
 exact⟨rfl,rfl⟩
def DM(x:Int)(w:World):Calls prog 182 #[.int .i64 19,.int .u32 x] w λe w'=>e=.returned (.int .u32 (ll 19 x))/\w'=w:=by
 go_enter func182,ntmps182
 have a:bits BinOp.and IntKind.u64 (IntKind.u64.wrap (-19)) 31=13:=qr
 go_wp2
 go_ret
 exact⟨rfl,rfl⟩
def DN(x:Int)(w:World):Calls prog 182 #[.int .i64 22,.int .u32 x] w λe w'=>e=.returned (.int .u32 (ll 22 x))/\w'=w:=by
 go_enter func182,ntmps182
 have a:bits BinOp.and IntKind.u64 (IntKind.u64.wrap (-22)) 31=10:=qr
 go_wp2
 go_ret
 exact⟨rfl,rfl⟩
def DP(x:Int)(w:World):Calls prog 182 #[.int .i64 25,.int .u32 x] w λe w'=>e=.returned (.int .u32 (ll 25 x))/\w'=w:=by
 go_enter func182,ntmps182
 have a:bits BinOp.and IntKind.u64 (IntKind.u64.wrap (-25)) 31=7:=qr
 go_wp2
 go_ret
 exact⟨rfl,rfl⟩
attribute [local go_sem ↓] Go.wp_at_zero Go.wp_at_succ
def mM:Code->Option Nat
 | .region k _ _=>some k
 | .seq a _=>mM a
 | .block _ c=>mM c
 | .scope c=>mM c
 | .loop c=>mM c
 | _=>none
def mN(n:Nat):Code->Option Code
 | .seq a b=>if mM a=some n then some (.seq a b)else match mN n b with
  | some c=>some c
  | none=>mN n a
 | .block _ c=>mN n c
 | .scope c=>mN n c
 | .loop c=>mN n c
 | _=>none
attribute [local go_sem ↓] Go.wp_at_zero Go.wp_at_succ
def jQ(n:Nat):Code->Option Code
 | .seq a b=>match jQ n a with
  | some c=>some c
  | none=>jQ n b
 | .block i c=>if mM c=some n then some (.block i c)else jQ n c
 | .scope c=>jQ n c
 | .loop c=>jQ n c
 | _=>none
noncomputable def Iy:Code:=((Tryz.f144).body.bind (jQ 16)).getD .skip
structure H8 where
 a:Int
 b:Int
 c:Int
 d:Int
 e:Int
 f:Int
 g:Int
 h:Int
def Iz(s:H8)(g x:Int):Int :=
 (s.h+bits .xor .u32 (bits .xor .u32 (ll 6 s.e) (ll 11 s.e)) (ll 25 s.e)+bits .xor .u32 (bits .and .u32 s.e s.f) (bits .and .u32 (bits .xor .u32 (if IntKind.u32.signed=true then -1 else IntKind.u32.max) s.e) s.g)+g+x) % 4294967296
def Jh(s:H8):Int :=
 (bits .xor .u32 (bits .xor .u32 (ll 2 s.a) (ll 13 s.a)) (ll 22 s.a)+bits .xor .u32 (bits .xor .u32 (bits .and .u32 s.a s.b) (bits .and .u32 s.a s.c)) (bits .and .u32 s.b s.c)) % 4294967296
def rnd(g x:Int)(s:H8):H8:=⟨(Iz s g x+Jh s) % 4294967296,s.a,s.b,s.c,(s.d+Iz s g x) % 4294967296,s.e,s.f,s.g⟩
def j8(g x:Nat->Int):Nat->H8->H8
 | 0,s=>s
 | k+1,s=>rnd (g k) (x k) (j8 g x k s)
def IC(w:World)(g x:Nat->Int)(j:H8)(i l m n o p q r t:Value)(W:World):Prop :=
 ∃(k:Nat) (s:H8),k<=64/\i=.int .i64 (k:Int)/\s=j8 g x k j/\l=.int .u32 s.a/\m=.int .u32 s.b/\n=.int .u32 s.c/\o=.int .u32 s.d/\p=.int .u32 s.e/\q=.int .u32 s.f/\r=.int .u32 s.g/\t=.int .u32 s.h/\Below w.heap.size w W
def Bt(o:Act->World->Prop)(KK:Exit->Act->World->Prop)(X:Nat)(l:H8)(g x:Nat->Int)(w:World)(hX:X<w.heap.size)(hG:2<w.heap.size)(hx:∀j,j<64->w.cell? ⟨X,j,none⟩=some (.int .u32 (x j)))(hg:∀j,j<64->w.cell? ⟨2,j,none⟩=some (.int .u32 (g j)))
 (t u u2 u3 u5 u6 u7 u8 u9 v d1 ec ei aH aQ aR aS aT aU aV aW aX aY aZ a3 a4 a5 a6 a7 a8 a9 ba bb bc bd be bf bg bh bi bj bk bm bn bo bp bq br bs bt bu bv bw bx bz bA bB bC bD bE bF bG bH bI bJ bK bL bM bN bO bP bQ bR bS bT bU bV bW bX bY bZ b0 b1 b2 b3 b4 b5 b6 b7 b8 b9 y z A B C D E F G H I J K L M N O P Q R S T U V Y Z aa ab ac ad ae af ag ah ai aj ak al am an ao ap df dg dh di dj dk dl dm dn dp dq dr ds dt du dv dw dx dy dz dA dB dC dD dE dF dG dH dI dJ dK dL dM dN dO dP dQ dR dS dT dU dV dW dX dY dZ d0 d2 d3 d4 d5 d6 d7 d8 d9 ea eb ed ee ef eg eh aq ar au av aw ax ay az aA aB aC aD aE aF aG aI aJ aK aL aM aN aO aP:Value) (hq:∀(cX c8 de ca cb cc cd ce cf ch ci cj ck cl cm cn co cp cq cr cs ct cu cv cw cx cy cz cA cB cC cD cE cF cG cH cI cJ cK cL cM cN cO cP cQ cR cS cT cU cV cW cY cZ c0 c1 c2 c3 c4 c5 c6 c7 c9 da db dc dd:Value) (W:World),Below w.heap.size w W->o ⟨List.toArray (t::u::u2::u3::.pointer (some ⟨X,0,none⟩)::u5::u6::u7::u8::u9::v::.int .u32 (j8 g x 64 l).a::.int .u32 (j8 g x 64 l).b::.int .u32 (j8 g x 64 l).c::.int .u32 (j8 g x 64 l).d::.int .u32 (j8 g x 64 l).e::.int .u32 (j8 g x 64 l).f::.int .u32 (j8 g x 64 l).g::.int .u32 (j8 g x 64 l).h::cX::c8::de::aH::aQ::aR::aS::aT::aU::aV::aW::aX::aY::aZ::a3::a4::a5::a6::a7::a8::a9::ba::bb::bc::bd::be::bf::bg::bh::bi::bj::bk::bm::bn::bo::bp::bq::br::bs::bt::bu::bv::bw::bx::bz::bA::bB::bC::bD::bE::bF::bG::bH::bI::bJ::bK::bL::bM::bN::bO::bP::bQ::bR::bS::bT::bU::bV::bW::bX::bY::bZ::b0::b1::b2::b3::b4::b5::b6::b7::b8::b9::y::z::A::B::C::D::E::F::G::H::I::J::K::L::M::N::O::P::Q::R::S::T::U::V::Y::Z::aa::ab::ac::ad::ae::af::ag::ah::ai::aj::ak::al::am::an::ao::ap::ca::cb::cc::cd::ce::cf::ch::ci::cj::ck::cl::cm::cn::co::cp::cq::cr::cs::ct::cu::cv::cw::cx::cy::cz::cA::cB::cC::cD::cE::cF::cG::cH::cI::cJ::cK::cL::cM::cN::cO::cP::cQ::cR::cS::cT::cU::cV::cW::cY::cZ::c0::c1::c2::c3::c4::c5::c6::c7::c9::da::db::dc::dd::aq::ar::au::av::aw::ax::ay::az::aA::aB::aC::aD::aE::aF::aG::aI::aJ::aK::aL::aM::aN::aO::aP::[]),[]⟩ W):Code.wp prog Iy (Exit.then o KK) ⟨List.toArray (t::u::u2::u3::.pointer (some ⟨X,0,none⟩)::u5::u6::u7::u8::u9::v::.int .u32 l.a::.int .u32 l.b::.int .u32 l.c::.int .u32 l.d::.int .u32 l.e::.int .u32 l.f::.int .u32 l.g::.int .u32 l.h::d1::ec::ei::aH::aQ::aR::aS::aT::aU::aV::aW::aX::aY::aZ::a3::a4::a5::a6::a7::a8::a9::ba::bb::bc::bd::be::bf::bg::bh::bi::bj::bk::bm::bn::bo::bp::bq::br::bs::bt::bu::bv::bw::bx::bz::bA::bB::bC::bD::bE::bF::bG::bH::bI::bJ::bK::bL::bM::bN::bO::bP::bQ::bR::bS::bT::bU::bV::bW::bX::bY::bZ::b0::b1::b2::b3::b4::b5::b6::b7::b8::b9::y::z::A::B::C::D::E::F::G::H::I::J::K::L::M::N::O::P::Q::R::S::T::U::V::Y::Z::aa::ab::ac::ad::ae::af::ag::ah::ai::aj::ak::al::am::an::ao::ap::.int .i64 0::df::dg::dh::di::dj::dk::dl::dm::dn::dp::dq::dr::ds::dt::du::dv::dw::dx::dy::dz::dA::dB::dC::dD::dE::dF::dG::dH::dI::dJ::dK::dL::dM::dN::dO::dP::dQ::dR::dS::dT::dU::dV::dW::dX::dY::dZ::d0::d2::d3::d4::d5::d6::d7::d8::d9::ea::eb::ed::ee::ef::eg::eh::aq::ar::au::av::aw::ax::ay::az::aA::aB::aC::aD::aE::aF::aG::aI::aJ::aK::aL::aM::aN::aO::aP::[]),[]⟩ w:=by
 conv=>arg 2;whnf
 go_wp2
 go_loopw [142,11,12,13,14,15,16,17,18] (IC w g x l) (λi _ _ _ _ _ _ _ _ _=>64 - (intOf i).toNat)
 case atStart=>exact⟨0,l,qo,rfl,rfl,rfl,rfl,rfl,rfl,rfl,rfl,rfl,rfl,Below.refl _ w⟩
 case round =>
  obtain⟨k,s,hk,rfl,r,rfl,rfl,rfl,rfl,rfl,rfl,rfl,rfl,m⟩:=hrel;have n:=Hd r;clear r
  by_cases q:k<64
  ·have ej:(k:Int)<64:=qo
   have xk:=(m.cell (p:=⟨X,k,none⟩) hX).trans (hx k q);have xg:=(m.cell (p:=⟨2,k,none⟩) hG).trans (hg k q)
   go_wp2
   go_quiet (first|(go_at_call 182;with_reducible exact Calls.quiet_of_same (Fx _ _))|(go_at_call 182;with_reducible exact Calls.quiet_of_same (DI _ _))|(go_at_call 182;with_reducible exact Calls.quiet_of_same (DP _ _)))
   go_wp2_with (first|(go_at_call 182;with_reducible refine(Fw _ _).mono ?_;rintro e w6 ⟨rfl,rfl⟩)|(go_at_call 182;with_reducible refine(DJ _ _).mono ?_;rintro e w6 ⟨rfl,rfl⟩)|(go_at_call 182;with_reducible refine(DN _ _).mono ?_;rintro e w6 ⟨rfl,rfl⟩))
   go_roundw
   case rel=>exact⟨k+1,rnd (g k) (x k) s,qo,by go_num,by rw[n.out];rfl,rfl,rfl,rfl,rfl,rfl,rfl,rfl,rfl,vA m _⟩
   case measure=>simp[intOf];omega
  ·obtain rfl:k=64:=qo
   obtain rfl:=n.out
   go_wp2
attribute [local go_sem ↓] Go.wp_at_zero Go.wp_at_succ
def jR{P:Program}(w:World)(t e:TypeId)(n:Nat)(cs:Array Value)(k:IntKind)(i:Nat)(v:Value)(h:P.underlying t=some (.array n e))(d:∀w,(Go.sizeOf e).run P w=.ok 1 w)(a:∀w,(isAgg e).run P w=.ok false w)(g:i<n)(c:cs[i]?=some v):
 (Instr.index t (.agg cs) (.int k (i:Int))).run P w=.ok v w:=by
 have b:0<=(i:Int)/\(i:Int)<(n:Int):=qo
 simp[Instr.index,run_underlying h,asIntOf,b,go_sem,d,a,c];intro f;omega
def GF(b:Nat->Int)(t:Nat):Int :=
 bits .or .u32 (bits .or .u32 (bits .or .u32 (b (4*t) % 4294967296*16777216 % 4294967296) (b (4*t+1) % 4294967296*65536 % 4294967296)) (b (4*t+2) % 4294967296*256 % 4294967296)) (b (4*t+3) % 4294967296)
def IE(x:Int):Int:=bits .xor .u32 (bits .xor .u32 (ll 7 x) (ll 18 x)) (x / 8)
def IG(y:Int):Int:=bits .xor .u32 (bits .xor .u32 (ll 17 y) (ll 19 y)) (y / 1024)
def iq(b:Nat->Int)(t:Nat):Int :=
 if a:t<16 then GF b t
 else(iq b (t - 16)+IE (iq b (t - 15))+iq b (t - 7)+IG (iq b (t - 2))) % 4294967296
termination_by t
def DQ{b:Nat->Int}{t:Nat}(h:t<16):iq b t=GF b t:=by rw[iq,dif_pos h]
def DR{b:Nat->Int}{t:Nat}(h:¬t<16):iq b t=(iq b (t - 16)+IE (iq b (t - 15))+iq b (t - 7)+IG (iq b (t - 2))) % 4294967296:=by rw[iq,dif_neg h]
def GH(w:World)(X:Nat)(b:Nat->Int)(n m:Nat)(i:Value)(W:World):Prop :=
 ∃(k:Nat) (cs:Array Value),n<=k/\k<=m/\i=.int .i64 (k:Int)/\BoxN W X 309 cs/\cs.size=64/\(∀j,j<k->cs[j]?=some (.int .u32 (iq b j)))/\Fr [X] w W
def sA{cs:Array Value}{k:Nat}{b:Nat->Int}{v:Value}(c:cs.size=64)(f:k<64)(a:v=.int .u32 (iq b k))(h:∀j,j<k->cs[j]?=some (.int .u32 (iq b j))):∀j,j<k+1->(cs.setIfInBounds k v)[j]?=some (.int .u32 (iq b j)):=by
 intro j d
 by_cases e:k=j
 ·subst e
  rw[Array.getElem?_setIfInBounds_self,if_pos qo,a]
 ·rw[Array.getElem?_setIfInBounds_ne e]
  exact h j qo
noncomputable def II:Code:=((Tryz.f144).body.bind (jQ 2)).getD .skip
def Bu(q:Act->World->Prop)(KK:Exit->Act->World->Prop)(X a e:Nat)(b:Nat->Int)(w:World)(o:Array Value)(d:BoxN w X 309 o)(h:o.size=64)(l:a<w.heap.size)(cH:a≠X)(m:∀j,j<64->w.cell? ⟨a,e+j,none⟩=some (.int .u8 (b j)))
 (t u2 u3 u5 u6 u7 ck u9 u G R ae ap aC aN aY bc bo bA bL bW b5 dq dr ds dt du dv dw dx dy dz dA dB dC dD dE dF dG dH dI dJ dK dL dM dN dO dP dQ dR dS dT dU dV dW dX dY dZ d0 d1 d2 d3 d4 d5 b6 b7 b8 b9 ca cb cc cd ce cf ch ci cj cl cm cn co cp cq cr ct cu cv cw cx cy cz cA cB cC cD cE cF v x y z A B C D E F H I J K L M N O P Q S T U V Y Z aa ab ac ad af ag ah ai aj ak al am an ao aq ar au av aw ax ay az aA aB aD aE aF aG aH aI aJ aK aL aM aO aP aQ aR aS aT aU aV aW aX aZ a3 a4 a5 a6 a7 a8 a9 ba bb bd be bf bg bh bi bj bk bm bn bp bq br bs bt bu bv bw bx bz bB bC bD bE bF bG bH bI bJ bK bM bN bO bP bQ bR bS bT bU bV bX bY bZ b0 b1 b2 b3 b4:Value) (r:∀(t5 cI cJ cK cL cM cN cO cP cQ cR cS cT cU cV cW cX cY cZ c0 c1 c2 c3 c4 c5 c6 c7 c8 c9 da db dc dd de df dg dh di dj dk dl dm dn dp:Value) (W:World),∀cs:Array Value,BoxN W X 309 cs->cs.size=64->(∀j,j<16->cs[j]?=some (.int .u32 (iq b j)))->Fr [X] w W->q ⟨List.toArray (t::.pointer (some ⟨a,e,none⟩)::u2::u3::.pointer (some ⟨X,0,none⟩)::t5::u6::u7::ck::u9::u::G::R::ae::ap::aC::aN::aY::bc::bo::bA::bL::bW::b5::cI::cJ::cK::cL::cM::cN::cO::cP::cQ::cR::cS::cT::cU::cV::cW::cX::cY::cZ::c0::c1::c2::c3::c4::c5::c6::c7::c8::c9::da::db::dc::dd::de::df::dg::dh::di::dj::dk::dl::dm::dn::dp::b6::b7::b8::b9::ca::cb::cc::cd::ce::cf::ch::ci::cj::cl::cm::cn::co::cp::cq::cr::ct::cu::cv::cw::cx::cy::cz::cA::cB::cC::cD::cE::cF::v::x::y::z::A::B::C::D::E::F::H::I::J::K::L::M::N::O::P::Q::S::T::U::V::Y::Z::aa::ab::ac::ad::af::ag::ah::ai::aj::ak::al::am::an::ao::aq::ar::au::av::aw::ax::ay::az::aA::aB::aD::aE::aF::aG::aH::aI::aJ::aK::aL::aM::aO::aP::aQ::aR::aS::aT::aU::aV::aW::aX::aZ::a3::a4::a5::a6::a7::a8::a9::ba::bb::bd::be::bf::bg::bh::bi::bj::bk::bm::bn::bp::bq::br::bs::bt::bu::bv::bw::bx::bz::bB::bC::bD::bE::bF::bG::bH::bI::bJ::bK::bM::bN::bO::bP::bQ::bR::bS::bT::bU::bV::bX::bY::bZ::b0::b1::b2::b3::b4::[]),[]⟩ W):Code.wp prog II (Exit.then q KK) ⟨List.toArray (t::.pointer (some ⟨a,e,none⟩)::u2::u3::.pointer (some ⟨X,0,none⟩)::u5::u6::u7::ck::u9::u::G::R::ae::ap::aC::aN::aY::bc::bo::bA::bL::bW::b5::.int .i64 0::dq::dr::ds::dt::du::dv::dw::dx::dy::dz::dA::dB::dC::dD::dE::dF::dG::dH::dI::dJ::dK::dL::dM::dN::dO::dP::dQ::dR::dS::dT::dU::dV::dW::dX::dY::dZ::d0::d1::d2::d3::d4::d5::b6::b7::b8::b9::ca::cb::cc::cd::ce::cf::ch::ci::cj::cl::cm::cn::co::cp::cq::cr::ct::cu::cv::cw::cx::cy::cz::cA::cB::cC::cD::cE::cF::v::x::y::z::A::B::C::D::E::F::H::I::J::K::L::M::N::O::P::Q::S::T::U::V::Y::Z::aa::ab::ac::ad::af::ag::ah::ai::aj::ak::al::am::an::ao::aq::ar::au::av::aw::ax::ay::az::aA::aB::aD::aE::aF::aG::aH::aI::aJ::aK::aL::aM::aO::aP::aQ::aR::aS::aT::aU::aV::aW::aX::aZ::a3::a4::a5::a6::a7::a8::a9::ba::bb::bd::be::bf::bg::bh::bi::bj::bk::bm::bn::bp::bq::br::bs::bt::bu::bv::bw::bx::bz::bB::bC::bD::bE::bF::bG::bH::bI::bJ::bK::bM::bN::bO::bP::bQ::bR::bS::bT::bU::bV::bX::bY::bZ::b0::b1::b2::b3::b4::[]),[]⟩ w:=by
 have HQ:=Hd r;clear r
 conv=>arg 2;whnf
 go_wp2
 have n:a ∉ [X]:=by simpa using cH
 have H0:=Hd d;clear d
 go_loopw [24] (GH w X b 0 16) (λi _=>16 - (intOf i).toNat)
 case atStart=>exact⟨0,o,qo,qo,rfl,H0.out,h,λj hj=>absurd hj qo,Fq _ w⟩
 case round =>
  clear h;obtain⟨k,cs,ea,hk,rfl,d,h,s,g⟩:=hrel
  by_cases cG:k<16
  ·have eb:(k:Int)<16:=qo
   have d6:=(g.cell (p:=⟨a,e+4*k,none⟩) l n).trans (m (4*k) qo);have d7:=(g.cell (p:=⟨a,e+(4*k+1),none⟩) l n).trans (m (4*k+1) qo);have d8:=(g.cell (p:=⟨a,e+(4*k+2),none⟩) l n).trans (m (4*k+2) qo);have d9:=(g.cell (p:=⟨a,e+(4*k+3),none⟩) l n).trans (m (4*k+3) qo);have xk:=(d.c k).trans (Array.getElem?_eq_getElem qo);have xf:=d.f k
   go_wp2
   have q0:IntKind.i64.wrap (4*(k:Int))=4*(k:Int):=by simp only[IntKind.wrap_i64];omega
   have q1:IntKind.i64.wrap (4*(k:Int)+1)=4*(k:Int)+1:=by simp only[IntKind.wrap_i64];omega
   have q2:IntKind.i64.wrap (4*(k:Int)+2)=4*(k:Int)+2:=by simp only[IntKind.wrap_i64];omega
   have q3:IntKind.i64.wrap (4*(k:Int)+3)=4*(k:Int)+3:=by simp only[IntKind.wrap_i64];omega
   have n0:(4*(k:Int)).toNat=4*k:=qo
   have n1:(4*(k:Int)+1).toNat=4*k+1:=qo
   have n2:(4*(k:Int)+2).toNat=4*k+2:=qo
   have n3:(4*(k:Int)+3).toNat=4*k+3:=qo
   have l0:(0:Int)<=4*(k:Int):=qo
   have l1:(0:Int)<=4*(k:Int)+1:=qo
   have l2:(0:Int)<=4*(k:Int)+2:=qo
   have l3:(0:Int)<=4*(k:Int)+3:=qo
   have m0:4*(k:Int)<64:=qo
   have m1:4*(k:Int)+1<64:=qo
   have m2:4*(k:Int)+2<64:=qo
   have m3:4*(k:Int)+3<64:=qo
   have m9:(k:Int)<64:=qo
   go_still_tail 38,qk
   go_wp2
   go_roundw
   case rel=>exact⟨k+1,_,qo,qo,by go_num,d.setAt k _,by simpa using h,sA h qo (by rw[DQ cG];rfl) s,(g.set (p:=⟨X,k,none⟩) qs _).drew⟩
   case measure=>simp[intOf];omega
  ·obtain rfl:k=16:=qo
   have HB:=Hd d;have HW:=Hd s;have HF:=Hd g;rw[show ((16:Nat):Int)=16 from rfl]
   go_wp2
   exact HQ.out _ _ _ _ _ _ _ _ _ _ _ _ _ _ _ _ _ _ _ _ _ _ _ _ _ _ _ _ _ _ _ _ _ _ _ _ _ _ _ _ _ _ _ _ wr _ HB.out h HW.out HF.out
noncomputable def IJ:Code:=((Tryz.f144).body.bind (jQ 7)).getD .skip
def Bv(r:Act->World->Prop)(KK:Exit->Act->World->Prop)(X:Nat)(b:Nat->Int)(w:World)(l:Array Value)(a:BoxN w X 309 l)(h:l.size=64)(v:∀j,j<16->l[j]?=some (.int .u32 (iq b j)))
 (x y u2 u3 u5 u7 u8 u9 dt z K V ai av aG aR a5 bg bs bE bP bY bZ b0 b1 b2 b3 b4 b5 b6 b7 b8 b9 ca cb cc cd ce cf ch ci cj ck cl cm cn co cp cq cr ct cu cv cw cx cy cz cA cB cC cD cE cF cG cH dE dF dG dH dI dJ dK dL dM dN dO dP dQ dR dS dT dU dV dW dX dY dZ d0 d1 d2 d3 d4 d5 d6 d7 d8 d9 ea du dv dw dx dy dz dA dB dC dD A B C D E F G H I J L M N O P Q R S T U Y Z aa ab ac ad ae af ag ah aj ak al am an ao ap aq ar au aw ax ay az aA aB aC aD aE aF aH aI aJ aK aL aM aN aO aP aQ aS aT aU aV aW aX aY aZ a3 a4 a6 a7 a8 a9 ba bb bc bd be bf bh bi bj bk bm bn bo bp bq br bt bu bv bw bx bz bA bB bC bD bF bG bH bI bJ bK bL bM bN bO bQ bR bS bT bU bV bW bX:Value) (u:∀(t6 t7 t8 t9 cK cV cW cX cY cZ c0 c1 c2 c3 c4 c5 c6 c7 c8 c9 da db dc dd de df dg dh di dj dk dl dm dn dp dq dr ds cL cM cN cO cP cQ cR cS cT cU:Value) (W:World),∀cs:Array Value,BoxN W X 309 cs->cs.size=64->(∀j,j<64->cs[j]?=some (.int .u32 (iq b j)))->Fr [X] w W->r ⟨List.toArray (x::y::u2::u3::.pointer (some ⟨X,0,none⟩)::u5::t6::t7::t8::t9::cK::z::K::V::ai::av::aG::aR::a5::bg::bs::bE::bP::bY::bZ::b0::b1::b2::b3::b4::b5::b6::b7::b8::b9::ca::cb::cc::cd::ce::cf::ch::ci::cj::ck::cl::cm::cn::co::cp::cq::cr::ct::cu::cv::cw::cx::cy::cz::cA::cB::cC::cD::cE::cF::cG::cH::cV::cW::cX::cY::cZ::c0::c1::c2::c3::c4::c5::c6::c7::c8::c9::da::db::dc::dd::de::df::dg::dh::di::dj::dk::dl::dm::dn::dp::dq::dr::ds::cL::cM::cN::cO::cP::cQ::cR::cS::cT::cU::A::B::C::D::E::F::G::H::I::J::L::M::N::O::P::Q::R::S::T::U::Y::Z::aa::ab::ac::ad::ae::af::ag::ah::aj::ak::al::am::an::ao::ap::aq::ar::au::aw::ax::ay::az::aA::aB::aC::aD::aE::aF::aH::aI::aJ::aK::aL::aM::aN::aO::aP::aQ::aS::aT::aU::aV::aW::aX::aY::aZ::a3::a4::a6::a7::a8::a9::ba::bb::bc::bd::be::bf::bh::bi::bj::bk::bm::bn::bo::bp::bq::br::bt::bu::bv::bw::bx::bz::bA::bB::bC::bD::bF::bG::bH::bI::bJ::bK::bL::bM::bN::bO::bQ::bR::bS::bT::bU::bV::bW::bX::[]),[]⟩ W):Code.wp prog IJ (Exit.then r KK) ⟨List.toArray (x::y::u2::u3::.pointer (some ⟨X,0,none⟩)::u5::.int .i64 16::u7::u8::u9::dt::z::K::V::ai::av::aG::aR::a5::bg::bs::bE::bP::bY::bZ::b0::b1::b2::b3::b4::b5::b6::b7::b8::b9::ca::cb::cc::cd::ce::cf::ch::ci::cj::ck::cl::cm::cn::co::cp::cq::cr::ct::cu::cv::cw::cx::cy::cz::cA::cB::cC::cD::cE::cF::cG::cH::dE::dF::dG::dH::dI::dJ::dK::dL::dM::dN::dO::dP::dQ::dR::dS::dT::dU::dV::dW::dX::dY::dZ::d0::d1::d2::d3::d4::d5::d6::d7::d8::d9::ea::du::dv::dw::dx::dy::dz::dA::dB::dC::dD::A::B::C::D::E::F::G::H::I::J::L::M::N::O::P::Q::R::S::T::U::Y::Z::aa::ab::ac::ad::ae::af::ag::ah::aj::ak::al::am::an::ao::ap::aq::ar::au::aw::ax::ay::az::aA::aB::aC::aD::aE::aF::aH::aI::aJ::aK::aL::aM::aN::aO::aP::aQ::aS::aT::aU::aV::aW::aX::aY::aZ::a3::a4::a6::a7::a8::a9::ba::bb::bc::bd::be::bf::bh::bi::bj::bk::bm::bn::bo::bp::bq::br::bt::bu::bv::bw::bx::bz::bA::bB::bC::bD::bF::bG::bH::bI::bJ::bK::bL::bM::bN::bO::bQ::bR::bS::bT::bU::bV::bW::bX::[]),[]⟩ w:=by
 have HQ:=Hd u;clear u
 conv=>arg 2;whnf
 go_wp2
 have H0:=Hd a;have H1:=Hd v;clear a v
 go_loopw [6] (GH w X b 16 64) (λi _=>64 - (intOf i).toNat)
 case atStart=>exact⟨16,l,qo,qo,rfl,H0.out,h,H1.out,Fq _ w⟩
 case round =>
  clear h;obtain⟨k,cs,eb,hk,rfl,a,h,d,n⟩:=hrel
  by_cases ec:k<64
  ·have ed:(k:Int)<64:=qo
   have x1:wr.cell? ⟨X,k - 15,none⟩=some (.int .u32 (iq b (k - 15))):=(a.c _).trans (d _ qo);have x2:wr.cell? ⟨X,k - 2,none⟩=some (.int .u32 (iq b (k - 2))):=(a.c _).trans (d _ qo);have x3:wr.cell? ⟨X,k - 16,none⟩=some (.int .u32 (iq b (k - 16))):=(a.c _).trans (d _ qo);have x4:wr.cell? ⟨X,k - 7,none⟩=some (.int .u32 (iq b (k - 7))):=(a.c _).trans (d _ qo);have xk:wr.cell? ⟨X,k,none⟩=some cs[k]:=(a.c k).trans (Array.getElem?_eq_getElem qo);have xf:=a.f k
   go_wp2
   have q1:IntKind.i64.wrap ((k:Int) - 15)=(k:Int) - 15:=by simp only[IntKind.wrap_i64];omega
   have q2:IntKind.i64.wrap ((k:Int) - 2)=(k:Int) - 2:=by simp only[IntKind.wrap_i64];omega
   have q3:IntKind.i64.wrap ((k:Int) - 16)=(k:Int) - 16:=by simp only[IntKind.wrap_i64];omega
   have q4:IntKind.i64.wrap ((k:Int) - 7)=(k:Int) - 7:=by simp only[IntKind.wrap_i64];omega
   have n1:((k:Int) - 15).toNat=k - 15:=qo
   have n2:((k:Int) - 2).toNat=k - 2:=qo
   have n3:((k:Int) - 16).toNat=k - 16:=qo
   have n4:((k:Int) - 7).toNat=k - 7:=qo
   have j1:(15:Int)<=(k:Int):=qo
   have j2:(2:Int)<=(k:Int):=qo
   have j3:(16:Int)<=(k:Int):=qo
   have j4:(7:Int)<=(k:Int):=qo
   have m1:(k:Int) - 15<64:=qo
   have m2:(k:Int) - 2<64:=qo
   have m3:(k:Int) - 16<64:=qo
   have m4:(k:Int) - 7<64:=qo
   go_quiet (fail)
   go_wp2_with (first|(go_at_call 182;with_reducible refine(Fy _ _).mono ?_;rintro e o ⟨rfl,rfl⟩)|(go_at_call 182;with_reducible refine(DL _ _).mono ?_;rintro e o ⟨rfl,rfl⟩)|(go_at_call 182;with_reducible refine(DK _ _).mono ?_;rintro e o ⟨rfl,rfl⟩)|(go_at_call 182;with_reducible refine(DM _ _).mono ?_;rintro e o ⟨rfl,rfl⟩))
   have⟨g,hW⟩:=eR (wr.drewN nq);rw[hW];have y3:g.cell? ⟨X,k - 16,none⟩=some (.int .u32 (iq b (k - 16))):=by rw[<-hW];exact x3
   have y4:g.cell? ⟨X,k - 7,none⟩=some (.int .u32 (iq b (k - 7))):=by rw[<-hW];exact x4
   have yk:g.cell? ⟨X,k,none⟩=some cs[k]:=by rw[<-hW];exact xk
   have yf:g.frozen? ⟨X,k,none⟩=false:=by rw[<-hW];exact xf
   have s:BoxN g X 309 cs:=by rw[<-hW];exact a.drewN nq
   have cJ:Fr [X] w g:=by rw[<-hW];exact n.drewN nq
   have cI:=Hd s;have m:=Hd d;have q:=Hd h;clear hW a n x1 x2 x3 x4 xk xf s d
   go_still_tail 14,qk
   go_wp2
   go_roundw
   case rel=>exact⟨k+1,_,qo,qo,by go_num,cI.setAt k _,by simpa using q.out,sA q.out qo (by rw[DR (t:=k) qo];rfl) m.out,cJ.drew.set (p:=⟨X,k,none⟩) qs _⟩
   case measure=>simp[intOf];omega
  ·obtain rfl:k=64:=qo
   have HB:=Hd a;have m:=Hd d;have HF:=Hd n;rw[show ((64:Nat):Int)=64 from rfl]
   go_wp2
   exact HQ.out _ _ _ _ _ _ _ _ _ _ _ _ _ _ _ _ _ _ _ _ _ _ _ _ _ _ _ _ _ _ _ _ _ _ _ _ _ _ _ _ _ _ _ _ _ _ _ _ wr _ HB.out h m.out HF.out
def IK(w:World)(b a:Nat)(t:TypeId)(c:Array Value)(s:Nat->Int)(x:Nat->Int)(i:Value)(W:World):Prop :=
 ∃(k:Nat) (cs:Array Value),k<=8/\i=.int .i64 (k:Int)/\BoxN W b t cs/\cs.size=c.size/\(∀j,j<8->cs[a+j]?=some (.int .u32 (if j<k then(s j+x j) % 4294967296 else s j)))/\(∀o,(o<a \/ a+8<=o)->cs[o]?=c[o]?)/\Fr [b] w W
def yL{cs:Array Value}{a k:Nat}{s x:Nat->Int}{v:Value}(g:a+8<=cs.size)(f:k<8)(d:v=.int .u32 ((s k+x k) % 4294967296))(h:∀j,j<8->cs[a+j]?=some (.int .u32 (if j<k then(s j+x j) % 4294967296 else s j))):∀j,j<8->(cs.setIfInBounds (a+k) v)[a+j]?=some (.int .u32 (if j<k+1 then(s j+x j) % 4294967296 else s j)):=by
 intro j c
 by_cases e:k=j
 ·subst e
  rw[Array.getElem?_setIfInBounds_self,if_pos qo,d,if_pos qo]
 ·rw[Array.getElem?_setIfInBounds_ne qo,h j c]
  by_cases b:j<k
  ·rw[if_pos b,if_pos qo]
  ·rw[if_neg b,if_neg qo]
def wN{cs b:Array Value}{a k:Nat}{v:Value}(d:k<8)(h:∀o,(o<a \/ a+8<=o)->cs[o]?=b[o]?):∀o,(o<a \/ a+8<=o)->(cs.setIfInBounds (a+k) v)[o]?=b[o]?:=by
 intro o c;rw[Array.getElem?_setIfInBounds_ne qo];exact h o c
noncomputable def IL:Code:=((Tryz.f144).body.bind (jQ 23)).getD .skip
def Bw(Q:Exit->Act->World->Prop)(b a:Nat)(t:TypeId)(m:Array Value)(s x:Nat->Int)(w:World)(d:Array Value)(z:BoxN w b t d)(dM:a+8<=d.size)(B:∀j,j<8->d[a+j]?=some (.int .u32 (s j)))(C:∀j,j<8->m[j]?=some (.int .u32 (x j)))
 (D u2 u3 u4 u5 u6 u7 u8 u9 E R ad ao aB aM aX bb bn bz bK bV dB dK bZ b0 b1 b2 b3 b4 b5 b6 b7 b8 b9 ca cb cc cd ce cf ch ci cj ck cl cm cn co cp cq cr ct cu cv cw cx cy cz cA cB cC cD cE cF cG cH cI cJ cK cL cM cN cO cP cQ cR cS cT cU cV cW cX cY cZ c0 c1 c2 c3 c4 c5 c6 c7 c8 c9 da db dc dd de F G H I J K L M N O S T U V X Y Z aa ab ac ae af ag ah ai aj ak al am an ap aq ar au av aw ax ay az aA aC aD aE aF aG aH aI aJ aK aL aN aO aP aQ aR aS aT aU aV aW aY aZ a3 a4 a5 a6 a7 a8 a9 ba bc bd be bf bg bh bi bj bk bm bo bp bq br bs bt bu bv bw bx bA bB bC bD bE bF bG bH bI bJ bL bM bN bO bP bQ bR bS bT bU bW bX bY dw dx dy dz dA dC dD dE dF dG dH dI dJ:Value) (A:∀(dl dv df dg dh di dj dk dm dn dp dq dr ds dt du:Value) (W:World),∀cs:Array Value,BoxN W b t cs->cs.size=d.size->(∀j,j<8->cs[a+j]?=some (.int .u32 ((s j+x j) % 4294967296)))->(∀o,(o<a \/ a+8<=o)->cs[o]?=d[o]?)->Fr [b] w W->Q .normal ⟨List.toArray (.pointer (some ⟨b,a,none⟩)::D::u2::u3::u4::u5::u6::u7::u8::u9::E::R::ad::ao::aB::aM::aX::bb::bn::bz::bK::bV::dl::dv::bZ::b0::b1::b2::b3::b4::b5::b6::b7::b8::b9::ca::cb::cc::cd::ce::cf::ch::ci::cj::ck::cl::cm::cn::co::cp::cq::cr::ct::cu::cv::cw::cx::cy::cz::cA::cB::cC::cD::cE::cF::cG::cH::cI::cJ::cK::cL::cM::cN::cO::cP::cQ::cR::cS::cT::cU::cV::cW::cX::cY::cZ::c0::c1::c2::c3::c4::c5::c6::c7::c8::c9::da::db::dc::dd::de::F::G::H::I::J::K::L::M::N::O::S::T::U::V::X::Y::Z::aa::ab::ac::ae::af::ag::ah::ai::aj::ak::al::am::an::ap::aq::ar::au::av::aw::ax::ay::az::aA::aC::aD::aE::aF::aG::aH::aI::aJ::aK::aL::aN::aO::aP::aQ::aR::aS::aT::aU::aV::aW::aY::aZ::a3::a4::a5::a6::a7::a8::a9::ba::bc::bd::be::bf::bg::bh::bi::bj::bk::bm::bo::bp::bq::br::bs::bt::bu::bv::bw::bx::bA::bB::bC::bD::bE::bF::bG::bH::bI::bJ::bL::bM::bN::bO::bP::bQ::bR::bS::bT::bU::bW::bX::bY::.agg m::df::dg::dh::di::dj::dk::dm::dn::dp::dq::dr::ds::dt::du::[]),[]⟩ W):Code.wp prog IL Q ⟨List.toArray (.pointer (some ⟨b,a,none⟩)::D::u2::u3::u4::u5::u6::u7::u8::u9::E::R::ad::ao::aB::aM::aX::bb::bn::bz::bK::bV::dB::dK::bZ::b0::b1::b2::b3::b4::b5::b6::b7::b8::b9::ca::cb::cc::cd::ce::cf::ch::ci::cj::ck::cl::cm::cn::co::cp::cq::cr::ct::cu::cv::cw::cx::cy::cz::cA::cB::cC::cD::cE::cF::cG::cH::cI::cJ::cK::cL::cM::cN::cO::cP::cQ::cR::cS::cT::cU::cV::cW::cX::cY::cZ::c0::c1::c2::c3::c4::c5::c6::c7::c8::c9::da::db::dc::dd::de::F::G::H::I::J::K::L::M::N::O::S::T::U::V::X::Y::Z::aa::ab::ac::ae::af::ag::ah::ai::aj::ak::al::am::an::ap::aq::ar::au::av::aw::ax::ay::az::aA::aC::aD::aE::aF::aG::aH::aI::aJ::aK::aL::aN::aO::aP::aQ::aR::aS::aT::aU::aV::aW::aY::aZ::a3::a4::a5::a6::a7::a8::a9::ba::bc::bd::be::bf::bg::bh::bi::bj::bk::bm::bo::bp::bq::br::bs::bt::bu::bv::bw::bx::bA::bB::bC::bD::bE::bF::bG::bH::bI::bJ::bL::bM::bN::bO::bP::bQ::bR::bS::bT::bU::bW::bX::bY::.agg m::.int .i64 0::dw::dx::dy::dz::dA::dC::dD::dE::dF::dG::dH::dI::dJ::[]),[]⟩ w:=by
 have HQ:=Hd A;clear A
 conv=>arg 2;whnf
 go_wp2
 have H0:=Hd z;have H1:=Hd B;have H2:=Hd C;clear z B C
 go_loopw [214] (IK w b a t d s x) (λi _=>8 - (intOf i).toNat)
 case atStart=>exact⟨0,d,qo,rfl,H0.out,rfl,λj q=>by rw[if_neg qo];exact H1.out j q,λ_ _=>rfl,Fq _ w⟩
 case round =>
  obtain⟨k,cs,hk,rfl,e,n,h,r,y⟩:=hrel
  by_cases g:k<8
  ·have dL:(k:Int)<8:=qo
   have dN:=jR (P:=prog) wr 162 161 8 m .i64 k _ qk (λ_=>by rfl) (λ_=>by rfl) g (H2.out k g);have xk:wr.cell? ⟨b,a+k,none⟩=some (.int .u32 (s k)):=by have:=(e.c (a+k)).trans (h k g);rwa [if_neg qo]at this
   have xf:=e.f (a+k);have l:=Hd n;have u:=Hd r;have v:=Hd h;clear n r h
   go_wp2
   go_still_tail 8,qk
   go_wp2
   go_roundw
   case rel=>exact⟨k+1,_,qo,by go_num,e.setAt (a+k) _,by simpa using l.out,yL (by have:=l.out;omega) g rfl v.out,wN g u.out,(y.set (p:=⟨b,a+k,none⟩) qs _).drew⟩
   case measure=>simp[intOf];omega
  ·obtain rfl:k=8:=qo
   have HB:=Hd e;have v:=Hd h;have HF:=Hd y;have l:=Hd n;have u:=Hd r;clear e h y n r;rw[show ((8:Nat):Int)=8 from rfl]
   go_wp2
   exact HQ.out _ _ _ _ _ _ _ _ _ _ _ _ _ _ _ _ wr _ HB.out l.out (λj q=>by have:=v.out j q;rwa [if_pos q]at this) u.out HF.out
end Go.Proofs.YtlpmiimgacfmkaaGreatDoor
