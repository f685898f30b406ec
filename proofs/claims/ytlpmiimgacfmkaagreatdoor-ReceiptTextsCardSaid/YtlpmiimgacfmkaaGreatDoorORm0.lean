/- For the law's statements on receipts: what Make gives, two zero receipts are equal. -/
import Derived.Test.YtlpmiimgacfmkaaGreatDoorOCa1
import Derived.Test.YtlpmiimgacfmkaaGreatDoorOGq
import Derived.Test.YtlpmiimgacfmkaaGreatDoorOMaps3
import Derived.Test.YtlpmiimgacfmkaaGreatDoorOVy7
set_option linter.all false
namespace Go.Proofs.YtlpmiimgacfmkaaGreatDoor
set_option maxRecDepth 100000
set_option maxHeartbeats 4000000
open Go.Proofs.Tryz
open Go.RowKit
theorem PrL.fr0{w w':World}{n:Nat}{A:Option Addr}{c:Nat}{b:List PF}(h:PrL w n A c b)(a:Fr [] w w'):PrL w' n A c b:=⟨h.own.fr a qs,λp d=>(h.ds p d).fr a qs⟩
theorem iz{xs:List AX}{nm:ON}{P:Nat}{b:Int}{L:List Nat}(h:makeM xs nm P b=.inr L):0<=b/\b.toNat<=xs.length/\L.length<=b.toNat:=by
 unfold makeM at h;split at h
 ·cases h
 ·rename_i f
  split at h
  ·cases h
  ·rename_i d
   injection h with h
   have g:((xs.map AX.a).take b.toNat).length<=b.toNat:=by rw[List.length_take];omega
   rcases oRes_nat ((xs.map AX.a).take b.toNat) nm P (by simpa using (not_or.1 d).1)with c|⟨v,j,c⟩
   ·exact absurd c (not_or.1 d).2
   ·rw[c,Int.toNat_natCast]at h
    have e:=(causL_idx (n:=b.toNat) (i:=v) (lkA_down ((xs.map AX.a).take b.toNat)) qo).1;rw[h]at e;exact⟨qo,qo,e⟩
set_option maxHeartbeats 2000000
open Go.RowKit Go.Shelf
def fa(xs:List AX)(is:List Nat):List AG:=is.map λi=>match xs[i]? with|some y=>y.a|none=>⟨⟨0,0,0,[]⟩,[],[]⟩
theorem jI(xs:List AX)(q:Run xs)(nm:ON)(t u:ByteArray)(P n m:Nat)(k:Option Addr)(c:Nat)(b:List PF)(L:checkO nm=0)(G:encO nm=.agg #[.int .i64 nm.kind,.string t,.int .i64 nm.number,.int .i64 nm.index,.string u])(F:P<65536)(M:n<=xs.length)(D:b.length=m)(J:0<m)(K:m<=12)(w:World)(z:Ok w)(B:PrL w n k c b)
 (E:∀p∈b,p.i<n/\∃y,xs[p.i]?=some y/\p.s=encAG y.a/\p.d=pathX xs p.i n) :
 Calls prog 22 #[encD (rootX xs n),rcV nm.kind t nm.number nm.index u (P:Int) (n:Int) (.slice k m c)] w (fx nm P (b.map PF.i) (fa xs (b.map PF.i)) w):=by
 have U:=q.len
 have N:(rootX xs n).length=32:=by
  unfold rootX;exact rt_len (dsX_32 xs) (n+1) 0 qo (by rw[dsX_len];omega) qo
 have Q:∀a∈fa xs (b.map PF.i),wfB a=true/\a.r.length<=10/\a.w.length<=10:=λa l=>by
  obtain⟨i,H,rfl⟩:=List.mem_map.1 l;obtain⟨p,g,rfl⟩:=List.mem_map.1 H;obtain⟨_,y,f,_⟩:=E p g;rw[f];obtain⟨R,_,S,T⟩:=q.wf y (lmg f);exact⟨R,S,T⟩
 refine gr _ N nm t u P n m k c b _ w z L G F B D J K (by unfold fa;rw[List.length_map,List.length_map,D]) Q λj p a C o W hW=>?_;have g:=lmg C;obtain⟨I,y,f,O,v⟩:=E p g
 have l:a=y.a:=by
  unfold fa at o;rw[List.getElem?_map,List.getElem?_map,C]at o;have h:=Option.some.inj o;simp only[f]at h;exact h.symm
 have x:=(B.ds p g).fr hW qs;rw[v]at x;have h:=gq xs q p.i n y f I M p.A p.c W (z.fr0 hW) x;rw[l]
 have e:Value.agg (p.cs n).toArray=.agg #[p.i,n,encN (encAG y.a),.slice p.A (pathX xs p.i n).length p.c]:=by
  unfold PF.cs;rw[O,v]
 rw[e];exact h
theorem jp{xs:List AX}(d:Run xs){is:List Nat}(h:∀i∈is,i<xs.length):∀a∈fa xs is,a.r.length<=10:=λa b=>by
 obtain⟨i,c,rfl⟩:=List.mem_map.1 b;rw[lge (h i c)];exact(d.wf _ (List.getElem_mem _)).2.2.1
theorem iA{xs:List AX}{nm:ON}{P:Nat}{b:Int}{L:List Nat}(h:makeM xs nm P b=.inr L):0<L.length/\∀i∈L,i<b.toNat:=by
 unfold makeM at h;split at h
 ·cases h
 ·rename_i j
  split at h
  ·cases h
  ·rename_i d
   injection h with h
   have k:((xs.map AX.a).take b.toNat).length<=b.toNat:=by rw[List.length_take];omega
   rcases oRes_nat ((xs.map AX.a).take b.toNat) nm P (by simpa using (not_or.1 d).1)with c|⟨v,l,c⟩
   ·exact absurd c (not_or.1 d).2
   ·rw[c,Int.toNat_natCast]at h
    have e:=(causL_idx (n:=b.toNat) (i:=v) (lkA_down ((xs.map AX.a).take b.toNat)) qo).2;rw[h]at e;refine⟨?_,e⟩;rw[<-h];unfold causL;rw[srt_len];obtain⟨f,g⟩:∃f,b.toNat=f+1:=⟨b.toNat - 1,qo⟩;rw[g];exact vis_pos
theorem jq{xs:List AX}{n:Nat}{C:List Nat}{c:List PF}(q:n<=xs.length)(k:∀i∈C,i<n)(h:(c.map λp=>(p.i,p.s,p.d))=C.map (pfOf xs n)):c.map PF.i=C/\∀p∈c,p.i<n/\∃y,xs[p.i]?=some y/\p.s=encAG y.a/\p.d=pathX xs p.i n:=by
 constructor
 ·have:=congrArg (List.map λx:Nat × Nm × List Nm=>x.1) h
  rw[List.map_map,List.map_map]at this;have e:((λx:Nat × Nm × List Nm=>x.1) ∘ pfOf xs n)=id:=by funext i;rfl
  rw[e,List.map_id]at this;exact this
 ·intro p o
  have g:(p.i,p.s,p.d)∈C.map (pfOf xs n):=by rw[<-h];exact List.mem_map.2 ⟨p,o,rfl⟩
  obtain⟨i,l,b⟩:=List.mem_map.1 g;unfold pfOf at b;simp only[Prod.mk.injEq]at b;obtain⟨rfl,f,j⟩:=b;have m:=k _ l;refine⟨m,xs[p.i],lge qo,?_,j.symm⟩;rw[lge qo]at f;exact f.symm
end Go.Proofs.YtlpmiimgacfmkaaGreatDoor
