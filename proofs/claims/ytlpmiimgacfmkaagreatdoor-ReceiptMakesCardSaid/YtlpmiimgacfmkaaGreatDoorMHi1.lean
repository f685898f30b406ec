/- history: the record's shape; none, leaf; (Action).Apply. -/
import Derived.Test.YtlpmiimgacfmkaaGreatDoorMTr5
import Derived.Test.YtlpmiimgacfmkaaGreatDoorMRf1
import Derived.Test.YtlpmiimgacfmkaaGreatDoorMQt
import Derived.Test.YtlpmiimgacfmkaaGreatDoorMGn
import Derived.Test.YtlpmiimgacfmkaaGreatDoorMMb
set_option linter.all false
namespace Go.Proofs.YtlpmiimgacfmkaaGreatDoor
open Go.Proofs.Tryz
open Go.RowKit
set_option maxRecDepth 100000
set_option maxHeartbeats 4000000
def Kept (M:List Nat) (w:World) (P:World->Prop):Prop:=∀ W,Fr M w W->P W
section
variable {M M':List Nat} {w w':World} {P R:World->Prop}
theorem Kept.now (h:Kept M w P):P w:=h w (Fq M w)
theorem Kept.step (h:Kept M w P) (hf:Fr M w w') (hM:∀ k∈M',k∈M \/ w.heap.size<=k):Kept M' w' P:=fun W hW=>h W (hf.trans hW hM)
theorem Kept.fr0 (h:Kept M w P) (hf:Fr [] w w'):Kept M w' P:=fun W hW=>h W ((hf.mono (by simp)).then hW)
theorem Kept.imp (h:Kept M w P) (f:∀ W,P W->R W):Kept M w R:=fun W hW=>f W (h W hW)
end
structure AV where
 a:AC
 A:Option Addr
 c:Nat
 B:Option Addr
 d:Nat
def AV.cs (x:AV):List Value:=[.int .i64 x.a.t,.int .i64 0,.int .i64 x.a.t,.string ⟨#[]⟩,x.a.r.sl x.A x.c,x.a.w.sl x.B x.d]
structure AV.ok (w:World) (x:AV):Prop where
 r:CLat w x.A x.a.r
 w:CLat w x.B x.a.w
 nr:NilOk x.a.r x.A x.c
 nw:NilOk x.a.w x.B x.d
section
variable {w w':World} {x:AV} {S:List Nat}
end
def TR.bl:TR->List Nat
 | .nil=>[]
 | .node b l _ _ _ _ _ r=>b::(l.bl++r.bl)
theorem TRat.fr {w w':World} {S:List Nat} (hf:Fr S w w'):∀ {t:TR},TRat w t->(∀ k∈t.bl,k ∉ S)->TRat w' t
 | .nil,_,_=>trivial
 | .node b _ _ _ _ _ _ _,h,hS=>⟨h.1.fr hf (hS b (by simp[TR.bl])),TRat.fr hf h.2.1 (fun k hk=>hS k (by simp[TR.bl,hk])),TRat.fr hf h.2.2 (fun k hk=>hS k (by simp[TR.bl,hk]))⟩
def stB (b:Nat) (t:TR):List Nat:=b::t.bl
theorem StAt.fr {w w':World} {b:Nat} {t:TR} {S:List Nat} (h:StAt w b t) (hf:Fr S w w') (hS:∀ k∈stB b t,k ∉ S):StAt w' b t:=⟨h.1.fr hf (hS b (by simp[stB])),TRat.fr hf h.2 (fun k hk=>hS k (by simp[stB,hk]))⟩
theorem run_add_str (w:World) (a b:ByteArray) (h:a.size+b.size<=9223372036854775807):(binOp .add 9 (.string a) (.string b)).run prog w=.ok (.string (a++b)) w:=by
 simp[binOp,go_sem,h]
theorem cons_str (c:UInt8) (l:Nm):Value.string (⟨#[c]⟩++⟨l.toArray⟩)=encN (c::l):=by
 unfold encN
 congr 1
theorem leafH_any (s:Nm) (w:World) (hok:Ok w) (hs:s.length<=1099511620000):Calls prog 93 #[encN s] w (SumPost w (leafN (1::s))):=by
 obtain⟨w1,hw1⟩:=nmd (w.alloc (.cells (z32) 57));have hf1:Fr [] w w1:=by rw[<-hw1];exact (Fq [] w).alloc _
 obtain⟨fR,hR⟩:∃ f,w1.rowIs w.heap.size 57 32 f:=by rw[<-hw1];exact⟨_,row_new w _ _⟩
 have hC:=Leaf_any (1::s) w1 (hok.fr0 hf1) (by simp;omega);obtain⟨d,hd⟩:=nmd (leafN (1::s));have hd32:d.length=32:=by rw[<-hd];exact shaN_len _
 rw[hd] at hC ⊢;have hcl:(dCells d).length=32:=by rw[dcells_len,hd32]
 have hadd:(binOp .add 9 (.string ⟨#[1]⟩) (encN s)).run prog w1=.ok (encN (1::s)) w1:=by
  rw[<-cons_str 1 s];exact run_add_str w1 _ _ (by simp[<-ByteArray.size_data];omega)
 obtain⟨s1,hs1⟩:=nmd (encN s);obtain⟨s2,hs2⟩:=nmd (encN (1::s));rw[hs1] at hadd ⊢;rw[hs2] at hadd hC;have HC:=Hd hC;have HR2:=Hd hR;have HF2:=Hd hf1;have HW1:=Hd hw1;clear hC hR hf1 hw1 hs1 hs2
 go_enter func93,ntmps93
 go_upto_region 1 with fail
 rw[HW1.out]
 go_wp2_with ((go_at_call 90;(with_reducible refine HC.out.mono ?_);rintro e w3 ⟨rfl,hf3⟩;unfold encD;have hR3:=rowIs_fr HR2.out hf3 (by simp);have hst:=store_digest (d:=d) hR3 hd32;have hrd:=row_digest (d:=d) hR3 hd32;obtain⟨w4,hw4⟩:∃ X,w3.setCells w.heap.size 0 (dCells d)=X:=⟨_,rfl⟩;have hf4:Fr [] w w4:=(by rw[<-hw4];exact ((HF2.out.then hf3).setCells (.inr (nlr _)) _ _));rw[hw4] at hst hrd;have HRD:=Hd hrd.1;have HF4:=Hd hf4;clear hw4 hrd hf4 hR3 hf3))
 exact bodyPost_ret (v:=encD d) (results_cell_mid (d:=.array 32 5) (p:=2) (ty:=57) (b:=w.heap.size) (o:=0) rfl rfl HRD.out (by kernel_rfl) rfl (by rw[dcells_len,hd32];rfl)) rfl ⟨rfl,HF4.out⟩
structure HistIs (w:World) (b pb pl bt:Nat) (A:Option Addr) (c:Nat) (F:List Nat) (l:List AV) (t:TR) (ds:List Nm) (kvs:List (Value × Value)):Prop where
 box:BoxN w b 136 #[.pointer (some ⟨pb,0,none⟩),.slice A l.length c,.slice none 0 0,.pointer (some ⟨pl,0,none⟩),.pointer (some ⟨bt,0,none⟩)]
 own:Own w 91 6 A l.length c (l.flatMap AV.cs)
 tree:TreeM w bt ds kvs F
 nb:b ∉ blk A
 nF:b ∉ F
 dj:∀ k∈blk A,k ∉ F
 st:StAt w pl t
 dst:∀ k∈stB pl t,k ∉ b::(blk A++F)
 kept:Kept (b::(blk A++F)) w fun W=>StAt W pb .nil/\∀ x∈l,x.ok W
def HistAt (w:World) (b:Nat) (l:List AV) (t:TR) (ds:List Nm) (kvs:List (Value × Value)) (M:List Nat):Prop:=∃ pb pl bt A c F,HistIs w b pb pl bt A c F l t ds kvs/\M=b::(blk A++F)
theorem none_any (b p:Nat) (w:World) (h:w.cell? ⟨b,0,none⟩=some (.pointer (some ⟨p,0,none⟩))):Calls prog 59 #[.pointer (some ⟨b,0,none⟩)] w fun e w'=>e=.returned (.bool false)/\w=w':=by
 go_enter func59,ntmps59
 go_wp2_with fail
 go_ret
 exact⟨rfl,rfl⟩
theorem info_act:∃ i,(prog).info? 91=some i/\i.zero=some (.agg actZ)/\i.size=6/\i.bytes=88:=info_parts (by kernel_rfl)
def ProvePost (w:World) (i n:Int) (s:Nm) (xs:List Nm) (e:Ending) (w':World):Prop :=
 ∃ A c,e=.returned (.tuple #[.agg #[.int .i64 i,.int .i64 n,encN s,.slice A xs.length c],.int .i64 0])/\Own w' 57 32 A xs.length c (xs.flatMap dCells)/\Fr [] w w'/\∀ k∈blk A,w.heap.size<=k
theorem new_dig32 (W:World) (d:Nm) (hd:d.length=32):∃ Y,(storeCells ⟨W.heap.size,0,none⟩ (dCells d)).run prog (W.alloc (.cells (#[.int .u8 0,.int .u8 0,.int .u8 0,.int .u8 0,.int .u8 0,.int .u8 0,.int .u8 0,.int .u8 0,.int .u8 0,.int .u8 0,.int .u8 0,.int .u8 0,.int .u8 0,.int .u8 0,.int .u8 0,.int .u8 0,.int .u8 0,.int .u8 0,.int .u8 0,.int .u8 0,.int .u8 0,.int .u8 0,.int .u8 0,.int .u8 0,.int .u8 0,.int .u8 0,.int .u8 0,.int .u8 0,.int .u8 0,.int .u8 0,.int .u8 0,.int .u8 0]) 56))=.ok () Y/\Fr [] W Y/\Y.rowIs W.heap.size 56 32 (fun j=>.int .u8 ((d.getD j 0).toNat:Int)):=by
 obtain⟨f,hf⟩:∃ f,(W.alloc (.cells (#[.int .u8 0,.int .u8 0,.int .u8 0,.int .u8 0,.int .u8 0,.int .u8 0,.int .u8 0,.int .u8 0,.int .u8 0,.int .u8 0,.int .u8 0,.int .u8 0,.int .u8 0,.int .u8 0,.int .u8 0,.int .u8 0,.int .u8 0,.int .u8 0,.int .u8 0,.int .u8 0,.int .u8 0,.int .u8 0,.int .u8 0,.int .u8 0,.int .u8 0,.int .u8 0,.int .u8 0,.int .u8 0,.int .u8 0,.int .u8 0,.int .u8 0,.int .u8 0]) 56)).rowIs W.heap.size 56 32 f:=⟨_,row_new W _ _⟩;exact⟨_,store_digest hf hd,((Fq [] W).alloc _).setCells (.inr (nlr _)) _ _,(row_digest hf hd).2⟩
theorem row_bytes {X:World} {L:Nat} {t:TypeId} {d:Nm} (hr:X.rowIs L t 32 (fun j=>.int .u8 ((d.getD j 0).toNat:Int))) (hd:d.length=32):Row X X.heap.size 1 (some ⟨L,0,none⟩) 32 (dCells d) :=
 ⟨by rw[dcells_len,hd],fun _=>⟨L,0,rfl,hr.lt,row_range hr hd⟩⟩
def leaf0:Nm:=leafN (0::stD0)
theorem NewH_any (p:Nat) (w:World) (hok:Ok w) (h:StAt w p .nil):Calls prog 32 #[.pointer (some ⟨p,0,none⟩)] w fun e w'=>∃ b M,e=.returned (.tuple #[.pointer (some ⟨b,0,none⟩),.int .i64 0])/\HistAt w' b [] .nil [leaf0] [] M/\Fr [] w w'/\∀ k∈M,w.heap.size<=k:=by
 have hd32:stD0.length=32:=shaN_len _;have hcl:(dCells stD0).length=32:=by rw[dcells_len,hd32]
 have hDg:∀ W,Fr [] w W->Calls prog 88 #[.pointer (some ⟨p,0,none⟩)] W (SumPost W stD0):=fun W hW=>DigestS_nil p W (hok.fr0 hW) (h.fr0 hW);have hLf:∀ W,Fr [] w W->Calls prog 90 #[encN (0::stD0)] W (SumPost W leaf0):=fun W hW=>Leaf_any (0::stD0) W (hok.fr0 hW) (by simp[hd32]);have hl32:leaf0.length=32:=shaN_len _;generalize leaf0=dl at hLf hl32 ⊢;generalize stD0=d at hDg hLf hd32 hcl
 have hadd:∀ W,(binOp .add 9 (.string ⟨#[0]⟩) (encN d)).run prog W=.ok (encN (0::d)) W:=fun W=>by
  rw[<-cons_str 0 d];exact run_add_str W _ _ (by simp[<-ByteArray.size_data];omega)
 obtain⟨s1,hs1⟩:=nmd (encN d);obtain⟨s2,hs2⟩:=nmd (encN (0::d));rw[hs1] at hadd;rw[hs2] at hadd hLf;have HDG:=Hd hDg;have HLF:=Hd hLf;have HADD:=Hd hadd;have HS1:=Hd hs1;have HST:=Hd h;have HOK:=Hd hok;clear hDg hLf hadd hs1 hs2 h hok
 go_enter func32,ntmps32
 go_upto_region 4 with ((go_at_call 87;(with_reducible refine (NewTree_any w).mono ?_);rintro e w1 ⟨rfl,hbt,hf1⟩;have HBT:=Hd hbt;have HF1:=Hd hf1;have hz1:=hbt.lt;clear hbt hf1))
 obtain⟨w2,hw2,hb2,hf2⟩:=bxn w1 #[.pointer (some ⟨p,0,none⟩),.slice none 0 0,.slice none 0 0,.pointer (some ⟨p,0,none⟩),.pointer (some ⟨w.heap.size,0,none⟩)] 136;rw[hw2];have HF02:=Hd (HF1.out.then hf2);have HB2:=Hd hb2;have HBT2:=Hd (HBT.out.fr hf2 (by simp));clear hw2 hb2 hf2
 go_upto_region 5 with ((go_at_call 88;(with_reducible refine (HDG.out _ HF02.out).mono ?_);rintro e w3 ⟨rfl,hf3⟩;unfold encD;obtain⟨w4,hst4,hf4,hr4⟩:=new_dig32 w3 d hd32;have HF4:=Hd (hf3.then hf4);have HR4:=Hd hr4;clear hf3 hf4 hr4))
 have hz4:=HR4.out.lt;have hz34:=HF4.out.size;generalize w3.heap.size=R at HR4 hz4 ⊢;have hC:Fr [] w4 w4.drew:=(Fq [] w4).drew
 have hCell:∀ W,Fr [] w4 W->W.cell? ⟨w1.heap.size,4,none⟩=some (.pointer (some ⟨w.heap.size,0,none⟩))/\(convert 49 9 (.slice (some ⟨R,0,none⟩) 32 32)).run prog W=.ok s1 W/\(binOp .add 9 (.string ⟨#[0]⟩) s1).run prog W=.ok s2 W:=fun W hW=>by
  have hb:=(HB2.out.fr HF4.out (by simp)).fr hW (by simp);have hr:=rowIs_fr HR4.out hW (by simp);have hc:=run_row_str (P:=prog) (row_bytes hr hd32) 49 5 underlying49 underlying5 9 underlying9 32;rw[HS1.out] at hc;exact⟨hb.c 4,hc,HADD.out W⟩
 have HSS:=Hd hCell;clear hCell hst4;refine wp_region_head (fun W:World=>Fr [] w4 W) 8 (by kernel_rfl) ?_ (by decide)
 show headJ 0 _ _ _ _ _ _ _ _ _ _ _
 iterate 7
  refine hdJ (v:=?_) rfl (Or.inl ⟨by rfl,?_⟩) ?_
  rotate_left
  ·intro W hW;obtain⟨x4,hcv,had⟩:=HSS.out W hW;go_simp;try with_reducible rfl
  try simp only[Act.put,qA,qB,qC,qD,qE,qF]
 refine hO (i:=7) rfl fun K hK=>?_;go_simp
 go_at_call 90
 (with_reducible refine (HLF.out _ ((HF02.out.then HF4.out).then hC)).mono ?_);rintro e w6 ⟨rfl,hf6⟩;have hC6:=hC.then hf6;refine hK _ _ hC6 ?_;clear hK K hC hf6
 try simp only[Act.put,qA,qB,qC,qD,qE,qF]
 refine headI_done ⟨by kernel_rfl,?_⟩;simp only[qG,qH];have hF46:=HF4.out.then hC6;have hT6:=HBT2.out.fr hF46 (by simp);have hTI:TreeIs w6 w.heap.size none 0 none [] []:=⟨hT6,Own.nil _ _ _,by simp,by simp[blk],fun _=>rfl,by simp⟩;have HAP:=Hd (Append_0 w.heap.size dl w6 hTI hl32);clear hTI hT6
 go_wp2_with ((go_at_call 89;(with_reducible refine HAP.out.mono ?_);rintro e w5 ⟨rfl,F',htm,hf5,hF5⟩;have HTM:=Hd (An htm hF5);have HF5:=Hd hf5;clear htm hF5 hf5))
 go_ret2
 have hz2:=HB2.out.lt;have hz12:=HF02.out.size;have hz46:=hF46.size;have hpl:=HST.out.1.lt;have hb5:BoxN w5 w1.heap.size 136 #[.pointer (some ⟨p,0,none⟩),.slice none 0 0,.slice none 0 0,.pointer (some ⟨p,0,none⟩),.pointer (some ⟨w.heap.size,0,none⟩)]:=(HB2.out.fr hF46 (by simp)).fr HF5.out (by simp;omega);have hfin:Fr [] w w5:=(HF02.out.then hF46).trans HF5.out (by simp)
 have hM:∀ k∈w1.heap.size::(blk none++F'),w.heap.size<=k:=fun k hk=>by
  simp only[blk,Option.map_none,Option.toList_none,List.nil_append,List.mem_cons] at hk
  rcases hk with rfl | hk
  ·omega
  ·rcases HTM.out.2 k hk with rfl | h
   ·exact nlr _
   ·omega
 have hMp:p ∉ w1.heap.size::(blk none++F'):=fun hm=>by have:=hM p hm;omega
 refine⟨w1.heap.size,_,rfl,⟨p,p,w.heap.size,none,0,F',⟨hb5,Own.nil _ _ _,HTM.out.1,by simp[blk],?_,by simp[blk],HST.out.fr0 hfin,?_,?_⟩,rfl⟩,hfin,hM⟩
 ·intro hm
  rcases HTM.out.2 _ hm with h | h
  ·omega
  ·omega
 ·intro k hk
  simp only[stB,TR.bl,List.mem_cons,List.not_mem_nil,or_false] at hk;rw[hk];exact hMp
 ·intro W hW
  exact⟨(HST.out.fr0 hfin).fr hW (by simpa [stB,TR.bl] using hMp),by simp⟩
set_option maxHeartbeats 1000000
def leafX (x:AX):Nm:=leafN (1::encAG x.a)
def okA (xs:List AX) (a:AG):Bool:=wfB a && (match xs.getLast? with | none=>true | some y=>decide (0<cmpK a.k y.a.k))
structure Run (xs:List AX):Prop where
 wf:∀ x∈xs,wfB x.a=true/\x.a.fit/\x.a.r.length<=10/\x.a.w.length<=10
 inc:∀ i x y,xs[i]?=some x->xs[i+1]?=some y->0<cmpK y.a.k x.a.k
 len:xs.length<=12
structure HGis (w:World) (b pb pl bt:Nat) (A:Option Addr) (c:Nat) (F:List Nat) (xs:List AX) (ns:List ON) (ds:List Nm) (kvs:List (Value × Value)):Prop where
 box:BoxN w b 136 #[.pointer (some ⟨pb,0,none⟩),.slice A xs.length c,.slice none 0 0,.pointer (some ⟨pl,0,none⟩),.pointer (some ⟨bt,0,none⟩)]
 own:Own w 91 6 A xs.length c (xs.flatMap AX.cs)
 xok:∀ x∈xs,x.ok w
 base:SG w pb []
 st:SG w pl ns
 nl:ns.length<=10*xs.length
 tree:TreeM w bt ds kvs F
 parts:Parts ds kvs
 keys:KeysUp kvs 0 ds.length
 ds:ds=leaf0::xs.map leafX
 run:Run xs
def HG (w:World) (b:Nat) (xs:List AX) (M:List Nat):Prop:=∃ pb pl bt A c F ns ds kvs,HGis w b pb pl bt A c F xs ns ds kvs/\M=b::(blk A++F)
theorem TreeM.noT {w:World} {b:Nat} {ds:List Nm} {kvs:List (Value × Value)} {F:List Nat} {ts:List TypeId} (h:TreeM w b ds kvs F) (h1:237 ∉ ts) (h2:57 ∉ ts):NoT ts w F:=by
 obtain⟨A,c,r,h,rfl⟩:=h;exact ((NoT.box h.box h1).app ((NoT.own h.own h2).app (NoT.map (h.ms r rfl).1))).mem (by simp)
section
variable {w w':World} {b pb pl bt c:Nat} {A:Option Addr} {F:List Nat} {xs:List AX} {ns:List ON} {ds:List Nm} {kvs:List (Value × Value)} {M S:List Nat}
theorem HGis.noT (h:HGis w b pb pl bt A c F xs ns ds kvs):NoT tyS w (b::(blk A++F)) :=
 ((NoT.box h.box (by decide)).app ((NoT.own h.own (by decide)).app (h.tree.noT (by decide) (by decide)))).mem (by simp)
theorem HGis.fr0 (h:HGis w b pb pl bt A c F xs ns ds kvs) (hf:Fr [] w w'):HGis w' b pb pl bt A c F xs ns ds kvs :=
 ⟨h.box.fr hf (by simp),h.own.fr hf (by simp),fun x hx=>(h.xok x hx).fr0 hf,h.base.fr0 hf,h.st.fr0 hf,h.nl,h.tree.fr hf (by simp),h.parts,h.keys,h.ds,h.run⟩
theorem HG.fr0 (h:HG w b xs M) (hf:Fr [] w w'):HG w' b xs M:=by
 obtain⟨pb,pl,bt,A,c,F,ns,ds,kvs,h,rfl⟩:=h;exact⟨pb,pl,bt,A,c,F,ns,ds,kvs,h.fr0 hf,rfl⟩
theorem HG.lt (h:HG w b xs M):∀ k∈M,k<w.heap.size:=by
 obtain⟨pb,pl,bt,A,c,F,ns,ds,kvs,h,rfl⟩:=h;intro k hk
 rcases List.mem_cons.1 hk with rfl | hk
 ·exact h.box.lt
 ·rcases List.mem_append.1 hk with hk | hk
  ·exact h.own.lt k hk
  ·exact h.tree.lt k hk
theorem HGis.nb (h:HGis w b pb pl bt A c F xs ns ds kvs):b ∉ blk A:=fun hm=>by
 have:=NoT.own (ts:=[136]) h.own (by decide) b hm _ _ _ h.box;simp at this
theorem HGis.nF (h:HGis w b pb pl bt A c F xs ns ds kvs):b ∉ F:=fun hm=>by
 have:=h.tree.noT (ts:=[136]) (by decide) (by decide) b hm _ _ _ h.box;simp at this
theorem HGis.dj (h:HGis w b pb pl bt A c F xs ns ds kvs):∀ k∈blk A,k ∉ F:=fun k hk hm=>by
 rcases h.own.2 with ⟨hv,_⟩ | ⟨g,cap,cur,hv,_,hg,_⟩
 ·injection hv with hv;subst hv;simp[blk] at hk
 ·injection hv with hv
  subst hv;simp only[blk,Option.map_some,Option.toList_some,lms] at hk;subst hk;have:=h.tree.noT (ts:=[91]) (by decide) (by decide) k hm _ _ _ hg;simp at this
theorem HG.len12 (h:HG w b xs M):xs.length<=12:=by
 obtain⟨pb,pl,bt,A,c,F,ns,ds,kvs,h,rfl⟩:=h;exact h.run.len
end
theorem Len_h (b:Nat) (xs:List AX) (M:List Nat) (w:World) (h:HG w b xs M):Calls prog 19 #[.pointer (some ⟨b,0,none⟩)] w fun e w'=>e=.returned (.int .i64 (xs.length:Int))/\w=w':=by
 obtain⟨pb,pl,bt,A,c,F,ns,ds,kvs,h,rfl⟩:=h;obtain⟨x0,x1⟩:=h.box.m2;have HN:=Hd (none_any b pb w x0);clear h
 go_enter func19,ntmps19
 go_wp2_with ((go_at_call 59;(with_reducible refine HN.out.mono ?_);rintro e w1 ⟨rfl,rfl⟩))
 go_ret
 exact⟨rfl,rfl⟩
theorem Base_h (b:Nat) (xs:List AX) (M:List Nat) (w:World) (h:HG w b xs M):Calls prog 43 #[.pointer (some ⟨b,0,none⟩)] w fun e w'=>∃ p,e=.returned (.pointer (some ⟨p,0,none⟩))/\SG w p []/\w=w':=by
 obtain⟨pb,pl,bt,A,c,F,ns,ds,kvs,h,rfl⟩:=h;have x0:=h.box.k0;have HN:=Hd (none_any b pb w x0);have HB:=Hd h.base;clear h
 go_enter func43,ntmps43
 go_wp2_with ((go_at_call 59;(with_reducible refine HN.out.mono ?_);rintro e w1 ⟨rfl,rfl⟩))
 go_ret
 exact⟨pb,rfl,HB.out,rfl⟩
theorem ApplyA_g (a:AG) (sl:ByteArray) (A B:Option Addr) (c d k p:Nat) (w:World) (hS:∀ W,Fr [] w W->Calls prog 153 #[.pointer (some ⟨p,0,none⟩),.slice B a.w.length d] W (SPost W k)) :
 Calls prog 92 #[a.val sl A c B d,.pointer (some ⟨p,0,none⟩)] w (SPost w k):=by
 unfold AG.val;obtain⟨w1,hw1,hz1,n1,f1⟩:=bxz w #[.int .i64 a.k.rnd,.int .i64 a.k.phase,.int .i64 a.k.idx,.string sl,.slice A a.r.length c,.slice B a.w.length d] 91 w.heap.size;have x5:=n1.k5;have HC:=Hd (hS w1 f1);have HW1:=Hd hw1;have HF1:=Hd f1;clear hw1 n1 f1 hS hz1
 go_enter func92,ntmps92
 go_upto_region 1 with fail
 rw[HW1.out]
 go_wp2_with ((go_at_call 153;(with_reducible refine HC.out.mono ?_);rintro e w2 ⟨p2,ns,rfl,hst,hl,hf2⟩;have HF2:=Hd (HF1.out.then hf2);clear hf2))
 go_ret2
 exact⟨p2,ns,rfl,hst,hl,HF2.out⟩
end Go.Proofs.YtlpmiimgacfmkaaGreatDoor
