/- state: New, Len, With. -/
import Derived.Test.YtlpmiimgacfmkaaGreatDoorRSt7
set_option linter.all false
namespace Go.Proofs.YtlpmiimgacfmkaaGreatDoor
open Go.RowKit
set_option maxRecDepth 100000
set_option maxHeartbeats 4000000
def StAt (w:World) (b:Nat) (t:TR):Prop:=BoxN w b 184 #[t.ptr]∧TRat w t
theorem StAt.fr0 {w w':World} {b:Nat} {t:TR} (h:StAt w b t) (hf:Fr [] w w'):StAt w' b t:=⟨h.1.fr hf (by simp),h.2.fr0 hf⟩
def two (b3:Nat) (i:Int) (v:ByteArray) (b2:Nat) (j:Int) (v2:ByteArray):TR :=
 .node b3 .nil i v (1+mx TR.nil.h (sing b2 j v2).h) (1+TR.nil.s+(sing b2 j v2).s) ((v.size:Int)+TR.nil.y+(sing b2 j v2).y) (sing b2 j v2)
theorem NewS_any (w:World):Calls Tryz.prog 33 #[] w fun e w'=>e=.returned (.pointer (some ⟨w.heap.size,0,none⟩))∧StAt w' w.heap.size .nil∧Fr [] w w':=by
 go_enter Tryz.func33,Tryz.ntmps33
 go_wp2_with fail
 go_ret
 exact⟨rfl,⟨BoxN.new w _ _,trivial⟩,(Fr.refl [] w).alloc _⟩
theorem LenS_any (b:Nat) (t:TR) (w:World) (h:StAt w b t):Calls Tryz.prog 38 #[.pointer (some ⟨b,0,none⟩)] w fun e w'=>e=.returned (.int .i64 t.s)∧w'=w:=by
 have x0:=h.1.k0
 have hS:=sizeOf_any t w h.2
 unfold TR.ptr at hS x0
 have HS:=Hd hS
 clear hS h
 go_enter Tryz.func38,Tryz.ntmps38
 go_wp2_with ((go_at_call 95;(with_reducible refine HS.out.mono ?_);rintro e w' ⟨rfl,rfl⟩))
 go_ret
 exact⟨rfl,rfl⟩
def RP (Q:TR→Prop) (w:World) (e:Ending) (w':World):Prop:=∃ r:TR,e=.returned (.pointer r.adr)∧TRat w' r∧Fr [] w w'∧Q r
def WithPost (Q:TR→Prop) (w:World) (e:Ending) (w':World):Prop:=∃ b r,e=.returned (.tuple #[.pointer (some ⟨b,0,none⟩),.int .i64 0])∧w.heap.size≤b∧StAt w' b r∧Fr [] w w'∧Q r
theorem WithS_any (Q:TR→Prop) (b:Nat) (t:TR) (i:Int) (v:ByteArray) (w:World) (hok:Ok w) (h:StAt w b t) (hg:Good i v false) (hs:t.s≤1000)
 (hw:∀ W m,Fr [] w W→BoxN W m 191 (nodeC (.pointer none) (.pointer none) i v 0 0 0)→Calls Tryz.prog 236 #[t.ptr,.pointer (some ⟨m,0,none⟩)] W (RP Q W)) :
 Calls Tryz.prog 189 #[.pointer (some ⟨b,0,none⟩),portV i,.string v] w (WithPost Q w):=by
 obtain⟨ta,hta⟩:=nmd (t.adr)
 obtain⟨ts,hts⟩:=nmd (t.s)
 have hle:=hg.le
 have hle2:¬ 65536<(v.size:Int):=by omega
 obtain⟨w1,hw1,hn1,hf1⟩:=bxn w #[.int .i64 16,.string ⟨#[]⟩,.int .i64 i,.int .i64 0,.string ⟨#[]⟩] 31
 have hC:=Check_any (portN i) w1 (hok.fr0 hf1) (by simp[portN]) (by simp[portN])
 rw[hg.ck,encO_port] at hC
 unfold portV at hC ⊢
 have hL:=fun (W:World) (hW:Fr [] w1 W)=>LenS_any b t W (h.fr0 (hf1.then hW))
 unfold TR.ptr at hw
 unfold nodeC at hw
 rw[hta] at hw
 simp only[hts] at hL
 rw[hts] at hs
 have hsd:decide (65536≤ts)=false:=by simp;omega
 obtain⟨x0,x1,x2,x3,x4⟩:=hn1.m5
 have hss:∀ W,Fr [] w1 W→W.cell? ⟨w.heap.size,0,none⟩=some (.int .i64 16)∧W.cell? ⟨w.heap.size,1,none⟩=some (.string ⟨#[]⟩)∧W.cell? ⟨w.heap.size,2,none⟩=some (.int .i64 i)∧W.cell? ⟨w.heap.size,3,none⟩=some (.int .i64 0)∧W.cell? ⟨w.heap.size,4,none⟩=some (.string ⟨#[]⟩)∧W.cell? ⟨b,0,none⟩=some (.pointer ta):=fun W hW=>by
  have h1:=hn1.fr hW (by simp)
  have h2:=(h.fr0 (hf1.then hW)).1.c 0
  unfold TR.ptr at h2
  rw[hta] at h2
  exact⟨h1.c 0,h1.c 1,h1.c 2,h1.c 3,h1.c 4,h2⟩
 have HC:=Hd hC
 have HF1:=Hd hf1
 have HW1:=Hd hw1
 have HSS:=Hd hss
 have HL:=Hd hL
 have HWI:=Hd hw
 clear hC hf1 hw1 hss hL hw hn1 hta hts hok hle hg h
 go_enter Tryz.func189,Tryz.ntmps189
 go_upto_region 3 with fail
 rw[HW1.out]
 go_upto_region 7 with ((go_at_call 53;(with_reducible refine HC.out.mono ?_);rintro e w2 ⟨rfl,hf2⟩))
 clear x0 x1 x2 x3 x4
 refine wp_region_qall (fun W=>Fr [] w1 W) (by kernel_rfl) (by kernel_rfl) (hf2.drew) ?_
 repeat (
  first
  | go_big_quiet_skip
  | (go_big_quiet_want
     first
     | (go_big_quiet_op
        go_big_quiet_on)
     | (apply Exists.intro
        refine⟨fun W hW=>?_,?_⟩
        ·(obtain⟨z0,z1,z2,z3,z4,z5⟩:=HSS.out W hW
          go_simp
          first
          | done
          | (with_reducible exact rfl)
          | (with_reducible exact⟨rfl,rfl⟩)
          | ((go_at_call 38;(with_reducible refine (HL.out W hW).mono ?_);rintro e w' ⟨rfl,rfl⟩;exact⟨rfl,hW⟩)))
        simp only[Act.put,qA,qB,qC]
        go_big_quiet_on))
  )
 refine wpQuiet_nil ?_
 intro W3 hW3
 go_upto_region 9 with fail
 have HS3:=Hd (fun (W:World) (hW:Fr [] W3 W)=>HSS.out W (hW3.then hW))
 obtain⟨N0,hN0⟩:=nmd (w.heap.size)
 rw[hN0] at HS3 ⊢
 clear HSS HL HC HW1
 go_region_held3 (fun W=>W.cell? ⟨N0,0,none⟩=some (.int .i64 16)∧W.cell? ⟨N0,1,none⟩=some (.string ⟨#[]⟩)∧W.cell? ⟨N0,2,none⟩=some (.int .i64 i)∧W.cell? ⟨N0,3,none⟩=some (.int .i64 0)∧W.cell? ⟨N0,4,none⟩=some (.string ⟨#[]⟩)∧W.cell? ⟨b,0,none⟩=some (.pointer ta)) (with_reducible refine HS3.out _ ?_;(repeat (first | exact Fr.refl _ _ | with_reducible assumption | refine Fr.drew ?_ | refine Fr.alloc ?_ _));done) (first
  | (go_at_call 236;(with_reducible refine (HWI.out _ _ (((HF1.out.then hW3).alloc _).drew) (BoxN.new W3 _ _).drew).mono ?_);rintro e w5 ⟨r,rfl,hr5,hf5,hq5⟩;have hk5:=(Fr.alloc (Fr.refl [] W3) _).then hf5.undrew;have H5:=Hd (And.intro hr5 hq5);clear hr5 hf5 hq5))
 have hfx:=hk5.alloc (.cells #[.pointer r.adr] 184)
 have hbx:=BoxN.new w5 184 #[.pointer r.adr]
 have hfa:Fr [] w (w5.alloc (.cells #[.pointer r.adr] 184)):=(HF1.out.then hW3).then hfx
 have hsz:w.heap.size≤w5.heap.size:=((HF1.out.then hW3).then hk5).size
 have HX:=Hd (And.intro hfa (And.intro hbx (H5.out.1.fr0 ((Fr.refl [] w5).alloc (.cells #[.pointer r.adr] 184)))))
 clear hfx hbx hfa
 go_wp2_with fail
 go_ret2
 exact⟨_,r,rfl,hsz,⟨HX.out.2.1,HX.out.2.2⟩,HX.out.1,H5.out.2⟩
theorem With_nil (b:Nat) (i:Int) (v:ByteArray) (w:World) (hok:Ok w) (h:StAt w b .nil) (hg:Good i v false) :
 Calls Tryz.prog 189 #[.pointer (some ⟨b,0,none⟩),portV i,.string v] w (WithPost (fun r=>∃ n,w.heap.size≤n∧r=sing n i v) w) :=
 WithS_any _ b .nil i v w hok h hg (by decide) fun W m hW hm=>(with_nil m i v W hm hg.le).mono fun e w' ⟨n,h1,h2,h3,h4⟩=>⟨sing n i v,h1,h3,h4,n,Nat.le_trans hW.size h2,rfl⟩
theorem With_one (b n:Nat) (i j:Int) (v v2:ByteArray) (w:World) (hok:Ok w) (h:StAt w b (sing n i v)) (hv:v.size≤65536) (hg:Good j v2 false) (hc:cmpO (portN j) (portN i)=1) :
 Calls Tryz.prog 189 #[.pointer (some ⟨b,0,none⟩),portV j,.string v2] w (WithPost (fun r=>∃ b3 b2,w.heap.size≤b3∧w.heap.size≤b2∧r=two b3 i v b2 j v2) w) :=
 WithS_any _ b (sing n i v) j v2 w hok h hg (by show (1:Int)+0+0≤1000;decide) fun W m hW hm=>(with_right n m i j v v2 W (h.2.fr0 hW) hm hv hg.le hc).mono fun e w' ⟨b2,hb2,b3,h1,h2,h3,h4⟩=>⟨two b3 i v b2 j v2,h1,h3,h4,b3,b2,Nat.le_trans hW.size h2,Nat.le_trans hW.size hb2,rfl⟩
theorem ApplyS_nil (b:Nat) (A:Option Addr) (c:Nat) (w:World):Calls Tryz.prog 153 #[.pointer (some ⟨b,0,none⟩),.slice A 0 c] w fun e w'=>e=.returned (.tuple #[.pointer (some ⟨b,0,none⟩),.int .i64 0])∧w'=w:=by
 go_enter Tryz.func153,Tryz.ntmps153
 go_wp2_with fail
 refine wp_loop_rounds 1 ?_
 rw[rounds_succ]
 go_wp2_with fail
 go_ret2
 exact⟨rfl,rfl⟩
theorem ApplyS_one (Q:TR→Prop) (b cb c:Nat) (i:Int) (v:ByteArray) (w:World) (h:Cs w cb (chC i v false))
 (hw:∀ W,Fr [] w W→Calls Tryz.prog 189 #[.pointer (some ⟨b,0,none⟩),portV i,.string v] W (WithPost Q W)) :
 Calls Tryz.prog 153 #[.pointer (some ⟨b,0,none⟩),.slice (some ⟨cb,0,none⟩) 1 c] w (WithPost Q w):=by
 obtain⟨y0,y1,y2,y3,y4,y5,y6⟩:=h.m7
 obtain⟨w1,hw1,hb1,hf1⟩:=bxn w #[.int .i64 16,.string ⟨#[]⟩,.int .i64 i,.int .i64 0,.string ⟨#[]⟩,.string v,.bool false] 95
 have hT:=hw w1 hf1
 unfold portV at hT
 obtain⟨x0,x1,x2,x3,x4,x5,x6⟩:=hb1.m7
 have HW1:=Hd hw1
 have HF1:=Hd hf1
 have HT:=Hd hT
 clear h hw hw1 hb1 hf1 hT
 go_enter Tryz.func153,Tryz.ntmps153
 go_wp2_with fail
 refine wp_loop_rounds 2 ?_
 rw[rounds_succ]
 go_upto_region 6 with fail
 rw[HW1.out]
 go_wp2_with ((go_at_call 189;(with_reducible refine HT.out.mono ?_);rintro e w2 ⟨b2,r,rfl,h2⟩;have H2:=Hd h2;clear h2))
 rw[rounds_succ]
 go_wp2_with fail
 go_ret2
 exact⟨b2,r,rfl,by have:=HF1.out.size;have:=H2.out.1;omega,H2.out.2.1,HF1.out.then H2.out.2.2.1,H2.out.2.2.2⟩
set_option maxHeartbeats 1000000
theorem find_nil (i:Int) (w:World):Calls Tryz.prog 97 #[.pointer none,portV i] w (RetPost w (.pointer none)):=by
 unfold portV
 go_enter Tryz.func97,Tryz.ntmps97
 go_wp2_with fail
 refine wp_loop_rounds 1 ?_
 rw[rounds_succ]
 go_wp2_with fail
 go_ret
 exact⟨rfl,(Fr.refl [] w).alloc _⟩
theorem Get_nil (b:Nat) (i:Int) (w:World) (h:StAt w b .nil):Calls Tryz.prog 40 #[.pointer (some ⟨b,0,none⟩),portV i] w (RetPost w (.tuple #[.string ⟨#[]⟩,.bool false])):=by
 obtain⟨w1,hw1,hn1,hf1⟩:=bxn w #[.int .i64 16,.string ⟨#[]⟩,.int .i64 i,.int .i64 0,.string ⟨#[]⟩] 31
 have hss:∀ W,Fr [] w1 W→W.cell? ⟨w.heap.size,0,none⟩=some (.int .i64 16)∧W.cell? ⟨w.heap.size,1,none⟩=some (.string ⟨#[]⟩)∧W.cell? ⟨w.heap.size,2,none⟩=some (.int .i64 i)∧W.cell? ⟨w.heap.size,3,none⟩=some (.int .i64 0)∧W.cell? ⟨w.heap.size,4,none⟩=some (.string ⟨#[]⟩)∧W.cell? ⟨b,0,none⟩=some (.pointer none):=fun W hW=>by
  have h1:=hn1.fr hW (by simp)
  have h2:=(h.fr0 (hf1.then hW)).1.c 0
  exact⟨h1.c 0,h1.c 1,h1.c 2,h1.c 3,h1.c 4,h2⟩
 have hF:=fun W=>find_nil i W
 unfold portV at hF ⊢
 have HFN:=Hd hF
 have HSS:=Hd hss
 have HF1:=Hd hf1
 have HW1:=Hd hw1
 clear hF hss hf1 hw1 hn1 h
 go_enter Tryz.func40,Tryz.ntmps40
 go_upto_region 1 with fail
 rw[HW1.out]
 go_upto_region 3 with fail
 refine wp_region_qall (fun W=>Fr [] w1 W) (by kernel_rfl) (by kernel_rfl) ((Fr.refl [] w1).drew) ?_
 repeat (
  first
  | go_big_quiet_skip
  | (go_big_quiet_want
     first
     | (go_big_quiet_op
        go_big_quiet_on)
     | (apply Exists.intro
        refine⟨fun W hW=>?_,?_⟩
        ·(obtain⟨z0,z1,z2,z3,z4,z5⟩:=HSS.out W hW
          go_simp
          first
          | done
          | (with_reducible exact rfl)
          | (with_reducible exact⟨rfl,rfl⟩)
          | ((go_at_call 97;(with_reducible refine (HFN.out W).mono ?_);rintro e w' ⟨rfl,h⟩;exact⟨rfl,hW.then h⟩)))
        simp only[Act.put,qA,qB,qC]
        go_big_quiet_on))
  )
 refine wpQuiet_nil ?_
 intro W3 hW3
 go_wp2_with fail
 go_ret2
 exact⟨rfl,HF1.out.then hW3⟩
theorem each_nil_in (n:Nat) (f:Value) (w:World):CallsIn Fence.wide n Tryz.prog 156 #[.pointer none,f] w fun e w'=>e=.returned (.bool true)∧w'=w:=by
 refine callsIn_wide.2 ?_
 go_enter Tryz.func156,Tryz.ntmps156
 go_wp2_with fail
 go_ret
 exact⟨rfl,rfl⟩
theorem nodes_any (n b:Nat) (w:World):CallsIn Fence.wide n Tryz.prog 96 #[.pointer (some ⟨b,0,none⟩)] w fun e w'=>e=.returned (.func (.func 155) #[] #[.pointer (some ⟨w.heap.size,0,none⟩)])∧w'=w.alloc (.cells #[.pointer (some ⟨b,0,none⟩)] 86):=by
 refine callsIn_wide.2 ?_
 go_enter Tryz.func96,Tryz.ntmps96
 go_wp2_with fail
 go_ret
 exact⟨rfl,rfl⟩
open Go.RowKit Go.Shelf
theorem putObj_fr (W:World) {r B:Nat} (o:Obj) (hr:B≤r) {w:World} (hf:Fr [] w W) (hB:w.heap.size≤B):Fr [] w (W.putObj r o) :=
 hf.trans (T:=[r]) ⟨rfl,rfl,rfl,by simp[World.putObj],fun k _ hk=>World.putObj_heap_other (by simpa using hk)⟩ (by simp;omega)
theorem wp_rangeFunc_none {P:Program} {g:Operand} {ps:Array Tmp} {assign body:Code} {Q:Exit→Act→World→Prop} {a:Act} {w:World} {gf:Nat} {lb:Array Value} (hg:a.eval g=.func (.func gf) #[] lb) (eg:∀ args w,(callFunc gf args).run P w=.ok (.enter gf args) w)
 (hc:∀ W l,Fr [] w W→Calls P gf (#[.func (.yield l) #[] #[]]++lb) W fun e W'=>(∃ v,e=.returned v)∧W'=W)
 (hdone:∀ (D:Nat) (W:World),w.heap.size≤D→Fr [] w W→W.heap[D]?=some (.deferred (some []))→Q .normal { a with defers:={ target:=.collected D,args:=#[] }::a.defers } W) :
 (Code.rangeFunc g ps assign body).wp P Q a w:=by
 refine (wpIn_wide (n:=1)).1 (wpIn_rangeFunc fun fn hfn=>?_)
 obtain⟨rec,hrec⟩:∃ rec:LoopState→Option Code→Loop,rec=fun st pe=>{ state:=st,pending:=pe,fn,tmps:=a.tmps,params:=ps,assign,body,defers:=w.heap.size }:=⟨_,rfl⟩
 obtain⟨W1,hW1⟩:=nmd ((w.alloc (.deferred (some []))).alloc (.loop (rec .ready none)))
 have hL1:W1.heap[w.heap.size+1]?=some (.loop (rec .ready none)):=by
  rw[←hW1]
  have:=World.alloc_heap_new (w.alloc (.deferred (some []))) (.loop (rec .ready none))
  rwa [World.size_alloc] at this
 have hK1:W1.heap[w.heap.size]?=some (.deferred (some [])):=by
  rw[←hW1]
  exact (Below.heap_alloc _ _ _ (by simp)).trans (World.alloc_heap_new w _)
 have hf1:Fr [] w W1:=by rw[←hW1];exact ((Fr.refl [] w).alloc _).alloc _
 refine⟨w.heap.size+1,[{ target:=.collected w.heap.size,args:=#[] }],W1,{ target:=.fn (.func gf) lb,args:=#[.func (.yield (w.heap.size+1)) #[] #[]] },W1,gf,#[.func (.yield (w.heap.size+1)) #[] #[]]++lb,W1,?_,?_,fun _ _=>trivial,?_,fun _=>Nat.le_refl 1,?_⟩
 ·rw[←hW1,hrec];exact run_enterLoop_outer _ _ _ _ _
 ·simp only[resolve,hg]
  simp[go_sem]
 ·simp[invoke,go_sem,eg]
 ·refine (callsIn_wide.2 (hc W1 (w.heap.size+1) hf1)).mono ?_
  rintro e W2 ⟨⟨v,rfl⟩,rfl⟩
  refine⟨none,_,by have:=run_endLoop (P:=P) hL1 (by rw[hrec];simp);rw[hrec] at this;exact this,?_⟩
  exact hdone w.heap.size _ (Nat.le_refl _) (putObj_fr _ _ (Nat.le_succ _) hf1 (Nat.le_refl _)) ((World.putObj_heap_other (by omega)).trans hK1)
def BytesPost (w:World) (bs:Nm) (e:Ending) (w':World):Prop:=∃ A c,e=.returned (.slice A bs.length c)∧Own w' 5 1 A bs.length c (dCells bs)∧Fr [] w w'
theorem EncodeS_nil (b:Nat) (w:World) (h:StAt w b .nil):Calls Tryz.prog 148 #[.pointer (some ⟨b,0,none⟩)] w (BytesPost w (encU 0)):=by
 refine (callsIn_wide (n:=5)).1 ?_
 refine callsIn_of_wp_marks Tryz.func148 rfl trivial ?_ rfl
 simp only[Tryz.ntmps148,List.size_toArray,List.length_cons,List.length_nil,Nat.reduceAdd,Nat.reduceSub,Array.replicate_succ,Array.replicate_zero,List.push_toArray,List.append_toArray,List.nil_append,List.cons_append]
 refine wpIn_wide.2 ?_
 have hlt:=h.1.lt
 go_upto_region 4 with ((go_at_call 54;(with_reducible refine (NewWriter_any _).mono ?_);rintro e w3 ⟨rfl,hwr3,hf3⟩))
 have hws3:=WrS.new hwr3
 obtain⟨w4,hw4⟩:=nmd (w3.alloc (.cells #[.pointer (some ⟨w.heap.size,0,none⟩)] 125))
 have hbx:BoxN w4 w3.heap.size 125 #[.pointer (some ⟨w.heap.size,0,none⟩)]:=by rw[←hw4];exact BoxN.new w3 _ _
 have hws4:WrS w3 w.heap.size [] w4:=by rw[←hw4];exact hws3.alloc _
 have hf34:Fr [] w3 w4:=by rw[←hw4];exact (Fr.refl [] w3).alloc _
 rw[hw4]
 have hbe:w.heap.size≠w3.heap.size:=by have:=hws3.blt;omega
 generalize hZ:w3.heap.size=Z at hbx hbe ⊢
 have hN:=fun (W:World) (hW:Fr [] w4 W)=>Number_wk (hws4.more hW hws4.blt) 0 (by omega) (by simp)
 have hL:∀ W,Fr [] w4 W→Calls Tryz.prog 38 #[.pointer (some ⟨b,0,none⟩)] W fun e w'=>e=.returned (.int .i64 0)∧w'=W:=fun W hW=>LenS_any b .nil W (h.fr0 (hf3.then (hf34.then hW)))
 have hss:∀ W,Fr [] w4 W→W.cell? ⟨Z,0,none⟩=some (.pointer (some ⟨w.heap.size,0,none⟩)):=fun W hW=>(hbx.fr hW (by simp)).c 0
 have HSS:=Hd (fun W hW=>And.intro (hss W hW) trivial)
 have HN:=Hd hN
 have HL:=Hd hL
 have HF3:=Hd (hf3.then hf34)
 have HH:=Hd h
 have HBX:=Hd hbx
 have HA:=Hd hf3
 clear hN hL hss hws4 hws3 hbx hf34 hw4 hwr3 h hf3
 refine wp_region_qtail (fun W=>Fr [] w4 W) 3 (by kernel_rfl) (by kernel_rfl) ((Fr.refl [] w4).drew) ?_
 simp only[List.take_succ_cons,List.take_zero,List.drop_succ_cons,List.drop_zero]
 repeat (
  first
  | go_big_quiet_skip
  | (go_big_quiet_want
     first
     | (go_big_quiet_op
        go_big_quiet_on)
     | (apply Exists.intro
        refine⟨fun W hW=>?_,?_⟩
        ·(obtain⟨z0,_⟩:=HSS.out W hW
          go_simp
          first
          | done
          | (with_reducible exact rfl)
          | (with_reducible exact⟨rfl,rfl⟩)
          | ((go_at_call 38;(with_reducible refine (HL.out W hW).mono ?_);rintro e w' ⟨rfl,rfl⟩;exact⟨rfl,hW⟩)))
        simp only[Act.put,qA,qB,qC]
        go_big_quiet_on))
  )
 refine wpQuiet_nil ?_
 intro W5 hW5
 have hn5:=HN.out W5 hW5
 rw[show (((0:Nat)):Int)=0 from rfl] at hn5
 have HW5:=Hd hn5
 clear hn5
 have HB5:=Hd (HBX.out.fr hW5 (by simp))
 have HND:=Hd (fun W=>callsIn_wide.1 (nodes_any 0 b W))
 go_wp2_with (first
  | (go_at_call 57;(with_reducible refine HW5.out.mono ?_);rintro e w6 ⟨rfl,hws6,hk6⟩;have HB6:=Hd (hk6 _ _ _ (by decide) hbe.symm HB5.out);have HW6:=Hd hws6;clear hk6 hws6)
  | (go_at_call 96;(with_reducible refine (HND.out _).mono ?_);rintro e w7 ⟨rfl,rfl⟩))
 obtain⟨w7,hw7⟩:=nmd (w6.alloc (.cells #[.pointer (some ⟨b,0,none⟩)] 86))
 rw[hw7]
 have hf67:Fr [] w6 w7:=by rw[←hw7];exact (Fr.refl [] w6).alloc _
 have hd7:BoxN w7 w6.heap.size 86 #[.pointer (some ⟨b,0,none⟩)]:=by rw[←hw7];exact BoxN.new w6 _ _
 have hf7:Fr [] w w7:=(HA.out.trans HW6.out.fr (by simp)).then hf67
 have hs7:=HH.out.fr0 hf7
 have hws7:=HW6.out.more hf67 HW6.out.blt
 have hb7:=HB6.out.fr hf67 (by simp)
 clear hw7 HB5 HW5 HN HL HSS HF3 HBX hW5
 refine wp_rangeFunc_none rfl (enters_of Tryz.func155 (by kernel_rfl) rfl) (lb:=#[.pointer (some ⟨w6.heap.size,0,none⟩)]) ?_ ?_
 ·intro W l hW
  have x0:W.cell? ⟨w6.heap.size,0,none⟩=some (.pointer (some ⟨b,0,none⟩)):=(hd7.fr hW (by simp)).c 0
  have x1:W.cell? ⟨b,0,none⟩=some (.pointer none):=(hs7.fr0 hW).1.c 0
  have HE:=Hd (fun f=>callsIn_wide.1 (each_nil_in 0 f W))
  clear hd7 hs7
  go_enter Tryz.func155,Tryz.ntmps155
  go_wp2_with ((go_at_call 156;(with_reducible refine (HE.out _).mono ?_);rintro e w' ⟨rfl,rfl⟩))
  go_end0
  exact⟨⟨_,rfl⟩,rfl⟩
 ·intro D W hD hW hK
  have hb8:=hb7.fr hW (by simp)
  have x0:=hb8.k0
  have hws8:=hws7.more hW hws7.blt
  have HB:=Hd (Bytes_ws hws8 (by have:=encU_len9 (u:=0) (by omega);simp only[List.nil_append];omega))
  have HFR:=Hd (hf7.then hW)
  have HK:=Hd hK
  have hsz7:=hf7.size
  clear hb8 hb7 hws8 hws7 hs7 hd7 hf7 hf67 hK
  go_wp2_with ((go_at_call 58;(with_reducible refine HB.out.mono ?_);rintro e w9 ⟨A',c',rfl,ho9,hf9,hb9⟩;have HP:=Hd (And.intro ho9 (And.intro hf9 hb9));clear ho9 hf9 hb9))
  obtain⟨ho9,hf9,hb9⟩:=HP.out
  have hDl:D<W.heap.size:=(Array.getElem?_eq_some_iff.1 HK.out).1
  have hK9:w9.heap[D]?=some (.deferred (some [])):=(hf9.block D hDl (by simp)).trans HK.out
  have hf10:Fr [D] w9 (w9.putObj D (.deferred none)):=⟨rfl,rfl,rfl,by simp[World.putObj],fun k _ hk=>World.putObj_heap_other (by simpa using hk)⟩
  refine⟨by simp,.inl ⟨_,_,rfl,run_takeDeferred hK9,?_⟩⟩
  refine⟨.slice A' (encU 0).length c',?_,A',c',rfl,?_,?_⟩
  ·simp[results,Tryz.f148,go_sem]
  ·have h:=ho9.fr hf10 (by intro k hk;have:=hb9 k hk;simp only[List.mem_singleton];omega)
   simpa only[List.nil_append] using h
  ·have hd:w.heap.size≤D:=by omega
   exact (HFR.out.then hf9).trans (hf10) (by simp;omega)
def stD0:Nm:=shaN (encU 0)
theorem DigestS_nil (b:Nat) (w:World) (hok:Ok w) (h:StAt w b .nil):Calls Tryz.prog 88 #[.pointer (some ⟨b,0,none⟩)] w (SumPost w stD0):=by
 obtain⟨w1,hw1⟩:=nmd (w.alloc (.cells (z32) 56))
 have hf1:Fr [] w w1:=by rw[←hw1];exact (Fr.refl [] w).alloc _
 obtain⟨fR,hR⟩:∃ f,w1.rowIs w.heap.size 56 32 f:=by rw[←hw1];exact⟨_,row_new w _ _⟩
 have HE:=Hd (EncodeS_nil b w1 (h.fr0 hf1))
 have HSM:=Hd (fun (W:World) (hW:Fr [] w1 W)=>SumS_any (encU 0) W (hok.fr0 (hf1.then hW)) (by have:=encU_len9 (u:=0) (by omega);omega))
 have hd32:stD0.length=32:=shaN_len _
 have hds:shaN (encU 0)=stD0:=rfl
 rw[hds] at HSM
 generalize stD0=d at HSM hd32 ⊢
 have hcl:(dCells d).length=32:=by rw[dcells_len,hd32]
 generalize encU 0=eb at HE HSM
 have HW1:=Hd hw1
 have HF1:=Hd hf1
 have HR:=Hd hR
 clear hw1 hf1 hR hds
 go_enter Tryz.func88,Tryz.ntmps88
 go_upto_region 1 with fail
 rw[HW1.out]
 go_wp2_with (first
  | (go_at_call 148;(with_reducible refine HE.out.mono ?_);rintro e w2 ⟨A,c,rfl,ho2,hf2⟩;have hcv:=run_row_str ho2.row 49 5 Tryz.underlying49 Tryz.underlying5 9 Tryz.underlying9 c;have HF2:=Hd hf2;clear ho2 hf2)
  | (go_at_call 29;(with_reducible refine (HSM.out _ HF2.out).mono ?_);rintro e w3 ⟨rfl,hf3⟩;unfold encD;have hR3:=rowIs_fr (rowIs_fr HR.out HF2.out (by simp)) hf3 (by simp);have HF3:=Hd (HF2.out.then hf3);clear hf3;have hst:=store_digest (d:=d) hR3 hd32;have hrd:=row_digest (d:=d) hR3 hd32;obtain⟨w4,hw4⟩:∃ X,w3.setCells w.heap.size 0 (dCells d)=X:=⟨_,rfl⟩;have hf4:Fr [] w w4:=(by rw[←hw4];exact ((HF1.out.then HF3.out).setCells (.inr (Nat.le_refl _)) _ _));rw[hw4] at hst hrd;have HRD:=Hd hrd.1;have HF4:=Hd hf4;clear hw4 hrd hf4 hR3))
 exact bodyPost_ret (v:=encD d) (results_cell_mid (d:=.array 32 5) (p:=2) (ty:=56) (b:=w.heap.size) (o:=0) rfl rfl HRD.out (by kernel_rfl) rfl (by rw[hcl];rfl)) rfl ⟨rfl,HF4.out⟩
end Go.Proofs.YtlpmiimgacfmkaaGreatDoor
