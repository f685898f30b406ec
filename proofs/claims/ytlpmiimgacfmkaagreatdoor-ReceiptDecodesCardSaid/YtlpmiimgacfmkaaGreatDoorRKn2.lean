/- The law's known: it returns true. -/
import Derived.Test.YtlpmiimgacfmkaaGreatDoorRVf1
import Derived.Test.YtlpmiimgacfmkaaGreatDoorRCp1
set_option linter.all false
namespace Go.Proofs.YtlpmiimgacfmkaaGreatDoor
open Go.RowKit
set_option maxRecDepth 100000
set_option maxHeartbeats 4000000
theorem HistAt.lt {w:World} {b:Nat} {l:List AV} {t:TR} {ds:List Nm} {kvs:List (Value × Value)} {M:List Nat} (h:HistAt w b l t ds kvs M):∀ k∈M,k<w.heap.size:=by
 obtain⟨pb,pl,bt,A,c,F,h,rfl⟩:=h
 intro k hk
 rcases List.mem_cons.1 hk with rfl | hk
 ·exact h.box.lt
 ·rcases List.mem_append.1 hk with hk | hk
  ·exact h.own.lt k hk
  ·exact h.tree.lt k hk
theorem put_new_dig (d:Nm) (hd:d.length=32) (X:World):∃ Y,(storeCells ⟨X.heap.size,0,none⟩ (dCells d)).run Tryz.prog (X.alloc (.cells (#[.int .u8 0,.int .u8 0,.int .u8 0,.int .u8 0,.int .u8 0,.int .u8 0,.int .u8 0,.int .u8 0,.int .u8 0,.int .u8 0,.int .u8 0,.int .u8 0,.int .u8 0,.int .u8 0,.int .u8 0,.int .u8 0,.int .u8 0,.int .u8 0,.int .u8 0,.int .u8 0,.int .u8 0,.int .u8 0,.int .u8 0,.int .u8 0,.int .u8 0,.int .u8 0,.int .u8 0,.int .u8 0,.int .u8 0,.int .u8 0,.int .u8 0,.int .u8 0]) 57))=.ok () Y∧Fr [] X Y∧Y.rowIs X.heap.size 57 32 (fun j=>.int .u8 ((d.getD j 0).toNat:Int)):=by
 obtain⟨W,hW⟩:=nmd (X.alloc (.cells (z32) 57))
 obtain⟨f,hR⟩:∃ f,W.rowIs X.heap.size 57 32 f:=by rw[←hW];exact⟨_,row_new X _ _⟩
 have hF:Fr [] X W:=by rw[←hW];exact (Fr.refl [] X).alloc _
 rw[hW]
 exact⟨_,store_digest hR hd,hF.trans ((Fr.refl [X.heap.size] W).setCells (.inl (by simp)) _ _) (by simp),(row_digest hR hd).2⟩
def KPs (c1 c2 c3 c4 L:Nat) (W:World):Prop:=Cs W c1 (chC 1 ⟨#[120]⟩ false)∧Cs W c2 (chC 1 ⟨#[120]⟩ false)∧Cs W c3 (chC 2 ⟨#[121,122]⟩ false)∧Cs W c4 (chC 3 ⟨#[]⟩ true)∧Cs W L [.int .i64 1,.int .i64 0,.int .i64 1,.string ⟨#[]⟩,.slice none 0 0,.slice (some ⟨c1,0,none⟩) 1 1,.int .i64 2,.int .i64 0,.int .i64 2,.string ⟨#[]⟩,.slice (some ⟨c2,0,none⟩) 1 1,.slice (some ⟨c3,0,none⟩) 1 1,.int .i64 3,.int .i64 0,.int .i64 3,.string ⟨#[]⟩,.slice (some ⟨c4,0,none⟩) 1 1,.slice none 0 0]
theorem Known_any (w:World) (hok:Ok w):Calls Tryz.prog 11 #[] w (RetPost w (.bool true)):=by
 have HOK:=Hd hok
 have HPI:Hid (∀ (i:Int) (W:World),Calls Tryz.prog 35 #[.int .i64 i] W (RetPost W (.agg #[.int .i64 16,.string ⟨#[]⟩,.int .i64 i,.int .i64 0,.string ⟨#[]⟩]))):=Hd fun i W=>Port_any i W
 clear hok
 go_enter Tryz.func11,Tryz.ntmps11
 go_upto_region 4 with (first
  | (go_at_call 33;(with_reducible refine (NewS_any w).mono ?_);rintro e w1 ⟨rfl,hst,hf1⟩;have H1:=Hd (And.intro hst hf1);clear hst hf1)
  | (go_at_call 32;(with_reducible refine (NewH_any w.heap.size w1 (HOK.out.fr0 H1.out.2) H1.out.1).mono ?_);rintro e w2 ⟨b,M0,rfl,hh,hf2,hM0⟩;have H2:=Hd (And.intro hh (And.intro (H1.out.2.then hf2) (show ∀ k∈M0,w.heap.size≤k from fun k hk=>Nat.le_trans H1.out.2.size (hM0 k hk))));clear hh hf2 hM0))
 go_upto_region 5 with (first
  | (go_at_call 35;(with_reducible refine (HPI.out 1 w2).mono ?_);rintro e p1 ⟨rfl,hp1⟩;have HP1:=Hd hp1;clear hp1)
  | (go_at_call 35;(with_reducible refine (HPI.out 1 (p1.alloc (.cells #[.int .i64 16,.string ⟨#[]⟩,.int .i64 1,.int .i64 0,.string ⟨#[]⟩,.string ⟨#[120]⟩,.bool false] 95))).mono ?_);rintro e p2 ⟨rfl,hp2⟩;have HP2:=Hd hp2;clear hp2)
  | (go_at_call 35;(with_reducible refine (HPI.out 2 (p2.alloc (.cells #[.int .i64 16,.string ⟨#[]⟩,.int .i64 1,.int .i64 0,.string ⟨#[]⟩,.string ⟨#[120]⟩,.bool false] 95))).mono ?_);rintro e p3 ⟨rfl,hp3⟩;have HP3:=Hd hp3;clear hp3)
  | (go_at_call 35;(with_reducible refine (HPI.out 3 (p3.alloc (.cells #[.int .i64 16,.string ⟨#[]⟩,.int .i64 2,.int .i64 0,.string ⟨#[]⟩,.string ⟨#[121,122]⟩,.bool false] 95))).mono ?_);rintro e p4 ⟨rfl,hp4⟩;have HP4:=Hd hp4;clear hp4))
 have n1:=BoxN.new p1 95 #[.int .i64 16,.string ⟨#[]⟩,.int .i64 1,.int .i64 0,.string ⟨#[]⟩,.string ⟨#[120]⟩,.bool false]
 have n2:=BoxN.new p2 95 #[.int .i64 16,.string ⟨#[]⟩,.int .i64 1,.int .i64 0,.string ⟨#[]⟩,.string ⟨#[120]⟩,.bool false]
 have n3:=BoxN.new p3 95 #[.int .i64 16,.string ⟨#[]⟩,.int .i64 2,.int .i64 0,.string ⟨#[]⟩,.string ⟨#[121,122]⟩,.bool false]
 obtain⟨q1,hq1⟩:=nmd ((p4).alloc (.cells #[.int .i64 16,.string ⟨#[]⟩,.int .i64 3,.int .i64 0,.string ⟨#[]⟩,.string ⟨#[]⟩,.bool true] 95))
 have hz1:(q1).heap.size=p4.heap.size+1:=by rw[←hq1,World.size_alloc];try omega
 have n4:BoxN q1 (p4.heap.size) 95 #[.int .i64 16,.string ⟨#[]⟩,.int .i64 3,.int .i64 0,.string ⟨#[]⟩,.string ⟨#[]⟩,.bool true]:=by have h0:=BoxN.new (p4) 95 #[.int .i64 16,.string ⟨#[]⟩,.int .i64 3,.int .i64 0,.string ⟨#[]⟩,.string ⟨#[]⟩,.bool true];rw[hq1] at h0;rw[show p4.heap.size=(p4).heap.size from by first | rfl | omega];exact h0
 have fq1:Fr [] (p4) q1:=by rw[←hq1];exact (Fr.refl [] (p4)).alloc _
 rw[hq1]
 obtain⟨q2,hq2⟩:=nmd ((q1).alloc (.cells #[.int .i64 1,.int .i64 0,.int .i64 1,.string ⟨#[]⟩,.slice none 0 0,.slice (some ⟨p1.heap.size,0,none⟩) 1 1,.int .i64 2,.int .i64 0,.int .i64 2,.string ⟨#[]⟩,.slice (some ⟨p2.heap.size,0,none⟩) 1 1,.slice (some ⟨p3.heap.size,0,none⟩) 1 1,.int .i64 3,.int .i64 0,.int .i64 3,.string ⟨#[]⟩,.slice (some ⟨p4.heap.size,0,none⟩) 1 1,.slice none 0 0] 91))
 have hz2:(q2).heap.size=q1.heap.size+1:=by rw[←hq2,World.size_alloc];try omega
 have nL:BoxN q2 (q1.heap.size) 91 #[.int .i64 1,.int .i64 0,.int .i64 1,.string ⟨#[]⟩,.slice none 0 0,.slice (some ⟨p1.heap.size,0,none⟩) 1 1,.int .i64 2,.int .i64 0,.int .i64 2,.string ⟨#[]⟩,.slice (some ⟨p2.heap.size,0,none⟩) 1 1,.slice (some ⟨p3.heap.size,0,none⟩) 1 1,.int .i64 3,.int .i64 0,.int .i64 3,.string ⟨#[]⟩,.slice (some ⟨p4.heap.size,0,none⟩) 1 1,.slice none 0 0]:=by have h0:=BoxN.new (q1) 91 #[.int .i64 1,.int .i64 0,.int .i64 1,.string ⟨#[]⟩,.slice none 0 0,.slice (some ⟨p1.heap.size,0,none⟩) 1 1,.int .i64 2,.int .i64 0,.int .i64 2,.string ⟨#[]⟩,.slice (some ⟨p2.heap.size,0,none⟩) 1 1,.slice (some ⟨p3.heap.size,0,none⟩) 1 1,.int .i64 3,.int .i64 0,.int .i64 3,.string ⟨#[]⟩,.slice (some ⟨p4.heap.size,0,none⟩) 1 1,.slice none 0 0];rw[hq2] at h0;rw[show q1.heap.size=(q1).heap.size from by first | rfl | omega];exact h0
 have fq2:Fr [] (q1) q2:=by rw[←hq2];exact (Fr.refl [] (q1)).alloc _
 rw[hq2]
 have g4:Fr [] p4 q2:=fq1.then fq2
 have g3:Fr [] p3 q2:=(((Fr.refl [] p3).alloc _).then HP4.out).then g4
 have g2:Fr [] p2 q2:=(((Fr.refl [] p2).alloc _).then HP3.out).then g3
 have g1:Fr [] p1 q2:=(((Fr.refl [] p1).alloc _).then HP2.out).then g2
 have gw:Fr [] w2 q2:=HP1.out.then g1
 have m1:BoxN q2 p1.heap.size 95 #[.int .i64 16,.string ⟨#[]⟩,.int .i64 1,.int .i64 0,.string ⟨#[]⟩,.string ⟨#[120]⟩,.bool false]:=(n1.fr HP2.out (by simp)).fr g2 (by simp)
 have m2:BoxN q2 p2.heap.size 95 #[.int .i64 16,.string ⟨#[]⟩,.int .i64 1,.int .i64 0,.string ⟨#[]⟩,.string ⟨#[120]⟩,.bool false]:=(n2.fr HP3.out (by simp)).fr g3 (by simp)
 have m3:BoxN q2 p3.heap.size 95 #[.int .i64 16,.string ⟨#[]⟩,.int .i64 2,.int .i64 0,.string ⟨#[]⟩,.string ⟨#[121,122]⟩,.bool false]:=(n3.fr HP4.out (by simp)).fr g4 (by simp)
 have m4:=n4.fr fq2 (by simp)
 have hl2:w2.heap.size≤p1.heap.size:=HP1.out.size
 have hl3:p1.heap.size<p2.heap.size:=by have h:=HP2.out.size;rw[World.size_alloc] at h;omega
 have hl4:p2.heap.size<p3.heap.size:=by have h:=HP3.out.size;rw[World.size_alloc] at h;omega
 have hl5:p3.heap.size<p4.heap.size:=by have h:=HP4.out.size;rw[World.size_alloc] at h;omega
 have hKP:KPs p1.heap.size p2.heap.size p3.heap.size p4.heap.size q1.heap.size q2:=⟨Cs.of_box m1,Cs.of_box m2,Cs.of_box m3,Cs.of_box m4,Cs.of_box nL⟩
 try rw[hz1]
 obtain⟨L,hL⟩:=nmd (q1.heap.size)
 rw[←hz1,hL]
 rw[hL] at hKP hz1
 obtain⟨c1,hc1⟩:=nmd (p1.heap.size)
 obtain⟨c2,hc2⟩:=nmd (p2.heap.size)
 obtain⟨c3,hc3⟩:=nmd (p3.heap.size)
 obtain⟨c4,hc4⟩:=nmd (p4.heap.size)
 rw[hc1,hc2,hc3,hc4] at hKP
 rw[hc1] at hl2 hl3
 rw[hc2] at hl3 hl4
 rw[hc3] at hl4 hl5
 rw[hc4] at hl5 hz1
 have hlt:=H2.out.1.lt
 have HK0:Hid (Kept M0 q2 (KPs c1 c2 c3 c4 L)):=Hd fun W hW=>⟨hKP.1.fr hW (fun hm=>by have:=hlt _ hm;omega),hKP.2.1.fr hW (fun hm=>by have:=hlt _ hm;omega),hKP.2.2.1.fr hW (fun hm=>by have:=hlt _ hm;omega),hKP.2.2.2.1.fr hW (fun hm=>by have:=hlt _ hm;omega),hKP.2.2.2.2.fr hW (fun hm=>by have:=hlt _ hm;omega)⟩
 have HQ2:=Hd (And.intro (H2.out.1.fr0' gw) (And.intro (H2.out.2.1.then gw) H2.out.2.2))
 clear n1 n2 n3 n4 nL hq1 hq2 fq1 fq2 hz1 hz2 g1 g2 g3 g4 gw m1 m2 m3 m4 hl2 hl3 hl4 hl5 hKP hL hc1 hc2 hc3 hc4 hlt H1 H2 HP1 HP2 HP3 HP4
 go_upto_region 6 with fail
 refine wp_loop_rounds 4 ?_
 rw[rounds_succ]
 have hcs:=(HK0.out.now).2.2.2.2
 obtain⟨z0,z1,z2,z3,z4,z5⟩:=hcs.m6
 clear hcs
 have HA:=Hd (KApp0 b c1 1 M0 q2 HQ2.out.1 (HOK.out.fr0 HQ2.out.2.1) (fun k hk=>Nat.le_trans HOK.out.low (HQ2.out.2.2 k hk)) (HK0.out.imp fun W h=>h.1))
 go_wp2_with (go_at_call 34;(with_reducible refine HA.out.mono ?_);rintro e x1 ⟨rfl,M1,y0,n,hy0,hh,hf,hM⟩;have HX1:=Hd (And.intro hy0 (And.intro hh (And.intro hf hM)));clear hy0 hh hf hM)
 clear z0 z1 z2 z3 z4 z5
 have HK1:=Hd (HK0.out.step HX1.out.2.2.1 HX1.out.2.2.2)
 have HF1:Hid (Fr [] w x1∧∀ k∈M1,w.heap.size≤k):=Hd ⟨HQ2.out.2.1.trans HX1.out.2.2.1 (fun k hk=>.inr (HQ2.out.2.2 k hk)),fun k hk=>(HX1.out.2.2.2 k hk).elim (HQ2.out.2.2 k) (fun h=>Nat.le_trans HQ2.out.2.1.size h)⟩
 rw[rounds_succ]
 have hcs:=(HK1.out.now).2.2.2.2
 have z0:=hcs.k6
 have z1:=hcs.k7
 have z2:=hcs.k8
 have z3:=hcs.k9
 have z4:=hcs.k10
 have z5:=hcs.k11
 clear hcs
 have HA2:=Hd (KApp1 b c2 1 c3 1 n M1 y0 x1 HX1.out.1 HX1.out.2.1 (HOK.out.fr0 HF1.out.1) (fun k hk=>Nat.le_trans HOK.out.low (HF1.out.2 k hk)) (HK1.out.imp fun W h=>⟨h.2.1,h.2.2.1⟩))
 go_wp2_with (go_at_call 34;(with_reducible refine HA2.out.mono ?_);rintro e x2 ⟨rfl,M2,y1,t2,hy1,hh,hf,hM⟩;have HX2:=Hd (And.intro hy1 (And.intro hh (And.intro hf hM)));clear hy1 hh hf hM)
 clear z0 z1 z2 z3 z4 z5
 have HK2:=Hd (HK1.out.step HX2.out.2.2.1 HX2.out.2.2.2)
 have HF2:Hid (Fr [] w x2∧∀ k∈M2,w.heap.size≤k):=Hd ⟨HF1.out.1.trans HX2.out.2.2.1 (fun k hk=>.inr (HF1.out.2 k hk)),fun k hk=>(HX2.out.2.2.2 k hk).elim (HF1.out.2 k) (fun h=>Nat.le_trans HF1.out.1.size h)⟩
 rw[rounds_succ]
 have hcs:=(HK2.out.now).2.2.2.2
 have z0:(x2).cell? ⟨L,12,none⟩=some (.int .i64 3):=hcs.2 12 _ rfl
 have z1:(x2).cell? ⟨L,13,none⟩=some (.int .i64 0):=hcs.2 13 _ rfl
 have z2:(x2).cell? ⟨L,14,none⟩=some (.int .i64 3):=hcs.2 14 _ rfl
 have z3:(x2).cell? ⟨L,15,none⟩=some (.string ⟨#[]⟩):=hcs.2 15 _ rfl
 have z4:(x2).cell? ⟨L,16,none⟩=some (.slice (some ⟨c4,0,none⟩) 1 1):=hcs.2 16 _ rfl
 have z5:(x2).cell? ⟨L,17,none⟩=some (.slice none 0 0):=hcs.2 17 _ rfl
 clear hcs
 have HA3:=Hd (KApp2 b c4 1 M2 t2 y0 y1 x2 HX2.out.1 HX2.out.2.1 (HOK.out.fr0 HF2.out.1) (fun k hk=>Nat.le_trans HOK.out.low (HF2.out.2 k hk)) (HK2.out.imp fun W h=>h.2.2.2.1))
 go_wp2_with (go_at_call 34;(with_reducible refine HA3.out.mono ?_);rintro e x3 ⟨rfl,M3,y2,hy2,hh,hf,hM⟩;have HX3:=Hd (And.intro hy2 (And.intro hh (And.intro hf hM)));clear hy2 hh hf hM)
 clear z0 z1 z2 z3 z4 z5
 have HF3:Hid (Fr [] w x3):=Hd (HF2.out.1.trans HX3.out.2.2.1 (fun k hk=>.inr (HF2.out.2 k hk)))
 rw[rounds_succ]
 go_upto_region 10 with fail
 have HR:=RootH_any b [y0,y1,y2] t2 [leaf0,lf0,lf1,lf2] kvK M3 rootK x3 HX3.out.2.1 rfl rfl partR
 obtain⟨rt,hrt⟩:=nmd (rootK)
 have hr32:rt.length=32:=by rw[←hrt];exact shaN_len _
 rw[hrt] at HR
 have hcr:(dCells rt).length=32:=by rw[dcells_len,hr32]
 have HRt:=Hd hrt
 have HRo:=Hd HR
 clear HR hrt
 go_upto_region 11 with (go_at_call 21;(with_reducible refine HRo.out.mono ?_);rintro e x4 ⟨rfl,hf4⟩;obtain⟨x5,hst,hf5,hrow⟩:=put_new_dig rt hr32 x4;unfold encD;have H5:=Hd (And.intro (HF3.out.then (hf4.then hf5)) (And.intro (hf4.then hf5) hrow));clear hf4 hf5 hrow)
 clear hst
 have HMK:Hid (∀ X,Fr [] x5 X→Calls Tryz.prog 13 #[.pointer (some ⟨b,0,none⟩),.agg #[.int .i64 16,.string ⟨#[]⟩,.int .i64 2,.int .i64 0,.string ⟨#[]⟩,.int .i64 1],.int .i64 3] X fun e w'=>∃ g pc A0 c0 A1 c1,e=.returned (.tuple #[.agg #[.int .i64 16,.string ⟨#[]⟩,.int .i64 2,.int .i64 0,.string ⟨#[]⟩,.int .i64 1,.int .i64 3,.slice (some ⟨g,0,none⟩) 2 pc],.int .i64 0])∧Cs w' g [.int .i64 0,.int .i64 3,encN (encA a0),.slice A0 2 c0,.int .i64 1,.int .i64 3,encN (encA a1),.slice A1 2 c1]∧Own w' 57 32 A0 2 c0 ([leaf0,nd23].flatMap dCells)∧Own w' 57 32 A1 2 c1 ([lf2,nd01].flatMap dCells)∧Fr [] X w'):=Hd fun X hX =>
  Make_any b y0 y1 y2 t2 [leaf0,lf0,lf1,lf2] kvK M3 [leaf0,nd23] [lf2,nd01] X (HX3.out.2.1.fr0' (H5.out.2.1.then hX)) (HOK.out.fr0 (H5.out.1.then hX)) HX1.out.1 HX2.out.1 HX3.out.1 rfl rfl KInc0 KInc1
 go_upto_region 12 with (first
  | (go_at_call 35;(with_reducible refine (HPI.out 2 x5).mono ?_);rintro e x6 ⟨rfl,hp6⟩;have H6:=Hd hp6;clear hp6)
  | (go_at_call 13;(with_reducible refine (HMK.out x6 H6.out).mono ?_);rintro e x7 ⟨g,pc,A0,c0,A1,c1,rfl,hg,hA0,hA1,hf7⟩;have H7:=Hd (And.intro (H6.out.then hf7) (And.intro hg (And.intro hA0 hA1)));clear hg hA0 hA1 hf7))
 obtain⟨x8,hx8⟩:=nmd ((x7).alloc (.cells #[.int .i64 16,.string ⟨#[]⟩,.int .i64 2,.int .i64 0,.string ⟨#[]⟩,.int .i64 1,.int .i64 3,.slice (some ⟨g,0,none⟩) 2 pc] 39))
 have hz8:(x8).heap.size=x7.heap.size+1:=by rw[←hx8,World.size_alloc];try omega
 have n8:BoxN x8 (x7.heap.size) 39 #[.int .i64 16,.string ⟨#[]⟩,.int .i64 2,.int .i64 0,.string ⟨#[]⟩,.int .i64 1,.int .i64 3,.slice (some ⟨g,0,none⟩) 2 pc]:=by have h0:=BoxN.new (x7) 39 #[.int .i64 16,.string ⟨#[]⟩,.int .i64 2,.int .i64 0,.string ⟨#[]⟩,.int .i64 1,.int .i64 3,.slice (some ⟨g,0,none⟩) 2 pc];rw[hx8] at h0;rw[show x7.heap.size=(x7).heap.size from by first | rfl | omega];exact h0
 have f8:Fr [] (x7) x8:=by rw[←hx8];exact (Fr.refl [] (x7)).alloc _
 rw[hx8]
 obtain⟨s0,hs0⟩:∃ s,encN (encA a0)=.string s:=⟨_,rfl⟩
 obtain⟨s1,hs1⟩:∃ s,encN (encA a1)=.string s:=⟨_,rfl⟩
 have h58:Fr [] x5 x8:=H7.out.1.then f8
 have hw8:Fr [] w x8:=H5.out.1.then h58
 have hg8:=H7.out.2.1.fr0 f8
 rw[hs0,hs1] at hg8
 have hr0:nodeN (nodeN leaf0 (leafN (1::encA a0))) nd23=rt:=by rw[←HRt.out];rfl
 have hr1:nodeN nd01 (nodeN (leafN (1::encA a1)) lf2)=rt:=by rw[←HRt.out];rfl
 have hVf:=VerifyR_any rt hr32 g pc c0 c1 A0 A1 s0 s1 x8 (HOK.out.fr0 hw8) hg8
  (fun W hW=>by
   have h:=VerifyH_0 a0 leaf0 nd23 A0 c0 W (HOK.out.fr0 (hw8.then hW)) a0_good dec_a0 (encA_len _ (by simp)) (shaN_len _) (shaN_len _) ((H7.out.2.2.1.fr f8 (by simp)).fr hW (by simp))
   rw[hr0,hs0] at h
   exact h.mono fun e w' h=>Ver0.of h)
  (fun W hW=>by
   have h:=VerifyH_1 a1 lf2 nd01 A1 c1 W (HOK.out.fr0 (hw8.then hW)) a1_good dec_a1 (encA_len _ (by simp)) (shaN_len _) (shaN_len _) ((H7.out.2.2.2.fr f8 (by simp)).fr hW (by simp))
   rw[hr1,hs1] at h
   exact h.mono fun e w' h=>Ver1.of h)
 unfold encD rcpt at hVf
 have HVF:=Hd hVf
 have HRT:=Hd (row_range (rowIs_fr H5.out.2.2 h58 (by simp)) hr32)
 have H8:=Hd (And.intro n8 hw8)
 obtain⟨r0,r1,r2,r3,r4,r5,r6,r7⟩:=n8.m8
 obtain⟨DB,hDB⟩:=nmd (x4.heap.size)
 rw[hDB] at HRT ⊢
 clear hVf hg8 h58 hw8 n8 f8 hx8 hz8 hr0 hr1 hs0 hs1 hDB
 go_upto_region 13 with (first
  | (refine wpList_wanted (by rfl) ?_;(with_reducible refine wp_load_mid 57 (.tmp 5) rfl DB 0 rfl (dCells rt) (.array 32 5) HRT.out (by kernel_rfl) rfl (by rw[hcr];kernel_rfl) ?_))
  | (go_at_call 22;(with_reducible refine HVF.out.mono ?_);rintro e x9 ⟨I,ic,KK,kc,lb,lc,rfl,hlb,hf9⟩;have H9:=Hd (And.intro hlb hf9);clear hlb hf9))
 obtain⟨y9,hy9⟩:=nmd ((x9).alloc (.cells #[.int .u8 122,.int .i64 1,.slice I 2 ic,.slice KK 2 kc,.slice (some ⟨lb,0,none⟩) 1 lc,.slice none 0 0] 64))
 have hz9:(y9).heap.size=x9.heap.size+1:=by rw[←hy9,World.size_alloc];try omega
 have n9:BoxN y9 (x9.heap.size) 64 #[.int .u8 122,.int .i64 1,.slice I 2 ic,.slice KK 2 kc,.slice (some ⟨lb,0,none⟩) 1 lc,.slice none 0 0]:=by have h0:=BoxN.new (x9) 64 #[.int .u8 122,.int .i64 1,.slice I 2 ic,.slice KK 2 kc,.slice (some ⟨lb,0,none⟩) 1 lc,.slice none 0 0];rw[hy9] at h0;rw[show x9.heap.size=(x9).heap.size from by first | rfl | omega];exact h0
 have f9:Fr [] (x9) y9:=by rw[←hy9];exact (Fr.refl [] (x9)).alloc _
 rw[hy9]
 have HN9:=Hd (And.intro n9 (And.intro (H9.out.1.fr0 f9) (And.intro (H8.out.1.fr (H9.out.2.then f9) (by simp)) (H8.out.2.then (H9.out.2.then f9)))))
 clear n9 hy9 f9 hz9 r0 r1 r2 r3 r4 r5 r6 r7
 have HSS:=Hd (fun (W:World) (hW:Fr [] y9 W)=>(⟨(HN9.out.1.fr hW (by simp)).c 0,(HN9.out.1.fr hW (by simp)).c 1,(HN9.out.1.fr hW (by simp)).c 4,(HN9.out.1.fr hW (by simp)).c 5,(HN9.out.2.2.1.fr hW (by simp)).c 7⟩:W.cell? ⟨x9.heap.size,0,none⟩=some (.int .u8 122)∧W.cell? ⟨x9.heap.size,1,none⟩=some (.int .i64 1)∧W.cell? ⟨x9.heap.size,4,none⟩=some (.slice (some ⟨lb,0,none⟩) 1 lc)∧W.cell? ⟨x9.heap.size,5,none⟩=some (.slice none 0 0)∧W.cell? ⟨x7.heap.size,7,none⟩=some (.slice (some ⟨g,0,none⟩) 2 pc)))
 have hC:Fr [] y9 y9.drew:=(Fr.refl _ y9).drew
 refine wp_region_head (fun W=>Fr [] y9 W) 40 (by kernel_rfl) ?_ (by decide)
 show headJ 0 _ _ _ _ _ _ _ _ _ _ _
 iterate 29
  refine hdJ (v:=?_) rfl (Or.inl ⟨by rfl,?_⟩) ?_
  rotate_left
  ·intro W hW;obtain⟨v0,v1,v4,v5,r7⟩:=HSS.out W hW;go_simp;try with_reducible rfl
  try simp only[Act.put,qA,qB,qC,qD,qE,qF]
 refine headI_only (i:=29) (by kernel_rfl) (by decide) rfl (fun K hK=>?_)
 rw[if_pos (by rfl)]
 go_simp
 go_at_call 35
 (with_reducible refine (HPI.out 1 _).mono ?_)
 rintro e u1 ⟨rfl,hu1⟩
 have hC1:=hC.then hu1
 refine hK _ _ hC1 ?_
 clear hK K hC hu1
 try simp only[Act.put,qA,qB,qC,qD,qE,qF]
 have hC:=hC1
 show headJ 30 _ _ _ _ _ _ _ _ _ _ _
 refine hdJ (v:=?_) rfl (Or.inl ⟨by rfl,?_⟩) ?_
 rotate_left
 ·intro W hW;obtain⟨v0,v1,v4,v5,r7⟩:=HSS.out W hW;go_simp;try with_reducible rfl
 try simp only[Act.put,qA,qB,qC,qD,qE,qF]
 refine headI_only (i:=31) (by kernel_rfl) (by decide) rfl (fun K hK=>?_)
 rw[if_pos (by rfl)]
 go_simp
 obtain⟨u2,hu2⟩:=nmd (u1.alloc (.cells #[.int .i64 0,.int .i64 1,.int .i64 16,.string ⟨#[]⟩,.int .i64 1,.int .i64 0,.string ⟨#[]⟩] 98))
 have nu2:BoxN u2 u1.heap.size 98 #[.int .i64 0,.int .i64 1,.int .i64 16,.string ⟨#[]⟩,.int .i64 1,.int .i64 0,.string ⟨#[]⟩]:=by rw[←hu2];exact BoxN.new u1 _ _
 have fu2:Fr [] y9 u2:=by rw[←hu2];exact hC.alloc _
 rw[hu2]
 refine hK _ _ fu2 ?_
 clear hK K hC hC1 hu2
 try simp only[Act.put,qA,qB,qC,qD,qE,qF]
 refine headI_only (i:=32) (by kernel_rfl) (by decide) rfl (fun K hK=>?_)
 rw[if_pos (by rfl)]
 go_simp
 go_at_call 36
 (with_reducible refine (EqualL_any lb u1.heap.size lc 1 u2 (HN9.out.2.1.fr0 fu2) (Cs.of_box nu2)).mono ?_)
 rintro e u3 ⟨rfl,hu3⟩
 have hC:=fu2.then hu3
 refine hK _ _ hC ?_
 clear hK K hu3 fu2 nu2
 try simp only[Act.put,qA,qB,qC,qD,qE,qF]
 show headJ 33 _ _ _ _ _ _ _ _ _ _ _
 iterate 7
  refine hdJ (v:=?_) rfl (Or.inl ⟨by rfl,?_⟩) ?_
  rotate_left
  ·intro W hW;obtain⟨v0,v1,v4,v5,r7⟩:=HSS.out W hW;go_simp;try with_reducible rfl
  try simp only[Act.put,qA,qB,qC,qD,qE,qF]
 refine headI_done ⟨by kernel_rfl,?_⟩
 simp only[List.drop_succ_cons,List.drop_zero]
 go_wp2_with fail
 go_ret
 exact⟨rfl,HN9.out.2.2.2.then hC⟩
end Go.Proofs.YtlpmiimgacfmkaaGreatDoor
