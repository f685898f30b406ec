/- step: readChanges. -/
import Derived.Test.YtlpmiimgacfmkaaGreatDoorRSt5
import Derived.Test.YtlpmiimgacfmkaaGreatDoorROb4
import Derived.Test.YtlpmiimgacfmkaaGreatDoorRSa1
import Derived.Test.YtlpmiimgacfmkaaGreatDoorROb2
set_option linter.all false
namespace Go.Proofs.YtlpmiimgacfmkaaGreatDoor
open Go.RowKit
set_option maxRecDepth 100000
set_option maxHeartbeats 4000000
theorem info_chg:∃ i,(Tryz.prog).info? 95=some i∧i.zero=some (.agg #[.int .i64 0,.string ⟨#[]⟩,.int .i64 0,.int .i64 0,.string ⟨#[]⟩,.string ⟨#[]⟩,.bool false])∧i.size=7∧i.bytes=80:=info_parts (by kernel_rfl)
inductive RdCL:RS→CL→RS→Prop
 | nil {r r1:RS} (h:rdNum r.l.length r=(0,r1)):RdCL r .nil r1
 | one {r r1 r2 r3 r4:RS} {tn:Nm} {i:Int} {v:ByteArray} {a:Bool} (h1:rdNum r.l.length r=(1,r1)) (h2:rdText 16777216 r1=(tn,r2)) (h3:decO tn=(portN i,0)) (h4:rdFlag r2=(a,r3)) (h5:rdText 65536 r3=(v.data.toList,r4)):RdCL r (.one i v a) r4
def RdCLPost (w:World) (c0 c1 b:Nat) (l:CL) (r':RS) (e:Ending) (w':World):Prop :=
 ∃ A c,e=.returned (.tuple #[l.sl A c,.bool true])∧RdS c0 c1 b r' w'∧Fr [b] w w'∧CLat w' A l∧∀ k∈blk A,w.heap.size≤k
theorem ReadChanges_rs (c0 c1 b:Nat) (r r':RS) (l:CL) (w:World) (hok:Ok w) (h:RdS c0 c1 b r w) (hc:c1≤w.heap.size) (h6:6≤b) (hr:RdCL r l r'):Calls Tryz.prog 177 #[.pointer (some ⟨b,0,none⟩)] w (RdCLPost w c0 c1 b l r'):=by
 have hR:=Rest_rs h
 cases hr with
 | nil hn =>
  have hN:=Number_rs h r.l.length
  rw[hn] at hN
  have HR:=Hd hR
  have HN:=Hd hN
  clear hR hN h
  go_enter Tryz.func177,Tryz.ntmps177
  go_wp2_with (first
   | (go_at_call 216;(with_reducible refine HR.out.mono ?_);rintro e w2 ⟨rfl,rfl⟩)
   | (go_at_call 50;(with_reducible refine HN.out.mono ?_);rintro e w3 ⟨rfl,hrd,hf3⟩))
  refine wp_loop_rounds 1 ?_
  rw[rounds_succ]
  go_wp2_with fail
  go_ret2
  exact⟨none,0,rfl,hrd,hf3,trivial,by simp[blk]⟩
 | @one r1 r2 r3 _ tn i v a h1 h2 h3 h4 h5 =>
  have hN:=Number_rs h r.l.length
  rw[h1] at hN
  have HR:=Hd hR
  have HN:=Hd hN
  have HH:=Hd (And.intro h2 (And.intro h3 (And.intro h4 h5)))
  have HOK:=Hd (fun (W:World) (hW:Fr [b] w W)=>hok.fr1 hW h6)
  clear hR hN h h2 h3 h4 h5 hok
  go_enter Tryz.func177,Tryz.ntmps177
  go_wp2_with (first
   | (go_at_call 216;(with_reducible refine HR.out.mono ?_);rintro e w2 ⟨rfl,rfl⟩)
   | (go_at_call 50;(with_reducible refine HN.out.mono ?_);rintro e w3 ⟨rfl,hrd,hf3⟩))
  refine wp_loop_rounds 2 ?_
  rw[rounds_succ]
  have hT:=Text_rs hrd 16777216
  rw[HH.out.1,show (((16777216:Nat)):Int)=16777216 from rfl] at hT
  obtain⟨ts,hts,hts2,htz⟩:=str_of tn
  simp only at hT
  rw[hts] at hT
  have htl:tn.length≤16777216:=by have:=rdText_len 16777216 r1;rw[HH.out.1] at this;exact this
  have HT:=Hd hT
  have HF3:=Hd hf3
  have HTS:=Hd hts2
  clear hT hrd hf3 hts hts2 HN HR
  go_upto_region 5 with (first
   | (go_at_call 49;(with_reducible refine HT.out.mono ?_);rintro e w4 ⟨rfl,hrd4,hf4⟩;have HD:=Hd (DecodeO_any ts w4 (HOK.out w4 (HF3.out.then hf4)) (by omega)))
   | (go_at_call 48;have hD:=HD.out;rw[HTS.out,HH.out.2.1] at hD;(with_reducible refine hD.mono ?_);clear hD;rintro e w5 ⟨rfl,hf5⟩;simp only[encO_port];unfold portV))
  have hbz:b<w5.heap.size:=by
   obtain⟨_,_,_,q,_⟩:=hrd4
   have e1:=HF3.out.size
   have e2:=hf4.size
   have e3:=hf5.size
   omega
  obtain⟨w6,hw6,hz6,hf56⟩:=bxn w5 #[.int .i64 16,.string ⟨#[]⟩,.int .i64 i,.int .i64 0,.string ⟨#[]⟩] 31
  have hf6:Fr [b] w w6:=(HF3.out.then hf4).trans (hf5.then hf56) (by simp)
  have hrd6:=(hrd4.fr0 hf5).fr0 hf56
  have hzb:w5.heap.size≠b:=by omega
  rw[hw6]
  generalize w5.heap.size=Z at hz6 hzb ⊢
  have hF:=Flag_rs hrd6
  rw[HH.out.2.2.1] at hF
  have HF:=Hd hF
  have HF6:=Hd hf6
  have HZ6:=Hd hz6
  clear hrd4 hf4 hf5 hw6 hz6 hf56 hf6 hrd6 hF HT HD hbz HF3
  go_upto_region 8 with ((go_at_call 217;(with_reducible refine HF.out.mono ?_);rintro e w7 ⟨rfl,hrd7,hf7⟩))
  have hT:=fun W (hW:Fr [] w7 W)=>Text_rs (hrd7.fr0 hW) 65536
  rw[HH.out.2.2.2,show (((65536:Nat)):Int)=65536 from rfl] at hT
  have hve:encN v.data.toList=.string v:=rfl
  simp only[hve] at hT
  have HT:=Hd hT
  have hz7:=HZ6.out.fr hf7 (by simpa using hzb)
  have HF7:=Hd (HF6.out.then hf7)
  have hss:∀ W,Fr [b] w7 W→W.cell? ⟨Z,0,none⟩=some (.int .i64 16)∧W.cell? ⟨Z,1,none⟩=some (.string ⟨#[]⟩)∧W.cell? ⟨Z,2,none⟩=some (.int .i64 i)∧W.cell? ⟨Z,3,none⟩=some (.int .i64 0)∧W.cell? ⟨Z,4,none⟩=some (.string ⟨#[]⟩):=fun W hf=>by
   have h:=hz7.fr hf (by simpa using hzb)
   exact⟨h.c 0,h.c 1,h.c 2,h.c 3,h.c 4⟩
  have HSS:=Hd hss
  clear hT hve hz7 hss hrd7 hf7 HF HF6 HZ6
  obtain⟨ii,hii,iz0,iz1,iz2⟩:=info_chg
  go_region_held3 (fun W=>W.cell? ⟨Z,0,none⟩=some (.int .i64 16)∧W.cell? ⟨Z,1,none⟩=some (.string ⟨#[]⟩)∧W.cell? ⟨Z,2,none⟩=some (.int .i64 i)∧W.cell? ⟨Z,3,none⟩=some (.int .i64 0)∧W.cell? ⟨Z,4,none⟩=some (.string ⟨#[]⟩)) (with_reducible refine HSS.out _ ?_;(repeat (first | exact Fr.refl _ _ | exact hf8.undrew | exact HF9.out | refine Fr.drew ?_ | refine Fr.alloc ?_ _ | refine Fr.then ?_ hf8.undrew));done) (first
   | (go_at_call 49;(with_reducible refine (HT.out _ (Fr.refl [] w7).drew).mono ?_);rintro e w8 ⟨rfl,hrd8,hf8⟩)
   | (rw[if_pos (by rfl)];(with_reducible refine wp_app_tmp (w:=w8) (.tmp 24) (.tmp 30) 62 rfl 95 ii _ 7 80 Tryz.underlying62 hii iz0 iz1 iz2 rfl (by decide) none 0 0 [] rfl (Own.nil _ _ _) 1 1 [.int .i64 16,.string ⟨#[]⟩,.int .i64 i,.int .i64 0,.string ⟨#[]⟩,.string v,.bool a] 95 rfl rfl (by simp[Value.oneCell']) (by unfold maxLen;omega) (by omega) ?_);intro A2 c2 w9 ho9 hf9 hs9;have HO9:=Hd ho9;have HF9:=Hd (hf8.undrew.trans hf9 (by simp[blk]));have HS9:=Hd hs9;have HR9:=Hd (hrd8.fr0 (hf9.mono (by simp[blk])));clear ho9 hf9 hs9))
  go_wp2_with fail
  rw[rounds_succ]
  go_wp2_with fail
  go_ret2
  have hfa:=HF7.out.then HF9.out
  obtain⟨g,hg,hcs⟩:=Cs.of_own HO9.out (by omega)
  refine⟨A2,c2,rfl,HR9.out,hfa,⟨g,hg,hcs⟩,fun k hk=>?_⟩
  rcases HS9.out k hk with h | h
  ·simp[blk] at h
  ·have:=(HF7.out.then hf8.undrew).size;omega
def DecOk (s:Nm) (a:AC):Prop:=∃ r1 r2 r3,rdKey ⟨s,0,0⟩=(a.k,r1)∧RdCL r1 a.r r2∧RdCL r2 a.w r3∧rdClose r3=0
def DecAPost (w:World) (a:AC) (e:Ending) (w':World):Prop :=
 ∃ A c B d,e=.returned (.tuple #[a.val A c B d,.int .i64 0])∧Fr [] w w'∧CLat w' A a.r∧CLat w' B a.w∧(∀ k∈blk A,w.heap.size≤k)∧∀ k∈blk B,w.heap.size≤k
theorem run_index2p (w:World) (x y v:Value) (i:Nat) (hi:i<2) (hv:(#[x,y]:Array Value)[i]?=some v):(Instr.index 300 (.agg #[x,y]) (.int .i64 (i:Int))).run Tryz.prog w=.ok v w :=
 run_index_agg w 300 299 2 #[x,y] .i64 i v Tryz.underlying300 (fun w=>by simp[go_sem]) (fun w=>by simp[go_sem]) hi hv
def actZ:Array Value:=#[.int .i64 0,.int .i64 0,.int .i64 0,.string ⟨#[]⟩,.slice none 0 0,.slice none 0 0]
theorem DecodeA_any (s:ByteArray) (a:AC) (w:World) (hok:Ok w) (hs:s.size≤70368744177664) (hd:DecOk s.data.toList a) (hg:a.good):Calls Tryz.prog 134 #[.string s] w (DecAPost w a):=by
 obtain⟨r1,r2,r3,hk,hl1,hl2,hcl⟩:=hd
 obtain⟨w1,hw1,hz1,hf1⟩:=bxn w (actZ) 91
 obtain⟨cap,w2,hcv,hf2,hr2⟩:=str_row s w1
 have hsz1:w.heap.size<w2.heap.size:=by have:=hz1.lt;have:=hf2.size;omega
 have hNR:=NewReader_rs _ s.size cap _ _ w2 hr2 (by rintro a h;injection h with h;rw[←h]) hs
 have HZ:=Hd (hz1.fr hf2 (by simp))
 have HF:=Hd (hf1.then hf2)
 have HN:=Hd hNR
 have HW1:=Hd hw1
 have HL:=Hd (And.intro hk (And.intro hl1 (And.intro hl2 hcl)))
 have hek:encK a.k=.agg #[.int .i64 a.t,.int .i64 0,.int .i64 a.t,.string ⟨#[]⟩]:=rfl
 have HEK:=Hd hek
 clear hw1 hz1 hf1 hf2 hr2 hNR hk hl1 hl2 hcl hek
 unfold actZ at HW1
 go_enter Tryz.func134,Tryz.ntmps134
 go_upto_region 1 with fail
 rw[HW1.out]
 go_upto_region 2 with ((go_at_call 47;(with_reducible refine HN.out.mono ?_);rintro e w3 ⟨b,rfl,hrd,hf3⟩))
 obtain⟨c0,hc0⟩:=nmd (w2.heap.size)
 obtain⟨c1,hc1⟩:=nmd (w3.heap.size)
 rw[hc0,hc1] at hrd
 rw[hc0] at hsz1
 have hbb:c0≤b∧b<c1:=by obtain⟨A,_,h1,h2,_⟩:=hrd;exact⟨h1,h2⟩
 have HZ3:=Hd (HZ.out.fr hf3 (by simp))
 have HF3:=Hd (HF.out.then hf3)
 have hlow:=hok.low
 have hK:=readKey_rs c0 c1 b _ w3 hrd (by omega)
 rw[HL.out.1,HEK.out] at hK
 have HK:=Hd hK
 clear hK hrd HN HW1 HZ HF hf3 hcv
 go_upto_region 3 with ((go_at_call 176;(with_reducible refine HK.out.mono ?_);rintro e w4 ⟨rfl,hrd4,hf4⟩))
 obtain⟨w5,hw5,hb5,hf45⟩:=bxn w4 #[.int .i64 a.t,.int .i64 0,.int .i64 a.t,.string ⟨#[]⟩,.slice none 0 0,.slice none 0 0] 91
 have hs4:=hf4.size
 have hc3:c1≤w5.heap.size:=by have:=hf45.size;omega
 have hF5:Fr [b] w w5:=(HF3.out.trans hf4 (by simp;omega)).then (hf45.mono (by simp)) |>.mono (by simp)
 have hDb:w4.heap.size≠b:=by omega
 have hDc:c1≤w4.heap.size:=by omega
 have hDl:=hb5.lt
 have hRZ:w.heap.size≠w4.heap.size:=by omega
 have hZ5:=(HZ3.out.fr hf4 (by simp;omega)).fr hf45 (by simp)
 rw[hw5]
 generalize w4.heap.size=D at hb5 hDb hDc hDl hRZ ⊢
 have HF5:=Hd hF5
 have HRD:=Hd (hrd4.fr0 hf45)
 have HBD:=Hd hb5
 have HZ5:=Hd hZ5
 clear hw5 hb5 hf45 hF5 hZ5 hrd4 hf4 HK HF3 HZ3
 go_wp2_with fail
 refine wp_loop_rounds 3 ?_
 rw[rounds_succ]
 have hix:(Instr.index 300 (.agg #[.pointer (some ⟨D,4,none⟩),.pointer (some ⟨D,5,none⟩)]) (.int .i64 0)).run Tryz.prog w5=.ok (.pointer (some ⟨D,4,none⟩)) w5:=run_index2p w5 _ _ _ 0 (by omega) rfl
 go_upto_region 7 with fail
 clear hix
 have hltw5:=HBD.out.lt
 have hT:=ReadChanges_rs c0 c1 b r1 r2 a.r w5 (hok.fr (S:=[b]) HF5.out (by simp;omega)) HRD.out (by omega) (by omega) HL.out.2.1
 have HT:=Hd hT
 clear hT
 go_upto_region 8 with ((go_at_call 177;(with_reducible refine HT.out.mono ?_);rintro e x6 ⟨A,c,rfl,hrd6,hf6,hcl6,hbl6⟩;unfold CL.sl;obtain⟨n,hn⟩:∃ n,(a.r).len=n:=⟨_,rfl⟩;rw[hn];have HNA:=Hd hn;clear hn;have hb6:=HBD.out.fr hf6 (by simpa using hDb);have d4:(x6).cell? ⟨D,4,none⟩=some _:=hb6.c 4;have df:=hb6.f 4;have HB6:=Hd hb6;clear hb6))
 obtain⟨x7,hw7⟩:=nmd ((x6).setCell ⟨D,4,none⟩ (.slice A n c))
 have hf67:Fr [D] x6 x7:=by rw[←hw7];exact (Fr.refl [D] x6).set (.inl (by simp)) _
 have hb7:BoxN x7 D 91 #[.int .i64 a.t,.int .i64 0,.int .i64 a.t,.string ⟨#[]⟩,.slice A n c,.slice none 0 0]:=by rw[←hw7];exact HB6.out.setAt 4 _
 rw[hw7]
 have hD6:∀ k∈blk A,k ∉ [D]:=by
  intro k hk
  have:=hbl6 k hk
  simp only[List.mem_singleton]
  omega
 have HBA:=Hd (And.intro (hcl6.fr hf67 hD6) (And.intro hbl6 hltw5))
 have HRD7:=Hd (hrd6.fr hf67 (by simp;omega))
 have HF7:=Hd ((HF5.out.then hf6).trans hf67 (by simp;omega))
 have HBD7:=Hd hb7
 have HZ7:=Hd ((HZ5.out.fr hf6 (by simp;omega)).fr hf67 (by simp;omega))
 have HSx7:=Hd (And.intro hf6 hf67)
 clear hw7 hb7 hf67 hD6 hf6 hcl6 hbl6 hrd6 d4 df HB6 HT hltw5 HF5 HRD HBD HZ5
 go_wp2_with fail
 rw[rounds_succ]
 have hix:(Instr.index 300 (.agg #[.pointer (some ⟨D,4,none⟩),.pointer (some ⟨D,5,none⟩)]) (.int .i64 1)).run Tryz.prog x7=.ok (.pointer (some ⟨D,5,none⟩)) x7:=run_index2p x7 _ _ _ 1 (by omega) rfl
 go_upto_region 7 with fail
 clear hix
 have hltx7:=HBD7.out.lt
 have hT:=ReadChanges_rs c0 c1 b r2 r3 a.w x7 (hok.fr (S:=[b]) HF7.out (by simp;omega)) HRD7.out (by omega) (by omega) HL.out.2.2.1
 have HT:=Hd hT
 clear hT
 go_upto_region 8 with ((go_at_call 177;(with_reducible refine HT.out.mono ?_);rintro e x8 ⟨B,d,rfl,hrd6,hf6,hcl6,hbl6⟩;unfold CL.sl;obtain⟨m,hm⟩:∃ n,(a.w).len=n:=⟨_,rfl⟩;rw[hm];have HNB:=Hd hm;clear hm;have hb6:=HBD7.out.fr hf6 (by simpa using hDb);have d4:(x8).cell? ⟨D,5,none⟩=some _:=hb6.c 5;have df:=hb6.f 5;have HB6:=Hd hb6;clear hb6))
 obtain⟨x9,hw7⟩:=nmd ((x8).setCell ⟨D,5,none⟩ (.slice B m d))
 have hf67:Fr [D] x8 x9:=by rw[←hw7];exact (Fr.refl [D] x8).set (.inl (by simp)) _
 have hb7:BoxN x9 D 91 #[.int .i64 a.t,.int .i64 0,.int .i64 a.t,.string ⟨#[]⟩,.slice A n c,.slice B m d]:=by rw[←hw7];exact HB6.out.setAt 5 _
 rw[hw7]
 have hD6:∀ k∈blk B,k ∉ [D]:=by
  intro k hk
  have:=hbl6 k hk
  simp only[List.mem_singleton]
  omega
 have HBB:=Hd (And.intro (hcl6.fr hf67 hD6) (And.intro hbl6 hltx7))
 have HRD9:=Hd (hrd6.fr hf67 (by simp;omega))
 have HF9:=Hd ((HF7.out.then hf6).trans hf67 (by simp;omega))
 have HBD9:=Hd hb7
 have HZ9:=Hd ((HZ7.out.fr hf6 (by simp;omega)).fr hf67 (by simp;omega))
 have HSx9:=Hd (And.intro hf6 hf67)
 clear hw7 hb7 hf67 hD6 hf6 hcl6 hbl6 hrd6 d4 df HB6 HT hltx7 HF7 HRD7 HBD7 HZ7
 have hA9:CLat x9 A a.r:=(HBA.out.1.fr HSx9.out.1 (by intro k hk;have:=HBA.out.2.1 k hk;have:=HBA.out.2.2;simp only[List.mem_singleton];omega)).fr HSx9.out.2 (by intro k hk;have:=HBA.out.2.1 k hk;have:=HBA.out.2.2;simp only[List.mem_singleton];omega)
 have hkA:∀ k∈blk A,w.heap.size≤k∧k≠b:=by intro k hk;have:=HBA.out.2.1 k hk;have:=HBA.out.2.2;omega
 have hkB:∀ k∈blk B,w.heap.size≤k∧k≠b:=by intro k hk;have:=HBB.out.2.1 k hk;have:=HBB.out.2.2;omega
 have hB9:=HBB.out.1
 have hok9:Ok x9:=hok.fr (S:=[b]) HF9.out (by simp;omega)
 have hW:=WellFormed_any a A B c d x9 hok9 hA9 hB9 hg
 unfold AC.val CL.sl actC at hW
 rw[HNA.out,HNB.out] at hW
 have hC:=Close_rs HRD9.out
 rw[HL.out.2.2.2] at hC
 obtain⟨y0,y1,y2,y3,y4,y5⟩:=HBD9.out.m6
 have HC:=Hd hC
 have HW:=Hd hW
 have HA9:=Hd hA9
 have HB9:=Hd hB9
 clear hC hW hA9 hB9 hok9
 go_wp2_with fail
 rw[rounds_succ]
 go_upto_region 13 with (first
  | (go_at_call 52;(with_reducible refine HC.out.mono ?_);rintro e w10 ⟨rfl,rfl⟩)
  | (go_at_call 120;(with_reducible refine HW.out.mono ?_);rintro e w11 ⟨rfl,hf11⟩))
 have hz11:=HZ9.out.fr hf11 (by simp)
 have hb11:=HBD9.out.fr hf11 (by simp)
 clear y0 y1 y2 y3 y4 y5
 obtain⟨y0,y1,y2,y3,y4,y5⟩:=hb11.m6
 unfold actZ at hz11
 obtain⟨z0,z1,z2,z3,z4,z5⟩:=hz11.m6
 have g0:=hz11.f 0
 have g1:=hz11.f 1
 have g2:=hz11.f 2
 have g3:=hz11.f 3
 have g4:=hz11.f 4
 have g5:=hz11.f 5
 have HZ11:=Hd hz11
 have HF11:=Hd hf11
 clear hz11 hb11 hf11 HC HW
 go_wp2_with fail
 obtain⟨w12,hw12⟩:=nmd (((((((w11.setCell ⟨w.heap.size,0,none⟩ (.int .i64 a.t)).setCell ⟨w.heap.size,1,none⟩ (.int .i64 0)).setCell ⟨w.heap.size,2,none⟩ (.int .i64 a.t)).setCell ⟨w.heap.size,3,none⟩ (.string ⟨#[]⟩)).setCell ⟨w.heap.size,4,none⟩ (.slice A n c)).setCell ⟨w.heap.size,5,none⟩ (.slice B m d)))
 have h12:BoxN w12 w.heap.size 91 #[.int .i64 a.t,.int .i64 0,.int .i64 a.t,.string ⟨#[]⟩,.slice A n c,.slice B m d]:=by rw[←hw12];exact ((((((HZ11.out.setAt 0 _).setAt 1 _).setAt 2 _).setAt 3 _).setAt 4 _).setAt 5 _)
 have f12:Fr [w.heap.size] w11 w12:=by rw[←hw12];exact ((((((Fr.refl [w.heap.size] w11).set (.inl (by simp)) _).set (.inl (by simp)) _).set (.inl (by simp)) _).set (.inl (by simp)) _).set (.inl (by simp)) _).set (.inl (by simp)) _
 have hcA:CLat w12 A a.r:=(HA9.out.fr0 HF11.out).fr f12 (by intro k hk;have:=HBA.out.2.1 k hk;have:=HBA.out.2.2;simp only[List.mem_singleton];omega)
 have hcB:CLat w12 B a.w:=(HB9.out.fr0 HF11.out).fr f12 (by intro k hk;have:=HBB.out.2.1 k hk;have:=HBB.out.2.2;simp only[List.mem_singleton];omega)
 have hfin:Fr [] w w12:=((HF9.out.trans HF11.out (by simp)).trans f12 (by simp)).mono (by simp;omega)
 obtain⟨t0,t1,t2,t3,t4,t5⟩:=h12.m6
 have HFIN:=Hd (And.intro hcA (And.intro hcB hfin))
 rw[hw12]
 clear hw12 h12 f12 hcA hcB hfin z0 z1 z2 z3 z4 z5 y0 y1 y2 y3 y4 y5 g0 g1 g2 g3 g4 g5
 refine bodyPost_ret (v:=.tuple #[.agg #[.int .i64 a.t,.int .i64 0,.int .i64 a.t,.string ⟨#[]⟩,.slice A n c,.slice B m d],.int .i64 0]) (by simp[results,Tryz.results134,go_sem,t0,t1,t2,t3,t4,t5]) rfl ⟨A,c,B,d,?_,HFIN.out.2.2,HFIN.out.1,HFIN.out.2.1,fun k hk=>(hkA k hk).1,fun k hk=>(hkB k hk).1⟩
 unfold AC.val CL.sl actC
 rw[HNA.out,HNB.out]
def a0:AC:=⟨1,.nil,.one 1 ⟨#[120]⟩ false⟩
def a1:AC:=⟨2,.one 1 ⟨#[120]⟩ false,.one 2 ⟨#[121,122]⟩ false⟩
def a2:AC:=⟨3,.one 3 ⟨#[]⟩ true,.nil⟩
theorem a0_good:a0.good:=⟨by decide,trivial,good1⟩
theorem a1_good:a1.good:=⟨by decide,good1,good2⟩
theorem a2_good:a2.good:=⟨by decide,good1z,trivial⟩
theorem encA0:encA a0=[1,0,1,0,0,1,2,16,1,0,1,120]:=by
 unfold encA a0 AC.k encKey encCL
 simp only[encOn_port]
 unfold encT
 simp[encU_lo,flagB]
theorem encA1:encA a1=[2,0,2,0,1,2,16,1,0,1,120,1,2,16,2,0,2,121,122]:=by
 unfold encA a1 AC.k encKey encCL
 simp only[encOn_port]
 unfold encT
 simp[encU_lo,flagB]
theorem dec_a0:DecOk (encA a0) a0:=by
 rw[encA0]
 exact⟨⟨[0,1,2,16,1,0,1,120],4,0⟩,⟨[1,2,16,1,0,1,120],5,0⟩,⟨[],12,0⟩,by kernel_rfl,.nil (by kernel_rfl),
  .one (r1:=⟨[2,16,1,0,1,120],6,0⟩) (r2:=⟨[0,1,120],9,0⟩) (r3:=⟨[1,120],10,0⟩) (tn:=[16,1]) (by kernel_rfl) (by kernel_rfl) (by kernel_rfl) (by kernel_rfl) (by kernel_rfl),by kernel_rfl⟩
theorem dec_a1:DecOk (encA a1) a1:=by
 rw[encA1]
 exact⟨⟨[1,2,16,1,0,1,120,1,2,16,2,0,2,121,122],4,0⟩,⟨[1,2,16,2,0,2,121,122],11,0⟩,⟨[],19,0⟩,by kernel_rfl,
  .one (r1:=⟨[2,16,1,0,1,120,1,2,16,2,0,2,121,122],5,0⟩) (r2:=⟨[0,1,120,1,2,16,2,0,2,121,122],8,0⟩) (r3:=⟨[1,120,1,2,16,2,0,2,121,122],9,0⟩) (tn:=[16,1]) (by kernel_rfl) (by kernel_rfl) (by kernel_rfl) (by kernel_rfl) (by kernel_rfl),
  .one (r1:=⟨[2,16,2,0,2,121,122],12,0⟩) (r2:=⟨[0,2,121,122],15,0⟩) (r3:=⟨[2,121,122],16,0⟩) (tn:=[16,2]) (by kernel_rfl) (by kernel_rfl) (by kernel_rfl) (by kernel_rfl) (by kernel_rfl),by kernel_rfl⟩
section
variable {P:Program} {C:World→Prop}
theorem wp_region_qall (C:World→Prop) {id:Nat} {Q:Exit→Act→World→Prop} {a:Act} {w:World} {l:List Oper} (hm:P.follows .mixedOrders=true) (hB:Region.lexB .any l.toArray=true) (hC:C w.drew)
 (h:wpQuiet P l.toArray C (fun a'=>∀ w',C w'→Q .normal a' w') l a):(Code.region id l.toArray true).wp P Q a w:=wp_region_quiet hm hB hC (by simpa using h)
end
def JPost (w:World) (l:TR) (i:Int) (v:ByteArray) (r:TR) (e:Ending) (w':World):Prop :=
 ∃ b,e=.returned (.pointer (some ⟨b,0,none⟩))∧w.heap.size≤b∧TRat w' (.node b l i v (1+mx l.h r.h) (1+l.s+r.s) ((v.size:Int)+l.y+r.y) r)∧Fr [] w w'
theorem JPost.from {w w0:World} {l r:TR} {i:Int} {v:ByteArray} {e:Ending} {w':World} (h:JPost w l i v r e w') (hf:Fr [] w0 w):JPost w0 l i v r e w':=by
 obtain⟨b,h1,h2,h3,h4⟩:=h
 exact⟨b,h1,Nat.le_trans hf.size h2,h3,hf.then h4⟩
theorem balance_small (l r:TR) (m:Nat) (ml mr:Value) (i mh ms my:Int) (v:ByteArray) (w:World) (hl:TRat w l) (hr:TRat w r) (hm:BoxN w m 191 (nodeC ml mr i v mh ms my)) (sl:l.sm) (sr:r.sm) (hv:v.size≤65536) (hd1:l.h - r.h≤1) (hd2:-1≤l.h - r.h) :
 Calls Tryz.prog 267 #[l.ptr,.pointer (some ⟨m,0,none⟩),r.ptr] w (JPost w l i v r):=by
 have HHL:=Hd (heightOf_any l w hl)
 have HHR:=Hd (heightOf_any r w hr)
 have HJ:=Hd (fun (W:World) (hW:Fr [] w W)=>(join_any l r m ml mr i mh ms my v W (hl.fr0 hW) (hr.fr0 hW) (hm.fr hW (by simp)) sl sr hv:Calls Tryz.prog 268 #[l.ptr,.pointer (some ⟨m,0,none⟩),r.ptr] W (JPost W l i v r)))
 obtain⟨lp,hlp⟩:∃ p,l.ptr=.pointer p:=⟨_,rfl⟩
 obtain⟨rp,hrp⟩:∃ p,r.ptr=.pointer p:=⟨_,rfl⟩
 rw[hlp] at HHL HJ ⊢
 rw[hrp] at HHR HJ ⊢
 obtain⟨s1,s2,_⟩:=sl
 obtain⟨s3,s4,_⟩:=sr
 obtain⟨lh,hlh⟩:=nmd (l.h)
 obtain⟨rh,hrh⟩:=nmd (r.h)
 rw[hlh] at HHL s1 s2 hd1 hd2
 rw[hrh] at HHR s3 s4 hd1 hd2
 have e0:IntKind.i64.wrap (lh - rh)=lh - rh:=by simp only[IntKind.wrap_i64];omega
 have h1:decide (1<lh - rh)=false:=by simp;omega
 have h2:decide (lh - rh < -1)=false:=by simp;omega
 clear hl hr hm hlp hrp hlh hrh hd1 hd2 s1 s2 s3 s4
 go_enter Tryz.func267,Tryz.ntmps267
 go_upto_region 2 with (first
  | (go_at_call 278;(with_reducible refine HHL.out.mono ?_);rintro e w' ⟨rfl,rfl⟩)
  | (go_at_call 278;(with_reducible refine HHR.out.mono ?_);rintro e w' ⟨rfl,rfl⟩))
 have HSS:=Hd (fun (W:World) (_:Fr [] w' W)=>trivial)
 refine wp_region_qall (fun W=>Fr [] w' W) (by kernel_rfl) (by kernel_rfl) ((Fr.refl [] w').drew) ?_
 repeat (
  first
  | go_big_quiet_skip
  | (go_big_quiet_want
     first
     | (go_big_quiet_op
        go_big_quiet_on)
     | (apply Exists.intro
        refine⟨fun W hW=>?_,?_⟩
        ·(obtain _:=HSS.out W hW
          go_simp
          first
          | done
          | (with_reducible exact rfl)
          | (with_reducible exact⟨rfl,rfl⟩)
          | (fail))
        simp only[Act.put,qA,qB,qC]
        go_big_quiet_on))
  )
 refine wpQuiet_nil ?_
 intro W1 hW1
 go_upto_region 7 with fail
 refine wp_region_qall (fun W=>Fr [] w' W) (by kernel_rfl) (by kernel_rfl) (hW1.drew) ?_
 repeat (
  first
  | go_big_quiet_skip
  | (go_big_quiet_want
     first
     | (go_big_quiet_op
        go_big_quiet_on)
     | (apply Exists.intro
        refine⟨fun W hW=>?_,?_⟩
        ·(obtain _:=HSS.out W hW
          go_simp
          first
          | done
          | (with_reducible exact rfl)
          | (with_reducible exact⟨rfl,rfl⟩)
          | (fail))
        simp only[Act.put,qA,qB,qC]
        go_big_quiet_on))
  )
 refine wpQuiet_nil ?_
 intro W2 hW2
 go_wp2_with ((go_at_call 268;(with_reducible refine (HJ.out _ hW2).mono ?_);rintro e w2 ⟨b,rfl,h⟩;have H:=Hd h;clear h))
 go_ret
 exact JPost.from (w:=W2) ⟨_,rfl,H.out⟩ hW2
def sing (b:Nat) (i:Int) (v:ByteArray):TR:=.node b .nil i v (1+mx TR.nil.h TR.nil.h) (1+TR.nil.s+TR.nil.s) ((v.size:Int)+TR.nil.y+TR.nil.y) .nil
theorem sing_sm {b:Nat} {i:Int} {v:ByteArray} (hv:v.size≤65536):(sing b i v).sm:=by
 refine⟨by show (0:Int)≤1+mx 0 0;decide,by show 1+mx 0 0≤(1000000:Int);decide,by show (0:Int)≤1+0+0;decide,by show (1:Int)+0+0≤1000000;decide,?_,?_⟩
 ·show (0:Int)≤(v.size:Int)+0+0;omega
 ·show (v.size:Int)+0+0≤1000000000;omega
theorem nil_sm:TR.nil.sm:=⟨by decide,by decide,by decide,by decide,by decide,by decide⟩
theorem with_nil (m:Nat) (i:Int) (v:ByteArray) (w:World) (hm:BoxN w m 191 (nodeC (.pointer none) (.pointer none) i v 0 0 0)) (hv:v.size≤65536) :
 Calls Tryz.prog 236 #[.pointer none,.pointer (some ⟨m,0,none⟩)] w (JPost w .nil i v .nil):=by
 have hj:Calls Tryz.prog 268 #[.pointer none,.pointer (some ⟨m,0,none⟩),.pointer none] w (JPost w .nil i v .nil):=join_any .nil .nil m _ _ i 0 0 0 v w trivial trivial hm nil_sm nil_sm hv
 have HJ:=Hd hj
 clear hj hm
 go_enter Tryz.func236,Tryz.ntmps236
 go_wp2_with ((go_at_call 268;(with_reducible refine HJ.out.mono ?_);rintro e w2 ⟨b,rfl,h⟩;have H:=Hd h;clear h))
 go_ret
 exact⟨_,rfl,H.out⟩
theorem with_right (b m:Nat) (i j:Int) (v v2:ByteArray) (w:World) (ht:TRat w (sing b i v)) (hm:BoxN w m 191 (nodeC (.pointer none) (.pointer none) j v2 0 0 0)) (hv:v.size≤65536) (hv2:v2.size≤65536) (hc:cmpO (portN j) (portN i)=1) :
 Calls Tryz.prog 236 #[.pointer (some ⟨b,0,none⟩),.pointer (some ⟨m,0,none⟩)] w (fun e w'=>∃ b2,w.heap.size≤b2∧JPost w .nil i v (sing b2 j v2) e w'):=by
 have hC:=fun (W:World)=>CompareO_any (portN j) (portN i) W (show validB []=true by decide) (show validB []=true by decide) (by simp[portN]) (by simp[portN])
 simp only[hc,encO_port] at hC
 unfold portV at hC
 have HC:=Hd hC
 have hbb:=ht.1
 unfold nodeC at hbb
 have HSS:=Hd (fun (W:World) (hW:Fr [] w W)=>(show (W.cell? ⟨m,2,none⟩=some (.int .i64 16)∧W.cell? ⟨m,3,none⟩=some (.string ⟨#[]⟩)∧W.cell? ⟨m,4,none⟩=some (.int .i64 j)∧W.cell? ⟨m,5,none⟩=some (.int .i64 0)∧W.cell? ⟨m,6,none⟩=some (.string ⟨#[]⟩))∧W.cell? ⟨b,0,none⟩=some (.pointer none)∧W.cell? ⟨b,1,none⟩=some (.pointer none)∧W.cell? ⟨b,2,none⟩=some (.int .i64 16)∧W.cell? ⟨b,3,none⟩=some (.string ⟨#[]⟩)∧W.cell? ⟨b,4,none⟩=some (.int .i64 i)∧W.cell? ⟨b,5,none⟩=some (.int .i64 0)∧W.cell? ⟨b,6,none⟩=some (.string ⟨#[]⟩) from by
  have h1:=hm.fr hW (by simp)
  have h2:=hbb.fr hW (by simp)
  exact⟨⟨h1.c 2,h1.c 3,h1.c 4,h1.c 5,h1.c 6⟩,h2.c 0,h2.c 1,h2.c 2,h2.c 3,h2.c 4,h2.c 5,h2.c 6⟩))
 have HWN:=Hd (fun (W:World) (hW:Fr [] w W)=>with_nil m j v2 W (hm.fr hW (by simp)) hv2)
 have hB:∀ (W:World),Fr [] w W→∀ b2:Nat,TRat W (sing b2 j v2)→Calls Tryz.prog 267 #[.pointer none,.pointer (some ⟨b,0,none⟩),.pointer (some ⟨b2,0,none⟩)] W (JPost W .nil i v (sing b2 j v2)):=fun W hW b2 h2=>balance_small .nil (sing b2 j v2) b _ _ i _ _ _ v W trivial h2 (ht.1.fr hW (by simp)) nil_sm (sing_sm hv2) hv (by show (0:Int) - 1≤1;omega) (by show (-1:Int)≤0 - 1;omega)
 have HB:=Hd hB
 clear hB
 clear hC hbb ht hm
 go_enter Tryz.func236,Tryz.ntmps236
 go_upto_region 3 with fail
 refine wp_region_qall (fun W=>Fr [] w W) (by kernel_rfl) (by kernel_rfl) ((Fr.refl [] w).drew) ?_
 repeat (
  first
  | go_big_quiet_skip
  | (go_big_quiet_want
     first
     | (go_big_quiet_op
        go_big_quiet_on)
     | (apply Exists.intro
        refine⟨fun W hW=>?_,?_⟩
        ·(obtain⟨⟨z0,z1,z2,z3,z4⟩,y0,y1,y2,y3,y4,y5,y6⟩:=HSS.out W hW
          go_simp
          first
          | done
          | (with_reducible exact rfl)
          | (with_reducible exact⟨rfl,rfl⟩)
          | ((go_at_call 103;(with_reducible refine (HC.out W).mono ?_);rintro e w' ⟨rfl,h⟩;exact⟨rfl,hW.then h⟩)))
        simp only[Act.put,qA,qB,qC]
        go_big_quiet_on))
  )
 refine wpQuiet_nil ?_
 intro W1 hW1
 go_upto_region 7 with fail
 have HS2:=Hd (fun (W:World) (hW:Fr [] W1 W)=>(show W.cell? ⟨b,0,none⟩=some (.pointer none)∧W.cell? ⟨b,1,none⟩=some (.pointer none) from ⟨(HSS.out W (hW1.then hW)).2.1,(HSS.out W (hW1.then hW)).2.2.1⟩))
 go_region_held3 (fun W=>W.cell? ⟨b,0,none⟩=some (.pointer none)∧W.cell? ⟨b,1,none⟩=some (.pointer none)) (with_reducible refine HS2.out _ ?_;(first | exact (Fr.refl [] W1).drew | with_reducible assumption);done) (first
  | (go_at_call 236;(with_reducible refine (HWN.out _ hW1.drew).mono ?_);rintro e w5 ⟨b2,rfl,hs5,ht5,hf5⟩;have hk5:=hf5.undrew;have ht5b:TRat w5 (sing b2 j v2):=ht5;have H5:=Hd (And.intro ht5b hk5);have HS5:=Hd hs5;clear ht5b hs5 ht5 hf5)
  | (go_at_call 267;(with_reducible refine (HB.out _ (hW1.then H5.out.2) _ H5.out.1).mono ?_);rintro e w6 ⟨b3,rfl,hs6,ht6,hf6⟩;have hk6:=H5.out.2.then hf6;have HT6:=Hd ht6;have HS6:=Hd hs6;clear hs6 ht6 hf6))
 go_wp2_with fail
 go_ret
 exact⟨b2,(by have:=hW1.size;have:=HS5.out;simp only[World.drew] at this;omega),b3,rfl,by have:=hW1.size;have:=H5.out.2.size;have:=HS6.out;omega,HT6.out,hW1.then hk6⟩
end Go.Proofs.YtlpmiimgacfmkaaGreatDoor
