/- codec: the Writer's calls, said of a base world. -/
import Derived.Test.YtlpmiimgacfmkaaGreatDoorRWr2
set_option linter.all false
namespace Go.Proofs.YtlpmiimgacfmkaaGreatDoor
open Go.RowKit
theorem encU_len:∀ (k u:Nat),u<128 ^ (k+1)→(encU u).length≤k+1
 | 0,u,h=>by rw[encU_lo (by simpa using h)];simp
 | k+1,u,h=>by
  by_cases hu:u<128
  ·rw[encU_lo hu];simp
  ·rw[encU_hi hu,List.length_cons]
   have h1:128 ^ (k+1+1)=128 ^ (k+1)*128:=Nat.pow_succ ..
   have:=encU_len k (u / 128) (by omega)
   omega
theorem encU_len9 {u:Nat} (h:u≤9223372036854775807):(encU u).length≤9:=encU_len 8 u (by omega)
theorem encT_len {s:Nm} (h:s.length≤9223372036854775807):(encT s).length≤s.length+9:=by
 unfold encT
 have:=encU_len9 h
 rw[List.length_append]
 omega
def WrS (a:World) (b:Nat) (bs:Nm) (w:World):Prop:=∃ A,WrAt w b A bs∧Fr [b] a w∧∀ k∈blk A,a.heap.size≤k
section
variable {a w w':World} {b:Nat} {A:Option Addr} {bs bs':Nm} {e:Ending}
theorem WrS.new (h:WrAt w b none []):WrS w b [] w:=⟨none,h,Fr.refl _ _,by simp[blk]⟩
theorem WrS.fr (h:WrS a b bs w):Fr [b] a w:=by obtain⟨A,_,h,_⟩:=h;exact h
theorem WrS.more (h:WrS a b bs w) (hf:Fr [] w w') (hb:b<w.heap.size):WrS a b bs w':=by
 obtain⟨A,h1,h2,h3⟩:=h
 exact⟨A,h1.fr hf (by simp) (by simp),h2.trans hf (by simp),h3⟩
theorem WrS.step (h1:WrAt w b A bs) (h2:Fr [b] a w) (h3:∀ k∈blk A,a.heap.size≤k) (hp:WPost w b A bs' e w'):e=.returned (.tuple #[])∧WrS a b bs' w':=by
 obtain⟨rfl,A',q1,q2,q3⟩:=hp
 refine⟨rfl,A',q1,h2.trans q2 (fun x hx=>?_),fun k hk=>?_⟩
 ·rcases List.mem_cons.1 hx with rfl | hx
  ·exact .inl (by simp)
  ·exact .inr (h3 x hx)
 ·rcases q3 k hk with h | h
  ·exact h3 k h
  ·have:=h2.size;omega
theorem Number_ws (h:WrS a b bs w) (n:Nat) (hn:n≤9223372036854775807) (hL:bs.length≤70368744177600) :
 Calls Tryz.prog 57 #[.pointer (some ⟨b,0,none⟩),.int .i64 (n:Int)] w fun e w'=>e=.returned (.tuple #[])∧WrS a b (bs++encU n) w':=by
 obtain⟨A,h1,h2,h3⟩:=h
 have:=encU_len9 hn
 exact (Number_any w b A bs n h1 hn (by rw[List.length_append];omega)).mono fun e w' hp=>WrS.step h1 h2 h3 hp
theorem Flag_ws (h:WrS a b bs w) (v:Bool) (hL:bs.length≤70368744177600) :
 Calls Tryz.prog 122 #[.pointer (some ⟨b,0,none⟩),.bool v] w fun e w'=>e=.returned (.tuple #[])∧WrS a b (bs++[flagB v]) w':=by
 obtain⟨A,h1,h2,h3⟩:=h
 exact (Flag_any w b A bs v h1 (by omega)).mono fun e w' hp=>WrS.step h1 h2 h3 hp
theorem Text_ws (h:WrS a b bs w) (s:Nm) (hn:s.length≤16777216) (hL:bs.length+s.length≤70368744177600) :
 Calls Tryz.prog 56 #[.pointer (some ⟨b,0,none⟩),encN s] w fun e w'=>e=.returned (.tuple #[])∧WrS a b (bs++encT s) w':=by
 obtain⟨A,h1,h2,h3⟩:=h
 have:=encT_len (s:=s) (by omega)
 exact (Text_any w b A bs s h1 hn (by rw[List.length_append];omega)).mono fun e w' hp=>WrS.step h1 h2 h3 hp
theorem Bytes_ws (h:WrS a b bs w) (hL:bs.length≤70368744177600):Calls Tryz.prog 58 #[.pointer (some ⟨b,0,none⟩)] w (BytesRes w bs):=by
 obtain⟨A,h1,h2,h3⟩:=h
 exact Bytes_any w b A bs h1 (by omega)
end
def Kp (b:Nat) (w w':World):Prop:=∀ Z t cs,t≠5→Z≠b→BoxN w Z t cs→BoxN w' Z t cs
theorem Kp.refl (b:Nat) (w:World):Kp b w w:=fun _ _ _ _ _ h=>h
theorem Kp.trans {b : Nat} {w w' w'' : World} (h : Kp b w w') (k : Kp b w' w'') : Kp b w w'' := fun Z t cs h1 h2 h3 => k Z t cs h1 h2 (h Z t cs h1 h2 h3)
theorem Kp.fr0 {b:Nat} {w w':World} (h:Fr [] w w'):Kp b w w':=fun _ _ _ _ _ h3=>h3.fr h (by simp)
theorem Kp.fr1 {b:Nat} {w w':World} (h:Fr [b] w w'):Kp b w w':=fun _ _ _ _ h2 h3=>h3.fr h (by simpa using h2)
theorem own_box {w:World} {A:Option Addr} {n c Z:Nat} {xs:List Value} {t:TypeId} {cs:Array Value} (ho:Own w 5 1 A n c xs) (hb:BoxN w Z t cs) (ht:t≠5):Z ∉ blk A:=by
 intro hm
 rcases ho.2 with ⟨h,_⟩ | ⟨g,cap,cur,h,_,hg,_⟩
 ·injection h with h1 _ _
  rw[h1] at hm
  simp[blk] at hm
 ·injection h with h1 _ _
  rw[h1] at hm
  have hz:Z=g:=by simpa [blk] using hm
  subst hz
  have e:=hb.symm.trans hg
  injection e with e
  injection e with _ e2 _
  exact ht e2
theorem WPost.kp {w w':World} {b:Nat} {A:Option Addr} {bs bs':Nm} {e:Ending} (h:WrAt w b A bs) (hp:WPost w b A bs' e w'):Kp b w w':=by
 obtain⟨c,_,h2,_⟩:=h
 obtain⟨_,A',_,q2,_⟩:=hp
 intro Z t cs ht hz hbx
 exact hbx.fr q2 (by rw[List.mem_cons];rintro (h | h);exact hz h;exact own_box h2 hbx ht h)
section
variable {a w w':World} {b:Nat} {A:Option Addr} {bs bs':Nm} {e:Ending}
theorem Number_wk (h:WrS a b bs w) (n:Nat) (hn:n≤9223372036854775807) (hL:bs.length≤70368744177600) :
 Calls Tryz.prog 57 #[.pointer (some ⟨b,0,none⟩),.int .i64 (n:Int)] w fun e w'=>e=.returned (.tuple #[])∧WrS a b (bs++encU n) w'∧Kp b w w':=by
 obtain⟨A,h1,h2,h3⟩:=h
 have:=encU_len9 hn
 exact (Number_any w b A bs n h1 hn (by rw[List.length_append];omega)).mono fun e w' hp=>⟨(WrS.step h1 h2 h3 hp).1,(WrS.step h1 h2 h3 hp).2,WPost.kp h1 hp⟩
theorem Flag_wk (h:WrS a b bs w) (v:Bool) (hL:bs.length≤70368744177600) :
 Calls Tryz.prog 122 #[.pointer (some ⟨b,0,none⟩),.bool v] w fun e w'=>e=.returned (.tuple #[])∧WrS a b (bs++[flagB v]) w'∧Kp b w w':=by
 obtain⟨A,h1,h2,h3⟩:=h
 exact (Flag_any w b A bs v h1 (by omega)).mono fun e w' hp=>⟨(WrS.step h1 h2 h3 hp).1,(WrS.step h1 h2 h3 hp).2,WPost.kp h1 hp⟩
theorem Text_wk (h:WrS a b bs w) (s:Nm) (hn:s.length≤16777216) (hL:bs.length+s.length≤70368744177600) :
 Calls Tryz.prog 56 #[.pointer (some ⟨b,0,none⟩),encN s] w fun e w'=>e=.returned (.tuple #[])∧WrS a b (bs++encT s) w'∧Kp b w w':=by
 obtain⟨A,h1,h2,h3⟩:=h
 have:=encT_len (s:=s) (by omega)
 exact (Text_any w b A bs s h1 hn (by rw[List.length_append];omega)).mono fun e w' hp=>⟨(WrS.step h1 h2 h3 hp).1,(WrS.step h1 h2 h3 hp).2,WPost.kp h1 hp⟩
end
end Go.Proofs.YtlpmiimgacfmkaaGreatDoor
