/- Plain facts on names of processes, with no program in sight: how a text is parsed into ordinals. -/
set_option linter.all false
namespace Go.Proofs.YtlpmiimgacfmkaaGreatDoor
def isD (c:UInt8):Bool:=decide (48≤c.toNat) && decide (c.toNat≤57)
def run7 (s:List UInt8) (a:Nat):Nat:=(((s.drop a).take 7).takeWhile isD).length
def val10 (l:List UInt8):Nat:=l.foldl (fun v c=>v*10+(c.toNat - 48)) 0
theorem val10_snoc (l:List UInt8) (c:UInt8):val10 (l++[c])=val10 l*10+(c.toNat - 48):=by simp[val10]
theorem isD_bounds {c:UInt8} (h:isD c=true):48≤c.toNat∧c.toNat≤57:=by
 simpa [isD] using h
theorem val10_lt (l:List UInt8) (h:∀ c∈l,isD c=true):val10 l<10 ^ l.length:=by
 have key:∀ (l:List UInt8) (v n:Nat),(∀ c∈l,isD c=true)→v<10 ^ n→l.foldl (fun v c=>v*10+(c.toNat - 48)) v<10 ^ (n+l.length):=by
  intro l
  induction l with
  | nil=>intro v n _ hv;simpa using hv
  | cons c l ih =>
   intro v n hd hv
   have hc:=isD_bounds (hd c (by simp))
   have:=ih (v*10+(c.toNat - 48)) (n+1) (fun x hx=>hd x (by simp[hx])) (by rw[Nat.pow_succ];omega)
   simpa [Nat.add_assoc,Nat.add_comm 1] using this
 have:=key l 0 0 h (by simp)
 simpa [val10] using this
theorem run7_eq (s:List UInt8) (a k:Nat) (hk:k≤7) (hak:a+k≤s.length) (hd:∀ c∈(s.drop a).take k,isD c=true)
 (hend:a+k=s.length ∨ k=7 ∨ ∃ c,s[a+k]?=some c∧isD c=false):run7 s a=k:=by
 unfold run7
 have e1:(s.drop a).take 7=(s.drop a).take k++((s.drop a).drop k).take (7 - k):=by
  have:7=k+(7 - k):=by omega
  conv=>lhs;rw[this]
  rw[List.take_add]
 have e2:(((s.drop a).drop k).take (7 - k)).takeWhile isD=[]:=by
  rcases hend with h | h | ⟨c,hc,hcd⟩
  ·rw[List.drop_drop,List.drop_eq_nil_of_le (by omega)];simp
  ·subst h;simp
  ·rw[List.drop_drop]
   have hlt:a+k<s.length:=by
    rcases Nat.lt_or_ge (a+k) s.length with h | h
    ·exact h
    ·rw[List.getElem?_eq_none h] at hc;cases hc
   rw[List.drop_eq_getElem_cons hlt]
   rw[List.getElem?_eq_getElem hlt] at hc
   injection hc with hc
   rcases Nat.eq_zero_or_pos (7 - k) with h0 | h0
   ·rw[h0];simp
   ·obtain⟨m,hm⟩:∃ m,7 - k=m+1:=⟨7 - k - 1,by omega⟩
    rw[hm,List.take_succ_cons,List.takeWhile_cons,hc,hcd]
    simp
 rw[e1,List.takeWhile_append_of_pos hd,e2]
 simp
 omega
theorem run7_le (s:List UInt8) (a:Nat):run7 s a≤7:=by
 unfold run7
 have h1:=(List.takeWhile_sublist isD (l:=(s.drop a).take 7)).length_le
 have h2:=List.length_take_le 7 (s.drop a)
 omega
theorem run7_size (s:List UInt8) (a:Nat) (ha:a≤s.length):a+run7 s a≤s.length:=by
 unfold run7
 have h1:=(List.takeWhile_sublist isD (l:=(s.drop a).take 7)).length_le
 have h2:=List.length_take_le' 7 (s.drop a)
 simp at h1 h2
 omega
abbrev Part:=Nat × Nat × Nat
def firstErr (s:List UInt8) (a count:Nat):Nat :=
 if count=8 then 9 else if a=s.length then 4 else if run7 s a=0 then 6 else if s[a]?=some 48 then 3 else if 6<run7 s a then 2 else 0
def firstP (s:List UInt8) (a count:Nat):Part × Nat :=
 if firstErr s a count=0 then ((val10 ((s.drop a).take (run7 s a)),a,0),a+run7 s a) else ((0,a,firstErr s a count),a)
def partsN:Nat→List UInt8→Nat→Nat→List Part
 | 0,_,_,_=>[]
 | f+1,s,a,count =>
  (firstP s a count).1::(if (firstP s a count).1.2.2≠0 ∨ (firstP s a count).2=s.length then []
   else if s[(firstP s a count).2]?≠some 46 then [(0,(firstP s a count).2,6)]
   else partsN f s ((firstP s a count).2+1) (count+1))
def partsOf (s:List UInt8):List Part:=if s=[] then [] else partsN 9 s 0 0
def validB (s:List UInt8):Bool:=(partsOf s).all fun p=>p.2.2 == 0
def ordsOf (s:List UInt8):List Nat:=if validB s then (partsOf s).map (·.1) else []
theorem firstP_zero {s:List UInt8} {a c o p en:Nat} (ha:a≤s.length) (h:firstP s a c=((o,p,0),en)):c≠8∧en≤s.length:=by
 unfold firstP at h
 split at h
 ·rename_i h0
  have hc:c≠8:=by rintro rfl;simp[firstErr] at h0
  have he:en=a+run7 s a:=by simp at h;exact h.2.symm
  exact⟨hc,by rw[he];exact run7_size s a ha⟩
 ·rename_i h0
  simp at h
  exact absurd h.1.2.2 h0
section
variable {s:List UInt8} {a c o p er en:Nat}
theorem partsN_stop (hc:c≤8) (h:firstP s a c=((o,p,er),en)) (he:er≠0 ∨ en=s.length):partsN (9 - c) s a c=[(o,p,er)]:=by
 obtain⟨m,hm⟩:∃ m,9 - c=m+1:=⟨8 - c,by omega⟩
 rw[hm,partsN,h]
 simp only
 rw[if_pos he]
theorem partsN_byte (hc:c≤8) (h:firstP s a c=((o,p,er),en)) (he:er=0) (hen:en≠s.length) (hb:s[en]?≠some 46):partsN (9 - c) s a c=[(o,p,er),(0,en,6)]:=by
 obtain⟨m,hm⟩:∃ m,9 - c=m+1:=⟨8 - c,by omega⟩
 rw[hm,partsN,h]
 simp only
 rw[if_neg (by simp[he,hen]),if_pos hb]
theorem partsN_next (hc:c≤8) (h:firstP s a c=((o,p,er),en)) (he:er=0) (hen:en≠s.length) (hb:s[en]?=some 46):partsN (9 - c) s a c=(o,p,er)::partsN (9 - (c+1)) s (en+1) (c+1):=by
 obtain⟨m,hm⟩:∃ m,9 - c=m+1:=⟨8 - c,by omega⟩
 have hm':9 - (c+1)=m:=by omega
 rw[hm,hm',partsN,h]
 simp only
 rw[if_neg (by simp[he,hen]),if_neg (by simp[hb])]
theorem partsN_head (hc:c≤8) (h:firstP s a c=((o,p,er),en)):∃ r,partsN (9 - c) s a c=(o,p,er)::r:=by
 obtain⟨m,hm⟩:∃ m,9 - c=m+1:=⟨8 - c,by omega⟩
 rw[hm,partsN,h]
 exact⟨_,rfl⟩
end
example:validB [55,46,49]=true:=by decide
example:ordsOf [55,46,49]=[7,1]:=by decide
example:validB [48]=false:=by decide
example:validB [55,46]=false:=by decide
end Go.Proofs.YtlpmiimgacfmkaaGreatDoor
