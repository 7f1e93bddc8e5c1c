/- Chapter 4. -/
import Derived.Test.YtnjngdcbkkonnaaGreatDoorQC
import Derived.Test.YtnjngdcbkkonnaaGreatDoorA21
import Derived.Test.YtnjngdcbkkonnaaGreatDoorLZ
set_option linter.unusedVariables false
set_option linter.unusedSimpArgs false
set_option maxRecDepth 100000
set_option maxHeartbeats 1000000
namespace Go.Z
open Go Go.Abs
def qh3:List Int→List Int→Int
 | [],[]=>0
 | [],_::_=>-1
 |_::_,[]=>1
 |x::a,y::b=>if x<y then -1 else if y<x then 1 else qh3 a b
theorem q5t {a b:Int}:f203 a b=some (if a<b then -1 else if b<a then 1 else 0):=by
 unfold f203 f232
 simp only[j6,cF]
 by_cases h:a<b
 ·rw[dT h,if_pos h];rfl
 ·rw[dF h,if_neg h,cF]
  by_cases h':b<a
  ·rw[dT h',if_pos h'];rfl
  ·rw[dF h',if_neg h'];rfl
theorem jgg {a b:Option (List Int)}(hn:(a.getD []).length≤1073741824):f204 a b=some (qh3 (a.getD []) (b.getD [])):=by
 unfold f204
 obtain⟨d,g1,g2⟩:=qc0 (a.getD []).length (fun i=>(i:Int)) (qi9 a b) (fun d=>match d with | .inl v=>v | .inr _=>if(a.getD []).length<(b.getD []).length then -1 else 0) (fun i=>qh3 ((a.getD []).drop i) ((b.getD []).drop i)) ⟨.inr _,by unfold qi9;rw[yu];rfl,by
   dsimp only
   rw[List.drop_eq_nil_of_le (Nat.le_refl (a.getD []).length)]
   by_cases h2:(a.getD []).length<(b.getD []).length
   ·rw[if_pos h2,kl (List.getElem?_eq_getElem h2)];rfl
   ·rw[if_neg h2,List.drop_eq_nil_of_le (by omega)];rfl⟩ (fun i hi=>by
  have hx:(a.getD [])[i]?=some (a.getD [])[i]:=List.getElem?_eq_getElem hi
  generalize (a.getD [])[i]=x at hx
  unfold qi9
  rw[kc hi,cT,yn hx,j6,kl hx]
  by_cases hb:(b.getD []).length≤i
  ·rw[dT (show((b.getD []).length:Int)≤(i:Int) by omega),cT]
   right
   refine⟨.inl 1,rfl,?_⟩
   rw[List.drop_eq_nil_of_le hb];rfl
  ·have hlt:i<(b.getD []).length:=by omega
   have hy:(b.getD [])[i]?=some (b.getD [])[i]:=List.getElem?_eq_getElem hlt
   generalize (b.getD [])[i]=y at hy
   rw[dF (show ¬((b.getD []).length:Int)≤(i:Int) by omega),cF,yn hy,j6,q5t,j6,yb hi (by omega)]
   rw[kl hy]
   simp only[qh3]
   by_cases h1:x<y
   ·rw[if_pos h1,if_pos h1];exact .inr ⟨.inl (-1),rfl,rfl⟩
   ·rw[if_neg h1,if_neg h1]
    by_cases h2:y<x
    ·rw[if_pos h2,if_pos h2];exact .inr ⟨.inl 1,rfl,rfl⟩
    ·rw[if_neg h2,if_neg h2];exact .inl ⟨rfl,rfl⟩)
 have g1':itO (qi9 a b) 0=some d:=g1
 have g2':_=qh3 (a.getD []) (b.getD []):=g2
 rw[g1',j6,←g2']
 rcases d with d|d
 ·rfl
 ·dsimp only
  by_cases h:(a.getD []).length<(b.getD []).length
  ·rw[if_pos h,dT (by omega)];rfl
  ·rw[if_neg h,dF (by omega)];rfl
def qtc (a b:List Int):Int:=if a.length<b.length then -1 else if b.length<a.length then 1 else qh3 a b
theorem jem {a b:Int}:f202 (some [a,b])=some (if a=0 then b else a):=by
 unfold f202
 obtain⟨d,g1,g2⟩:=qc0 2 (fun i=>(i:Int)) (qg5 (some [a,b])) (fun d=>match d with | .inl v=>v | .inr _=>0) (fun i=>if i=0 then(if a=0 then b else a)else if i=1 then b else 0) ⟨.inr _,by unfold qg5;rfl,rfl⟩ (fun i hi=>by
  match i,hi with
  |0,_=>
   have e:yd ((some [a,b]).getD []) ((0:Nat):Int)=some a:=rfl
   unfold qg5
   rw[e,show decide (((0:Nat):Int)<(((some [a,b]).getD []).length:Int))=true from rfl,cT,j6]
   by_cases h:a=0
   ·rw[dT h];left;exact⟨rfl,by simp[h]⟩
   ·rw[dF h];right;exact⟨.inl a,rfl,by simp[h]⟩
  |1,_=>
   have e:yd ((some [a,b]).getD []) ((1:Nat):Int)=some b:=rfl
   unfold qg5
   rw[e,show decide (((1:Nat):Int)<(((some [a,b]).getD []).length:Int))=true from rfl,cT,j6]
   by_cases h:b=0
   ·rw[dT h];left;exact⟨rfl,by simp[h]⟩
   ·rw[dF h];right;exact⟨.inl b,rfl,by simp⟩)
 have g1':itO (qg5 (some [a,b])) 0=some d:=g1
 rw[g1',j6]
 have g2':_=(if a=0 then b else a):=g2
 rw[←g2']
 rcases d with d|d<;>rfl
theorem jd2 {a b:Option (List Int)}(hn:(a.getD []).length≤1073741824):qhg a b=some (qtc (a.getD []) (b.getD [])):=by
 unfold qhg qtc
 rw[q5t,j6,jgg hn,j6,jem,j6]
 by_cases h1:(a.getD []).length<(b.getD []).length
 ·rw[if_pos h1,if_pos (show((a.getD []).length:Int)<((b.getD []).length:Int) by omega),if_neg (by decide)]
 ·rw[if_neg h1,if_neg (show ¬((a.getD []).length:Int)<((b.getD []).length:Int) by omega)]
  by_cases h2:(b.getD []).length<(a.getD []).length
  ·rw[if_pos h2,if_pos (show((b.getD []).length:Int)<((a.getD []).length:Int) by omega),if_neg (by decide)]
  ·rw[if_neg h2,if_neg (show ¬((b.getD []).length:Int)<((a.getD []).length:Int) by omega),if_pos rfl]
def Srt (L:List (List Int)):Prop:=(∀x∈L,x.length≤1000)∧∀(i j:Nat) x y,i<j→L[i]?=some x→L[j]?=some y→¬qtc y x<0
section
variable {o:Option (List (Option (List Int)))}{L:List (List Int)}
theorem qs1 (ho:o.getD []=L.map zb){i:Nat}{x:List Int}(h:L[i]?=some x):yd (o.getD []) (i:Int)=some (zb x):=by
 rw[ho,qgg,List.getElem?_map,h];rfl
theorem q1h (hs:Srt L){i j:Nat}{x y:List Int}(hij:i<j)(hx:L[i]?=some x)(hy:L[j]?=some y):∃v,qhg (zb y) (zb x)=some v∧decide (v<0)=false:=by
 have hb:=hs.1 y (List.mem_of_getElem? hy)
 refine⟨qtc y x,?_,dF (hs.2 i j x y hij hx hy)⟩
 have:=jd2 (a:=zb y) (b:=zb x) (by rw[ya];omega)
 rwa [ya,ya]at this
theorem jgx (ho:o.getD []=L.map zb)(hs:Srt L)(hn:L.length≤1000):f222 o 0 (L.length:Int)=some ():=by
 unfold f222
 have key:∀(k i:Nat),1≤i→i+k=max 1 L.length→∃d,itO (qhc o 0 (L.length:Int)) (i:Int)=some d:=by
  intro k
  induction k with
  |zero=>
   intro i h1 hi
   refine⟨(i:Int),qab ?_⟩
   unfold qhc
   rw[dF (show ¬(i:Int)<(L.length:Int) by omega)];rfl
  |succ k ih=>
   intro i h1 hi
   have hlt:i<L.length:=by omega
   obtain⟨d,g⟩:=ih (i+1) (by omega) (by omega)
   refine⟨d,?_⟩
   have hx:L[i-1]?=some L[i-1]:=List.getElem?_eq_getElem (by omega)
   have hy:L[i]?=some L[i]:=List.getElem?_eq_getElem hlt
   obtain⟨v,c1,c2⟩:=q1h hs (show i-1<i by omega) hx hy
   have inner:itO (qo3 o 0 (L.length:Int) (i:Int)) ()=some ():=by
    refine qab ?_
    unfold qo3
    rw[dT (show(0:Int)<(i:Int) by omega),cT,qs1 ho hy,j6,yz (x:=(i:Int)-1) (by omega) (by omega),show(i:Int)-1=((i-1:Nat):Int) by omega,qs1 ho hx,j6,c1,j6,c2]
    rfl
   have e:qhc o 0 (L.length:Int) (i:Int)=some (.inl ((i+1:Nat):Int)):=by
    unfold qhc
    rw[kc hlt,cT,inner,j6,yb hlt (by omega)]
   rw[qbi e];exact g
 obtain⟨d,g⟩:=key (max 1 L.length-1) 1 (by omega) (by omega)
 have g':itO (qhc o 0 (L.length:Int)) (za .i64 (0+1))=some d:=g
 rw[g'];rfl
theorem qzi (ho:o.getD []=L.map zb)(hs:Srt L){a b:Nat}(hab:a<b)(hb:b<L.length){c:Int}:f257 o (a:Int) (b:Int) c=some (((a:Int),(b:Int)),c):=by
 have hx:L[a]?=some L[a]:=List.getElem?_eq_getElem (by omega)
 have hy:L[b]?=some L[b]:=List.getElem?_eq_getElem hb
 obtain⟨v,c1,c2⟩:=q1h hs hab hx hy
 unfold f257
 rw[qs1 ho hy,j6,qs1 ho hx,j6,c1,j6,c2]
 rfl
theorem jhs (ho:o.getD []=L.map zb)(hs:Srt L){a b d:Nat}(hab:a<b)(hbd:b<d)(hd:d<L.length){c:Int}:f248 o (a:Int) (b:Int) (d:Int) c=some ((b:Int),c):=by
 unfold f248
 rw[qzi ho hs hab (by omega),j6]
 dsimp only
 rw[qzi ho hs hbd hd,j6]
 dsimp only
 rw[qzi ho hs hab (by omega),j6]
theorem jim (ho:o.getD []=L.map zb)(hs:Srt L)(h2:2≤L.length)(hn:L.length≤1000):f227 o 0 (L.length:Int)=some true:=by
 have key:∀(k i:Nat),1≤i→i+k=L.length→itO (qmh o 0 (L.length:Int)) (some (i:Int))=some (L.length:Int):=by
  intro k
  induction k with
  |zero=>
   intro i h1 hi
   have:i=L.length:=by omega
   subst this
   refine qab ?_
   show qhs o 0 (L.length:Int) (L.length:Int)=_
   unfold qhs
   rw[yu];rfl
  |succ k ih=>
   intro i h1 hi
   have hlt:i<L.length:=by omega
   have hx:L[i-1]?=some L[i-1]:=List.getElem?_eq_getElem (by omega)
   have hy:L[i]?=some L[i]:=List.getElem?_eq_getElem hlt
   obtain⟨v,c1,c2⟩:=q1h hs (show i-1<i by omega) hx hy
   have e:qmh o 0 (L.length:Int) (some (i:Int))=some (.inl (some ((i+1:Nat):Int))):=by
    show qhs o 0 (L.length:Int) (i:Int)=_
    unfold qhs
    rw[kc hlt,cT,qs1 ho hy,j6,yz (x:=(i:Int)-1) (by omega) (by omega),show(i:Int)-1=((i-1:Nat):Int) by omega,qs1 ho hx,j6,c1,j6,c2,yb hlt (by omega)]
    rfl
   rw[qbi e];exact ih (i+1) (by omega) (by omega)
 have h0:itO (qmh o 0 (L.length:Int)) none=some (L.length:Int):=by
  have hx:L[0]?=some L[0]:=List.getElem?_eq_getElem (by omega)
  have hy:L[1]?=some L[1]:=List.getElem?_eq_getElem (by omega)
  obtain⟨v,c1,c2⟩:=q1h hs (show 0<1 by omega) hx hy
  have e:qmh o 0 (L.length:Int) none=some (.inl (some ((2:Nat):Int))):=by
   show qpl o 0 (L.length:Int)=_
   unfold qpl
   rw[show za .i64 ((0:Int)+1)=((1:Nat):Int)from rfl,dT (show((1:Nat):Int)<(L.length:Int) by omega),cT,qs1 ho hy,j6,show za .i64 (((1:Nat):Int)-1)=((0:Nat):Int)from rfl,qs1 ho hx,j6,c1,j6,c2]
   rfl
  rw[qbi e]
  exact key (L.length-2) 2 (by omega) (by omega)
 unfold f227
 have e:qn9 o 0 (L.length:Int) ()=some (.inr true):=by
  unfold qn9
  rw[h0,j6,dT rfl];rfl
 rw[qab e,j6]
theorem j3x:∀ n:Nat,n<50→1≤n→∃v,f201 (n:Int)=some v∧decide (v=0)=false:=by
 have h:((List.range 50).all fun n=>Nat.beq n 0||match f201 (n:Int)with|some v=>!decide (v=0)|none=>false)=true:=by decide +kernel
 intro n h1 h2
 have:=List.all_eq_true.1 h n (List.mem_range.2 h1)
 rw[Bool.or_eq_true]at this
 rcases this with k|k
 ·have:=Nat.eq_of_beq_eq_true k
  omega
 ·cases hf:f201 (n:Int)with
  |none=>rw[hf]at k;cases k
  |some v=>rw[hf]at k;exact⟨v,rfl,by simpa using k⟩
theorem jix (ho:o.getD []=L.map zb)(hs:Srt L)(h1:1≤L.length)(hn:L.length≤49):f162 o=some ():=by
 have hlen:(o.getD []).length=L.length:=by rw[ho,List.length_map]
 obtain⟨v,k1,k2⟩:=j3x L.length (by omega) h1
 unfold f162
 rw[hlen,wrapN L.length (by omega),k1,j6]
 unfold f200
 by_cases h12:(L.length:Int)≤12
 ·have e:qi6 o 0 (L.length:Int) v ()=some (.inr (.inl ())):=by
   unfold qi6
   rw[yz (x:=(L.length:Int)-0) (by omega) (by omega),dT (by omega),cT,jgx ho hs (by omega)]
   rfl
  rw[qab e];rfl
 ·have hq:qey .i64 (L.length:Int) 4=some ((L.length / 4:Nat):Int):=qvu (b:=4) (by decide) (by omega)
  have e225:f225 o 0 (L.length:Int)=some (((L.length / 4*2:Nat):Int),1):=by
   unfold f225
   rw[yz (x:=(L.length:Int)-0) (by omega) (by omega),show(L.length:Int)-0=(L.length:Int) by omega,hq,j6,dT (show(8:Int)≤(L.length:Int) by omega),cT,dF (show ¬(50:Int)≤(L.length:Int) by omega),cF]
   have w:∀k:Nat,k≤3→za .i64 (0+za .i64 (((L.length / 4:Nat):Int)*(k:Int)))=((L.length / 4*k:Nat):Int):=by
    intro k hk
    have hk2:L.length / 4*k≤49*3:=Nat.mul_le_mul (by omega) hk
    have e1:((L.length / 4:Nat):Int)*(k:Int)=((L.length / 4*k:Nat):Int):=by rw[Int.natCast_mul]
    rw[e1,yz (x:=((L.length / 4*k:Nat):Int)) (by omega) (by omega),yz (by omega) (by omega)]
    omega
   have w1:=w 1 (by omega)
   have w2:=w 2 (by omega)
   have w3:=w 3 (by omega)
   rw[show((1:Nat):Int)=1 from rfl]at w1
   rw[show((2:Nat):Int)=2 from rfl]at w2
   rw[show((3:Nat):Int)=3 from rfl]at w3
   rw[w1,w2,w3,jhs ho hs (by omega) (by omega) (by omega),j6]
   rfl
  have e:qi6 o 0 (L.length:Int) v ()=some (.inr (.inr ((L.length / 4*2:Nat):Int))):=by
   unfold qi6
   rw[yz (x:=(L.length:Int)-0) (by omega) (by omega),dF (by omega),cF,k2,cF,e225,j6]
   dsimp only
   rw[show(decide ((1:Int)=2))=false from rfl,cF,show(decide ((1:Int)=1))=true from rfl,cT,jim ho hs (by omega) (by omega),j6]
   rfl
  rw[qab e];rfl
end
def qgi (ps:List qb)(c:List Int):Bool:=(qig ps c).isSome
def qc7 (ps:List qb)(c:List Int):List (List Int):=(List.range ps.length).flatMap fun(i:Nat)=>if qgi ps (c++[(i:Int)])then [c++[(i:Int)]]else []
def lvl (ps:List qb):Nat→List (List Int)
 |0=>[[]]
 |k+1=>(lvl ps k).flatMap (qc7 ps)
def chE (ps:List qb):Nat→List (List Int)
 |0=>[[]]
 |k+1=>chE ps k++lvl ps (k+1)
theorem qwd {ps:List qb}{c x:List Int}(h:x∈qc7 ps c):∃i:Nat,i<ps.length∧x=c++[(i:Int)]∧qgi ps x=true:=by
 obtain⟨i,hi,hx⟩:=List.mem_flatMap.1 h
 split at hx
 ·next hs=>
  obtain rfl:=List.mem_singleton.1 hx
  exact⟨i,List.mem_range.1 hi,rfl,hs⟩
 ·cases hx
structure jy (ps:List qb)(k:Nat)(c:List Int):Prop where
 len:c.length=k
 idx:qdz ps c
theorem qnz {ps:List qb}:∀ {k:Nat} {c:List Int},c∈lvl ps k→jy ps k c
 |0,c,h=>by
  obtain rfl:=List.mem_singleton.1 h
  exact⟨rfl,by simp[qdz]⟩
 |k+1,c,h=>by
  obtain⟨a,ha,hc⟩:=List.mem_flatMap.1 h
  obtain⟨i,hi,rfl,_⟩:=qwd hc
  obtain⟨h1,h2⟩:=qnz ha
  refine⟨by rw[List.length_append,h1];rfl,fun x hx=>?_⟩
  rcases List.mem_append.1 hx with hx|hx
  ·exact h2 x hx
  ·rw[List.mem_singleton.1 hx];omega
theorem qti {ps:List qb}:∀ {n:Nat} {c:List Int},c∈chE ps n→c.length≤n∧qdz ps c
 |0,c,h=>by
  obtain rfl:=List.mem_singleton.1 h
  exact⟨Nat.le_refl _,by simp[qdz]⟩
 |n+1,c,h=>by
  rcases List.mem_append.1 h with h|h
  ·obtain⟨h1,h2⟩:=qti h
   exact⟨by omega,h2⟩
  ·obtain⟨h1,h2⟩:=qnz h
   exact⟨by omega,h2⟩
theorem q92 {c:List Int}{x y:Int}:qh3 (c++[x]) (c++[y])=if x<y then -1 else if y<x then 1 else 0:=by
 induction c with
 |nil=>rfl
 |cons a c ih=>
  show(if a<a then(-1:Int)else if a<a then 1 else qh3 (c++[x]) (c++[y]))=_
  rw[if_neg (by omega),if_neg (by omega),ih]
theorem jdg {a b:List Int}{s t:List Int}(hl:a.length=b.length)(h:qh3 a b=1):qh3 (a++s) (b++t)=1:=by
 induction a generalizing b with
 |nil=>
  cases b with
  |nil=>cases h
  |cons y b=>simp at hl
 |cons x a ih=>
  cases b with
  |nil=>simp at hl
  |cons y b=>
   simp only[List.length_cons,Nat.add_right_cancel_iff]at hl
   show(if x<y then(-1:Int)else if y<x then 1 else qh3 (a++s) (b++t))=1
   have h':(if x<y then(-1:Int)else if y<x then 1 else qh3 a b)=1:=h
   split at h'
   ·cases h'
   ·next h1=>
    rw[if_neg h1]
    split at h'
    ·next h2=>rw[if_pos h2]
    ·next h2=>rw[if_neg h2];exact ih hl h'
def Inc (L:List (List Int)):Prop:=L.Pairwise fun x y=>qtc y x=1
theorem qyr {x y:List Int}(h:x.length=y.length):qtc y x=qh3 y x:=by
 unfold qtc
 rw[if_neg (by omega),if_neg (by omega)]
theorem jfa {ps:List qb}{c:List Int}:Inc (qc7 ps c):=by
 unfold Inc qc7
 rw[List.pairwise_flatMap]
 constructor
 ·intro i _
  split
  ·exact List.pairwise_singleton _ _
  ·exact List.Pairwise.nil
 ·have hr:(List.range ps.length).Pairwise (· < ·):=List.pairwise_lt_range
  refine hr.imp ?_
  intro i j hij x hx y hy
  split at hx
  ·split at hy
   ·obtain rfl:=List.mem_singleton.1 hx
    obtain rfl:=List.mem_singleton.1 hy
    rw[qyr (by simp),q92,if_neg (by omega),if_pos (by omega)]
   ·cases hy
  ·cases hx
theorem q52 {ps:List qb}:∀k:Nat,Inc (lvl ps k)
 |0=>List.pairwise_singleton _ _
 |k+1=>by
  show((lvl ps k).flatMap (qc7 ps)).Pairwise _
  rw[List.pairwise_flatMap]
  refine⟨fun c _=>jfa,?_⟩
  have ih:=q52 (ps:=ps) k
  have hm:∀x∈lvl ps k,x.length=k:=fun x h=>(qnz h).len
  refine(List.Pairwise.and_mem.1 ih).imp ?_
  intro a b hab x hx y hy
  obtain⟨ha,hb,h⟩:=hab
  obtain⟨i,_,rfl,_⟩:=qwd hx
  obtain⟨j,_,rfl,_⟩:=qwd hy
  have l1:=hm a ha
  have l2:=hm b hb
  rw[qyr (by omega)]at h
  rw[qyr (by simp;omega)]
  exact jdg (by omega) h
theorem q6k {ps:List qb}:∀n:Nat,Inc (chE ps n)
 |0=>List.pairwise_singleton _ _
 |n+1=>by
  show(chE ps n++lvl ps (n+1)).Pairwise _
  rw[List.pairwise_append]
  refine⟨q6k n,q52 (n+1),fun x hx y hy=>?_⟩
  have h1:=(qti hx).1
  have h2:=(qnz hy).len
  unfold qtc
  rw[if_neg (by omega),if_pos (by omega)]
theorem jio {L:List (List Int)}(h:Inc L)(hl:∀x∈L,x.length≤1000):Srt L:=by
 refine⟨hl,fun i j x y hij hx hy=>?_⟩
 have hi:=(List.getElem?_eq_some_iff.1 hx)
 have hj:=(List.getElem?_eq_some_iff.1 hy)
 obtain⟨h1,rfl⟩:=hi
 obtain⟨h2,rfl⟩:=hj
 have:=List.pairwise_iff_getElem.1 h i j h1 h2 hij
 rw[this]
 decide
theorem q4l {ps:List qb}{c:List Int}:(qc7 ps c).length≤ps.length:=by
 unfold qc7
 have:∀m:List Nat,(m.flatMap fun(i:Nat)=>if qgi ps (c++[(i:Int)])then [c++[(i:Int)]]else []).length≤m.length:=by
  intro m
  induction m with
  |nil=>exact Nat.le_refl _
  |cons x m ih=>
   rw[List.flatMap_cons,List.length_append,List.length_cons]
   split
   ·simp only[List.length_cons,List.length_nil];omega
   ·simp only[List.length_nil];omega
 have:=this (List.range ps.length)
 rwa [List.length_range]at this
theorem q2k {α β:Type}{f:α→List β}{n:Nat}(h:∀x,(f x).length≤n):∀l:List α,(l.flatMap f).length≤l.length*n
 | []=>by simp
 |x::l=>by
  rw[List.flatMap_cons,List.length_append,List.length_cons,Nat.add_mul,Nat.one_mul]
  have:=h x
  have:=q2k h l
  omega
theorem qn4 {ps:List qb}:∀k:Nat,(lvl ps k).length≤ps.length^k
 |0=>Nat.le_refl _
 |k+1=>by
  have h1:(lvl ps (k+1)).length≤(lvl ps k).length*ps.length:=q2k (fun _=>q4l) _
  have h2:=qn4 (ps:=ps) k
  have h3:(lvl ps k).length*ps.length≤ps.length^k*ps.length:=Nat.mul_le_mul_right _ h2
  rw[Nat.pow_succ]
  omega
def qvv (ps:List qb)(n:Nat):Prop:=(ps.length≤4∧n≤2)∨(ps.length≤2∧n≤3)
theorem quz {ps:List qb}{n k:Nat}(h:qvv ps n)(hk:k≤n):(lvl ps k).length≤16:=by
 have h1:=qn4 (ps:=ps) k
 have:ps.length^k≤16:=by
  rcases h with⟨h2,h3⟩|⟨h2,h3⟩
  ·have e1:ps.length^k≤4^k:=Nat.pow_le_pow_left h2 k
   have e2:4^k≤4^2:=Nat.pow_le_pow_right (by decide) (by omega)
   omega
  ·have e1:ps.length^k≤2^k:=Nat.pow_le_pow_left h2 k
   have e2:2^k≤2^3:=Nat.pow_le_pow_right (by decide) (by omega)
   omega
 omega
theorem q15 {ps:List qb}{n i:Nat}(h:qvv ps n)(hi:i≤n):qvv ps i:=h.elim (fun h=>.inl ⟨h.1,by have:=h.2;omega⟩) (fun h=>.inr ⟨h.1,by have:=h.2;omega⟩)
theorem qul {ps:List qb}:∀n:Nat,1≤(chE ps n).length
 |0=>Nat.le_refl _
 |n+1=>by
  have:=qul (ps:=ps) n
  show 1≤(chE ps n++lvl ps (n+1)).length
  rw[List.length_append];omega
theorem qtq {ps:List qb}{n:Nat}(h:qvv ps n):(chE ps n).length≤21:=by
 have l0:(lvl ps 0).length=1:=rfl
 have l1:=qn4 (ps:=ps) 1
 have l2:=qn4 (ps:=ps) 2
 have l3:=qn4 (ps:=ps) 3
 have e1:ps.length^1=ps.length:=Nat.pow_one _
 have e2:ps.length^2=ps.length*ps.length:=Nat.pow_two _
 have e3:ps.length^3=ps.length*ps.length*ps.length:=by rw[Nat.pow_succ,e2]
 have c0:(chE ps 0).length=1:=rfl
 have c1:(chE ps 1).length=1+(lvl ps 1).length:=by show(chE ps 0++lvl ps 1).length=_;rw[List.length_append];rfl
 have c2:(chE ps 2).length=1+(lvl ps 1).length+(lvl ps 2).length:=by show(chE ps 1++lvl ps 2).length=_;rw[List.length_append,c1]
 have c3:(chE ps 3).length=1+(lvl ps 1).length+(lvl ps 2).length+(lvl ps 3).length:=by show(chE ps 2++lvl ps 3).length=_;rw[List.length_append,c2]
 rcases h with⟨h2,h3⟩|⟨h2,h3⟩
 ·have m:ps.length*ps.length≤4*4:=Nat.mul_le_mul h2 h2
  match n,h3 with
  |0,_=>omega
  |1,_=>omega
  |2,_=>omega
 ·have m:ps.length*ps.length≤2*2:=Nat.mul_le_mul h2 h2
  have m3:ps.length*ps.length*ps.length≤2*2*2:=Nat.mul_le_mul m h2
  match n,h3 with
  |0,_=>omega
  |1,_=>omega
  |2,_=>omega
  |3,_=>omega
def nnL (L:List (List Int)):List (Option (List Int)):=L.map zb
theorem jha {c:List Int}(h:c.length≤1000):∃b,f161 (zb c)=some (zb c,b)∧(b=true∨(b=false∧(zb c).isNone=true)):=by
 cases c with
 |nil=>exact⟨false,rfl,.inr ⟨rfl,rfl⟩⟩
 |cons a l=>
  refine⟨true,?_,.inl rfl⟩
  unfold f161 apO
  rw[if_pos (by simp[zb]at h ⊢;omega)]
  rfl
theorem jv8 {c:List Int}{i:Int}(h:c.length≤1000):apO (zb c) [i]=some (zb (c++[i])):=qqv (by omega)
section
variable {o:Option (List qb)}
theorem q0h (hz:qcs (o.getD [])=0){c:List Int}(hc:c.length≤3)(hx:qdz (o.getD []) c):∃t,f138 o (zb c)=some (t,qgi (o.getD []) c)∧f72 o (zb c)=some (t,qgi (o.getD []) c):=by
 have hn:=(qcv hz).1
 have hp:=(qcv hz).2
 have e1:=jgr (ps:=o) (ch:=zb c) (by omega) (by rw[ya];exact hc) (by rw[ya];exact hx) hp
 have e2:=jj9 (ps:=o) (ch:=zb c) (by omega) (by rw[ya];exact hc) (by rw[ya];exact hx) hp
 rw[ya]at e1 e2
 unfold qgi
 cases ht:qig (o.getD []) c with
 |some l=>rw[ht]at e1 e2;exact⟨_,e1,e2⟩
 |none=>rw[ht]at e1 e2;exact⟨_,e1,e2⟩
theorem jwf (hz:qcs (o.getD [])=0){n:Int}{s0:Option (List (Option (List Int)))×Option (List (Option (List Int)))×Int}{s1:Option (List (Option (List Int)))×Int×Bool}{c:List Int}(hc:c.length≤2)(hx:qdz (o.getD []) c){A:List (List Int)}(hA:A.length≤1000):
  itO (qiw o n s0 s1 (zb c)) (zb (nnL A),0,kh (nnL A))=some (zb (nnL (A++qc7 (o.getD []) c)),kh (nnL (A++qc7 (o.getD []) c)),((o.getD []).length:Int)):=by
 have hn:=(qcv hz).1
 have hl:(List.range (o.getD []).length).length=(o.getD []).length:=by simp
 have:=qe2 (List.range (o.getD []).length) (fun i=>(i:Int)) (qiw o n s0 s1 (zb c)) (fun i=>nnL (if qgi (o.getD []) (c++[(i:Int)])then [c++[(i:Int)]]else [])) (nnL A) (fun i a=>a.length≤1000+i) (by unfold nnL;rw[List.length_map];omega) (fun a=>by rw[hl];unfold qiw;dsimp only;rw[yu];rfl) (fun i x a hx' hi hI=>by
  rw[hl]at hi
  have hxi:x=i:=by
   rw[List.getElem?_range hi]at hx'
   exact(Option.some.inj hx').symm
  subst hxi
  obtain⟨t,e1,_⟩:=q0h hz (c:=c++[(x:Int)]) (by rw[List.length_append];simp only[List.length_cons,List.length_nil];omega) (by
   intro y hy
   rcases List.mem_append.1 hy with hy|hy
   ·exact hx y hy
   ·rw[List.mem_singleton.1 hy];omega)
  refine⟨?_,?_⟩
  ·rw[List.length_append]
   unfold nnL
   rw[List.length_map]
   split
   ·simp only[List.length_cons,List.length_nil];omega
   ·simp only[List.length_nil];omega
  ·obtain⟨b,k1,k2⟩:=jha (c:=c) (by omega)
   unfold qiw
   dsimp only
   rw[kc hi,cT,k1,j6,jv8 (i:=(x:Int)) (by omega),j6,yb hi (by omega),e1,j6]
   have hfin:(cond (qgi (o.getD []) (c++[(x:Int)])) (cond (kh a) (j5 (apO (zb a) [zb (c++[(x:Int)])]) fun v896=>some (.inl (v896,((x+1:Nat):Int),true))) (cond (zb a).isNone (j5 (apO (zb a) [zb (c++[(x:Int)])]) fun v899=>some (.inl (v899,((x+1:Nat):Int),true))) none)) (some (.inl (zb a,((x+1:Nat):Int),kh a))):Option ((Option (List (Option (List Int)))×Int×Bool)⊕(Option (List (Option (List Int)))×Bool×Int)))=some (.inl (zb (a++nnL (if qgi (o.getD []) (c++[(x:Int)])then [c++[(x:Int)]]else [])),((x+1:Nat):Int),kh (a++nnL (if qgi (o.getD []) (c++[(x:Int)])then [c++[(x:Int)]]else [])))):=by
    cases qgi (o.getD []) (c++[(x:Int)])with
    |true=>
     rw[cT,qbk (by omega)]
     simp[nnL,qck]
    |false=>simp[nnL]
   rcases k2 with rfl|⟨rfl,k3⟩
   ·dsimp only
    rw[cT];exact hfin
   ·dsimp only
    rw[cF,k3,cT];exact hfin)
 rw[hl]at this
 have e:nnL A++(List.range (o.getD []).length).flatMap (fun(i:Nat)=>nnL (if qgi (o.getD []) (c++[(i:Int)])then [c++[(i:Int)]]else []))=nnL (A++qc7 (o.getD []) c):=by
  unfold nnL qc7
  rw[List.map_append,List.map_flatMap]
 rw[e]at this
 exact this
theorem jpo (hz:qcs (o.getD [])=0){n:Int}{s0:Option (List (Option (List Int)))×Option (List (Option (List Int)))×Int×Bool}{s1:Option (List (Option (List Int)))×Int×Bool}{c:List Int}(hc:c.length≤2)(hx:qdz (o.getD []) c)(h0:yd (s0.2.1.getD []) s1.2.1=some (zb c)){A:List (List Int)}(hA:A.length≤1000):
  itO (qjl o n s0 s1) (zb (nnL A),0,kh (nnL A))=some (zb (nnL (A++qc7 (o.getD []) c)),kh (nnL (A++qc7 (o.getD []) c)),((o.getD []).length:Int)):=by
 have hn:=(qcv hz).1
 have hl:(List.range (o.getD []).length).length=(o.getD []).length:=by simp
 have:=qe2 (List.range (o.getD []).length) (fun i=>(i:Int)) (qjl o n s0 s1) (fun i=>nnL (if qgi (o.getD []) (c++[(i:Int)])then [c++[(i:Int)]]else [])) (nnL A) (fun i a=>a.length≤1000+i) (by unfold nnL;rw[List.length_map];omega) (fun a=>by rw[hl];unfold qjl;dsimp only;rw[yu];rfl) (fun i x a hx' hi hI=>by
  rw[hl]at hi
  have hxi:x=i:=by
   rw[List.getElem?_range hi]at hx'
   exact(Option.some.inj hx').symm
  subst hxi
  obtain⟨t,_,e1⟩:=q0h hz (c:=c++[(x:Int)]) (by rw[List.length_append];simp only[List.length_cons,List.length_nil];omega) (by
   intro y hy
   rcases List.mem_append.1 hy with hy|hy
   ·exact hx y hy
   ·rw[List.mem_singleton.1 hy];omega)
  refine⟨?_,?_⟩
  ·rw[List.length_append]
   unfold nnL
   rw[List.length_map]
   split
   ·simp only[List.length_cons,List.length_nil];omega
   ·simp only[List.length_nil];omega
  ·have hcl:j5 (apO (some []) ((zb c).getD [])) (fun y=>apO y [(x:Int)])=some (zb (c++[(x:Int)])):=by
    have e:apO (some []) ((zb c).getD [])=some (some c):=by
     unfold apO
     rw[ya,if_pos (by simp;omega)]
     cases c<;>rfl
    rw[e,j6]
    unfold apO
    rw[if_pos (by simp;omega)]
    cases c<;>rfl
   unfold qjl
   dsimp only
   rw[kc hi,cT,h0,j6,yb hi (by omega)]
   cases h1:apO (some []) ((zb c).getD [])with
   |none=>rw[h1]at hcl;cases hcl
   |some y=>
    rw[h1,j6]at hcl
    rw[j6,hcl,j6,e1,j6]
    cases qgi (o.getD []) (c++[(x:Int)])with
    |true=>
     simp only[cT]
     rw[qbk (by omega)]
     simp[nnL,qck]
    |false=>simp[nnL])
 rw[hl]at this
 have e:nnL A++(List.range (o.getD []).length).flatMap (fun(i:Nat)=>nnL (if qgi (o.getD []) (c++[(i:Int)])then [c++[(i:Int)]]else []))=nnL (A++qc7 (o.getD []) c):=by
  unfold nnL qc7
  rw[List.map_append,List.map_flatMap]
 rw[e]at this
 exact this
theorem q3r {o:Option (List qb)}{L:List (List Int)}{f:Option (List (Option (List Int)))×Int×Bool→Option ((Option (List (Option (List Int)))×Int×Bool)⊕(Option (List (Option (List Int)))×Bool×Int))}(hL:L.length≤16)(hps:(o.getD []).length≤6)
  (hend:∀a,f (zb a,(L.length:Int),kh a)=some (.inr (zb a,kh a,(L.length:Int))))
  (hstep:∀(i:Nat) c (A:List (List Int)),L[i]?=some c→i<L.length→A.length≤1000→f (zb (nnL A),(i:Int),kh (nnL A))=some (.inl (zb (nnL (A++qc7 (o.getD []) c)),((i+1:Nat):Int),kh (nnL (A++qc7 (o.getD []) c))))):
  itO f (none,0,false)=some (zb (nnL (L.flatMap (qc7 (o.getD [])))),kh (nnL (L.flatMap (qc7 (o.getD [])))),(L.length:Int)):=by
 have key:∀(k i:Nat) (A:List (List Int)),i+k=L.length→A.length≤6*i→itO f (zb (nnL A),(i:Int),kh (nnL A))=some (zb (nnL (A++(L.drop i).flatMap (qc7 (o.getD [])))),kh (nnL (A++(L.drop i).flatMap (qc7 (o.getD [])))),(L.length:Int)):=by
  intro k
  induction k with
  |zero=>
   intro i A hi hA
   have:i=L.length:=by omega
   subst this
   rw[qab (hend _),List.drop_eq_nil_of_le (Nat.le_refl _),List.flatMap_nil,List.append_nil]
  |succ k ih=>
   intro i A hi hA
   have hlt:i<L.length:=by omega
   have hx:L[i]?=some L[i]:=List.getElem?_eq_getElem hlt
   have hel:=q4l (ps:=o.getD []) (c:=L[i])
   rw[qbi (hstep i _ A hx hlt (by omega)),ih (i+1) _ (by omega) (by rw[List.length_append];omega),kl hx,List.flatMap_cons,List.append_assoc]
 have:=key L.length 0 [] (by omega) (by simp)
 rw[List.drop_zero,List.nil_append]at this
 exact this
theorem qde {L:List (List Int)}:(zb (nnL L)).getD []=nnL L:=ya _
theorem qt5 {L:List (List Int)}{i:Nat}{c:List Int}(h:L[i]?=some c):yd ((zb (nnL L)).getD []) (i:Int)=some (zb c):=by
 rw[qde,qgg]
 unfold nnL
 rw[List.getElem?_map,h];rfl
theorem ja2 {A B:List (List Int)}(h:A.length+B.length≤1000)(hA:A≠[]):apO (zb (nnL A)) (nnL B)=some (zb (nnL (A++B))):=by
 unfold apO
 have hl:((zb (nnL A)).getD []).length=A.length:=by rw[qde];unfold nnL;rw[List.length_map]
 rw[if_pos (by rw[hl];unfold nnL;rw[List.length_map];omega)]
 cases A with
 |nil=>exact absurd rfl hA
 |cons a A=>
  show some (apS (some (zb a::A.map zb)) (nnL B))=_
  cases B with
  |nil=>simp[apS,nnL,zb]
  |cons b B=>simp[apS,nnL,zb]
theorem jig {n:Nat}(hz:qcs (o.getD [])=0)(hf:qvv (o.getD []) n):f115 o (n:Int)=some (zb (nnL (chE (o.getD []) n))):=by
 have hn:=(qcv hz).1
 have hn3:n≤3:=by rcases hf with h|h<;>omega
 have key:∀(k i:Nat),i+k=n→∃d,itO (qhh o (n:Int)) (zb (nnL (chE (o.getD []) i)),zb (nnL (lvl (o.getD []) i)),(i:Int))=some d∧d.1=zb (nnL (chE (o.getD []) n)):=by
  intro k
  induction k with
  |zero=>
   intro i hi
   have:i=n:=by omega
   subst this
   refine⟨(zb (nnL (chE (o.getD []) i)),zb (nnL (lvl (o.getD []) i)),(i:Int)),qab ?_,rfl⟩
   unfold qhh
   dsimp only
   rw[yu];rfl
  |succ k ih=>
   intro i hi
   have hlt:i<n:=by omega
   have hli:=quz hf (k:=i) (by omega)
   have hli1:=quz hf (k:=i+1) (by omega)
   have hmid:=q3r (o:=o) (L:=lvl (o.getD []) i) (f:=qmq o (n:Int) (zb (nnL (chE (o.getD []) i)),zb (nnL (lvl (o.getD []) i)),(i:Int))) hli hn (fun a=>by
     unfold qmq
     dsimp only
     rw[qde]
     unfold nnL
     rw[List.length_map,yu];rfl) (fun j c A hc hj hA=>by
     obtain⟨k1,k2⟩:=qnz (List.mem_of_getElem? hc)
     have hlj:(j:Int)<((nnL (lvl (o.getD []) i)).length:Int):=by unfold nnL;rw[List.length_map];omega
     unfold qmq
     dsimp only
     rw[qt5 hc,qde,dT hlj,cT,j6,jwf hz (by omega) k2 hA,j6,yb hj (by omega)])
   have e:qhh o (n:Int) (zb (nnL (chE (o.getD []) i)),zb (nnL (lvl (o.getD []) i)),(i:Int))=some (.inl (zb (nnL (chE (o.getD []) (i+1))),zb (nnL (lvl (o.getD []) (i+1))),((i+1:Nat):Int))):=by
    have hce:(chE (o.getD []) i).length≤21:=qtq (q15 hf (by omega))
    have hp:=qul (ps:=o.getD []) i
    unfold qhh
    dsimp only
    rw[dT (show(i:Int)<(n:Int) by omega),cT,hmid,j6]
    dsimp only
    rw[qde,show(lvl (o.getD []) i).flatMap (qc7 (o.getD []))=lvl (o.getD []) (i+1)from rfl,ja2 (by omega) (by intro h;rw[h]at hp;simp at hp),j6,yz (x:=(i:Int)+1) (by omega) (by omega)]
    rfl
   obtain⟨d,g1,g2⟩:=ih (i+1) (by omega)
   exact⟨d,by rw[qbi e];exact g1,g2⟩
 obtain⟨d,g1,g2⟩:=key n 0 (by omega)
 have g1':itO (qhh o (n:Int)) (some [none],some [none],0)=some d:=g1
 have hs:=jio (q6k (ps:=o.getD []) n) (fun x h=>by have:=(qti h).1;omega)
 unfold f115
 rw[g1',j6,g2,jix (L:=chE (o.getD []) n) qde hs (qul n) (by have:=qtq hf;omega),j6]
theorem jg3 {n:Nat}(hz:qcs (o.getD [])=0)(hf:qvv (o.getD []) n):f120 o (n:Int)=some (zb (nnL (chE (o.getD []) n))):=by
 have hn:=(qcv hz).1
 have hn3:n≤3:=by rcases hf with h|h<;>omega
 have key:∀(k i:Nat) (b:Bool),i+k=n→∃d,itO (qg1 o (n:Int)) (zb (nnL (chE (o.getD []) i)),zb (nnL (lvl (o.getD []) i)),((i+1:Nat):Int),b)=some d∧d.1=zb (nnL (chE (o.getD []) n)):=by
  intro k
  induction k with
  |zero=>
   intro i b hi
   have:i=n:=by omega
   subst this
   refine⟨(zb (nnL (chE (o.getD []) i)),zb (nnL (lvl (o.getD []) i)),b,((i+1:Nat):Int)),qab ?_,rfl⟩
   unfold qg1
   dsimp only
   rw[dF (show ¬((i+1:Nat):Int)≤(i:Int) by omega)];rfl
  |succ k ih=>
   intro i b hi
   have hlt:i<n:=by omega
   have hli:=quz hf (k:=i) (by omega)
   have hli1:=quz hf (k:=i+1) (by omega)
   have hmid:=q3r (o:=o) (L:=lvl (o.getD []) i) (f:=qlp o (n:Int) (zb (nnL (chE (o.getD []) i)),zb (nnL (lvl (o.getD []) i)),((i+1:Nat):Int),b)) hli hn (fun a=>by
     unfold qlp
     dsimp only
     rw[qde]
     unfold nnL
     rw[List.length_map,yu];rfl) (fun j c A hc hj hA=>by
     obtain⟨k1,k2⟩:=qnz (List.mem_of_getElem? hc)
     have hlj:(j:Int)<((nnL (lvl (o.getD []) i)).length:Int):=by unfold nnL;rw[List.length_map];omega
     unfold qlp
     dsimp only
     rw[qde,dT hlj,cT,jpo hz (by omega) k2 (qt5 hc) hA,j6,yb hj (by omega)])
   have e:qg1 o (n:Int) (zb (nnL (chE (o.getD []) i)),zb (nnL (lvl (o.getD []) i)),((i+1:Nat):Int),b)=some (.inl (zb (nnL (chE (o.getD []) (i+1))),zb (nnL (lvl (o.getD []) (i+1))),((i+1+1:Nat):Int),false)):=by
    have hce:(chE (o.getD []) i).length≤21:=qtq (q15 hf (by omega))
    have hp:=qul (ps:=o.getD []) i
    unfold qg1
    dsimp only
    rw[dT (show((i+1:Nat):Int)≤(n:Int) by omega),cT,hmid,j6]
    dsimp only
    rw[qde,show(lvl (o.getD []) i).flatMap (qc7 (o.getD []))=lvl (o.getD []) (i+1)from rfl,ja2 (by omega) (by intro h;rw[h]at hp;simp at hp),j6,yz (x:=((i+1:Nat):Int)+1) (by omega) (by omega)]
    rfl
   obtain⟨d,g1,g2⟩:=ih (i+1) false (by omega)
   exact⟨d,by rw[qbi e];exact g1,g2⟩
 obtain⟨d,g1,g2⟩:=key n 0 true (by omega)
 have g1':itO (qg1 o (n:Int)) (some [none],some [none],1,true)=some d:=g1
 unfold f120
 rw[g1',j6,g2]
end
def qc8 (ps:List qb):List Int→List qb
 | []=>[]
 |i::ch=>(match ps[i.toNat]? with|some p=>[p]|none=>[])++qc8 ps ch
theorem qji {ps:List qb}:∀ {ch:List Int},qdz ps ch→jd ps ch (qc8 ps ch)
 | [],_=>⟨rfl,by simp,by simp[qc8]⟩
 |i::ch,h=>by
  have hq:=qji (ps:=ps) (ch:=ch) fun c hc=>h c (List.mem_cons_of_mem _ hc)
  have hi:=h i (List.mem_cons_self ..)
  have hlt:i.toNat<ps.length:=by omega
  have hx:ps[i.toNat]?=some ps[i.toNat]:=List.getElem?_eq_getElem hlt
  have e:qc8 ps (i::ch)=ps[i.toNat]::qc8 ps ch:=by
   show(match ps[i.toNat]? with|some p=>[p]|none=>[])++qc8 ps ch=_
   rw[hx];rfl
  rw[e]
  refine⟨by simp[hq.len],?_,?_⟩
  ·intro k j hk
   cases k with
   |zero=>
    simp only[List.getElem?_cons_zero,Option.some.injEq]at hk
    subst hk
    refine⟨_,rfl,?_⟩
    unfold yd
    rw[if_pos hi.1,hx]
   |succ k=>
    simp only[List.getElem?_cons_succ]at hk ⊢
    exact hq.at_ k j hk
  ·intro q hm
   rcases List.mem_cons.1 hm with rfl|hm
   ·exact List.getElem_mem hlt
   ·exact hq.mem q hm
def flt (ps:List qb)(bs:List qp)(c:List Int):Option (Nat×List qk):=qeb (qb1 false (qc8 ps c) []) 0 bs
section
variable {o:Option (List qb)}{b:Option (List qp)}
theorem q4b (hz:qcs (o.getD [])=0)(hb:qgh (b.getD [])=0){c:Option (List Int)}(hc:(c.getD []).length≤3)(hx:qdz (o.getD []) (c.getD [])):
  f117 o c b=some (qfv (flt (o.getD []) (b.getD []) (c.getD [])))∧f79 o c b=some (qfv (flt (o.getD []) (b.getD []) (c.getD []))):=by
 have hp:=qji hx
 obtain⟨ok1,ok2⟩:=q9n (c:=false) hz hp hc
 obtain⟨⟨b1,b8⟩,hb0⟩:=qse hb
 exact⟨jin hp ok1 (by rw[hp.len];omega) hb0 b8 ok2,jmv hp ok1 hc hb0 b8 ok2⟩
end
def qyc (ps:List qb)(bs:List qp)(n:Int):Int:=kf [qcs ps,qgh bs,yf n 0 3]
theorem jg6 {o:Option (List qb)}{b:Option (List qp)}{n:Int}:f114 o b n=some (qyc (o.getD []) (b.getD []) n):=by
 unfold f114
 rw[ja3,j6,jnn,j6,qps,j6,qfc (by simp),j6]
 rfl
theorem jv5 {a b c:Int}:f32 (some [a,b,c])=some (kf [a,b,c]):=by unfold f32;rw[qmg (by simp)];rfl
theorem jlk {o:Option (List qb)}{bs:Option (List qp)}{n:Int}:∃b,f36 o bs n=some b∧(b=true→qmk (o.getD [])=true∧(bs.getD []).length≤9∧(n≤2∨3<n∨(o.getD []).length≤2)):=by
 unfold f36
 rw[jkz,j6]
 cases hs:qmk (o.getD [])with
 |false=>exact⟨false,rfl,fun h=>by cases h⟩
 |true=>
  rw[cT]
  have fin:∃b,(cond (decide (n≤2)) (some true) (cond (decide (3<n)) (some true) (some (decide (((o.getD []).length:Int)≤2)))):Option Bool)=some b∧(b=true→(n≤2∨3<n∨(o.getD []).length≤2)):=by
   by_cases h1:n≤2
   ·rw[dT h1];exact⟨_,rfl,fun _=>.inl h1⟩
   ·rw[dF h1]
    by_cases h2:3<n
    ·rw[dT h2];exact⟨_,rfl,fun _=>.inr (.inl h2)⟩
    ·rw[dF h2];exact⟨_,rfl,fun h=>.inr (.inr (by have:=of_decide_eq_true h;omega))⟩
  obtain⟨b,f1,f2⟩:=fin
  by_cases h4:((bs.getD []).length:Int)≤4
  ·rw[dT h4,cT]
   exact⟨b,f1,fun h=>⟨rfl,by omega,f2 h⟩⟩
  ·rw[dF h4,cF]
   by_cases h9:((bs.getD []).length:Int)=9
   ·rw[dT h9,cT]
    exact⟨b,f1,fun h=>⟨rfl,by omega,f2 h⟩⟩
   ·rw[dF h9]
    exact⟨false,rfl,fun h=>by cases h⟩
theorem jnm {ps:List qb}{n:Nat}(hs:qmk ps=true)(hz:qcs ps=0)(hn:n≤3)(h:(n:Int)≤2∨3<(n:Int)∨ps.length≤2):qvv ps n:=by
 have h6:=(qcv hz).1
 unfold qmk at hs
 simp only[Bool.and_eq_true,Bool.or_eq_true,decide_eq_true_eq]at hs
 rcases h with h|h|h
 ·exact .inl ⟨by omega,by omega⟩
 ·omega
 ·exact .inr ⟨h,hn⟩
theorem q6u {a b:Option (List Int)}(hn:(a.getD []).length≤1073741824):f42 a b=some (decide (a.getD []=b.getD [])):=by
 by_cases h:a.getD []=b.getD []
 ·rw[q31 hn h,dT h]
 ·rw[dF h]
  unfold f42
  by_cases hl:((a.getD []).length:Int)=((b.getD []).length:Int)
  ·rw[dT hl,cT]
   have hl':(a.getD []).length=(b.getD []).length:=by omega
   obtain⟨d,g1,g2⟩:=qc3 ((a.getD []).zip (b.getD [])) (qip a b) (fun p=>decide (p.1=p.2)) (fun d=>match d with | .inl _=>false | .inr _=>true) ⟨.inr _,by unfold qip;rw[List.length_zip,←hl',Nat.min_self,yu];rfl,rfl⟩ (fun i x hx hi=>by
    obtain⟨k1,k2⟩:=qye hx
    have hi':i<(a.getD []).length:=by rw[List.length_zip]at hi;omega
    unfold qip
    rw[kc hi',cT,yn k1,j6,yn k2,j6,yb hi' (by omega)]
    by_cases hxx:x.1=x.2
    ·rw[dT hxx];exact .inl ⟨rfl,rfl⟩
    ·rw[dF hxx];exact .inr ⟨rfl,.inl (),rfl,rfl⟩)
   rw[g1,j6]
   have hno:((a.getD []).zip (b.getD [])).all (fun p=>decide (p.1=p.2))=false:=by
    cases ha:((a.getD []).zip (b.getD [])).all (fun p=>decide (p.1=p.2))with
    |false=>rfl
    |true=>
     refine absurd (List.ext_getElem? fun i=>?_) h
     by_cases hi:i<(a.getD []).length
     ·have h1:=List.getElem?_eq_getElem hi
      have h2:=List.getElem?_eq_getElem (show i<(b.getD []).length by omega)
      have hz:((a.getD []).zip (b.getD []))[i]?=some ((a.getD [])[i],(b.getD [])[i]'(by omega)):=by rw[List.getElem?_zip_eq_some];exact⟨h1,h2⟩
      have:=List.all_eq_true.1 ha _ (List.mem_of_getElem? hz)
      have he:(a.getD [])[i]=(b.getD [])[i]'(by omega):=by simpa using this
      rw[h1,h2,he]
     ·rw[List.getElem?_eq_none (by omega),List.getElem?_eq_none (by omega)]
   rw[hno]at g2
   rcases d with d|d
   ·rfl
   ·cases g2
  ·rw[dF hl];rfl
theorem jck {a b:Option (List Int)}(hn:(a.getD []).length≤1073741824):f144 a b=some (decide (a.getD []=b.getD [])):=q6u hn
def qh8 (ps:List qb)(bs:List qp):List (List Int)→Option (List qj)
 | []=>some []
 |c::L=>match flt ps bs c with
  |none=>none
  |some p=>(qh8 ps bs L).map fun r=>⟨zb c,p.1,zb p.2⟩::r
section
variable {o:Option (List qb)}{b:Option (List qp)}
theorem q3k {L:List (List Int)}{ps:List qb}{bs:List qp}{f:Option (List qj)×Int×Bool→Option ((Option (List qj)×Int×Bool)⊕((Int×Option (List qk))⊕(Option (List qj)×Bool×Int)))}(hn:L.length≤1000)
  (hend:∀a,f (zb a,(L.length:Int),kh a)=some (.inr (.inr (zb a,kh a,(L.length:Int)))))
  (hstep:∀(i:Nat) c a,L[i]?=some c→i<L.length→a.length≤1000→f (zb a,(i:Int),kh a)=(match flt ps bs c with|some p=>some (.inl (zb (a++[⟨zb c,p.1,zb p.2⟩]),((i+1:Nat):Int),kh (a++[⟨zb c,p.1,zb p.2⟩])))|none=>some (.inr (.inl (0,none))))):
  ∃d,itO f (none,0,false)=some d∧(match d with | .inl _=>none | .inr d=>some d.1)=(qh8 ps bs L).map zb:=by
 have key:∀(k i:Nat) (a:List qj),i+k=L.length→a.length=i→∃d,itO f (zb a,(i:Int),kh a)=some d∧(match d with | .inl _=>none | .inr d=>some d.1)=(qh8 ps bs (L.drop i)).map fun r=>zb (a++r):=by
  intro k
  induction k with
  |zero=>
   intro i a hi ha
   have:i=L.length:=by omega
   subst this
   refine⟨_,qab (hend a),?_⟩
   rw[List.drop_eq_nil_of_le (Nat.le_refl _)]
   simp[qh8]
  |succ k ih=>
   intro i a hi ha
   have hlt:i<L.length:=by omega
   have hx:L[i]?=some L[i]:=List.getElem?_eq_getElem hlt
   have hs:=hstep i _ a hx hlt (by omega)
   rw[kl hx]
   unfold qh8
   cases hf:flt ps bs L[i]with
   |none=>
    rw[hf]at hs
    exact⟨_,qab hs,rfl⟩
   |some p=>
    rw[hf]at hs
    obtain⟨d,g1,g2⟩:=ih (i+1) (a++[⟨zb L[i],p.1,zb p.2⟩]) (by omega) (by rw[List.length_append,ha];rfl)
    refine⟨d,by rw[qbi hs];exact g1,?_⟩
    rw[g2]
    cases qh8 ps bs (L.drop (i+1))<;>simp
 obtain⟨d,g1,g2⟩:=key L.length 0 [] (by omega) rfl
 refine⟨d,g1,?_⟩
 rw[List.drop_zero]at g2
 rw[g2]
 cases qh8 ps bs L<;>simp
theorem jho (hz:qcs (o.getD [])=0)(hb:qgh (b.getD [])=0){L:List (List Int)}(hL:∀c∈L,c.length≤3∧qdz (o.getD []) c)(hn:L.length≤1000):
  ∃d,itO (qqq o b (zb (nnL L))) (none,0,false)=some d∧(match d with | .inl _=>none | .inr d=>some d.1)=(qh8 (o.getD []) (b.getD []) L).map zb:=by
 have hlen:((nnL L).length:Int)=(L.length:Int):=by unfold nnL;rw[List.length_map]
 refine q3k hn (fun a=>by unfold qqq;dsimp only;rw[qde,hlen,yu];rfl) (fun i c a hc hi ha=>?_)
 obtain⟨h1,h2⟩:=hL c (List.mem_of_getElem? hc)
 obtain⟨e1,_⟩:=q4b (c:=zb c) hz hb (by rw[ya];exact h1) (by rw[ya];exact h2)
 rw[ya]at e1
 unfold qqq
 dsimp only
 rw[qt5 hc,qde,hlen,kc hi,cT,j6,e1,j6,yb hi (by omega)]
 cases flt (o.getD []) (b.getD []) c with
 |none=>rfl
 |some p=>
  show cond true _ _=_
  rw[cT,qbk (by omega)]
  simp[qck,qfv]
theorem jh2 (hz:qcs (o.getD [])=0)(hb:qgh (b.getD [])=0){L:List (List Int)}(hL:∀c∈L,c.length≤3∧qdz (o.getD []) c)(hn:L.length≤1000):
  ∃d,itO (qrb o b (zb (nnL L))) (none,0,false)=some d∧(match d with | .inl _=>none | .inr d=>some d.1)=(qh8 (o.getD []) (b.getD []) L).map zb:=by
 have hlen:((nnL L).length:Int)=(L.length:Int):=by unfold nnL;rw[List.length_map]
 refine q3k hn (fun a=>by unfold qrb;dsimp only;rw[qde,hlen,yu];rfl) (fun i c a hc hi ha=>?_)
 obtain⟨h1,h2⟩:=hL c (List.mem_of_getElem? hc)
 obtain⟨_,e1⟩:=q4b (c:=zb c) hz hb (by rw[ya];exact h1) (by rw[ya];exact h2)
 rw[ya]at e1
 unfold qrb
 dsimp only
 rw[qt5 hc,qde,hlen,kc hi,cT,j6,e1,j6,yb hi (by omega)]
 cases flt (o.getD []) (b.getD []) c with
 |none=>rfl
 |some p=>
  show cond true _ _=_
  rw[cT,qbk (by omega)]
  simp[qck,qfv]
def qnr (ps:List qb)(bs:List qp):List (qj×List Int)→Int
 | []=>0
 |(r,c)::l=>if r.choice.getD []=c then(if qbj (qc8 ps c) bs ⟨r.rband,r.rladder⟩=0 then qnr ps bs l else qbj (qc8 ps c) bs ⟨r.rband,r.rladder⟩)else 11
def q8h (ps:List qb)(bs:List qp)(r:List qj)(L:List (List Int)):Int:=if r.length=L.length then qnr ps bs (r.zip L)else 2
def jt6 (x y:qj):Prop:=x.choice.getD []=y.choice.getD []∧x.rband=y.rband∧x.rladder.getD []=y.rladder.getD []
theorem q5h {qs:List qb}{bs:List qp}{x y:qq}(h1:x.band=y.band)(h2:x.ladder.getD []=y.ladder.getD []):qbj qs bs x=qbj qs bs y:=by
 unfold qbj
 rw[h1,h2]
theorem q19 {δ:Type}{r:List qj}{L:List (List Int)}{ps:List qb}{bs:List qp}{f:Int→Option (Int⊕δ)}{V:δ→Int}(hl:r.length=L.length)
  (hend:∃d,f (r.length:Int)=some (.inr d)∧V d=0)
  (hstep:∀(i:Nat) x c,r[i]?=some x→L[i]?=some c→i<r.length→(if x.choice.getD []=c then(if qbj (qc8 ps c) bs ⟨x.rband,x.rladder⟩=0 then f (i:Int)=some (.inl ((i+1:Nat):Int))else ∃d,f (i:Int)=some (.inr d)∧V d=qbj (qc8 ps c) bs ⟨x.rband,x.rladder⟩)else ∃d,f (i:Int)=some (.inr d)∧V d=11)):
  ∃d,itO f 0=some d∧V d=qnr ps bs (r.zip L):=by
 have hzl:(r.zip L).length=r.length:=by rw[List.length_zip];omega
 have:=qc0 r.length (fun i=>(i:Int)) f V (fun i=>qnr ps bs ((r.zip L).drop i)) (by rw[List.drop_eq_nil_of_le (by omega)];exact hend) (fun i hi=>by
  have hx:(r.zip L)[i]?=some (r.zip L)[i]:=List.getElem?_eq_getElem (by omega)
  generalize (r.zip L)[i]=p at hx
  obtain⟨k1,k2⟩:=qye hx
  rw[kl hx]
  have hs:=hstep i p.1 p.2 k1 k2 hi
  obtain⟨x,c⟩:=p
  simp only[qnr]
  by_cases h1:x.choice.getD []=c
  ·rw[if_pos h1]at hs ⊢
   by_cases h2:qbj (qc8 ps c) bs ⟨x.rband,x.rladder⟩=0
   ·rw[if_pos h2]at hs ⊢
    exact .inl ⟨hs,rfl⟩
   ·rw[if_neg h2]at hs ⊢
    exact .inr hs
  ·rw[if_neg h1]at hs ⊢
   exact .inr hs)
 simpa using this
theorem q5u (hz:qcs (o.getD [])=0)(hb:qgh (b.getD [])=0){c:Option (List Int)}(hc:(c.getD []).length≤3)(hx:qdz (o.getD []) (c.getD [])){f:qq}:f141 f o c b=some (qbj (qc8 (o.getD []) (c.getD [])) (b.getD []) f)∧f80 o c b f=some (qbj (qc8 (o.getD []) (c.getD [])) (b.getD []) f):=
 ⟨jh5 hz (qji hx) hc (qse hb).2,jmp hz (qji hx) hc (qse hb).2⟩
theorem jhn (hz:qcs (o.getD [])=0)(hb:qgh (b.getD [])=0){L:List (List Int)}(hL:∀c∈L,c.length≤3∧qdz (o.getD []) c){r:Option (List qj)}(hr:∀x∈r.getD [],(x.choice.getD []).length≤1000)(hn:(r.getD []).length≤1000)(hl:(r.getD []).length=L.length):
  ∃d,itO (qre o b r (zb (nnL L))) 0=some d∧(match d with | .inl e=>e.1 | .inr _=>0)=qnr (o.getD []) (b.getD []) ((r.getD []).zip L):=by
 refine q19 hl ⟨.inr _,by unfold qre;rw[yu];rfl,rfl⟩ (fun i x c hx hc hi=>?_)
 obtain⟨h1,h2⟩:=hL c (List.mem_of_getElem? hc)
 have hx3:=hr x (List.mem_of_getElem? hx)
 unfold qre
 rw[kc hi,cT,yn hx,j6,qt5 hc,j6,jck (by omega),j6,ya,yb hi (by omega)]
 by_cases he:x.choice.getD []=c
 ·rw[if_pos he,dT he,cT,(q5u hz hb (c:=x.choice) (by rw[he];exact h1) (by rw[he];exact h2)).1,j6,he]
  by_cases h0:qbj (qc8 (o.getD []) c) (b.getD []) ⟨x.rband,x.rladder⟩=0
  ·rw[if_pos h0,dT h0];rfl
  ·rw[if_neg h0,dF h0];exact⟨.inl _,rfl,rfl⟩
 ·rw[if_neg he,dF he];exact⟨.inl _,rfl,rfl⟩
theorem jhf (hz:qcs (o.getD [])=0)(hb:qgh (b.getD [])=0){L:List (List Int)}(hL:∀c∈L,c.length≤3∧qdz (o.getD []) c){r:Option (List qj)}(hr:∀x∈r.getD [],(x.choice.getD []).length≤1000)(hn:(r.getD []).length≤1000)(hl:(r.getD []).length=L.length):
  ∃d,itO (qpx o b r (zb (nnL L))) 0=some d∧(match d with | .inl e=>e | .inr _=>0)=qnr (o.getD []) (b.getD []) ((r.getD []).zip L):=by
 refine q19 hl ⟨.inr _,by unfold qpx;rw[yu];rfl,rfl⟩ (fun i x c hx hc hi=>?_)
 obtain⟨h1,h2⟩:=hL c (List.mem_of_getElem? hc)
 have hx3:=hr x (List.mem_of_getElem? hx)
 unfold qpx
 rw[kc hi,cT,yn hx,j6,qt5 hc,j6,q6u (by omega),j6,ya,yb hi (by omega)]
 have e80:=(q5u hz hb (c:=zb c) (f:=⟨x.rband,x.rladder⟩) (by rw[ya];exact h1) (by rw[ya];exact h2)).2
 rw[ya]at e80
 by_cases he:x.choice.getD []=c
 ·rw[if_pos he,dT he,cT,e80,j6]
  by_cases h0:qbj (qc8 (o.getD []) c) (b.getD []) ⟨x.rband,x.rladder⟩=0
  ·rw[if_pos h0,dT h0];rfl
  ·rw[if_neg h0,dF h0];exact⟨.inl _,rfl,rfl⟩
 ·rw[if_neg he,dF he];exact⟨.inl _,rfl,rfl⟩
end
def cpy (x:qj):qj:=⟨some (x.choice.getD []),x.rband,zb (x.rladder.getD [])⟩
def jeu (x:qj):qj:=⟨x.choice,x.rband,zb (x.rladder.getD [])⟩
theorem jkd {o:Option (List qj)}(hn:(o.getD []).length≤1000)(h:∀x∈o.getD [],(x.choice.getD []).length≤1000∧(x.rladder.getD []).length≤1000):f86 o=some (zb ((o.getD []).map cpy),kh ((o.getD []).map cpy)):=by
 unfold f86
 have:=qgn (o.getD []) (qqf o) cpy (by omega) (fun a=>by unfold qqf;dsimp only;rw[yu];rfl) (fun i x a hx hi hl=>by
  obtain⟨h1,h2⟩:=h x (List.mem_of_getElem? hx)
  have e78:f78 ⟨x.rband,x.rladder⟩=some ⟨x.rband,zb (x.rladder.getD [])⟩:=by unfold f78;dsimp only;rw[jkq (by omega)];rfl
  unfold qqf
  dsimp only
  rw[kc hi,cT,yn hx,j6,jkt (by omega),j6,e78,j6,yb hi (by omega)]
  exact qbk hl)
 rw[this,j6]
theorem q2e {o:Option (List qj)}(hn:(o.getD []).length≤1000)(h:∀x∈o.getD [],(x.rladder.getD []).length≤1000):f90 o=some (zb ((o.getD []).map jeu),kh ((o.getD []).map jeu)):=by
 unfold f90
 have:=qgn (o.getD []) (qqz o) jeu (by omega) (fun a=>by unfold qqz;dsimp only;rw[yu];rfl) (fun i x a hx hi hl=>by
  have h2:=h x (List.mem_of_getElem? hx)
  have e83:f83 ⟨x.rband,x.rladder⟩=some ⟨x.rband,zb (x.rladder.getD [])⟩:=by unfold f83;dsimp only;rw[jkw (by omega)];rfl
  unfold qqz
  dsimp only
  rw[kc hi,cT,yn hx,j6,e83,j6,yb hi (by omega)]
  exact qbk hl)
 rw[this,j6]
theorem jah {a:Int}{x y:Option (List qk)}(hn:(x.getD []).length≤1073741824)(h:x.getD []=y.getD []):f82 ⟨a,x⟩ ⟨a,y⟩=some true:=by
 obtain⟨r,h1,h2⟩:=jl7 (a:=x) (b:=y) hn
 unfold f82
 rw[dT rfl,cT,h1,h2.2 h]
 rfl
theorem qwo {a b:Option (List qj)}(hn:(a.getD []).length≤1000)(hl:(a.getD []).length=(b.getD []).length)(h:∀(i:Nat) x y,(a.getD [])[i]?=some x→(b.getD [])[i]?=some y→jt6 x y∧(x.choice.getD []).length≤1000∧(x.rladder.getD []).length≤1000):f89 a b=some true:=by
 unfold f89
 rw[dT (by omega),cT]
 obtain⟨d,g1,g2⟩:=qc3 (a.getD []) (qq3 a b) (fun _=>true) (fun d=>match d with | .inl _=>false | .inr _=>true) ⟨.inr _,by unfold qq3;rw[yu];rfl,rfl⟩ (fun i x hx hi=>by
  left
  have hy:(b.getD [])[i]?=some (b.getD [])[i]:=List.getElem?_eq_getElem (by omega)
  generalize (b.getD [])[i]=y at hy
  obtain⟨⟨e1,e2,e3⟩,l1,l2⟩:=h i x y hx hy
  have e82:f82 ⟨x.rband,x.rladder⟩ ⟨y.rband,y.rladder⟩=some true:=by rw[←e2];exact jah (by omega) e3
  unfold qq3
  rw[kc hi,cT,yn hx,j6,yn hy,j6,q31 (by omega) e1,j6,cT,e82,j6,yb hi (by omega)]
  exact⟨rfl,rfl⟩)
 rw[g1,j6]
 rcases d with d|d
 ·simp at g2
 ·rfl
theorem qxz {ps:List qb}{bs:List qp}(hz:qcs ps=0):∀ {L:List (List Int)} {r:List qj},(∀c∈L,c.length≤3∧qdz ps c)→qh8 ps bs L=some r→r.length=L.length∧∀x∈r,(x.choice.getD []).length≤3∧(x.rladder.getD []).length≤5
 | [],r,_,h=>by
  cases h
  exact⟨rfl,by simp⟩
 |c::L,r,hL,h=>by
  unfold qh8 at h
  cases hf:flt ps bs c with
  |none=>rw[hf]at h;cases h
  |some p=>
   rw[hf]at h
   cases hr:qh8 ps bs L with
   |none=>rw[hr]at h;cases h
   |some r'=>
    rw[hr]at h
    cases h
    obtain⟨h1,h2⟩:=qxz hz (fun c hc=>hL c (List.mem_cons_of_mem _ hc)) hr
    obtain⟨c1,c2⟩:=hL c (List.mem_cons_self ..)
    have hp:=qji c2
    obtain⟨_,ok2⟩:=q9n (c:=false) hz hp c1
    have hm:p.2∈qb1 false (qc8 ps c) []:=by
     have:∀ {l:List qp} {i:Nat} {p},qeb (qb1 false (qc8 ps c) []) i l=some p→p.2∈qb1 false (qc8 ps c) []:=by
      intro l
      induction l with
      |nil=>intro i p h;cases h
      |cons b l ih=>
       intro i p h
       unfold qeb at h
       cases hf:(qb1 false (qc8 ps c) []).find? (fun x=>!qdp b x)with
       |some x=>rw[hf]at h;cases h;exact List.mem_of_find?_eq_some hf
       |none=>rw[hf]at h;exact ih h
     exact this hf
    refine⟨by simp[h1],fun x hx=>?_⟩
    rcases List.mem_cons.1 hx with rfl|hx
    ·rw[ya,ya]
     exact⟨c1,(qp8 (ok2 _ hm)).1⟩
    ·exact h2 x hx
theorem q3i {ps:List qb}{bs:List qp}:∀ {r:List qj} {L:List (List Int)},qnr ps bs ((r.map cpy).zip L)=qnr ps bs (r.zip L)
 | [],L=>by simp
 |x::r,[]=>by simp
 |x::r,c::L=>by
  simp only[List.map_cons,List.zip_cons_cons,qnr]
  have e1:(cpy x).choice.getD []=x.choice.getD []:=rfl
  have e2:qbj (qc8 ps c) bs ⟨(cpy x).rband,(cpy x).rladder⟩=qbj (qc8 ps c) bs ⟨x.rband,x.rladder⟩:=q5h rfl (ya _)
  rw[e1,e2,q3i]
theorem jea (d:je)(r:Option (List qj)):f12 d r=some true:=by
 unfold f12
 rw[show E16=some true from rfl,j6,cT]
 obtain⟨b,h1,h2⟩:=jlk (o:=d.parts) (bs:=d.bands) (n:=d.n)
 rw[h1,j6]
 cases b with
 |false=>rfl
 |true=>
  obtain⟨hs,hb,hf⟩:=h2 rfl
  have hl:(d.parts.getD []).length≤7:=by
   unfold qmk at hs
   simp only[Bool.and_eq_true,Bool.or_eq_true,decide_eq_true_eq]at hs
   omega
  rw[cT]
  by_cases h100:(100:Int)<((r.getD []).length:Int)
  ·rw[dT h100];rfl
  rw[dF h100,cF]
  -- short refusals
  have hsh:∃e,itO (qj5 d r) 0=some e∧((∃x,e=.inl x)∨(∃x,e=.inr x)∧∀x∈r.getD [],(x.choice.getD []).length≤6∧(x.rladder.getD []).length≤6):=by
   have key:∀(k i:Nat),i+k=(r.getD []).length→∃e,itO (qj5 d r) (i:Int)=some e∧((∃x,e=.inl x)∨(∃x,e=.inr x)∧∀x∈(r.getD []).drop i,(x.choice.getD []).length≤6∧(x.rladder.getD []).length≤6):=by
    intro k
    induction k with
    |zero=>
     intro i hi
     have:i=(r.getD []).length:=by omega
     subst this
     refine⟨.inr ((r.getD []).length:Int),qab (by unfold qj5;rw[yu];rfl),.inr ⟨⟨_,rfl⟩,?_⟩⟩
     rw[List.drop_eq_nil_of_le (Nat.le_refl _)];simp
    |succ k ih=>
     intro i hi
     have hlt:i<(r.getD []).length:=by omega
     have hx:(r.getD [])[i]?=some (r.getD [])[i]:=List.getElem?_eq_getElem hlt
     generalize (r.getD [])[i]=x at hx
     obtain⟨bb,k1,k2⟩:=jjz (o:=x.rladder)
     have e:qj5 d r (i:Int)=cond (decide (6<((x.choice.getD []).length:Int))) (some (.inr (.inl (x.choice,x.rband,x.rladder)))) (cond bb (some (.inl ((i+1:Nat):Int))) (some (.inr (.inl (x.choice,x.rband,x.rladder))))):=by
      unfold qj5
      rw[kc hlt,cT,yn hx,j6,k1,j6,yb hlt (by omega)]
     by_cases h6:(6:Int)<((x.choice.getD []).length:Int)
     ·rw[dT h6,cT]at e
      exact⟨_,qab e,.inl ⟨_,rfl⟩⟩
     ·rw[dF h6,cF]at e
      cases bb with
      |false=>
       rw[cF]at e
       exact⟨_,qab e,.inl ⟨_,rfl⟩⟩
      |true=>
       rw[cT]at e
       obtain⟨e',g1,g2⟩:=ih (i+1) (by omega)
       refine⟨e',by rw[qbi e];exact g1,?_⟩
       rcases g2 with g2|⟨g2,g3⟩
       ·exact .inl g2
       ·refine .inr ⟨g2,?_⟩
        rw[kl hx]
        intro y hy
        rcases List.mem_cons.1 hy with rfl|hy
        ·exact⟨by omega,k2 rfl⟩
        ·exact g3 y hy
   obtain⟨e,g1,g2⟩:=key (r.getD []).length 0 (by omega)
   rw[List.drop_zero]at g2
   exact⟨e,g1,g2⟩
  obtain⟨e,g1,g2⟩:=hsh
  rw[g1,j6]
  rcases g2 with⟨x,rfl⟩|⟨⟨x,rfl⟩,hr⟩
  ·rfl
  dsimp only
  rw[jn2 (by omega),j6,jly (by omega),j6]
  have q1:=ya (d.parts.getD [])
  have q3:=ya (d.bands.getD [])
  have e86:=jkd (o:=r) (by omega) (fun x hx=>by have:=hr x hx;omega)
  have q4:=ya ((r.getD []).map cpy)
  rw[e86]
  dsimp only
  generalize zb (d.parts.getD [])=P at q1 ⊢
  generalize zb (d.bands.getD [])=B at q3 ⊢
  generalize zb ((r.getD []).map cpy)=R at q4 ⊢
  rw[jm3,jnw,qpp]
  have e114:f114 P B d.n=some (qyc (d.parts.getD []) (d.bands.getD []) d.n):=by rw[jg6,q1,q3]
  unfold f84
  rw[e114]
  simp only[j6]
  rw[jv5]
  simp only[j6]
  rw[show kf [qcs (d.parts.getD []),qgh (d.bands.getD []),yf d.n 0 3]=qyc (d.parts.getD []) (d.bands.getD []) d.n from rfl]
  by_cases hz:qyc (d.parts.getD []) (d.bands.getD []) d.n=0
  ·have hz':=qbc.1 hz
   have z1:qcs (d.parts.getD [])=0:=hz' _ (by simp)
   have z2:qgh (d.bands.getD [])=0:=hz' _ (by simp)
   have z3:=qcz (hz' (yf d.n 0 3) (by simp))
   obtain⟨m,hmn⟩:=Int.eq_ofNat_of_zero_le z3.1
   rw[hmn]at hf z3 hz e114 ⊢
   have hm:m≤3:=by omega
   have few:=jnm hs z1 hm hf
   have e1:=jig (o:=P) (n:=m) (by rw[q1];exact z1) (by rw[q1];exact few)
   have e2:=jg3 (o:=d.parts) (n:=m) z1 few
   rw[q1]at e1
   have hL:∀c∈chE (d.parts.getD []) m,c.length≤3∧qdz (d.parts.getD []) c:=fun c h=>⟨by have:=(qti h).1;omega,(qti h).2⟩
   have hln:(chE (d.parts.getD []) m).length≤1000:=by have:=qtq few;omega
   generalize hLe:chE (d.parts.getD []) m=L at *
   have hnl:((zb (nnL L)).getD []).length=L.length:=by rw[qde];unfold nnL;rw[List.length_map]
   obtain⟨d1,j1,j2⟩:=jho (o:=P) (b:=B) (by rw[q1];exact z1) (by rw[q3];exact z2) (L:=L) (by rw[q1];exact hL) hln
   obtain⟨d2,j3,j4⟩:=jh2 (o:=d.parts) (b:=d.bands) z1 z2 (L:=L) hL hln
   rw[q1,q3]at j2
   -- the check
   have hck:f85 P B (m:Int) R=some (q8h (d.parts.getD []) (d.bands.getD []) (r.getD []) L):=by
    unfold f85
    rw[e114,j6,hz,dT rfl,cT,e1,j6]
    unfold q8h
    have hRl:(R.getD []).length=(r.getD []).length:=by rw[q4,List.length_map]
    rw[hnl]
    by_cases hle:(r.getD []).length=L.length
    ·rw[dT (by omega),cT,if_pos hle]
     obtain⟨e,i1,i2⟩:=jhn (o:=P) (b:=B) (by rw[q1];exact z1) (by rw[q3];exact z2) (L:=L) (by rw[q1];exact hL) (r:=R) (by
      rw[q4]
      intro x hx
      obtain⟨y,hy,rfl⟩:=List.mem_map.1 hx
      have:=(hr y hy).1
      show(y.choice.getD []).length≤1000
      omega) (by omega) (by omega)
     rw[i1,j6]
     rw[q1,q3,q4,q3i]at i2
     rw[←i2]
     rcases e with e|e<;>rfl
    ·rw[dF (by omega),if_neg hle];rfl
   have hck2:f88 d.parts d.bands (m:Int) r=some (q8h (d.parts.getD []) (d.bands.getD []) (r.getD []) L):=by
    unfold f88 q8h
    rw[e2,j6,hnl]
    by_cases hle:(r.getD []).length=L.length
    ·rw[dT (by omega),cT,if_pos hle]
     obtain⟨e,i1,i2⟩:=jhf (o:=d.parts) (b:=d.bands) z1 z2 (L:=L) hL (r:=r) (fun x hx=>by have:=(hr x hx).1;omega) (by omega) hle
     rw[i1,j6,←i2]
     rcases e with e|e<;>rfl
    ·rw[dF (by omega),if_neg hle];rfl
   unfold f87
   rw[hz,e1,e2]
   simp only[decide_true,cT,j6]
   rw[j1,j3,hck,hck2]
   simp only[j6]
   cases hrf:qh8 (d.parts.getD []) (d.bands.getD []) L with
   |none=>
    rw[hrf]at j2 j4
    rcases d1 with d1|d1
    ·rcases d2 with d2|d2
     ·have e90:f90 none=some (none,false):=q2e (o:=none) (by simp) (by simp)
      dsimp only
      simp only[j6,cF]
      rw[e90]
      simp only[j6]
      rw[show f89 none none=some true from qwo (by simp) (by simp) (by simp)]
      simp
     ·cases j4
    ·cases j2
   |some rr=>
    rw[hrf]at j2 j4
    rcases d1 with d1|d1
    ·cases j2
    ·rcases d2 with d2|d2
     ·cases j4
     ·have g1:d1.1=zb rr:=Option.some.inj j2
      have g2:d2.1=zb rr:=Option.some.inj j4
      obtain⟨s1,s2⟩:=qxz z1 hL hrf
      dsimp only
      simp only[j6,cT]
      rw[g1,g2,q2e (by rw[ya];omega) (by rw[ya];intro x hx;have:=(s2 x hx).2;omega)]
      simp only[j6]
      rw[qwo (by simp only[ya,List.length_map];omega) (by simp only[ya,List.length_map]) (by
       simp only[ya]
       intro i x y hx hy
       rw[List.getElem?_map,hy]at hx
       cases hx
       have:=s2 y (List.mem_of_getElem? hy)
       exact⟨⟨rfl,rfl,ya _⟩,by show(y.choice.getD []).length≤1000;omega,by show((zb (y.rladder.getD [])).getD []).length≤1000;rw[ya];omega⟩)]
      simp
  ·have e85:f85 P B d.n R=some (qyc (d.parts.getD []) (d.bands.getD []) d.n):=by
    unfold f85
    rw[e114,j6,dF hz];rfl
   rw[e85,dF hz]
   simp only[cF,j6]
   rw[show f90 none=some (none,false)from q2e (o:=none) (by simp) (by simp)]
   simp only[j6]
   rw[show f89 none none=some true from qwo (by simp) (by simp) (by simp)]
   simp
theorem I12 (x:je)(r:Option (List qj)):j7 prY (X prY) 12 [.agg [sl 8 zi x.parts,sl 5 yg x.bands,.int .i64 x.n],sl 3 kj r]=some (.bool true,false):=W12 (jea x r)
end Go.Z
