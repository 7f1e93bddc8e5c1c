/- Chapter 4. -/
import Derived.Test.YtnjngdcbkkonnaaGreatDoorQC
import Derived.Test.YtnjngdcbkkonnaaGreatDoorA21
import Derived.Test.YtnjngdcbkkonnaaGreatDoorLZ
set_option linter.unusedVariables false
set_option linter.unusedSimpArgs false
set_option maxRecDepth 100000
set_option maxHeartbeats 1000000
namespace Go.Z
open Go Go.Abs
def qie:List Int→List Int→Int
 | [],[]=>0
 | [],_::_=>-1
 |_::_,[]=>1
 |x::a,y::b=>if x<y then -1 else if y<x then 1 else qie a b
theorem q67 {a b:Int}:f203 a b=some (if a<b then -1 else if b<a then 1 else 0):=by
 unfold f203 f232
 simp only[j6,cF]
 by_cases h:a<b
 ·rw[dT h,if_pos h];rfl
 ·rw[dF h,if_neg h,cF]
  by_cases h':b<a
  ·rw[dT h',if_pos h'];rfl
  ·rw[dF h',if_neg h'];rfl
theorem jkz {a b:Option (List Int)}(hn:(a.getD []).length≤1073741824):f204 a b=some (qie (a.getD []) (b.getD [])):=by
 unfold f204
 obtain⟨d,g1,g2⟩:=qdc (a.getD []).length (fun i=>(i:Int)) (qjr a b) (fun d=>match d with | .inl v=>v | .inr _=>if(a.getD []).length<(b.getD []).length then -1 else 0) (fun i=>qie ((a.getD []).drop i) ((b.getD []).drop i)) ⟨.inr _,by unfold qjr;rw[kc];rfl,by
   dsimp only
   rw[List.drop_eq_nil_of_le (Nat.le_refl (a.getD []).length)]
   by_cases h2:(a.getD []).length<(b.getD []).length
   ·rw[if_pos h2,kh (List.getElem?_eq_getElem h2)];rfl
   ·rw[if_neg h2,List.drop_eq_nil_of_le (by omega)];rfl⟩ (fun i hi=>by
  have hx:(a.getD [])[i]?=some (a.getD [])[i]:=List.getElem?_eq_getElem hi
  generalize (a.getD [])[i]=x at hx
  unfold qjr
  rw[kl hi,cT,y8 hx,j6,kh hx]
  by_cases hb:(b.getD []).length≤i
  ·rw[dT (show((b.getD []).length:Int)≤(i:Int) by omega),cT]
   right
   refine⟨.inl 1,rfl,?_⟩
   rw[List.drop_eq_nil_of_le hb];rfl
  ·have hlt:i<(b.getD []).length:=by omega
   have hy:(b.getD [])[i]?=some (b.getD [])[i]:=List.getElem?_eq_getElem hlt
   generalize (b.getD [])[i]=y at hy
   rw[dF (show ¬((b.getD []).length:Int)≤(i:Int) by omega),cF,y8 hy,j6,q67,j6,yg hi (by omega)]
   rw[kh hy]
   simp only[qie]
   by_cases h1:x<y
   ·rw[if_pos h1,if_pos h1];exact .inr ⟨.inl (-1),rfl,rfl⟩
   ·rw[if_neg h1,if_neg h1]
    by_cases h2:y<x
    ·rw[if_pos h2,if_pos h2];exact .inr ⟨.inl 1,rfl,rfl⟩
    ·rw[if_neg h2,if_neg h2];exact .inl ⟨rfl,rfl⟩)
 have g1':itO (qjr a b) 0=some d:=g1
 have g2':_=qie (a.getD []) (b.getD []):=g2
 rw[g1',j6,←g2']
 rcases d with d|d
 ·rfl
 ·dsimp only
  by_cases h:(a.getD []).length<(b.getD []).length
  ·rw[if_pos h,dT (by omega)];rfl
  ·rw[if_neg h,dF (by omega)];rfl
def qrq (a b:List Int):Int:=if a.length<b.length then -1 else if b.length<a.length then 1 else qie a b
theorem jgf {a b:Int}:f202 (some [a,b])=some (if a=0 then b else a):=by
 unfold f202
 obtain⟨d,g1,g2⟩:=qdc 2 (fun i=>(i:Int)) (qhk (some [a,b])) (fun d=>match d with | .inl v=>v | .inr _=>0) (fun i=>if i=0 then(if a=0 then b else a)else if i=1 then b else 0) ⟨.inr _,by unfold qhk;rfl,rfl⟩ (fun i hi=>by
  match i,hi with
  |0,_=>
   have e:yo ((some [a,b]).getD []) ((0:Nat):Int)=some a:=rfl
   unfold qhk
   rw[e,show decide (((0:Nat):Int)<(((some [a,b]).getD []).length:Int))=true from rfl,cT,j6]
   by_cases h:a=0
   ·rw[dT h];left;exact⟨rfl,by simp[h]⟩
   ·rw[dF h];right;exact⟨.inl a,rfl,by simp[h]⟩
  |1,_=>
   have e:yo ((some [a,b]).getD []) ((1:Nat):Int)=some b:=rfl
   unfold qhk
   rw[e,show decide (((1:Nat):Int)<(((some [a,b]).getD []).length:Int))=true from rfl,cT,j6]
   by_cases h:b=0
   ·rw[dT h];left;exact⟨rfl,by simp[h]⟩
   ·rw[dF h];right;exact⟨.inl b,rfl,by simp⟩)
 have g1':itO (qhk (some [a,b])) 0=some d:=g1
 rw[g1',j6]
 have g2':_=(if a=0 then b else a):=g2
 rw[←g2']
 rcases d with d|d<;>rfl
theorem jew {a b:Option (List Int)}(hn:(a.getD []).length≤1073741824):qg6 a b=some (qrq (a.getD []) (b.getD [])):=by
 unfold qg6 qrq
 rw[q67,j6,jkz hn,j6,jgf,j6]
 by_cases h1:(a.getD []).length<(b.getD []).length
 ·rw[if_pos h1,if_pos (show((a.getD []).length:Int)<((b.getD []).length:Int) by omega),if_neg (by decide)]
 ·rw[if_neg h1,if_neg (show ¬((a.getD []).length:Int)<((b.getD []).length:Int) by omega)]
  by_cases h2:(b.getD []).length<(a.getD []).length
  ·rw[if_pos h2,if_pos (show((b.getD []).length:Int)<((a.getD []).length:Int) by omega),if_neg (by decide)]
  ·rw[if_neg h2,if_neg (show ¬((b.getD []).length:Int)<((a.getD []).length:Int) by omega),if_pos rfl]
def Srt (L:List (List Int)):Prop:=(∀x∈L,x.length≤1000)∧∀(i j:Nat) x y,i<j→L[i]?=some x→L[j]?=some y→¬qrq y x<0
section
variable {o:Option (List (Option (List Int)))}{L:List (List Int)}
theorem qr9 (ho:o.getD []=L.map za){i:Nat}{x:List Int}(h:L[i]?=some x):yo (o.getD []) (i:Int)=some (za x):=by
 rw[ho,qgl,List.getElem?_map,h];rfl
theorem q1x (hs:Srt L){i j:Nat}{x y:List Int}(hij:i<j)(hx:L[i]?=some x)(hy:L[j]?=some y):∃v,qg6 (za y) (za x)=some v∧decide (v<0)=false:=by
 have hb:=hs.1 y (List.mem_of_getElem? hy)
 refine⟨qrq y x,?_,dF (hs.2 i j x y hij hx hy)⟩
 have:=jew (a:=za y) (b:=za x) (by rw[yd];omega)
 rwa [yd,yd]at this
theorem jku (ho:o.getD []=L.map za)(hs:Srt L)(hn:L.length≤1000):f222 o 0 (L.length:Int)=some ():=by
 unfold f222
 have key:∀(k i:Nat),1≤i→i+k=max 1 L.length→∃d,itO (qhl o 0 (L.length:Int)) (i:Int)=some d:=by
  intro k
  induction k with
  |zero=>
   intro i h1 hi
   refine⟨(i:Int),k9 ?_⟩
   unfold qhl
   rw[dF (show ¬(i:Int)<(L.length:Int) by omega)];rfl
  |succ k ih=>
   intro i h1 hi
   have hlt:i<L.length:=by omega
   obtain⟨d,g⟩:=ih (i+1) (by omega) (by omega)
   refine⟨d,?_⟩
   have hx:L[i-1]?=some L[i-1]:=List.getElem?_eq_getElem (by omega)
   have hy:L[i]?=some L[i]:=List.getElem?_eq_getElem hlt
   obtain⟨v,c1,c2⟩:=q1x hs (show i-1<i by omega) hx hy
   have inner:itO (qn6 o 0 (L.length:Int) (i:Int)) ()=some ():=by
    refine k9 ?_
    unfold qn6
    rw[dT (show(0:Int)<(i:Int) by omega),cT,qr9 ho hy,j6,yq (x:=(i:Int)-1) (by omega) (by omega),show(i:Int)-1=((i-1:Nat):Int) by omega,qr9 ho hx,j6,c1,j6,c2]
    rfl
   have e:qhl o 0 (L.length:Int) (i:Int)=some (.inl ((i+1:Nat):Int)):=by
    unfold qhl
    rw[kl hlt,cT,inner,j6,yg hlt (by omega)]
   rw[qbb e];exact g
 obtain⟨d,g⟩:=key (max 1 L.length-1) 1 (by omega) (by omega)
 have g':itO (qhl o 0 (L.length:Int)) (j9 .i64 (0+1))=some d:=g
 rw[g'];rfl
theorem qzp (ho:o.getD []=L.map za)(hs:Srt L){a b:Nat}(hab:a<b)(hb:b<L.length){c:Int}:f257 o (a:Int) (b:Int) c=some (((a:Int),(b:Int)),c):=by
 have hx:L[a]?=some L[a]:=List.getElem?_eq_getElem (by omega)
 have hy:L[b]?=some L[b]:=List.getElem?_eq_getElem hb
 obtain⟨v,c1,c2⟩:=q1x hs hab hx hy
 unfold f257
 rw[qr9 ho hy,j6,qr9 ho hx,j6,c1,j6,c2]
 rfl
theorem jkp (ho:o.getD []=L.map za)(hs:Srt L){a b d:Nat}(hab:a<b)(hbd:b<d)(hd:d<L.length){c:Int}:f248 o (a:Int) (b:Int) (d:Int) c=some ((b:Int),c):=by
 unfold f248
 rw[qzp ho hs hab (by omega),j6]
 dsimp only
 rw[qzp ho hs hbd hd,j6]
 dsimp only
 rw[qzp ho hs hab (by omega),j6]
theorem jh6 (ho:o.getD []=L.map za)(hs:Srt L)(h2:2≤L.length)(hn:L.length≤1000):f227 o 0 (L.length:Int)=some true:=by
 have key:∀(k i:Nat),1≤i→i+k=L.length→itO (qmg o 0 (L.length:Int)) (some (i:Int))=some (L.length:Int):=by
  intro k
  induction k with
  |zero=>
   intro i h1 hi
   have:i=L.length:=by omega
   subst this
   refine k9 ?_
   show qhv o 0 (L.length:Int) (L.length:Int)=_
   unfold qhv
   rw[kc];rfl
  |succ k ih=>
   intro i h1 hi
   have hlt:i<L.length:=by omega
   have hx:L[i-1]?=some L[i-1]:=List.getElem?_eq_getElem (by omega)
   have hy:L[i]?=some L[i]:=List.getElem?_eq_getElem hlt
   obtain⟨v,c1,c2⟩:=q1x hs (show i-1<i by omega) hx hy
   have e:qmg o 0 (L.length:Int) (some (i:Int))=some (.inl (some ((i+1:Nat):Int))):=by
    show qhv o 0 (L.length:Int) (i:Int)=_
    unfold qhv
    rw[kl hlt,cT,qr9 ho hy,j6,yq (x:=(i:Int)-1) (by omega) (by omega),show(i:Int)-1=((i-1:Nat):Int) by omega,qr9 ho hx,j6,c1,j6,c2,yg hlt (by omega)]
    rfl
   rw[qbb e];exact ih (i+1) (by omega) (by omega)
 have h0:itO (qmg o 0 (L.length:Int)) none=some (L.length:Int):=by
  have hx:L[0]?=some L[0]:=List.getElem?_eq_getElem (by omega)
  have hy:L[1]?=some L[1]:=List.getElem?_eq_getElem (by omega)
  obtain⟨v,c1,c2⟩:=q1x hs (show 0<1 by omega) hx hy
  have e:qmg o 0 (L.length:Int) none=some (.inl (some ((2:Nat):Int))):=by
   show qoo o 0 (L.length:Int)=_
   unfold qoo
   rw[show j9 .i64 ((0:Int)+1)=((1:Nat):Int)from rfl,dT (show((1:Nat):Int)<(L.length:Int) by omega),cT,qr9 ho hy,j6,show j9 .i64 (((1:Nat):Int)-1)=((0:Nat):Int)from rfl,qr9 ho hx,j6,c1,j6,c2]
   rfl
  rw[qbb e]
  exact key (L.length-2) 2 (by omega) (by omega)
 unfold f227
 have e:qoc o 0 (L.length:Int) ()=some (.inr true):=by
  unfold qoc
  rw[h0,j6,dT rfl];rfl
 rw[k9 e,j6]
theorem j2g:∀ n:Nat,n<50→1≤n→∃v,f201 (n:Int)=some v∧decide (v=0)=false:=by
 have h:((List.range 50).all fun n=>Nat.beq n 0||match f201 (n:Int)with|some v=>!decide (v=0)|none=>false)=true:=by decide +kernel
 intro n h1 h2
 have:=List.all_eq_true.1 h n (List.mem_range.2 h1)
 rw[Bool.or_eq_true]at this
 rcases this with k|k
 ·have:=Nat.eq_of_beq_eq_true k
  omega
 ·cases hf:f201 (n:Int)with
  |none=>rw[hf]at k;cases k
  |some v=>rw[hf]at k;exact⟨v,rfl,by simpa using k⟩
theorem jjl (ho:o.getD []=L.map za)(hs:Srt L)(h1:1≤L.length)(hn:L.length≤49):f162 o=some ():=by
 have hlen:(o.getD []).length=L.length:=by rw[ho,List.length_map]
 obtain⟨v,k1,k2⟩:=j2g L.length (by omega) h1
 unfold f162
 rw[hlen,wrapN L.length (by omega),k1,j6]
 unfold f200
 by_cases h12:(L.length:Int)≤12
 ·have e:qjm o 0 (L.length:Int) v ()=some (.inr (.inl ())):=by
   unfold qjm
   rw[yq (x:=(L.length:Int)-0) (by omega) (by omega),dT (by omega),cT,jku ho hs (by omega)]
   rfl
  rw[k9 e];rfl
 ·have hq:qfc .i64 (L.length:Int) 4=some ((L.length / 4:Nat):Int):=qvs (b:=4) (by decide) (by omega)
  have e225:f225 o 0 (L.length:Int)=some (((L.length / 4*2:Nat):Int),1):=by
   unfold f225
   rw[yq (x:=(L.length:Int)-0) (by omega) (by omega),show(L.length:Int)-0=(L.length:Int) by omega,hq,j6,dT (show(8:Int)≤(L.length:Int) by omega),cT,dF (show ¬(50:Int)≤(L.length:Int) by omega),cF]
   have w:∀k:Nat,k≤3→j9 .i64 (0+j9 .i64 (((L.length / 4:Nat):Int)*(k:Int)))=((L.length / 4*k:Nat):Int):=by
    intro k hk
    have hk2:L.length / 4*k≤49*3:=Nat.mul_le_mul (by omega) hk
    have e1:((L.length / 4:Nat):Int)*(k:Int)=((L.length / 4*k:Nat):Int):=by rw[Int.natCast_mul]
    rw[e1,yq (x:=((L.length / 4*k:Nat):Int)) (by omega) (by omega),yq (by omega) (by omega)]
    omega
   have w1:=w 1 (by omega)
   have w2:=w 2 (by omega)
   have w3:=w 3 (by omega)
   rw[show((1:Nat):Int)=1 from rfl]at w1
   rw[show((2:Nat):Int)=2 from rfl]at w2
   rw[show((3:Nat):Int)=3 from rfl]at w3
   rw[w1,w2,w3,jkp ho hs (by omega) (by omega) (by omega),j6]
   rfl
  have e:qjm o 0 (L.length:Int) v ()=some (.inr (.inr ((L.length / 4*2:Nat):Int))):=by
   unfold qjm
   rw[yq (x:=(L.length:Int)-0) (by omega) (by omega),dF (by omega),cF,k2,cF,e225,j6]
   dsimp only
   rw[show(decide ((1:Int)=2))=false from rfl,cF,show(decide ((1:Int)=1))=true from rfl,cT,jh6 ho hs (by omega) (by omega),j6]
   rfl
  rw[k9 e];rfl
end
def qd2 (ps:List qb)(c:List Int):Bool:=(qeg ps c).isSome
def qec (ps:List qb)(c:List Int):List (List Int):=(List.range ps.length).flatMap fun(i:Nat)=>if qd2 ps (c++[(i:Int)])then [c++[(i:Int)]]else []
def lvl (ps:List qb):Nat→List (List Int)
 |0=>[[]]
 |k+1=>(lvl ps k).flatMap (qec ps)
def chE (ps:List qb):Nat→List (List Int)
 |0=>[[]]
 |k+1=>chE ps k++lvl ps (k+1)
theorem qh2 {ps:List qb}{c x:List Int}(h:x∈qec ps c):∃i:Nat,i<ps.length∧x=c++[(i:Int)]∧qd2 ps x=true:=by
 obtain⟨i,hi,hx⟩:=List.mem_flatMap.1 h
 split at hx
 ·next hs=>
  obtain rfl:=List.mem_singleton.1 hx
  exact⟨i,List.mem_range.1 hi,rfl,hs⟩
 ·cases hx
structure jz (ps:List qb)(k:Nat)(c:List Int):Prop where
 len:c.length=k
 idx:qe3 ps c
theorem qsm {ps:List qb}:∀ {k:Nat} {c:List Int},c∈lvl ps k→jz ps k c
 |0,c,h=>by
  obtain rfl:=List.mem_singleton.1 h
  exact⟨rfl,by simp[qe3]⟩
 |k+1,c,h=>by
  obtain⟨a,ha,hc⟩:=List.mem_flatMap.1 h
  obtain⟨i,hi,rfl,_⟩:=qh2 hc
  obtain⟨h1,h2⟩:=qsm ha
  refine⟨by rw[List.length_append,h1];rfl,fun x hx=>?_⟩
  rcases List.mem_append.1 hx with hx|hx
  ·exact h2 x hx
  ·rw[List.mem_singleton.1 hx];omega
theorem qmb {ps:List qb}:∀ {n:Nat} {c:List Int},c∈chE ps n→c.length≤n∧qe3 ps c
 |0,c,h=>by
  obtain rfl:=List.mem_singleton.1 h
  exact⟨Nat.le_refl _,by simp[qe3]⟩
 |n+1,c,h=>by
  rcases List.mem_append.1 h with h|h
  ·obtain⟨h1,h2⟩:=qmb h
   exact⟨by omega,h2⟩
  ·obtain⟨h1,h2⟩:=qsm h
   exact⟨by omega,h2⟩
theorem jap {c:List Int}{x y:Int}:qie (c++[x]) (c++[y])=if x<y then -1 else if y<x then 1 else 0:=by
 induction c with
 |nil=>rfl
 |cons a c ih=>
  show(if a<a then(-1:Int)else if a<a then 1 else qie (c++[x]) (c++[y]))=_
  rw[if_neg (by omega),if_neg (by omega),ih]
theorem jey {a b:List Int}{s t:List Int}(hl:a.length=b.length)(h:qie a b=1):qie (a++s) (b++t)=1:=by
 induction a generalizing b with
 |nil=>
  cases b with
  |nil=>cases h
  |cons y b=>simp at hl
 |cons x a ih=>
  cases b with
  |nil=>simp at hl
  |cons y b=>
   simp only[List.length_cons,Nat.add_right_cancel_iff]at hl
   show(if x<y then(-1:Int)else if y<x then 1 else qie (a++s) (b++t))=1
   have h':(if x<y then(-1:Int)else if y<x then 1 else qie a b)=1:=h
   split at h'
   ·cases h'
   ·next h1=>
    rw[if_neg h1]
    split at h'
    ·next h2=>rw[if_pos h2]
    ·next h2=>rw[if_neg h2];exact ih hl h'
def Inc (L:List (List Int)):Prop:=L.Pairwise fun x y=>qrq y x=1
theorem qy0 {x y:List Int}(h:x.length=y.length):qrq y x=qie y x:=by
 unfold qrq
 rw[if_neg (by omega),if_neg (by omega)]
theorem jf9 {ps:List qb}{c:List Int}:Inc (qec ps c):=by
 unfold Inc qec
 rw[List.pairwise_flatMap]
 constructor
 ·intro i _
  split
  ·exact List.pairwise_singleton _ _
  ·exact List.Pairwise.nil
 ·have hr:(List.range ps.length).Pairwise (· < ·):=List.pairwise_lt_range
  refine hr.imp ?_
  intro i j hij x hx y hy
  split at hx
  ·split at hy
   ·obtain rfl:=List.mem_singleton.1 hx
    obtain rfl:=List.mem_singleton.1 hy
    rw[qy0 (by simp),jap,if_neg (by omega),if_pos (by omega)]
   ·cases hy
  ·cases hx
theorem q6w {ps:List qb}:∀k:Nat,Inc (lvl ps k)
 |0=>List.pairwise_singleton _ _
 |k+1=>by
  show((lvl ps k).flatMap (qec ps)).Pairwise _
  rw[List.pairwise_flatMap]
  refine⟨fun c _=>jf9,?_⟩
  have ih:=q6w (ps:=ps) k
  have hm:∀x∈lvl ps k,x.length=k:=fun x h=>(qsm h).len
  refine(List.Pairwise.and_mem.1 ih).imp ?_
  intro a b hab x hx y hy
  obtain⟨ha,hb,h⟩:=hab
  obtain⟨i,_,rfl,_⟩:=qh2 hx
  obtain⟨j,_,rfl,_⟩:=qh2 hy
  have l1:=hm a ha
  have l2:=hm b hb
  rw[qy0 (by omega)]at h
  rw[qy0 (by simp;omega)]
  exact jey (by omega) h
theorem q61 {ps:List qb}:∀n:Nat,Inc (chE ps n)
 |0=>List.pairwise_singleton _ _
 |n+1=>by
  show(chE ps n++lvl ps (n+1)).Pairwise _
  rw[List.pairwise_append]
  refine⟨q61 n,q6w (n+1),fun x hx y hy=>?_⟩
  have h1:=(qmb hx).1
  have h2:=(qsm hy).len
  unfold qrq
  rw[if_neg (by omega),if_pos (by omega)]
theorem jiz {L:List (List Int)}(h:Inc L)(hl:∀x∈L,x.length≤1000):Srt L:=by
 refine⟨hl,fun i j x y hij hx hy=>?_⟩
 have hi:=(List.getElem?_eq_some_iff.1 hx)
 have hj:=(List.getElem?_eq_some_iff.1 hy)
 obtain⟨h1,rfl⟩:=hi
 obtain⟨h2,rfl⟩:=hj
 have:=List.pairwise_iff_getElem.1 h i j h1 h2 hij
 rw[this]
 decide
theorem q37 {ps:List qb}{c:List Int}:(qec ps c).length≤ps.length:=by
 unfold qec
 have:∀m:List Nat,(m.flatMap fun(i:Nat)=>if qd2 ps (c++[(i:Int)])then [c++[(i:Int)]]else []).length≤m.length:=by
  intro m
  induction m with
  |nil=>exact Nat.le_refl _
  |cons x m ih=>
   rw[List.flatMap_cons,List.length_append,List.length_cons]
   split
   ·simp only[List.length_cons,List.length_nil];omega
   ·simp only[List.length_nil];omega
 have:=this (List.range ps.length)
 rwa [List.length_range]at this
theorem q2b {α β:Type}{f:α→List β}{n:Nat}(h:∀x,(f x).length≤n):∀l:List α,(l.flatMap f).length≤l.length*n
 | []=>by simp
 |x::l=>by
  rw[List.flatMap_cons,List.length_append,List.length_cons,Nat.add_mul,Nat.one_mul]
  have:=h x
  have:=q2b h l
  omega
theorem qo9 {ps:List qb}:∀k:Nat,(lvl ps k).length≤ps.length^k
 |0=>Nat.le_refl _
 |k+1=>by
  have h1:(lvl ps (k+1)).length≤(lvl ps k).length*ps.length:=q2b (fun _=>q37) _
  have h2:=qo9 (ps:=ps) k
  have h3:(lvl ps k).length*ps.length≤ps.length^k*ps.length:=Nat.mul_le_mul_right _ h2
  rw[Nat.pow_succ]
  omega
def qrs (ps:List qb)(n:Nat):Prop:=(ps.length≤4∧n≤2)∨(ps.length≤2∧n≤3)
theorem q7g {ps:List qb}{n k:Nat}(h:qrs ps n)(hk:k≤n):(lvl ps k).length≤16:=by
 have h1:=qo9 (ps:=ps) k
 have:ps.length^k≤16:=by
  rcases h with⟨h2,h3⟩|⟨h2,h3⟩
  ·have e1:ps.length^k≤4^k:=Nat.pow_le_pow_left h2 k
   have e2:4^k≤4^2:=Nat.pow_le_pow_right (by decide) (by omega)
   omega
  ·have e1:ps.length^k≤2^k:=Nat.pow_le_pow_left h2 k
   have e2:2^k≤2^3:=Nat.pow_le_pow_right (by decide) (by omega)
   omega
 omega
theorem jgs {ps:List qb}{n i:Nat}(h:qrs ps n)(hi:i≤n):qrs ps i:=h.elim (fun h=>.inl ⟨h.1,by have:=h.2;omega⟩) (fun h=>.inr ⟨h.1,by have:=h.2;omega⟩)
theorem qzt {ps:List qb}:∀n:Nat,1≤(chE ps n).length
 |0=>Nat.le_refl _
 |n+1=>by
  have:=qzt (ps:=ps) n
  show 1≤(chE ps n++lvl ps (n+1)).length
  rw[List.length_append];omega
theorem qzm {ps:List qb}{n:Nat}(h:qrs ps n):(chE ps n).length≤21:=by
 have l0:(lvl ps 0).length=1:=rfl
 have l1:=qo9 (ps:=ps) 1
 have l2:=qo9 (ps:=ps) 2
 have l3:=qo9 (ps:=ps) 3
 have e1:ps.length^1=ps.length:=Nat.pow_one _
 have e2:ps.length^2=ps.length*ps.length:=Nat.pow_two _
 have e3:ps.length^3=ps.length*ps.length*ps.length:=by rw[Nat.pow_succ,e2]
 have c0:(chE ps 0).length=1:=rfl
 have c1:(chE ps 1).length=1+(lvl ps 1).length:=by show(chE ps 0++lvl ps 1).length=_;rw[List.length_append];rfl
 have c2:(chE ps 2).length=1+(lvl ps 1).length+(lvl ps 2).length:=by show(chE ps 1++lvl ps 2).length=_;rw[List.length_append,c1]
 have c3:(chE ps 3).length=1+(lvl ps 1).length+(lvl ps 2).length+(lvl ps 3).length:=by show(chE ps 2++lvl ps 3).length=_;rw[List.length_append,c2]
 rcases h with⟨h2,h3⟩|⟨h2,h3⟩
 ·have m:ps.length*ps.length≤4*4:=Nat.mul_le_mul h2 h2
  match n,h3 with
  |0,_=>omega
  |1,_=>omega
  |2,_=>omega
 ·have m:ps.length*ps.length≤2*2:=Nat.mul_le_mul h2 h2
  have m3:ps.length*ps.length*ps.length≤2*2*2:=Nat.mul_le_mul m h2
  match n,h3 with
  |0,_=>omega
  |1,_=>omega
  |2,_=>omega
  |3,_=>omega
def nnL (L:List (List Int)):List (Option (List Int)):=L.map za
theorem jkr {c:List Int}(h:c.length≤1000):∃b,f161 (za c)=some (za c,b)∧(b=true∨(b=false∧(za c).isNone=true)):=by
 cases c with
 |nil=>exact⟨false,rfl,.inr ⟨rfl,rfl⟩⟩
 |cons a l=>
  refine⟨true,?_,.inl rfl⟩
  unfold f161 apO
  rw[if_pos (by simp[za]at h ⊢;omega)]
  rfl
theorem jun {c:List Int}{i:Int}(h:c.length≤1000):apO (za c) [i]=some (za (c++[i])):=qqz (by omega)
section
variable {o:Option (List qb)}
theorem jbc (hz:qb2 (o.getD [])=0){c:List Int}(hc:c.length≤3)(hx:qe3 (o.getD []) c):∃t,f138 o (za c)=some (t,qd2 (o.getD []) c)∧f72 o (za c)=some (t,qd2 (o.getD []) c):=by
 have hn:=(qca hz).1
 have hp:=(qca hz).2
 have e1:=q6o (ps:=o) (ch:=za c) (by omega) (by rw[yd];exact hc) (by rw[yd];exact hx) hp
 have e2:=jnf (ps:=o) (ch:=za c) (by omega) (by rw[yd];exact hc) (by rw[yd];exact hx) hp
 rw[yd]at e1 e2
 unfold qd2
 cases ht:qeg (o.getD []) c with
 |some l=>rw[ht]at e1 e2;exact⟨_,e1,e2⟩
 |none=>rw[ht]at e1 e2;exact⟨_,e1,e2⟩
theorem jsp (hz:qb2 (o.getD [])=0){n:Int}{s0:Option (List (Option (List Int)))×Option (List (Option (List Int)))×Int}{s1:Option (List (Option (List Int)))×Int×Bool}{c:List Int}(hc:c.length≤2)(hx:qe3 (o.getD []) c){A:List (List Int)}(hA:A.length≤1000):
  itO (qi8 o n s0 s1 (za c)) (za (nnL A),0,yx (nnL A))=some (za (nnL (A++qec (o.getD []) c)),yx (nnL (A++qec (o.getD []) c)),((o.getD []).length:Int)):=by
 have hn:=(qca hz).1
 have hl:(List.range (o.getD []).length).length=(o.getD []).length:=by simp
 have:=qe8 (List.range (o.getD []).length) (fun i=>(i:Int)) (qi8 o n s0 s1 (za c)) (fun i=>nnL (if qd2 (o.getD []) (c++[(i:Int)])then [c++[(i:Int)]]else [])) (nnL A) (fun i a=>a.length≤1000+i) (by unfold nnL;rw[List.length_map];omega) (fun a=>by rw[hl];unfold qi8;dsimp only;rw[kc];rfl) (fun i x a hx' hi hI=>by
  rw[hl]at hi
  have hxi:x=i:=by
   rw[List.getElem?_range hi]at hx'
   exact(Option.some.inj hx').symm
  subst hxi
  obtain⟨t,e1,_⟩:=jbc hz (c:=c++[(x:Int)]) (by rw[List.length_append];simp only[List.length_cons,List.length_nil];omega) (by
   intro y hy
   rcases List.mem_append.1 hy with hy|hy
   ·exact hx y hy
   ·rw[List.mem_singleton.1 hy];omega)
  refine⟨?_,?_⟩
  ·rw[List.length_append]
   unfold nnL
   rw[List.length_map]
   split
   ·simp only[List.length_cons,List.length_nil];omega
   ·simp only[List.length_nil];omega
  ·obtain⟨b,k1,k2⟩:=jkr (c:=c) (by omega)
   unfold qi8
   dsimp only
   rw[kl hi,cT,k1,j6,jun (i:=(x:Int)) (by omega),j6,yg hi (by omega),e1,j6]
   have hfin:(cond (qd2 (o.getD []) (c++[(x:Int)])) (cond (yx a) (j5 (apO (za a) [za (c++[(x:Int)])]) fun v896=>some (.inl (v896,((x+1:Nat):Int),true))) (cond (za a).isNone (j5 (apO (za a) [za (c++[(x:Int)])]) fun v899=>some (.inl (v899,((x+1:Nat):Int),true))) none)) (some (.inl (za a,((x+1:Nat):Int),yx a))):Option ((Option (List (Option (List Int)))×Int×Bool)⊕(Option (List (Option (List Int)))×Bool×Int)))=some (.inl (za (a++nnL (if qd2 (o.getD []) (c++[(x:Int)])then [c++[(x:Int)]]else [])),((x+1:Nat):Int),yx (a++nnL (if qd2 (o.getD []) (c++[(x:Int)])then [c++[(x:Int)]]else [])))):=by
    cases qd2 (o.getD []) (c++[(x:Int)])with
    |true=>
     rw[cT,qc3 (by omega)]
     simp[nnL,qc8]
    |false=>simp[nnL]
   rcases k2 with rfl|⟨rfl,k3⟩
   ·dsimp only
    rw[cT];exact hfin
   ·dsimp only
    rw[cF,k3,cT];exact hfin)
 rw[hl]at this
 have e:nnL A++(List.range (o.getD []).length).flatMap (fun(i:Nat)=>nnL (if qd2 (o.getD []) (c++[(i:Int)])then [c++[(i:Int)]]else []))=nnL (A++qec (o.getD []) c):=by
  unfold nnL qec
  rw[List.map_append,List.map_flatMap]
 rw[e]at this
 exact this
theorem jg3 {o:Option (List qb)}{L:List (List Int)}{f:Option (List (Option (List Int)))×Int×Bool→Option ((Option (List (Option (List Int)))×Int×Bool)⊕(Option (List (Option (List Int)))×Bool×Int))}(hL:L.length≤16)(hps:(o.getD []).length≤6)
  (hend:∀a,f (za a,(L.length:Int),yx a)=some (.inr (za a,yx a,(L.length:Int))))
  (hstep:∀(i:Nat) c (A:List (List Int)),L[i]?=some c→i<L.length→A.length≤1000→f (za (nnL A),(i:Int),yx (nnL A))=some (.inl (za (nnL (A++qec (o.getD []) c)),((i+1:Nat):Int),yx (nnL (A++qec (o.getD []) c))))):
  itO f (none,0,false)=some (za (nnL (L.flatMap (qec (o.getD [])))),yx (nnL (L.flatMap (qec (o.getD [])))),(L.length:Int)):=by
 have key:∀(k i:Nat) (A:List (List Int)),i+k=L.length→A.length≤6*i→itO f (za (nnL A),(i:Int),yx (nnL A))=some (za (nnL (A++(L.drop i).flatMap (qec (o.getD [])))),yx (nnL (A++(L.drop i).flatMap (qec (o.getD [])))),(L.length:Int)):=by
  intro k
  induction k with
  |zero=>
   intro i A hi hA
   have:i=L.length:=by omega
   subst this
   rw[k9 (hend _),List.drop_eq_nil_of_le (Nat.le_refl _),List.flatMap_nil,List.append_nil]
  |succ k ih=>
   intro i A hi hA
   have hlt:i<L.length:=by omega
   have hx:L[i]?=some L[i]:=List.getElem?_eq_getElem hlt
   have hel:=q37 (ps:=o.getD []) (c:=L[i])
   rw[qbb (hstep i _ A hx hlt (by omega)),ih (i+1) _ (by omega) (by rw[List.length_append];omega),kh hx,List.flatMap_cons,List.append_assoc]
 have:=key L.length 0 [] (by omega) (by simp)
 rw[List.drop_zero,List.nil_append]at this
 exact this
theorem qi7 {L:List (List Int)}:(za (nnL L)).getD []=nnL L:=yd _
theorem jhz {L:List (List Int)}{i:Nat}{c:List Int}(h:L[i]?=some c):yo ((za (nnL L)).getD []) (i:Int)=some (za c):=by
 rw[qi7,qgl]
 unfold nnL
 rw[List.getElem?_map,h];rfl
theorem joi {A B:List (List Int)}(h:A.length+B.length≤1000)(hA:A≠[]):apO (za (nnL A)) (nnL B)=some (za (nnL (A++B))):=by
 unfold apO
 have hl:((za (nnL A)).getD []).length=A.length:=by rw[qi7];unfold nnL;rw[List.length_map]
 rw[if_pos (by rw[hl];unfold nnL;rw[List.length_map];omega)]
 cases A with
 |nil=>exact absurd rfl hA
 |cons a A=>
  show some (apS (some (za a::A.map za)) (nnL B))=_
  cases B with
  |nil=>simp[apS,nnL,za]
  |cons b B=>simp[apS,nnL,za]
theorem jjh {n:Nat}(hz:qb2 (o.getD [])=0)(hf:qrs (o.getD []) n):f115 o (n:Int)=some (za (nnL (chE (o.getD []) n))):=by
 have hn:=(qca hz).1
 have hn3:n≤3:=by rcases hf with h|h<;>omega
 have key:∀(k i:Nat),i+k=n→∃d,itO (qg4 o (n:Int)) (za (nnL (chE (o.getD []) i)),za (nnL (lvl (o.getD []) i)),(i:Int))=some d∧d.1=za (nnL (chE (o.getD []) n)):=by
  intro k
  induction k with
  |zero=>
   intro i hi
   have:i=n:=by omega
   subst this
   refine⟨(za (nnL (chE (o.getD []) i)),za (nnL (lvl (o.getD []) i)),(i:Int)),k9 ?_,rfl⟩
   unfold qg4
   dsimp only
   rw[kc];rfl
  |succ k ih=>
   intro i hi
   have hlt:i<n:=by omega
   have hli:=q7g hf (k:=i) (by omega)
   have hli1:=q7g hf (k:=i+1) (by omega)
   have hmid:=jg3 (o:=o) (L:=lvl (o.getD []) i) (f:=qmc o (n:Int) (za (nnL (chE (o.getD []) i)),za (nnL (lvl (o.getD []) i)),(i:Int))) hli hn (fun a=>by
     unfold qmc
     dsimp only
     rw[qi7]
     unfold nnL
     rw[List.length_map,kc];rfl) (fun j c A hc hj hA=>by
     obtain⟨k1,k2⟩:=qsm (List.mem_of_getElem? hc)
     have hlj:(j:Int)<((nnL (lvl (o.getD []) i)).length:Int):=by unfold nnL;rw[List.length_map];omega
     unfold qmc
     dsimp only
     rw[jhz hc,qi7,dT hlj,cT,j6,jsp hz (by omega) k2 hA,j6,yg hj (by omega)])
   have e:qg4 o (n:Int) (za (nnL (chE (o.getD []) i)),za (nnL (lvl (o.getD []) i)),(i:Int))=some (.inl (za (nnL (chE (o.getD []) (i+1))),za (nnL (lvl (o.getD []) (i+1))),((i+1:Nat):Int))):=by
    have hce:(chE (o.getD []) i).length≤21:=qzm (jgs hf (by omega))
    have hp:=qzt (ps:=o.getD []) i
    unfold qg4
    dsimp only
    rw[dT (show(i:Int)<(n:Int) by omega),cT,hmid,j6]
    dsimp only
    rw[qi7,show(lvl (o.getD []) i).flatMap (qec (o.getD []))=lvl (o.getD []) (i+1)from rfl,joi (by omega) (by intro h;rw[h]at hp;simp at hp),j6,yq (x:=(i:Int)+1) (by omega) (by omega)]
    rfl
   obtain⟨d,g1,g2⟩:=ih (i+1) (by omega)
   exact⟨d,by rw[qbb e];exact g1,g2⟩
 obtain⟨d,g1,g2⟩:=key n 0 (by omega)
 have g1':itO (qg4 o (n:Int)) (some [none],some [none],0)=some d:=g1
 have hs:=jiz (q61 (ps:=o.getD []) n) (fun x h=>by have:=(qmb h).1;omega)
 unfold f115
 rw[g1',j6,g2,jjl (L:=chE (o.getD []) n) qi7 hs (qzt n) (by have:=qzm hf;omega),j6]
end
def qf3 (ps:List qb):List Int→List qb
 | []=>[]
 |i::ch=>(match ps[i.toNat]? with|some p=>[p]|none=>[])++qf3 ps ch
theorem qni {ps:List qb}:∀ {ch:List Int},qe3 ps ch→jd ps ch (qf3 ps ch)
 | [],_=>⟨rfl,by simp,by simp[qf3]⟩
 |i::ch,h=>by
  have hq:=qni (ps:=ps) (ch:=ch) fun c hc=>h c (List.mem_cons_of_mem _ hc)
  have hi:=h i (List.mem_cons_self ..)
  have hlt:i.toNat<ps.length:=by omega
  have hx:ps[i.toNat]?=some ps[i.toNat]:=List.getElem?_eq_getElem hlt
  have e:qf3 ps (i::ch)=ps[i.toNat]::qf3 ps ch:=by
   show(match ps[i.toNat]? with|some p=>[p]|none=>[])++qf3 ps ch=_
   rw[hx];rfl
  rw[e]
  refine⟨by simp[hq.len],?_,?_⟩
  ·intro k j hk
   cases k with
   |zero=>
    simp only[List.getElem?_cons_zero,Option.some.injEq]at hk
    subst hk
    refine⟨_,rfl,?_⟩
    unfold yo
    rw[if_pos hi.1,hx]
   |succ k=>
    simp only[List.getElem?_cons_succ]at hk ⊢
    exact hq.at_ k j hk
  ·intro q hm
   rcases List.mem_cons.1 hm with rfl|hm
   ·exact List.getElem_mem hlt
   ·exact hq.mem q hm
def flt (ps:List qb)(bs:List qi)(c:List Int):Option (Nat×List ql):=qdy (qbk false (qf3 ps c) []) 0 bs
section
variable {o:Option (List qb)}{b:Option (List qi)}
theorem je5 (hz:qb2 (o.getD [])=0)(hb:qdq (b.getD [])=0){c:Option (List Int)}(hc:(c.getD []).length≤3)(hx:qe3 (o.getD []) (c.getD [])):
  f117 o c b=some (qg5 (flt (o.getD []) (b.getD []) (c.getD [])))∧f79 o c b=some (qg5 (flt (o.getD []) (b.getD []) (c.getD []))):=by
 have hp:=qni hx
 obtain⟨ok1,ok2⟩:=jas (c:=false) hz hp hc
 obtain⟨⟨b1,b8⟩,hb0⟩:=qg0 hb
 exact⟨jil hp ok1 (by rw[hp.len];omega) hb0 b8 ok2,jmk hp ok1 hc hb0 b8 ok2⟩
def cst (ps:List qb)(c:List Int):Int:=qce (qf3 ps c)
theorem jn2 (hz:qb2 (o.getD [])=0){c:Option (List Int)}(hc:(c.getD []).length≤3)(hx:qe3 (o.getD []) (c.getD [])):f71 o c=some (cst (o.getD []) (c.getD [])):=by
 have hp:=qni hx
 exact jlj hp (fun q h=>(qca hz).2 q (hp.mem q h)) hc
abbrev BS:=Option (List Int)×Int×Bool
def qcl (ps:List qb)(bs:List qi)(s:BS)(c:List Int):BS:=
 if(flt ps bs c).isNone&&(!s.2.2||decide (cst ps c<s.2.1))then(za c,cst ps c,true)else s
def qax (ps:List qb)(bs:List qi)(L:List (List Int)):BS:=L.foldl (qcl ps bs) (none,0,false)
theorem jfl {x:Option (Nat×List ql)}:(qg5 x).2=!x.isNone:=by cases x<;>rfl
theorem jbo {L:List (List Int)}{ps:List qb}{bs:List qi}{f:Option (List Int)×Int×Bool×Int→Option ((Option (List Int)×Int×Bool×Int)⊕(Option (List Int)×Int×Bool×Int))}
  (hend:∀a b c,f (a,b,c,(L.length:Int))=some (.inr (a,b,c,(L.length:Int))))
  (hstep:∀(i:Nat) c s,L[i]?=some c→i<L.length→f (s.1,s.2.1,s.2.2,(i:Int))=some (.inl ((qcl ps bs s c).1,(qcl ps bs s c).2.1,(qcl ps bs s c).2.2,((i+1:Nat):Int)))):
  itO f (none,0,false,0)=some ((qax ps bs L).1,(qax ps bs L).2.1,(qax ps bs L).2.2,(L.length:Int)):=by
 have key:∀(k i:Nat) (s:BS),i+k=L.length→itO f (s.1,s.2.1,s.2.2,(i:Int))=some (((L.drop i).foldl (qcl ps bs) s).1,((L.drop i).foldl (qcl ps bs) s).2.1,((L.drop i).foldl (qcl ps bs) s).2.2,(L.length:Int)):=by
  intro k
  induction k with
  |zero=>
   intro i s hi
   have:i=L.length:=by omega
   subst this
   rw[k9 (hend _ _ _),List.drop_eq_nil_of_le (Nat.le_refl _)]
   rfl
  |succ k ih=>
   intro i s hi
   have hlt:i<L.length:=by omega
   have hx:L[i]?=some L[i]:=List.getElem?_eq_getElem hlt
   rw[qbb (hstep i _ s hx hlt),ih (i+1) (qcl ps bs s L[i]) (by omega),kh hx,List.foldl_cons]
 have:=key L.length 0 (none,0,false) (by omega)
 rw[List.drop_zero]at this
 exact this
theorem ji1 (hz:qb2 (o.getD [])=0)(hb:qdq (b.getD [])=0){L:List (List Int)}(hL:∀c∈L,c.length≤3∧qe3 (o.getD []) c)(hn:L.length≤1000):
  itO (qp1 o b (za (nnL L))) (none,0,false,0)=some ((qax (o.getD []) (b.getD []) L).1,(qax (o.getD []) (b.getD []) L).2.1,(qax (o.getD []) (b.getD []) L).2.2,(L.length:Int)):=by
 have hlen:((nnL L).length:Int)=(L.length:Int):=by unfold nnL;rw[List.length_map]
 refine jbo (fun a b' c=>by unfold qp1;dsimp only;rw[qi7,hlen,kc];rfl) (fun i c s hc hi=>?_)
 obtain⟨h1,h2⟩:=hL c (List.mem_of_getElem? hc)
 obtain⟨e1,_⟩:=je5 (c:=za c) hz hb (by rw[yd];exact h1) (by rw[yd];exact h2)
 have e2:=jn2 (c:=za c) hz (by rw[yd];exact h1) (by rw[yd];exact h2)
 rw[yd]at e1 e2
 unfold qp1
 dsimp only
 rw[jhz hc,qi7,hlen,kl hi,cT,j6,jkl,e2,j6,e1,yg hi (by omega)]
 obtain⟨sa,sb,st⟩:=s
 unfold qcl
 simp only[j6,jfl]
 cases st with
 |true=>
  by_cases hle:sb≤cst (o.getD []) c
  ·rw[dT hle,dF (show ¬cst (o.getD []) c<sb by omega)]
   simp
  ·rw[dF hle,dT (show cst (o.getD []) c<sb by omega)]
   cases (flt (o.getD []) (b.getD []) c).isNone<;>simp
 |false=>
  cases (flt (o.getD []) (b.getD []) c).isNone<;>simp
theorem q29 {ps:List qb}{bs:List qi}:∀ {L:List (List Int)} {s:BS},(s.2.2=false→s.1=none∧s.2.1=0)→((L.foldl (qcl ps bs) s).2.2=false→(L.foldl (qcl ps bs) s).1=none∧(L.foldl (qcl ps bs) s).2.1=0)
 | [],s,h=>h
 |c::L,s,h=>by
  rw[List.foldl_cons]
  refine q29 ?_
  unfold qcl
  split
  ·intro k;cases k
  ·exact h
end
theorem qy5 {ps:List qb}{bs:List qi}{L:List (List Int)}(h:(qax ps bs L).2.2=false):(qax ps bs L).1=none∧(qax ps bs L).2.1=0:=q29 (fun _=>⟨rfl,rfl⟩) h
def jha (ps:List qb)(bs:List qi)(n:Int):Int:=y9 [qb2 ps,qdq bs,yj n 0 3]
theorem jio {o:Option (List qb)}{b:Option (List qi)}{n:Int}:f114 o b n=some (jha (o.getD []) (b.getD []) n):=by
 unfold f114
 rw[qye,j6,jm4,j6,qoe,j6,qgr (by simp),j6]
 rfl
theorem jns {o:Option (List qb)}{bs:Option (List qi)}{n:Int}:∃b,f36 o bs n=some b∧(b=true→qsn (o.getD [])=true∧(bs.getD []).length≤9∧(n≤2∨3<n∨(o.getD []).length≤2)):=by
 unfold f36
 rw[jov,j6]
 cases hs:qsn (o.getD [])with
 |false=>exact⟨false,rfl,fun h=>by cases h⟩
 |true=>
  rw[cT]
  have fin:∃b,(cond (decide (n≤2)) (some true) (cond (decide (3<n)) (some true) (some (decide (((o.getD []).length:Int)≤2)))):Option Bool)=some b∧(b=true→(n≤2∨3<n∨(o.getD []).length≤2)):=by
   by_cases h1:n≤2
   ·rw[dT h1];exact⟨_,rfl,fun _=>.inl h1⟩
   ·rw[dF h1]
    by_cases h2:3<n
    ·rw[dT h2];exact⟨_,rfl,fun _=>.inr (.inl h2)⟩
    ·rw[dF h2];exact⟨_,rfl,fun h=>.inr (.inr (by have:=of_decide_eq_true h;omega))⟩
  obtain⟨b,f1,f2⟩:=fin
  by_cases h4:((bs.getD []).length:Int)≤4
  ·rw[dT h4,cT]
   exact⟨b,f1,fun h=>⟨rfl,by omega,f2 h⟩⟩
  ·rw[dF h4,cF]
   by_cases h9:((bs.getD []).length:Int)=9
   ·rw[dT h9,cT]
    exact⟨b,f1,fun h=>⟨rfl,by omega,f2 h⟩⟩
   ·rw[dF h9]
    exact⟨false,rfl,fun h=>by cases h⟩
end Go.Z
