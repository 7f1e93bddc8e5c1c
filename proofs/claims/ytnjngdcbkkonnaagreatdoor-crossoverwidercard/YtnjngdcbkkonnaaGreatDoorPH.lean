/- Chapter 4. -/
import Derived.Test.YtnjngdcbkkonnaaGreatDoorA5
import Derived.Test.YtnjngdcbkkonnaaGreatDoorPB
import Derived.Shelf.Bits.Mul64
set_option linter.unusedVariables false
set_option linter.unusedSimpArgs false
set_option maxRecDepth 100000
set_option maxHeartbeats 1000000
namespace Go.Z
open Go Go.Abs
def cm (a b:qh):qh:=⟨j9 .i64 (j9 .i64 (a.num*b.num)-j9 .i64 (a.den*b.den)),j9 .i64 (j9 .i64 (a.num*b.den)+j9 .i64 (a.den*b.num))⟩
def ca (a b:qh):qh:=⟨j9 .i64 (a.num+b.num),j9 .i64 (a.den+b.den)⟩
theorem joq {a b:qh}:f63 a b=some (cm a b):=rfl
def en0 (m:qr):qh:=⟨m.m0,m.m1⟩
def en1 (m:qr):qh:=⟨m.m2,m.m3⟩
def en2 (m:qr):qh:=⟨m.m4,m.m5⟩
def en3 (m:qr):qh:=⟨m.m6,m.m7⟩
def mk4 (x y z w:qh):qr:=⟨x.num,x.den,y.num,y.den,z.num,z.den,w.num,w.den⟩
def mp (a b:qr):qr:=mk4 (ca (cm (en0 a) (en0 b)) (cm (en1 a) (en2 b))) (ca (cm (en0 a) (en1 b)) (cm (en1 a) (en3 b))) (ca (cm (en2 a) (en0 b)) (cm (en3 a) (en2 b))) (ca (cm (en2 a) (en1 b)) (cm (en3 a) (en3 b)))
theorem jjb {a b:qr}:f206 a b=some (mp a b):=rfl
theorem jjc {a b:qr}:f169 a b=some (mp a b):=rfl
def kM (s:List UInt8)(v:qh):qr:=if s=kSe then⟨1,0,v.num,v.den,0,0,1,0⟩else if s=kSh then⟨1,0,0,0,v.num,v.den,1,0⟩else if s=kB then⟨v.num,v.den,1,0,0,0,v.num,v.den⟩else⟨v.num,v.den,0,0,1,0,v.num,v.den⟩
theorem ji7 {s:List UInt8}{v:qh}:q94 s v=some (kM s v):=by
 unfold q94 kM
 by_cases h1:s=kSe
 ·rw[if_pos h1,dT (show s=[115,101,114,105,101,115]from h1)];rfl
 rw[if_neg h1,dF (show ¬s=[115,101,114,105,101,115]from h1),cF]
 by_cases h2:s=kSh
 ·rw[if_pos h2,dT (show s=[115,104,117,110,116]from h2)];rfl
 rw[if_neg h2,dF (show ¬s=[115,104,117,110,116]from h2),cF]
 by_cases h3:s=kB
 ·rw[if_pos h3,dT (show s=[98,108,111,99,107]from h3)];rfl
 rw[if_neg h3,dF (show ¬s=[98,108,111,99,107]from h3)];rfl
theorem jlp {s:List UInt8}{v:qh}(h:isK s=true):kOf s v=some (kM s v,qde s):=by
 unfold kOf kM qde
 by_cases h3:s=kB
 ·subst h3;rfl
 rw[dF (show ¬s=[98,108,111,99,107]from h3),cF]
 by_cases h1:s=kSe
 ·subst h1;rfl
 rw[if_neg h1,dF (show ¬s=[115,101,114,105,101,115]from h1),cF]
 by_cases h2:s=kSh
 ·subst h2;rfl
 rw[if_neg h2,dF (show ¬s=[115,104,117,110,116]from h2),cF]
 by_cases h4:s=kT
 ·subst h4;rfl
 ·simp[isK,h1,h2,h3,h4]at h
def vOf (w:Int)(x:ql):qh:=⟨x.a,j9 .i64 (w*x.b)⟩
def stp (w:Int)(q:qr×qh)(x:ql):qr×qh:=(mp q.1 (kM x.kind (vOf w x)),if qde x.kind then cm q.2 (vOf w x)else q.2)
def m1:qr:=⟨1,0,0,0,0,0,1,0⟩
def chn (w:Int)(l:List ql):qr×qh:=l.foldl (stp w) (m1,⟨1,0⟩)
theorem jok {s:List UInt8}:f55 s=some (qde s):=by
 unfold f55 qde
 by_cases h:s=kB
 ·rw[dT (show s=[98,108,111,99,107]from h),dT h];rfl
 ·rw[dF (show ¬s=[98,108,111,99,107]from h),dF h];rfl
theorem q2q {w:Int}:∀ {l:List ql} {q:qr×qh},(∀x∈l,isK x.kind=true)→qm0 w l q=some (l.foldl (stp w) q)
 | [],q,_=>rfl
 |x::l,q,h=>by
  have hx:=h x (List.mem_cons_self ..)
  simp only[qm0,q11,jlp hx,j6,jjb,List.foldl_cons]
  have:(cond (qde x.kind) (f207 q.2 ⟨x.a,j9 .i64 (w*x.b)⟩) (some q.2))=some (if qde x.kind then cm q.2 (vOf w x)else q.2):=by
   cases qde x.kind<;>rfl
  rw[this,j6,j6]
  exact q2q fun y hy=>h y (List.mem_cons_of_mem _ hy)
theorem jj1 {o:Option (List ql)}{w:Int}(hn:(o.getD []).length≤5)(h:∀x∈o.getD [],isK x.kind=true):f173 o w=some (chn w (o.getD [])):=by
 unfold f173
 rw[dT hn,cT,q2q h];rfl
def t8 (i:Int)(m:qr):Int×Int×Int×Int×Int×Int×Int×Int×Int:=(i,m.m0,m.m1,m.m2,m.m3,m.m4,m.m5,m.m6,m.m7)
theorem q7v {o:Option (List ql)}{w i:Int}{m:qr}:q42 o w (t8 i m)=cond (decide (i<((o.getD []).length:Int))) (j5 (yo (o.getD []) i) fun v24=>j5 (qzu v24 w) fun v26=>j5 (q94 v24.kind v26) fun v28=>j5 (f169 m v28) fun v30=>some (.inl (t8 (j9 .i64 (i+1)) v30))) (some (.inr (t8 i m))):=rfl
theorem jg8 {o:Option (List ql)}{w:Int}(hn:(o.getD []).length≤5):∀ {k i:Nat} {q:qr×qh},(o.getD []).length=i+k→itO (q42 o w) (t8 i q.1)=some (t8 ((o.getD []).length:Int) (((o.getD []).drop i).foldl (stp w) q).1)
 |0,i,q,hk=>by
  rw[List.drop_eq_nil_of_le (by omega)]
  have hd:decide ((i:Int)<((o.getD []).length:Int))=false:=dF (by omega)
  rw[k9 (d:=t8 i q.1) (by rw[q7v,hd];rfl),show(i:Int)=((o.getD []).length:Int) by omega];rfl
 |k+1,i,q,hk=>by
  have hi:i<(o.getD []).length:=by omega
  have hx:(o.getD [])[i]?=some (o.getD [])[i]:=List.getElem?_eq_getElem hi
  rw[kh hx,List.foldl_cons]
  rw[qbb (s':=t8 ((i+1:Nat):Int) (stp w q (o.getD [])[i]).1) (by
   rw[q7v,kl hi,cT,y8 hx,j6]
   simp only[qzu,j6,ji7,jjc,yg hi (show(o.getD []).length≤9223372036854775807 by omega)]
   rfl)]
  exact jg8 hn (k:=k) (by omega)
theorem jkq {o:Option (List ql)}{w:Int}(hn:(o.getD []).length≤5):f129 o w=some (chn w (o.getD [])).1:=by
 have h:=jg8 (w:=w) hn (k:=(o.getD []).length) (i:=0) (q:=(m1,⟨1,0⟩)) (by omega)
 unfold f129
 simp only[f166,qse,j6]
 rw[show((0:Int),(1:Int),(0:Int),(0:Int),(0:Int),(0:Int),(0:Int),(1:Int),(0:Int))=t8 ((0:Nat):Int) m1 from rfl,h,j6,List.drop_zero]
 rfl
theorem q7j {o:Option (List ql)}{w i:Int}{d:qh}:q3u o w (i,d.num,d.den)=cond (decide (i<((o.getD []).length:Int))) (j5 (yo (o.getD []) i) fun v24=>j5 (f55 v24.kind) fun v26=>cond v26 (j5 (qzu v24 w) fun v29=>j5 (f63 d v29) fun v31=>some (.inl (j9 .i64 (i+1),v31.num,v31.den))) (some (.inl (j9 .i64 (i+1),d.num,d.den)))) (some (.inr (i,d.num,d.den))):=rfl
theorem jh4 {o:Option (List ql)}{w:Int}(hn:(o.getD []).length≤5):∀ {k i:Nat} {q:qr×qh},(o.getD []).length=i+k→itO (q3u o w) ((i:Int),q.2.num,q.2.den)=some (((o.getD []).length:Int),(((o.getD []).drop i).foldl (stp w) q).2.num,(((o.getD []).drop i).foldl (stp w) q).2.den)
 |0,i,q,hk=>by
  rw[List.drop_eq_nil_of_le (by omega)]
  have hd:decide ((i:Int)<((o.getD []).length:Int))=false:=dF (by omega)
  rw[k9 (d:=((i:Int),q.2.num,q.2.den)) (by rw[q7j,hd];rfl),show(i:Int)=((o.getD []).length:Int) by omega];rfl
 |k+1,i,q,hk=>by
  have hi:i<(o.getD []).length:=by omega
  have hx:(o.getD [])[i]?=some (o.getD [])[i]:=List.getElem?_eq_getElem hi
  rw[kh hx,List.foldl_cons]
  rw[qbb (s':=(((i+1:Nat):Int),(stp w q (o.getD [])[i]).2.num,(stp w q (o.getD [])[i]).2.den)) (by
   rw[q7j,kl hi,cT,y8 hx,j6]
   simp only[j6,jok,qzu,joq,yg hi (show(o.getD []).length≤9223372036854775807 by omega)]
   cases hd:qde ((o.getD [])[i]).kind<;>simp only[stp,hd,cT,cF,if_true,Bool.false_eq_true,if_false]<;>rfl)]
  exact jh4 hn (k:=k) (by omega)
theorem jkt {o:Option (List ql)}{w:Int}(hn:(o.getD []).length≤5):jfb o w=some (chn w (o.getD [])).2:=by
 have h:=jh4 (w:=w) hn (k:=(o.getD []).length) (i:=0) (q:=(m1,⟨1,0⟩)) (by omega)
 unfold jfb
 simp only[f166,j6]
 rw[show((0:Int),(1:Int),(0:Int))=(((0:Nat):Int),(m1,(⟨1,0⟩:qh)).2.num,(m1,(⟨1,0⟩:qh)).2.den)from rfl,h,j6,List.drop_zero]
 rfl
structure jm (x:ql):Prop where
 k:isK x.kind=true
 a0:0≤x.a
 a8:x.a≤8
 b0:0≤x.b
 b8:x.b≤8
 z:qde x.kind=true→¬(x.a=0∧x.b=0)
theorem qdf {n lo hi:Int}(h:yj n lo hi=0):lo≤n∧n≤hi:=by
 unfold yj at h
 split at h
 ·cases h
 ·split at h
  ·cases h
  ·omega
theorem jd6 {x:ql}(h:qa8 x=0):jm x:=by
 unfold qa8 at h
 rw[qao]at h
 have h1:=h _ (List.mem_cons_self ..)
 have h2:=qdf (h (yj x.a 0 8) (by simp))
 have h3:=qdf (h (yj x.b 0 8) (by simp))
 have h4:=h (qbg (qde x.kind&&decide (x.a=0)&&decide (x.b=0)) 6) (by simp)
 refine⟨?_,h2.1,h2.2,h3.1,h3.2,?_⟩
 ·cases hk:isK x.kind with
  |true=>rfl
  |false=>rw[hk]at h1;cases h1
 ·intro hd ⟨ha,hb⟩
  rw[hd,dT ha,dT hb]at h4
  cases h4
theorem qxw {l:List ql}(h:qa0 l=0):l.length≤5∧∀x∈l,jm x:=by
 unfold qa0 at h
 split at h
 ·cases h
 ·refine⟨by omega,fun x hx=>jd6 ?_⟩
  rw[qao]at h
  exact h _ (List.mem_map_of_mem hx)
theorem qv2 {B x y c:Int}(h1:-B≤x)(h2:x≤B)(h3:0≤y)(h4:y≤c)(hB:0≤B):-(B*c)≤x*y∧x*y≤B*c:=by
 have k1:x*y≤B*y:=Int.mul_le_mul_of_nonneg_right h2 h3
 have k2:B*y≤B*c:=Int.mul_le_mul_of_nonneg_left h4 hB
 have k3:(-B)*y≤x*y:=Int.mul_le_mul_of_nonneg_right h1 h3
 rw[Int.neg_mul]at k3
 omega
structure bd (B:Int)(z:qh):Prop where
 a:-B≤z.num
 b:z.num≤B
 c:-B≤z.den
 d:z.den≤B
structure vl (v:qh):Prop where
 a:0≤v.num
 b:v.num≤8
 c:0≤v.den
 d:v.den≤64
theorem q89 {B:Int}{z v:qh}(hB:0≤B)(hB2:B≤100000000000)(hz:bd B z)(hv:vl v):bd (72*B) (cm z v)∧cm z v=⟨z.num*v.num-z.den*v.den,z.num*v.den+z.den*v.num⟩:=by
 obtain⟨z1,z2,z3,z4⟩:=hz
 obtain⟨v1,v2,v3,v4⟩:=hv
 have k1:=qv2 z1 z2 v1 v2 hB
 have k2:=qv2 z3 z4 v3 v4 hB
 have k3:=qv2 z1 z2 v3 v4 hB
 have k4:=qv2 z3 z4 v1 v2 hB
 have e:cm z v=⟨z.num*v.num-z.den*v.den,z.num*v.den+z.den*v.num⟩:=by
  unfold cm
  rw[yq (x:=z.num*v.num) (by omega) (by omega),yq (x:=z.den*v.den) (by omega) (by omega),yq (x:=z.num*v.den) (by omega) (by omega),yq (x:=z.den*v.num) (by omega) (by omega),yq (by omega) (by omega),yq (by omega) (by omega)]
 refine⟨?_,e⟩
 rw[e]
 exact⟨by dsimp only;omega,by dsimp only;omega,by dsimp only;omega,by dsimp only;omega⟩
theorem jlr {B:Int}{z:qh}(hB2:B≤100000000000)(hz:bd B z):bd B (cm z ⟨1,0⟩):=by
 obtain⟨z1,z2,z3,z4⟩:=hz
 unfold cm
 simp only[Int.mul_one,Int.mul_zero]
 rw[yq (x:=z.num) (by omega) (by omega),yq (x:=0) (by omega) (by omega),yq (x:=z.den) (by omega) (by omega),yq (by omega) (by omega),yq (by omega) (by omega)]
 exact⟨by dsimp only;omega,by dsimp only;omega,by dsimp only;omega,by dsimp only;omega⟩
theorem jif {B:Int}{z:qh}(hB:0≤B):bd B (cm z ⟨0,0⟩):=by
 have e:cm z ⟨0,0⟩=⟨0,0⟩:=by unfold cm;simp only[Int.mul_zero];rfl
 rw[e]
 exact⟨by dsimp only;omega,hB,by dsimp only;omega,hB⟩
def sm (v:qh):Prop:=v=⟨1,0⟩∨v=⟨0,0⟩
theorem jh0 {B:Int}{z v:qh}(hB:0≤B)(hB2:B≤100000000000)(hz:bd B z)(h:sm v):bd B (cm z v):=by
 rcases h with rfl|rfl
 ·exact jlr hB2 hz
 ·exact jif hB
theorem jhv {A B:Int}{x y:qh}(hA:0≤A)(hB:0≤B)(h:A+B≤9000000000000000000)(hx:bd A x)(hy:bd B y):bd (A+B) (ca x y):=by
 obtain⟨x1,x2,x3,x4⟩:=hx
 obtain⟨y1,y2,y3,y4⟩:=hy
 unfold ca
 rw[yq (by omega) (by omega),yq (by omega) (by omega)]
 exact⟨by dsimp only;omega,by dsimp only;omega,by dsimp only;omega,by dsimp only;omega⟩
theorem qfv {A B:Int}{z:qh}(h:A≤B)(hz:bd A z):bd B z:=by
 obtain⟨z1,z2,z3,z4⟩:=hz
 exact⟨by omega,by omega,by omega,by omega⟩
theorem qxt {B:Int}{x y p q:qh}(hB:0≤B)(hB2:B≤100000000000)(hx:bd B x)(hy:bd B y)(h:(vl p∧sm q)∨(sm p∧vl q)):bd (73*B) (ca (cm x p) (cm y q)):=by
 rcases h with⟨h1,h2⟩|⟨h1,h2⟩
 ·exact qfv (by omega) (jhv (by omega) hB (by omega) (q89 hB hB2 hx h1).1 (jh0 hB hB2 hy h2))
 ·exact qfv (by omega) (jhv hB (by omega) (by omega) (jh0 hB hB2 hx h1) (q89 hB hB2 hy h2).1)
structure bq (B:Int)(q:qr×qh):Prop where
 a:bd B (en0 q.1)
 b:bd B (en1 q.1)
 c:bd B (en2 q.1)
 d:bd B (en3 q.1)
 e:bd B q.2
theorem jdp:vl ⟨1,0⟩:=⟨by decide,by decide,by decide,by decide⟩
theorem jjz {s:List UInt8}{v:qh}(hv:vl v):((vl (en0 (kM s v))∧sm (en2 (kM s v)))∨(sm (en0 (kM s v))∧vl (en2 (kM s v))))∧((vl (en1 (kM s v))∧sm (en3 (kM s v)))∨(sm (en1 (kM s v))∧vl (en3 (kM s v)))):=by
 have hv':vl ⟨v.num,v.den⟩:=hv
 unfold kM
 split
 ·exact⟨.inl ⟨jdp,.inr rfl⟩,.inl ⟨hv',.inl rfl⟩⟩
 split
 ·exact⟨.inr ⟨.inl rfl,hv'⟩,.inr ⟨.inr rfl,jdp⟩⟩
 split
 ·exact⟨.inl ⟨hv',.inr rfl⟩,.inr ⟨.inl rfl,hv'⟩⟩
 ·exact⟨.inl ⟨hv',.inl rfl⟩,.inr ⟨.inr rfl,hv'⟩⟩
theorem jna {w:Int}{x:ql}(hw:1≤w∧w≤8)(hx:jm x):vl (vOf w x)∧vOf w x=⟨x.a,w*x.b⟩:=by
 have k:=qv2 (B:=8) (x:=w) (y:=x.b) (c:=8) (by omega) (by omega) hx.b0 hx.b8 (by decide)
 have k0:0≤w*x.b:=Int.mul_nonneg (by omega) hx.b0
 have e:vOf w x=⟨x.a,w*x.b⟩:=by unfold vOf;rw[yq (by omega) (by omega)]
 refine⟨?_,e⟩
 rw[e]
 exact⟨hx.a0,hx.a8,k0,by dsimp only;omega⟩
theorem jmc {B w:Int}{q:qr×qh}{x:ql}(hB:0≤B)(hB2:B≤100000000000)(hw:1≤w∧w≤8)(hx:jm x)(h:bq B q):bq (73*B) (stp w q x):=by
 have hv:=(jna hw hx).1
 obtain⟨c1,c2⟩:=jjz (s:=x.kind) hv
 refine⟨qxt hB hB2 h.a h.b c1,qxt hB hB2 h.a h.b c2,qxt hB hB2 h.c h.d c1,qxt hB hB2 h.c h.d c2,?_⟩
 unfold stp
 dsimp only
 split
 ·exact qfv (by omega) (q89 hB hB2 h.e hv).1
 ·exact qfv (by omega) h.e
def pw:Nat→Int
 |0=>1
 |n+1=>73*pw n
theorem jbj:∀ n,1≤pw n
 |0=>by decide
 |n+1=>by have:=jbj n;unfold pw;omega
theorem q7k {w:Int}(hw:1≤w∧w≤8):∀ {l:List ql} {k:Nat} {q:qr×qh},(∀x∈l,jm x)→k+l.length≤5→bq (pw k) q→bq (pw (k+l.length)) (l.foldl (stp w) q)
 | [],k,q,_,_,h=>h
 |x::l,k,q,ho,hk,h=>by
  rw[List.length_cons]at hk
  have hb:pw k≤28398241:=by
   have:k≤4:=by omega
   match k,this with
   |0,_=>decide
   |1,_=>decide
   |2,_=>decide
   |3,_=>decide
   |4,_=>decide
  have:=q7k hw (l:=l) (k:=k+1) (q:=stp w q x) (fun y hy=>ho y (List.mem_cons_of_mem _ hy)) (by omega) (jmc (by have:=jbj k;omega) (by omega) hw (ho x (List.mem_cons_self ..)) h)
  rw[show k+(x::l).length=k+1+l.length by rw[List.length_cons];omega]
  exact this
theorem jmm {w:Int}{l:List ql}(hw:1≤w∧w≤8)(hl:l.length≤5)(ho:∀x∈l,jm x):bq (pw l.length) (chn w l):=by
 have h0:bq (pw 0) (m1,⟨1,0⟩):=⟨⟨by decide,by decide,by decide,by decide⟩,⟨by decide,by decide,by decide,by decide⟩,⟨by decide,by decide,by decide,by decide⟩,⟨by decide,by decide,by decide,by decide⟩,⟨by decide,by decide,by decide,by decide⟩⟩
 have:=q7k hw ho (k:=0) (by omega) h0
 rw[Nat.zero_add]at this
 exact this
theorem ji8:∀ {n:Nat},n≤5→pw n≤2073071593
 |0,_=>by decide
 |1,_=>by decide
 |2,_=>by decide
 |3,_=>by decide
 |4,_=>by decide
 |5,_=>by decide
 |n+6,h=>by omega
theorem qqm {a b:Nat}(h:b≠0):qh8 (a:Int) (b:Int)=some ((a % b:Nat):Int):=by
 unfold qh8
 rw[if_neg (by omega)]
 rfl
theorem qw0 {δ:Type}{f:Int×Int→Option ((Int×Int)⊕δ)}{k:Int×Int→δ}(hf:∀a b:Int,f (a,b)=cond (decide (b=0)) (some (.inr (k (a,b)))) (j5 (qh8 a b) fun v=>some (.inl (b,v)))):∀(n:Nat) (a b:Nat),b≤n→itO f ((a:Int),(b:Int))=some (k (((Nat.gcd a b:Nat):Int),0))
 |n,a,0,_=>by
  rw[Nat.gcd_zero_right]
  exact k9 (by rw[hf];rfl)
 |0,a,b+1,h=>by omega
 |n+1,a,b+1,h=>by
  have hm:a % (b+1)<b+1:=Nat.mod_lt _ (by omega)
  rw[qbb (s':=(((b+1:Nat):Int),((a % (b+1):Nat):Int))) (by
   rw[hf,dF (by omega),cF,qqm (by omega)];rfl)]
  rw[qw0 hf n (b+1) (a % (b+1)) (by omega)]
  rw[Nat.gcd_comm a (b+1),Nat.gcd_rec (b+1) a,Nat.gcd_comm]
def low (a b:Int):qh:=⟨a / (Nat.gcd a.toNat b.toNat:Nat),b / (Nat.gcd a.toNat b.toNat:Nat)⟩
theorem qh0 {a g:Nat}(hg:0<g)(ha:a≤9223372036854775807):qfc .i64 (a:Int) (g:Int)=some ((a:Int) / (g:Int)):=by
 unfold qfc
 rw[if_neg (by omega)]
 have e:(a:Int).tdiv (g:Int)=(a:Int) / (g:Int):=rfl
 rw[e,yq]
 ·have:0≤(a:Int) / (g:Int):=Int.ediv_nonneg (by omega) (by omega)
  omega
 ·have:(a:Int) / (g:Int)≤(a:Int):=Int.ediv_le_self _ (by omega)
  omega
section
variable {a b:Int}
theorem qub (hb:0<b):0<Nat.gcd a.toNat b.toNat:=Nat.gcd_pos_of_pos_right _ (by omega)
theorem jgi (h0:0≤a)(h1:a≤9223372036854775807)(h2:0<b)(h3:b≤9223372036854775807):f125 a b=some (low a b):=by
 have hg:=qub (a:=a) h2
 obtain⟨a,rfl⟩:=Int.eq_ofNat_of_zero_le h0
 obtain⟨b,rfl⟩:=Int.eq_ofNat_of_zero_le (Int.le_of_lt h2)
 have hg:0<Nat.gcd a b:=hg
 unfold f125
 rw[qw0 (k:=id) (fun _ _=>rfl) b a b (Nat.le_refl _),j6]
 dsimp only[id]
 rw[qh0 hg (by omega),j6,qh0 hg (by omega),j6]
 rfl
theorem jfn (h0:0≤a)(h1:a≤9223372036854775807)(h2:0<b)(h3:b≤9223372036854775807):f174 a b=some (low a b):=by
 have hg:=qub (a:=a) h2
 obtain⟨a,rfl⟩:=Int.eq_ofNat_of_zero_le h0
 obtain⟨b,rfl⟩:=Int.eq_ofNat_of_zero_le (Int.le_of_lt h2)
 have hg:0<Nat.gcd a b:=hg
 unfold f174
 rw[qw0 (k:=id) (fun _ _=>rfl) b a b (Nat.le_refl _),j6]
 dsimp only[id]
 rw[qh0 hg (by omega),j6,qh0 hg (by omega),j6]
 rfl
theorem q63 (h0:0≤a)(h1:a≤9223372036854775807)(h2:0<b)(h3:b≤9223372036854775807):f66 a b=some (low a b):=by
 have hg:=qub (a:=a) h2
 obtain⟨a,rfl⟩:=Int.eq_ofNat_of_zero_le h0
 obtain⟨b,rfl⟩:=Int.eq_ofNat_of_zero_le (Int.le_of_lt h2)
 have hg:0<Nat.gcd a b:=hg
 unfold f66
 rw[dF (by omega),cF,yq (x:=0-(a:Int)) (by omega) (by omega),show max (a:Int) (0-(a:Int))=(a:Int) by omega]
 rw[qw0 (k:=id) (fun _ _=>rfl) b a b (Nat.le_refl _),j6]
 dsimp only[id]
 rw[qh0 hg (by omega),j6,qh0 hg (by omega),j6]
 rfl
theorem jl6 (h0:0≤a)(h2:0<b):0≤(low a b).num∧(low a b).num≤a∧1≤(low a b).den∧(low a b).den≤b:=by
 have hg:=qub (a:=a) h2
 unfold low
 dsimp only
 refine⟨Int.ediv_nonneg h0 (by omega),Int.ediv_le_self _ h0,?_,Int.ediv_le_self _ (by omega)⟩
 have hd:Nat.gcd a.toNat b.toNat≤b.toNat:=Nat.gcd_le_right _ (by omega)
 exact(Int.le_ediv_iff_mul_le (by omega)).2 (by omega)
end
theorem q9o (a:Nat)(ha:a<18446744073709551616):qqw .and .u64 (a:Int) 4294967295=((a % 4294967296:Nat):Int):=Go.Proofs.Mul64.maskN a ha
theorem jsm (a:Nat):qtc .u64 (a:Int) 32=some ((a / 4294967296:Nat):Int):=by
 show some (Int.fdiv (a:Int) (2^32))=_
 rw[show((2:Int)^32)=((4294967296:Nat):Int)from rfl]
 have:Int.fdiv (a:Int) ((4294967296:Nat):Int)=((a / 4294967296:Nat):Int):=by
  rw[Int.fdiv_eq_ediv_of_nonneg _ (by omega)];omega
 rw[this]
theorem wrapN (a:Nat)(ha:a<18446744073709551616):j9 .u64 (a:Int)=(a:Int):=by rw[qeh];exact Go.Proofs.Mul64.wrapN a ha
theorem wrapM (a:Nat):j9 .u64 (a:Int)=((a % 18446744073709551616:Nat):Int):=by rw[qeh];exact Go.Proofs.Mul64.wrapM a
theorem q6m (x y:Nat)(hx:x<18446744073709551616)(hy:y<18446744073709551616):f165 (x:Int) (y:Int)=some (((x*y / 18446744073709551616:Nat):Int),((x*y % 18446744073709551616:Nat):Int)):=by
 obtain⟨bd,bt,bw,hhi⟩:=Lib.mul64_hi x y hx hy
 have ba:=Lib.half_mul_le (a:=x / 4294967296) (b:=y / 4294967296) (by omega) (by omega)
 have bb:=Lib.half_mul_le (a:=x / 4294967296) (b:=y % 4294967296) (by omega) (by omega)
 have bc:=Lib.half_mul_le (a:=x % 4294967296) (b:=y / 4294967296) (by omega) (by omega)
 have ba':x / 4294967296*(y / 4294967296)<18446744073709551616:=by omega
 have bb':x / 4294967296*(y % 4294967296)<18446744073709551616:=by omega
 have bc':x % 4294967296*(y / 4294967296)<18446744073709551616:=by omega
 have bh1:x / 4294967296*(y / 4294967296)+(x / 4294967296*(y % 4294967296)+x % 4294967296*(y % 4294967296) / 4294967296) / 4294967296<18446744073709551616:=by omega
 have bh:x / 4294967296*(y / 4294967296)+(x / 4294967296*(y % 4294967296)+x % 4294967296*(y % 4294967296) / 4294967296) / 4294967296+((x / 4294967296*(y % 4294967296)+x % 4294967296*(y % 4294967296) / 4294967296) % 4294967296+x % 4294967296*(y / 4294967296)) / 4294967296<18446744073709551616:=by omega
 unfold f165
 simp only[q9o x hx,q9o y hy,jsm,j6,Go.Proofs.Mul64.mulN,Go.Proofs.Mul64.addN,wrapN _ bd,wrapN _ bb',wrapN _ bt,q9o _ bt,wrapN _ bc',wrapN _ bw,wrapN _ ba',wrapN _ bh1,wrapN _ bh,wrapM (x*y)]
 rw[hhi]
theorem jfe {a b:qh}(a1:0≤a.num)(a2:a.num≤9223372036854775807)(a3:0≤a.den)(a4:a.den≤9223372036854775807)(b1:0≤b.num)(b2:b.num≤9223372036854775807)(b3:0≤b.den)(b4:b.den≤9223372036854775807):
  f127 a b=some (decide (b.num*a.den<a.num*b.den)):=by
 obtain⟨p,q⟩:=a
 obtain⟨r,s⟩:=b
 dsimp only at a1 a2 a3 a4 b1 b2 b3 b4 ⊢
 obtain⟨p,rfl⟩:=Int.eq_ofNat_of_zero_le a1
 obtain⟨q,rfl⟩:=Int.eq_ofNat_of_zero_le a3
 obtain⟨r,rfl⟩:=Int.eq_ofNat_of_zero_le b1
 obtain⟨s,rfl⟩:=Int.eq_ofNat_of_zero_le b3
 unfold f127
 simp only[wrapN p (by omega),wrapN q (by omega),wrapN r (by omega),wrapN s (by omega),q6m p s (by omega) (by omega),q6m r q (by omega) (by omega),j6]
 rw[Go.Proofs.Mul64.mulN,Go.Proofs.Mul64.mulN]
 generalize p*s=u
 generalize r*q=v
 by_cases h1:((v / 18446744073709551616:Nat):Int)<((u / 18446744073709551616:Nat):Int)
 ·rw[dT h1,cT,dT (by omega)]
 ·rw[dF h1,cF]
  by_cases h2:((u / 18446744073709551616:Nat):Int)=((v / 18446744073709551616:Nat):Int)
  ·rw[dT h2,cT]
   congr 1
   exact decide_eq_decide.2 (by omega)
  ·rw[dF h2,cF,dF (by omega)]
theorem qvs {a b:Nat}(h:0<b)(ha:a≤9223372036854775807):qfc .i64 (a:Int) (b:Int)=some ((a / b:Nat):Int):=by
 rw[qh0 h ha];rfl
theorem q04 {rec:qh→qh→Option Bool}{a b c d:Nat}(hb:0<b)(hd:0<d)(ha':a≤9223372036854775807)(hc':c≤9223372036854775807)
  (hr:a / b=c / d→0<a % b→0<c % d→rec ⟨d,((c % d:Nat):Int)⟩ ⟨b,((a % b:Nat):Int)⟩=some (decide (d*(a % b)<b*(c % d)))):
  F58 rec ⟨a,b⟩ ⟨c,d⟩=some (decide (a*d<c*b)):=by
 unfold F58
 dsimp only
 simp only[qvs hb ha',qvs hd hc',j6,qqm (show b≠0 by omega),qqm (show d≠0 by omega)]
 have ea:=Nat.div_add_mod a b
 have ec:=Nat.div_add_mod c d
 have la:=Nat.mod_lt a hb
 have lc:=Nat.mod_lt c hd
 have e1:a*d=b*d*(a / b)+d*(a % b):=by
  conv=>lhs;rw[←ea]
  rw[Nat.add_mul]
  rw[Nat.mul_right_comm,Nat.mul_comm (a % b) d]
 have e2:c*b=b*d*(c / d)+b*(c % d):=by
  conv=>lhs;rw[←ec]
  rw[Nat.add_mul,Nat.mul_right_comm,Nat.mul_comm d b,Nat.mul_comm (c % d) b]
 have f1:d*(a % b)<b*d:=by rw[Nat.mul_comm b d];exact Nat.mul_lt_mul_of_pos_left la hd
 have f2:b*(c % d)<b*d:=Nat.mul_lt_mul_of_pos_left lc hb
 by_cases h1:a / b=c / d
 ·rw[dT (show((a / b:Nat):Int)=((c / d:Nat):Int) by omega),cT]
  have e3:(a*d<c*b)↔d*(a % b)<b*(c % d):=by rw[e1,e2,h1];omega
  by_cases h2:a % b=0
  ·rw[dT (show((a % b:Nat):Int)=0 by omega),cT]
   congr 1
   by_cases h3:c % d=0
   ·rw[dT (show((c % d:Nat):Int)=0 by omega),dF (by rw[e3,h2,h3];omega)];rfl
   ·have:0<b*(c % d):=Nat.mul_pos hb (by omega)
    rw[dF (show ¬((c % d:Nat):Int)=0 by omega),dT (by rw[e3,h2];omega)];rfl
  ·rw[dF (show ¬((a % b:Nat):Int)=0 by omega),cF]
   by_cases h3:c % d=0
   ·rw[dT (show((c % d:Nat):Int)=0 by omega),cT,dF (by rw[e3,h3];omega)]
   ·rw[dF (show ¬((c % d:Nat):Int)=0 by omega),cF,hr h1 (by omega) (by omega),j6]
    congr 1
    exact decide_eq_decide.2 e3.symm
 ·rw[dF (show ¬((a / b:Nat):Int)=((c / d:Nat):Int) by omega),cF]
  congr 1
  refine decide_eq_decide.2 ?_
  rw[e1,e2]
  constructor
  ·intro h
   have:b*d*(a / b+1)≤b*d*(c / d):=Nat.mul_le_mul_left _ (by omega)
   rw[Nat.mul_add]at this
   omega
  ·intro h
   by_cases h4:a / b<c / d
   ·omega
   ·have:b*d*(c / d+1)≤b*d*(a / b):=Nat.mul_le_mul_left _ (by omega)
    rw[Nat.mul_add]at this
    omega
theorem q4y {a b:Nat}(h:b≤a)(hb:0<b):2*(a % b)≤a:=by
 have:=Nat.mod_lt a hb
 have e:=Nat.div_add_mod a b
 have:1≤a / b:=(Nat.le_div_iff_mul_le hb).2 (by omega)
 have:b*1≤b*(a / b):=Nat.mul_le_mul_left _ this
 omega
theorem q0j:∀ (n:Nat) (a b c d:Nat),0<b→0<d→b≤a→d≤c→a≤9223372036854775807→c≤9223372036854775807→a*b<2^n→c*d<2^n→f58 n ⟨a,b⟩ ⟨c,d⟩=some (decide (a*d<c*b))
 |0,a,b,c,d,hb,hd,hab,hcd,_,_,h1,h2=>by
  have:1*1≤a*b:=Nat.mul_le_mul (by omega) hb
  omega
 |n+1,a,b,c,d,hb,hd,hab,hcd,ha',hc',h1,h2=>by
  refine q04 hb hd ha' hc' fun _ k1 k2=>?_
  have la:=Nat.mod_lt a hb
  have lc:=Nat.mod_lt c hd
  have g1:d*(2*(c % d))≤d*c:=Nat.mul_le_mul_left _ (q4y hcd hd)
  have g2:b*(2*(a % b))≤b*a:=Nat.mul_le_mul_left _ (q4y hab hb)
  rw[Nat.pow_succ]at h1 h2
  rw[Nat.mul_left_comm]at g1 g2
  rw[Nat.mul_comm d c]at g1
  rw[Nat.mul_comm b a]at g2
  have:=q0j n d (c % d) b (a % b) k2 k1 (by omega) (by omega) (by omega) (by omega) (by omega) (by omega)
  exact this
theorem jjm {a b:qh}(a1:0≤a.num)(a2:a.num≤9223372036854775807)(a3:1≤a.den)(a4:a.den≤9223372036854775807)(b1:0≤b.num)(b2:b.num≤9223372036854775807)(b3:1≤b.den)(b4:b.den≤9223372036854775807):
  f58 200 a b=some (decide (a.num*b.den<b.num*a.den)):=by
 obtain⟨p,q⟩:=a
 obtain⟨r,s⟩:=b
 dsimp only at a1 a2 a3 a4 b1 b2 b3 b4 ⊢
 obtain⟨p,rfl⟩:=Int.eq_ofNat_of_zero_le a1
 obtain⟨q,rfl⟩:=Int.eq_ofNat_of_zero_le (show(0:Int)≤q by omega)
 obtain⟨r,rfl⟩:=Int.eq_ofNat_of_zero_le b1
 obtain⟨s,rfl⟩:=Int.eq_ofNat_of_zero_le (show(0:Int)≤s by omega)
 rw[Go.Proofs.Mul64.mulN,Go.Proofs.Mul64.mulN]
 have h:=q04 (rec:=f58 199) (a:=p) (b:=q) (c:=r) (d:=s) (by omega) (by omega) (by omega) (by omega) (fun _ k1 k2=>by
  have la:=Nat.mod_lt p (show 0<q by omega)
  have lc:=Nat.mod_lt r (show 0<s by omega)
  have g1:s*(r % s)≤9223372036854775807*9223372036854775807:=Nat.mul_le_mul (by omega) (by omega)
  have g2:q*(p % q)≤9223372036854775807*9223372036854775807:=Nat.mul_le_mul (by omega) (by omega)
  have g3:9223372036854775807*9223372036854775807<2^199:=by decide
  exact q0j 199 s (r % s) q (p % q) k2 k1 (by omega) (by omega) (by omega) (by omega) (by omega) (by omega))
 have e:f58 200 ⟨p,q⟩ ⟨r,s⟩=some (decide (p*s<r*q)):=h
 rw[e]
 congr 1
 exact decide_eq_decide.2 (by omega)
def sqV (z:qh):Int:=z.num*z.num+z.den*z.den
theorem q8u {B x:Int}(h1:-B≤x)(h2:x≤B)(hB:0≤B):0≤x*x∧x*x≤B*B:=by
 have h0:0≤x*x:=by
  rcases Int.le_total 0 x with h|h
  ·exact Int.mul_nonneg h h
  ·have:=Int.mul_nonneg (a:=-x) (b:=-x) (by omega) (by omega)
   rw[Int.neg_mul_neg]at this
   exact this
 refine⟨h0,?_⟩
 rcases Int.le_total 0 x with h|h
 ·exact Int.mul_le_mul h2 h2 h hB
 ·have:=Int.mul_le_mul (show -x≤B by omega) (show -x≤B by omega) (show 0≤-x by omega) hB
  rw[Int.neg_mul_neg]at this
  exact this
theorem qzg {z:qh}(h:¬(z.num=0∧z.den=0)):0<sqV z:=by
 unfold sqV
 have h1:∀x:Int,x≠0→0<x*x:=by
  intro x hx
  rcases Int.lt_or_gt_of_ne hx with k|k
  ·have:=Int.mul_pos (a:=-x) (b:=-x) (by omega) (by omega)
   rw[Int.neg_mul_neg]at this
   exact this
  ·exact Int.mul_pos k k
 have h2:∀x:Int,0≤x*x:=fun x=>(q8u (B:=max x (-x)) (by omega) (by omega) (by omega)).1
 by_cases hz:z.num=0
 ·have:=h1 z.den (fun e=>h ⟨hz,e⟩)
  have:=h2 z.num
  omega
 ·have:=h1 z.num hz
  have:=h2 z.den
  omega
section
variable {z:qh}
theorem qjo (hz:bd 2073071593 z):0≤sqV z∧sqV z≤9223372036854775807∧j9 .i64 (j9 .i64 (z.num*z.num)+j9 .i64 (z.den*z.den))=sqV z:=by
 obtain⟨h1,h2,h3,h4⟩:=hz
 have k1:=q8u h1 h2 (by decide)
 have k2:=q8u h3 h4 (by decide)
 unfold sqV
 refine⟨by omega,by omega,?_⟩
 rw[yq (x:=z.num*z.num) (by omega) (by omega),yq (x:=z.den*z.den) (by omega) (by omega),yq (by omega) (by omega)]
theorem q6x (hz:bd 2073071593 z):f175 z=some (sqV z):=by unfold f175;rw[(qjo hz).2.2]
theorem q6u (hz:bd 2073071593 z):q9s z=some (sqV z):=by unfold q9s;rw[(qjo hz).2.2]
end
def isZ (z:qh):Bool:=decide (z.num=0)&&decide (z.den=0)
theorem qzf {z:qh}(h:isZ z=false):¬(z.num=0∧z.den=0):=by
 rintro ⟨h1,h2⟩
 unfold isZ at h
 rw[h1,h2]at h
 cases h
def lev (w:Int)(l:List ql):qh×Int:=if isZ (en0 (chn w l).1)then(⟨0,0⟩,17)else(low (sqV (chn w l).2) (sqV (en0 (chn w l).1)),0)
structure jy (l:List ql):Prop where
 n:l.length≤5
 e:∀x∈l,jm x
theorem q4m {l:List ql}(h:qa0 l=0):jy l:=⟨(qxw h).1,(qxw h).2⟩
section
variable {o:Option (List ql)}{w:Int}
theorem qza (hw:1≤w∧w≤8)(h:jy (o.getD [])):bq 2073071593 (chn w (o.getD [])):=by
 have hb:=jmm hw h.n h.e
 have hm:=ji8 h.n
 exact⟨qfv hm hb.a,qfv hm hb.b,qfv hm hb.c,qfv hm hb.d,qfv hm hb.e⟩
theorem jkd {m:qr}{d:qh}{c0 c1:Int}(hm:bd 2073071593 (en0 m))(hd:bd 2073071593 d):f132 m d c0 c1=some (if isZ (en0 m)then(⟨0,0⟩,17)else(low (sqV d) (sqV (en0 m)),0)):=by
 unfold f132
 have e:(decide (m.m0=0)&&decide (m.m1=0))=isZ (en0 m):=rfl
 rw[e]
 cases hz:isZ (en0 m)with
 |true=>rfl
 |false=>
  have g1:=qjo hd
  have g2:=qjo hm
  have g3:=qzg (qzf hz)
  rw[cF,q6x hd,j6,show(⟨m.m0,m.m1⟩:qh)=en0 m from rfl,q6x hm,j6,jfn g1.1 g1.2.1 g3 g2.2.1,j6]
  simp
theorem jii (hl:qa0 (o.getD [])=0)(hw:yj w 1 8=0):f131 o w=some (lev w (o.getD [])):=by
 have h:=q4m hl
 have hb:=qza (qdf hw) h
 unfold f131
 rw[q7r,j6,jkf,j6,qe2 (by simp),j6,hl,hw]
 rw[show(decide (y9 [0,0]=0))=true from rfl,cT,jj1 h.n (fun x hx=>(h.e x hx).k),j6,jkd hb.a hb.e,j6]
 unfold lev
 split<;>rfl
theorem jon (hl:qa0 (o.getD [])=0)(hw:yj w 1 8=0):f57 o w=some (lev w (o.getD [])):=by
 unfold f57;rw[jii hl hw];rfl
theorem jjk (hl:qa0 (o.getD [])=0)(hw:yj w 1 8=0):jgm o w=some (lev w (o.getD [])):=by
 have h:=q4m hl
 have hb:=qza (qdf hw) h
 unfold jgm joh
 rw[jkt h.n,j6,jkq h.n,j6]
 unfold jlq lev
 rw[show qse=some (⟨0,0⟩:qh)from rfl,j6]
 have e:(decide ((chn w (o.getD [])).1.m0=0)&&decide ((chn w (o.getD [])).1.m1=0))=isZ (en0 (chn w (o.getD [])).1):=rfl
 dsimp only
 rw[e]
 cases hz:isZ (en0 (chn w (o.getD [])).1)with
 |true=>rfl
 |false=>
  have g1:=qjo hb.e
  have g2:=qjo hb.a
  have g3:=qzg (qzf hz)
  rw[cF,j6,j6]
  dsimp only
  rw[show(decide ((0:Int)=0))=true from rfl,cT]
  rw[show(⟨(chn w (o.getD [])).2.num,(chn w (o.getD [])).2.den⟩:qh)=(chn w (o.getD [])).2 from rfl,q6u hb.e,j6,show(⟨(chn w (o.getD [])).1.m0,(chn w (o.getD [])).1.m1⟩:qh)=en0 (chn w (o.getD [])).1 from rfl,q6u hb.a,j6,q63 g1.1 g1.2.1 g3 g2.2.1,j6]
  simp
theorem jly (hl:qa0 (o.getD [])=0)(hw:yj w 1 8=0):((lev w (o.getD [])).2=17)∨((lev w (o.getD [])).2=0∧0≤(lev w (o.getD [])).1.num∧(lev w (o.getD [])).1.num≤9223372036854775807∧1≤(lev w (o.getD [])).1.den∧(lev w (o.getD [])).1.den≤9223372036854775807):=by
 have hb:=qza (qdf hw) (q4m hl)
 unfold lev
 cases hz:isZ (en0 (chn w (o.getD [])).1)with
 |true=>exact .inl rfl
 |false=>
  have g1:=qjo hb.e
  have g2:=qjo hb.a
  have g3:=qzg (qzf hz)
  have:=jl6 g1.1 g3
  right
  simp only[Bool.false_eq_true,if_false]
  exact⟨trivial,this.1,by omega,this.2.2.1,by omega⟩
end
end Go.Z
