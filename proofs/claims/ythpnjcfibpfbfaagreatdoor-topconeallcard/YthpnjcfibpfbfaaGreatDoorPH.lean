/- Chapter 4. -/
import Derived.Test.YthpnjcfibpfbfaaGreatDoorA5
import Derived.Test.YthpnjcfibpfbfaaGreatDoorPB
import Derived.Shelf.Bits.Mul64
set_option linter.unusedVariables false
set_option linter.unusedSimpArgs false
set_option maxRecDepth 100000
set_option maxHeartbeats 1000000
namespace Go.Z
open Go Go.Abs
def cm (a b:GRat):GRat:=⟨qa .i64 (qa .i64 (a.num*b.num)-qa .i64 (a.den*b.den)),qa .i64 (qa .i64 (a.num*b.den)+qa .i64 (a.den*b.num))⟩
def ca (a b:GRat):GRat:=⟨qa .i64 (a.num+b.num),qa .i64 (a.den+b.den)⟩
theorem qzx {a b:GRat}:f64 a b=some (cm a b):=rfl
theorem q02 {a b:GRat}:f63 a b=some (ca a b):=rfl
def en0 (m:ju):GRat:=⟨m.m0,m.m1⟩
def en1 (m:ju):GRat:=⟨m.m2,m.m3⟩
def en2 (m:ju):GRat:=⟨m.m4,m.m5⟩
def en3 (m:ju):GRat:=⟨m.m6,m.m7⟩
def mk4 (x y z w:GRat):ju:=⟨x.num,x.den,y.num,y.den,z.num,z.den,w.num,w.den⟩
def mp (a b:ju):ju:=mk4 (ca (cm (en0 a) (en0 b)) (cm (en1 a) (en2 b))) (ca (cm (en0 a) (en1 b)) (cm (en1 a) (en3 b))) (ca (cm (en2 a) (en0 b)) (cm (en3 a) (en2 b))) (ca (cm (en2 a) (en1 b)) (cm (en3 a) (en3 b)))
theorem qyp {a b:ju}:qlu a b=some (mp a b):=rfl
def kM (s:List UInt8)(v:GRat):ju:=if s=kSe then⟨1,0,v.num,v.den,0,0,1,0⟩else if s=kSh then⟨1,0,0,0,v.num,v.den,1,0⟩else if s=kB then⟨v.num,v.den,1,0,0,0,v.num,v.den⟩else⟨v.num,v.den,0,0,1,0,v.num,v.den⟩
theorem q1h {s:List UInt8}{v:GRat}(h:isK s=true):kOf s v=some (kM s v,qbq s):=by
 unfold kOf kM qbq
 by_cases h3:s=kB
 ·subst h3;rfl
 rw[decide_eq_false (show ¬s=[98,108,111,99,107]from h3),cond_false]
 by_cases h1:s=kSe
 ·subst h1;rfl
 rw[if_neg h1,decide_eq_false (show ¬s=[115,101,114,105,101,115]from h1),cond_false]
 by_cases h2:s=kSh
 ·subst h2;rfl
 rw[if_neg h2,decide_eq_false (show ¬s=[115,104,117,110,116]from h2),cond_false]
 by_cases h4:s=kT
 ·subst h4;rfl
 ·simp[isK,h1,h2,h3,h4]at h
def vOf (w:Int)(x:GEl):GRat:=⟨x.a,qa .i64 (w*x.b)⟩
def stp (w:Int)(q:ju×GRat)(x:GEl):ju×GRat:=(mp q.1 (kM x.kind (vOf w x)),if qbq x.kind then cm q.2 (vOf w x)else q.2)
def m1:ju:=⟨1,0,0,0,0,0,1,0⟩
def chn (w:Int)(l:List GEl):ju×GRat:=l.foldl (stp w) (m1,⟨1,0⟩)
theorem qn8 {w:Int}:∀ {l:List GEl} {q:ju×GRat},(∀x∈l,isK x.kind=true)→qfb w l q=some (l.foldl (stp w) q)
 | [],q,_=>rfl
 |x::l,q,h=>by
  have hx:=h x (List.mem_cons_self ..)
  simp only[qfb,qmz,q1h hx,qq,qyp,List.foldl_cons]
  have:(cond (qbq x.kind) (qb1 q.2 ⟨x.a,qa .i64 (w*x.b)⟩) (some q.2))=some (if qbq x.kind then cm q.2 (vOf w x)else q.2):=by
   cases qbq x.kind<;>rfl
  rw[this,qq,qq]
  exact qn8 fun y hy=>h y (List.mem_cons_of_mem _ hy)
theorem qq2 {o:Option (List GEl)}{w:Int}(hn:(o.getD []).length≤5)(h:∀x∈o.getD [],isK x.kind=true):qlt o w=some (chn w (o.getD [])):=by
 unfold qlt
 rw[decide_eq_true hn,cond_true,qn8 h];rfl
structure qji (x:GEl):Prop where
 k:isK x.kind=true
 a0:0≤x.a
 a8:x.a≤8
 b0:0≤x.b
 b8:x.b≤8
 z:qbq x.kind=true→¬(x.a=0∧x.b=0)
theorem qh4 {n lo hi:Int}(h:jh n lo hi=0):lo≤n∧n≤hi:=by
 unfold jh at h
 split at h
 ·cases h
 ·split at h
  ·cases h
  ·omega
theorem qv1 {x:GEl}(h:qcy x=0):qji x:=by
 unfold qcy at h
 rw[qcw]at h
 have h1:=h _ (List.mem_cons_self ..)
 have h2:=qh4 (h (jh x.a 0 8) (by simp))
 have h3:=qh4 (h (jh x.b 0 8) (by simp))
 have h4:=h (qb0 (qbq x.kind&&decide (x.a=0)&&decide (x.b=0)) 6) (by simp)
 refine⟨?_,h2.1,h2.2,h3.1,h3.2,?_⟩
 ·cases hk:isK x.kind with
  |true=>rfl
  |false=>rw[hk]at h1;cases h1
 ·intro hd ⟨ha,hb⟩
  rw[hd,decide_eq_true ha,decide_eq_true hb]at h4
  cases h4
theorem qke {l:List GEl}(h:yp l=0):l.length≤5∧∀x∈l,qji x:=by
 unfold yp at h
 split at h
 ·cases h
 ·refine⟨by omega,fun x hx=>qv1 ?_⟩
  rw[qcw]at h
  exact h _ (List.mem_map_of_mem hx)
theorem qjn {B x y c:Int}(h1:-B≤x)(h2:x≤B)(h3:0≤y)(h4:y≤c)(hB:0≤B):-(B*c)≤x*y∧x*y≤B*c:=by
 have k1:x*y≤B*y:=Int.mul_le_mul_of_nonneg_right h2 h3
 have k2:B*y≤B*c:=Int.mul_le_mul_of_nonneg_left h4 hB
 have k3:(-B)*y≤x*y:=Int.mul_le_mul_of_nonneg_right h1 h3
 rw[Int.neg_mul]at k3
 omega
structure bd (B:Int)(z:GRat):Prop where
 a:-B≤z.num
 b:z.num≤B
 c:-B≤z.den
 d:z.den≤B
structure vl (v:GRat):Prop where
 a:0≤v.num
 b:v.num≤8
 c:0≤v.den
 d:v.den≤64
theorem qq6 {B:Int}{z v:GRat}(hB:0≤B)(hB2:B≤100000000000)(hz:bd B z)(hv:vl v):bd (72*B) (cm z v)∧cm z v=⟨z.num*v.num-z.den*v.den,z.num*v.den+z.den*v.num⟩:=by
 obtain⟨z1,z2,z3,z4⟩:=hz
 obtain⟨v1,v2,v3,v4⟩:=hv
 have k1:=qjn z1 z2 v1 v2 hB
 have k2:=qjn z3 z4 v3 v4 hB
 have k3:=qjn z1 z2 v3 v4 hB
 have k4:=qjn z3 z4 v1 v2 hB
 have e:cm z v=⟨z.num*v.num-z.den*v.den,z.num*v.den+z.den*v.num⟩:=by
  unfold cm
  rw[q9 (x:=z.num*v.num) (by omega) (by omega),q9 (x:=z.den*v.den) (by omega) (by omega),q9 (x:=z.num*v.den) (by omega) (by omega),q9 (x:=z.den*v.num) (by omega) (by omega),q9 (by omega) (by omega),q9 (by omega) (by omega)]
 refine⟨?_,e⟩
 rw[e]
 exact⟨by dsimp only;omega,by dsimp only;omega,by dsimp only;omega,by dsimp only;omega⟩
theorem q0c {B:Int}{z:GRat}(hB2:B≤100000000000)(hz:bd B z):bd B (cm z ⟨1,0⟩):=by
 obtain⟨z1,z2,z3,z4⟩:=hz
 unfold cm
 simp only[Int.mul_one,Int.mul_zero]
 rw[q9 (x:=z.num) (by omega) (by omega),q9 (x:=0) (by omega) (by omega),q9 (x:=z.den) (by omega) (by omega),q9 (by omega) (by omega),q9 (by omega) (by omega)]
 exact⟨by dsimp only;omega,by dsimp only;omega,by dsimp only;omega,by dsimp only;omega⟩
theorem qym {B:Int}{z:GRat}(hB:0≤B):bd B (cm z ⟨0,0⟩):=by
 have e:cm z ⟨0,0⟩=⟨0,0⟩:=by unfold cm;simp only[Int.mul_zero];rfl
 rw[e]
 exact⟨by dsimp only;omega,hB,by dsimp only;omega,hB⟩
def sm (v:GRat):Prop:=v=⟨1,0⟩∨v=⟨0,0⟩
theorem qxi {B:Int}{z v:GRat}(hB:0≤B)(hB2:B≤100000000000)(hz:bd B z)(h:sm v):bd B (cm z v):=by
 rcases h with rfl|rfl
 ·exact q0c hB2 hz
 ·exact qym hB
theorem qsr {A B:Int}{x y:GRat}(hA:0≤A)(hB:0≤B)(h:A+B≤9000000000000000000)(hx:bd A x)(hy:bd B y):bd (A+B) (ca x y):=by
 obtain⟨x1,x2,x3,x4⟩:=hx
 obtain⟨y1,y2,y3,y4⟩:=hy
 unfold ca
 rw[q9 (by omega) (by omega),q9 (by omega) (by omega)]
 exact⟨by dsimp only;omega,by dsimp only;omega,by dsimp only;omega,by dsimp only;omega⟩
theorem kn {A B:Int}{z:GRat}(h:A≤B)(hz:bd A z):bd B z:=by
 obtain⟨z1,z2,z3,z4⟩:=hz
 exact⟨by omega,by omega,by omega,by omega⟩
theorem qkf {B:Int}{x y p q:GRat}(hB:0≤B)(hB2:B≤100000000000)(hx:bd B x)(hy:bd B y)(h:(vl p∧sm q)∨(sm p∧vl q)):bd (73*B) (ca (cm x p) (cm y q)):=by
 rcases h with⟨h1,h2⟩|⟨h1,h2⟩
 ·exact kn (by omega) (qsr (by omega) hB (by omega) (qq6 hB hB2 hx h1).1 (qxi hB hB2 hy h2))
 ·exact kn (by omega) (qsr hB (by omega) (by omega) (qxi hB hB2 hx h1) (qq6 hB hB2 hy h2).1)
structure bq (B:Int)(q:ju×GRat):Prop where
 a:bd B (en0 q.1)
 b:bd B (en1 q.1)
 c:bd B (en2 q.1)
 d:bd B (en3 q.1)
 e:bd B q.2
theorem qt0:vl ⟨1,0⟩:=⟨by decide,by decide,by decide,by decide⟩
theorem qx2 {s:List UInt8}{v:GRat}(hv:vl v):((vl (en0 (kM s v))∧sm (en2 (kM s v)))∨(sm (en0 (kM s v))∧vl (en2 (kM s v))))∧((vl (en1 (kM s v))∧sm (en3 (kM s v)))∨(sm (en1 (kM s v))∧vl (en3 (kM s v)))):=by
 have hv':vl ⟨v.num,v.den⟩:=hv
 unfold kM
 split
 ·exact⟨.inl ⟨qt0,.inr rfl⟩,.inl ⟨hv',.inl rfl⟩⟩
 split
 ·exact⟨.inr ⟨.inl rfl,hv'⟩,.inr ⟨.inr rfl,qt0⟩⟩
 split
 ·exact⟨.inl ⟨hv',.inr rfl⟩,.inr ⟨.inl rfl,hv'⟩⟩
 ·exact⟨.inl ⟨hv',.inl rfl⟩,.inr ⟨.inr rfl,hv'⟩⟩
theorem q03 {w:Int}{x:GEl}(hw:1≤w∧w≤8)(hx:qji x):vl (vOf w x)∧vOf w x=⟨x.a,w*x.b⟩:=by
 have k:=qjn (B:=8) (x:=w) (y:=x.b) (c:=8) (by omega) (by omega) hx.b0 hx.b8 (by decide)
 have k0:0≤w*x.b:=Int.mul_nonneg (by omega) hx.b0
 have e:vOf w x=⟨x.a,w*x.b⟩:=by unfold vOf;rw[q9 (by omega) (by omega)]
 refine⟨?_,e⟩
 rw[e]
 exact⟨hx.a0,hx.a8,k0,by dsimp only;omega⟩
theorem q01 {B w:Int}{q:ju×GRat}{x:GEl}(hB:0≤B)(hB2:B≤100000000000)(hw:1≤w∧w≤8)(hx:qji x)(h:bq B q):bq (73*B) (stp w q x):=by
 have hv:=(q03 hw hx).1
 obtain⟨c1,c2⟩:=qx2 (s:=x.kind) hv
 refine⟨qkf hB hB2 h.a h.b c1,qkf hB hB2 h.a h.b c2,qkf hB hB2 h.c h.d c1,qkf hB hB2 h.c h.d c2,?_⟩
 unfold stp
 dsimp only
 split
 ·exact kn (by omega) (qq6 hB hB2 h.e hv).1
 ·exact kn (by omega) h.e
def pw:Nat→Int
 |0=>1
 |n+1=>73*pw n
theorem qti:∀ n,1≤pw n
 |0=>by decide
 |n+1=>by have:=qti n;unfold pw;omega
theorem qqo {w:Int}(hw:1≤w∧w≤8):∀ {l:List GEl} {k:Nat} {q:ju×GRat},(∀x∈l,qji x)→k+l.length≤5→bq (pw k) q→bq (pw (k+l.length)) (l.foldl (stp w) q)
 | [],k,q,_,_,h=>h
 |x::l,k,q,ho,hk,h=>by
  rw[List.length_cons]at hk
  have hb:pw k≤28398241:=by
   have:k≤4:=by omega
   match k,this with
   |0,_=>decide
   |1,_=>decide
   |2,_=>decide
   |3,_=>decide
   |4,_=>decide
  have:=qqo hw (l:=l) (k:=k+1) (q:=stp w q x) (fun y hy=>ho y (List.mem_cons_of_mem _ hy)) (by omega) (q01 (by have:=qti k;omega) (by omega) hw (ho x (List.mem_cons_self ..)) h)
  rw[show k+(x::l).length=k+1+l.length by rw[List.length_cons];omega]
  exact this
theorem qts {w:Int}{l:List GEl}(hw:1≤w∧w≤8)(hl:l.length≤5)(ho:∀x∈l,qji x):bq (pw l.length) (chn w l):=by
 have h0:bq (pw 0) (m1,⟨1,0⟩):=⟨⟨by decide,by decide,by decide,by decide⟩,⟨by decide,by decide,by decide,by decide⟩,⟨by decide,by decide,by decide,by decide⟩,⟨by decide,by decide,by decide,by decide⟩,⟨by decide,by decide,by decide,by decide⟩⟩
 have:=qqo hw ho (k:=0) (by omega) h0
 rw[Nat.zero_add]at this
 exact this
theorem qys:∀ {n:Nat},n≤5→pw n≤2073071593
 |0,_=>by decide
 |1,_=>by decide
 |2,_=>by decide
 |3,_=>by decide
 |4,_=>by decide
 |5,_=>by decide
 |n+6,h=>by omega
theorem qnw {a b:Nat}(h:b≠0):qc7 (a:Int) (b:Int)=some ((a % b:Nat):Int):=by
 unfold qc7
 rw[if_neg (by omega)]
 rfl
theorem qko {δ:Type}{f:Int×Int→Option ((Int×Int)⊕δ)}{k:Int×Int→δ}(hf:∀a b:Int,f (a,b)=cond (decide (b=0)) (some (.inr (k (a,b)))) (qh (qc7 a b) fun v=>some (.inl (b,v)))):∀(n:Nat) (a b:Nat),b≤n→itO f ((a:Int),(b:Int))=some (k (((Nat.gcd a b:Nat):Int),0))
 |n,a,0,_=>by
  rw[Nat.gcd_zero_right]
  exact qek (by rw[hf];rfl)
 |0,a,b+1,h=>by omega
 |n+1,a,b+1,h=>by
  have hm:a % (b+1)<b+1:=Nat.mod_lt _ (by omega)
  rw[qkd (s':=(((b+1:Nat):Int),((a % (b+1):Nat):Int))) (by
   rw[hf,decide_eq_false (by omega),cond_false,qnw (by omega)];rfl)]
  rw[qko hf n (b+1) (a % (b+1)) (by omega)]
  rw[Nat.gcd_comm a (b+1),Nat.gcd_rec (b+1) a,Nat.gcd_comm]
def low (a b:Int):GRat:=⟨a / (Nat.gcd a.toNat b.toNat:Nat),b / (Nat.gcd a.toNat b.toNat:Nat)⟩
theorem qem {a g:Nat}(hg:0<g)(ha:a≤9223372036854775807):qdw .i64 (a:Int) (g:Int)=some ((a:Int) / (g:Int)):=by
 unfold qdw
 rw[if_neg (by omega)]
 have e:(a:Int).tdiv (g:Int)=(a:Int) / (g:Int):=rfl
 rw[e,q9]
 ·have:0≤(a:Int) / (g:Int):=Int.ediv_nonneg (by omega) (by omega)
  omega
 ·have:(a:Int) / (g:Int)≤(a:Int):=Int.ediv_le_self _ (by omega)
  omega
section
variable {a b:Int}
theorem qia (hb:0<b):0<Nat.gcd a.toNat b.toNat:=Nat.gcd_pos_of_pos_right _ (by omega)
theorem qyb (h0:0≤a)(h1:a≤9223372036854775807)(h2:0<b)(h3:b≤9223372036854775807):f65 a b=some (low a b):=by
 have hg:=qia (a:=a) h2
 obtain⟨a,rfl⟩:=Int.eq_ofNat_of_zero_le h0
 obtain⟨b,rfl⟩:=Int.eq_ofNat_of_zero_le (Int.le_of_lt h2)
 have hg:0<Nat.gcd a b:=hg
 unfold f65
 rw[qko (k:=id) (fun _ _=>rfl) b a b (Nat.le_refl _),qq]
 dsimp only[id]
 rw[qem hg (by omega),qq,qem hg (by omega),qq]
 rfl
theorem qwy (h0:0≤a)(h1:a≤9223372036854775807)(h2:0<b)(h3:b≤9223372036854775807):qoi a b=some (low a b):=by
 have hg:=qia (a:=a) h2
 obtain⟨a,rfl⟩:=Int.eq_ofNat_of_zero_le h0
 obtain⟨b,rfl⟩:=Int.eq_ofNat_of_zero_le (Int.le_of_lt h2)
 have hg:0<Nat.gcd a b:=hg
 unfold qoi
 rw[qko (k:=id) (fun _ _=>rfl) b a b (Nat.le_refl _),qq]
 dsimp only[id]
 rw[qem hg (by omega),qq,qem hg (by omega),qq]
 rfl
theorem qqt (h0:0≤a)(h1:a≤9223372036854775807)(h2:0<b)(h3:b≤9223372036854775807):f29 a b=some (low a b):=by
 have hg:=qia (a:=a) h2
 obtain⟨a,rfl⟩:=Int.eq_ofNat_of_zero_le h0
 obtain⟨b,rfl⟩:=Int.eq_ofNat_of_zero_le (Int.le_of_lt h2)
 have hg:0<Nat.gcd a b:=hg
 unfold f29
 rw[decide_eq_false (by omega),cond_false,q9 (x:=0-(a:Int)) (by omega) (by omega),show max (a:Int) (0-(a:Int))=(a:Int) by omega]
 rw[qko (k:=id) (fun _ _=>rfl) b a b (Nat.le_refl _),qq]
 dsimp only[id]
 rw[qem hg (by omega),qq,qem hg (by omega),qq]
 rfl
theorem q0y (h0:0≤a)(h2:0<b):0≤(low a b).num∧(low a b).num≤a∧1≤(low a b).den∧(low a b).den≤b:=by
 have hg:=qia (a:=a) h2
 unfold low
 dsimp only
 refine⟨Int.ediv_nonneg h0 (by omega),Int.ediv_le_self _ h0,?_,Int.ediv_le_self _ (by omega)⟩
 have hd:Nat.gcd a.toNat b.toNat≤b.toNat:=Nat.gcd_le_right _ (by omega)
 exact(Int.le_ediv_iff_mul_le (by omega)).2 (by omega)
end
theorem qrf (a:Nat)(ha:a<18446744073709551616):qgi .and .u64 (a:Int) 4294967295=((a % 4294967296:Nat):Int):=Go.Proofs.Mul64.maskN a ha
theorem q44 (a:Nat):qhu .u64 (a:Int) 32=some ((a / 4294967296:Nat):Int):=by
 show some (Int.fdiv (a:Int) (2^32))=_
 rw[show((2:Int)^32)=((4294967296:Nat):Int)from rfl]
 have:Int.fdiv (a:Int) ((4294967296:Nat):Int)=((a / 4294967296:Nat):Int):=by
  rw[Int.fdiv_eq_ediv_of_nonneg _ (by omega)];omega
 rw[this]
theorem wrapN (a:Nat)(ha:a<18446744073709551616):qa .u64 (a:Int)=(a:Int):=by rw[qax];exact Go.Proofs.Mul64.wrapN a ha
theorem wrapM (a:Nat):qa .u64 (a:Int)=((a % 18446744073709551616:Nat):Int):=by rw[qax];exact Go.Proofs.Mul64.wrapM a
theorem qq0 (x y:Nat)(hx:x<18446744073709551616)(hy:y<18446744073709551616):qlq (x:Int) (y:Int)=some (((x*y / 18446744073709551616:Nat):Int),((x*y % 18446744073709551616:Nat):Int)):=by
 obtain⟨bd,bt,bw,hhi⟩:=Lib.mul64_hi x y hx hy
 have ba:=Lib.half_mul_le (a:=x / 4294967296) (b:=y / 4294967296) (by omega) (by omega)
 have bb:=Lib.half_mul_le (a:=x / 4294967296) (b:=y % 4294967296) (by omega) (by omega)
 have bc:=Lib.half_mul_le (a:=x % 4294967296) (b:=y / 4294967296) (by omega) (by omega)
 have ba':x / 4294967296*(y / 4294967296)<18446744073709551616:=by omega
 have bb':x / 4294967296*(y % 4294967296)<18446744073709551616:=by omega
 have bc':x % 4294967296*(y / 4294967296)<18446744073709551616:=by omega
 have bh1:x / 4294967296*(y / 4294967296)+(x / 4294967296*(y % 4294967296)+x % 4294967296*(y % 4294967296) / 4294967296) / 4294967296<18446744073709551616:=by omega
 have bh:x / 4294967296*(y / 4294967296)+(x / 4294967296*(y % 4294967296)+x % 4294967296*(y % 4294967296) / 4294967296) / 4294967296+((x / 4294967296*(y % 4294967296)+x % 4294967296*(y % 4294967296) / 4294967296) % 4294967296+x % 4294967296*(y / 4294967296)) / 4294967296<18446744073709551616:=by omega
 unfold qlq
 simp only[qrf x hx,qrf y hy,q44,qq,Go.Proofs.Mul64.mulN,Go.Proofs.Mul64.addN,wrapN _ bd,wrapN _ bb',wrapN _ bt,qrf _ bt,wrapN _ bc',wrapN _ bw,wrapN _ ba',wrapN _ bh1,wrapN _ bh,wrapM (x*y)]
 rw[hhi]
theorem qu9 {a b:GRat}(a1:0≤a.num)(a2:a.num≤9223372036854775807)(a3:0≤a.den)(a4:a.den≤9223372036854775807)(b1:0≤b.num)(b2:b.num≤9223372036854775807)(b3:0≤b.den)(b4:b.den≤9223372036854775807):
  f67 a b=some (decide (b.num*a.den<a.num*b.den)):=by
 obtain⟨p,q⟩:=a
 obtain⟨r,s⟩:=b
 dsimp only at a1 a2 a3 a4 b1 b2 b3 b4 ⊢
 obtain⟨p,rfl⟩:=Int.eq_ofNat_of_zero_le a1
 obtain⟨q,rfl⟩:=Int.eq_ofNat_of_zero_le a3
 obtain⟨r,rfl⟩:=Int.eq_ofNat_of_zero_le b1
 obtain⟨s,rfl⟩:=Int.eq_ofNat_of_zero_le b3
 unfold f67
 simp only[wrapN p (by omega),wrapN q (by omega),wrapN r (by omega),wrapN s (by omega),qq0 p s (by omega) (by omega),qq0 r q (by omega) (by omega),qq]
 rw[Go.Proofs.Mul64.mulN,Go.Proofs.Mul64.mulN]
 generalize p*s=u
 generalize r*q=v
 by_cases h1:((v / 18446744073709551616:Nat):Int)<((u / 18446744073709551616:Nat):Int)
 ·rw[decide_eq_true h1,cond_true,decide_eq_true (by omega)]
 ·rw[decide_eq_false h1,cond_false]
  by_cases h2:((u / 18446744073709551616:Nat):Int)=((v / 18446744073709551616:Nat):Int)
  ·rw[decide_eq_true h2,cond_true]
   congr 1
   exact decide_eq_decide.2 (by omega)
  ·rw[decide_eq_false h2,cond_false,decide_eq_false (by omega)]
def sqV (z:GRat):Int:=z.num*z.num+z.den*z.den
theorem qsa {B x:Int}(h1:-B≤x)(h2:x≤B)(hB:0≤B):0≤x*x∧x*x≤B*B:=by
 have h0:0≤x*x:=by
  rcases Int.le_total 0 x with h|h
  ·exact Int.mul_nonneg h h
  ·have:=Int.mul_nonneg (a:=-x) (b:=-x) (by omega) (by omega)
   rw[Int.neg_mul_neg]at this
   exact this
 refine⟨h0,?_⟩
 rcases Int.le_total 0 x with h|h
 ·exact Int.mul_le_mul h2 h2 h hB
 ·have:=Int.mul_le_mul (show -x≤B by omega) (show -x≤B by omega) (show 0≤-x by omega) hB
  rw[Int.neg_mul_neg]at this
  exact this
theorem qie {z:GRat}(h:¬(z.num=0∧z.den=0)):0<sqV z:=by
 unfold sqV
 have h1:∀x:Int,x≠0→0<x*x:=by
  intro x hx
  rcases Int.lt_or_gt_of_ne hx with k|k
  ·have:=Int.mul_pos (a:=-x) (b:=-x) (by omega) (by omega)
   rw[Int.neg_mul_neg]at this
   exact this
  ·exact Int.mul_pos k k
 have h2:∀x:Int,0≤x*x:=fun x=>(qsa (B:=max x (-x)) (by omega) (by omega) (by omega)).1
 by_cases hz:z.num=0
 ·have:=h1 z.den (fun e=>h ⟨hz,e⟩)
  have:=h2 z.num
  omega
 ·have:=h1 z.num hz
  have:=h2 z.den
  omega
section
variable {z:GRat}
theorem qdp (hz:bd 2073071593 z):0≤sqV z∧sqV z≤9223372036854775807∧qa .i64 (qa .i64 (z.num*z.num)+qa .i64 (z.den*z.den))=sqV z:=by
 obtain⟨h1,h2,h3,h4⟩:=hz
 have k1:=qsa h1 h2 (by decide)
 have k2:=qsa h3 h4 (by decide)
 unfold sqV
 refine⟨by omega,by omega,?_⟩
 rw[q9 (x:=z.num*z.num) (by omega) (by omega),q9 (x:=z.den*z.den) (by omega) (by omega),q9 (by omega) (by omega)]
theorem qup (hz:bd 2073071593 z):f66 z=some (sqV z):=by unfold f66;rw[(qdp hz).2.2]
theorem qqj (hz:bd 2073071593 z):qlc z=some (sqV z):=by unfold qlc;rw[(qdp hz).2.2]
end
def isZ (z:GRat):Bool:=decide (z.num=0)&&decide (z.den=0)
theorem qil {z:GRat}(h:isZ z=false):¬(z.num=0∧z.den=0):=by
 rintro ⟨h1,h2⟩
 unfold isZ at h
 rw[h1,h2]at h
 cases h
def lev (w:Int)(l:List GEl):GRat×Int:=if isZ (en0 (chn w l).1)then(⟨0,0⟩,17)else(low (sqV (chn w l).2) (sqV (en0 (chn w l).1)),0)
def trf (w:Int)(l:List GEl):qco×Int:=if isZ (en0 (chn w l).1)then(⟨0,0,0,0⟩,17)else(⟨(chn w l).2.num,(chn w l).2.den,(chn w l).1.m0,(chn w l).1.m1⟩,0)
structure okL (l:List GEl):Prop where
 n:l.length≤5
 e:∀x∈l,qji x
theorem qh5 {l:List GEl}(h:yp l=0):okL l:=⟨(qke h).1,(qke h).2⟩
section
variable {o:Option (List GEl)}{w:Int}
theorem qqi (hw:1≤w∧w≤8)(h:okL (o.getD [])):bq 2073071593 (chn w (o.getD [])):=by
 have hb:=qts hw h.n h.e
 have hm:=qys h.n
 exact⟨kn hm hb.a,kn hm hb.b,kn hm hb.c,kn hm hb.d,kn hm hb.e⟩
theorem q1r {m:ju}{d:GRat}{c0 c1:Int}(hm:bd 2073071593 (en0 m))(hd:bd 2073071593 d):f69 m d c0 c1=some (if isZ (en0 m)then(⟨0,0⟩,17)else(low (sqV d) (sqV (en0 m)),0)):=by
 unfold f69
 have e:(decide (m.m0=0)&&decide (m.m1=0))=isZ (en0 m):=rfl
 rw[e]
 cases hz:isZ (en0 m)with
 |true=>rfl
 |false=>
  have g1:=qdp hd
  have g2:=qdp hm
  have g3:=qie (qil hz)
  rw[cond_false,qqj hd,qq,show(⟨m.m0,m.m1⟩:GRat)=en0 m from rfl,qqj hm,qq,qwy g1.1 g1.2.1 g3 g2.2.1,qq]
  simp
theorem q10 (hl:yp (o.getD [])=0)(hw:jh w 1 8=0):f68 o w=some (lev w (o.getD [])):=by
 have h:=qh5 hl
 have hb:=qqi (qh4 hw) h
 unfold f68
 rw[qoe,qq,qq1,qq,qa1 (by simp),qq,hl,hw]
 rw[show(decide (zx [0,0]=0))=true from rfl,cond_true,qq2 h.n (fun x hx=>(h.e x hx).k),qq,q1r hb.a hb.e,qq]
 unfold lev
 split<;>rfl
theorem qkv (hl:yp (o.getD [])=0)(hw:jh w 1 8=0):f28 o w=some (lev w (o.getD [])):=by
 unfold f28;rw[q10 hl hw];rfl
theorem qux (hl:yp (o.getD [])=0)(hw:jh w 1 8=0):f62 o w=some (trf w (o.getD [])):=by
 have h:=qh5 hl
 unfold f62 f99
 rw[qoe,qq,qq1,qq,qa1 (by simp),qq,hl,hw]
 rw[show(decide (zx [0,0]=0))=true from rfl,cond_true,qq2 h.n (fun x hx=>(h.e x hx).k),qq]
 unfold qsy qsf trf
 have e:(decide ((chn w (o.getD [])).1.m0=0)&&decide ((chn w (o.getD [])).1.m1=0))=isZ (en0 (chn w (o.getD [])).1):=rfl
 dsimp only
 rw[e]
 cases isZ (en0 (chn w (o.getD [])).1)<;>rfl
theorem qua (hl:yp (o.getD [])=0)(hw:jh w 1 8=0):((lev w (o.getD [])).2=17)∨((lev w (o.getD [])).2=0∧0≤(lev w (o.getD [])).1.num∧(lev w (o.getD [])).1.num≤9223372036854775807∧1≤(lev w (o.getD [])).1.den∧(lev w (o.getD [])).1.den≤9223372036854775807):=by
 have hb:=qqi (qh4 hw) (qh5 hl)
 unfold lev
 cases hz:isZ (en0 (chn w (o.getD [])).1)with
 |true=>exact .inl rfl
 |false=>
  have g1:=qdp hb.e
  have g2:=qdp hb.a
  have g3:=qie (qil hz)
  have:=q0y g1.1 g3
  right
  simp only[Bool.false_eq_true,if_false]
  exact⟨trivial,this.1,by omega,this.2.2.1,by omega⟩
end
def zt (l:List GEl):Int:=zx [yp l,qb0 (decide ((2:Int)<(l.length:Int))) 5]
theorem qjy {o:Option (List GEl)}:f60 o=some (zt (o.getD [])):=by
 unfold f60 zt
 rw[qoe,qq,qhl,qq,qiu (by simp),qq]
theorem qcx {l:List GEl}(h:zt l=0):yp l=0∧l.length≤2:=by
 unfold zt at h
 rw[qcw]at h
 have h1:=h (yp l) (by simp)
 have h2:=h (qb0 (decide ((2:Int)<(l.length:Int))) 5) (by simp)
 refine⟨h1,?_⟩
 by_cases k:(2:Int)<(l.length:Int)
 ·rw[decide_eq_true k]at h2;cases h2
 ·omega
def cs (a b:GRat):GRat:=⟨qa .i64 (a.num-b.num),qa .i64 (a.den-b.den)⟩
theorem qik {B C x y:Int}(h1:-B≤x)(h2:x≤B)(h3:-C≤y)(h4:y≤C)(hB:0≤B)(hC:0≤C):-(B*C)≤x*y∧x*y≤B*C:=by
 rcases Int.le_total 0 y with h|h
 ·exact qjn h1 h2 h h4 hB
 ·have:=qjn (y:=-y) (c:=C) h1 h2 (by omega) (by omega) hB
  rw[Int.mul_neg]at this
  omega
theorem qis {x y:GRat}(hx:bd 5329 x)(hy:bd 5329 y):cm x y=⟨x.num*y.num-x.den*y.den,x.num*y.den+x.den*y.num⟩∧bd 56796482 (cm x y):=by
 obtain⟨x1,x2,x3,x4⟩:=hx
 obtain⟨y1,y2,y3,y4⟩:=hy
 have k1:=qik x1 x2 y1 y2 (by decide) (by decide)
 have k2:=qik x3 x4 y3 y4 (by decide) (by decide)
 have k3:=qik x1 x2 y3 y4 (by decide) (by decide)
 have k4:=qik x3 x4 y1 y2 (by decide) (by decide)
 have e:cm x y=⟨x.num*y.num-x.den*y.den,x.num*y.den+x.den*y.num⟩:=by
  unfold cm
  rw[q9 (x:=x.num*y.num) (by omega) (by omega),q9 (x:=x.den*y.den) (by omega) (by omega),q9 (x:=x.num*y.den) (by omega) (by omega),q9 (x:=x.den*y.num) (by omega) (by omega),q9 (by omega) (by omega),q9 (by omega) (by omega)]
 refine⟨e,?_⟩
 rw[e]
 exact⟨by dsimp only;omega,by dsimp only;omega,by dsimp only;omega,by dsimp only;omega⟩
theorem jbs {u:GRat}(h:bd 56796482 u):cm ⟨1,0⟩ u=u:=by
 obtain⟨h1,h2,h3,h4⟩:=h
 unfold cm
 simp only[Int.one_mul,Int.zero_mul]
 rw[q9 (x:=u.num) (by omega) (by omega),q9 (x:=0) (by omega) (by omega),q9 (x:=u.den) (by omega) (by omega),q9 (by omega) (by omega),q9 (by omega) (by omega),Int.sub_zero,Int.add_zero]
theorem q4p {u:GRat}(h:bd 56796482 u):cm ⟨-1,0⟩ u=⟨-u.num,-u.den⟩:=by
 obtain⟨h1,h2,h3,h4⟩:=h
 unfold cm
 simp only[Int.neg_mul,Int.one_mul,Int.zero_mul]
 rw[q9 (x:=-u.num) (by omega) (by omega),q9 (x:=0) (by omega) (by omega),q9 (x:=-u.den) (by omega) (by omega),q9 (by omega) (by omega),q9 (by omega) (by omega),Int.sub_zero,Int.add_zero]
theorem q1m {z u:GRat}:ca z ⟨-u.num,-u.den⟩=cs z u:=rfl
theorem q6w {A B:Int}{x y:GRat}(hA:0≤A)(hB:0≤B)(h:A+B≤9000000000000000000)(hx:bd A x)(hy:bd B y):bd (A+B) (cs x y):=by
 obtain⟨x1,x2,x3,x4⟩:=hx
 obtain⟨y1,y2,y3,y4⟩:=hy
 unfold cs
 rw[q9 (by omega) (by omega),q9 (by omega) (by omega)]
 exact⟨by dsimp only;omega,by dsimp only;omega,by dsimp only;omega,by dsimp only;omega⟩
theorem qwo (a b c d:Int):(a*c-b*d)*(a*c-b*d)+(a*d+b*c)*(a*d+b*c)=(a*a+b*b)*(c*c+d*d):=by grind
def qb4 (w:Int)(a b:List GEl)(inv:Bool):GRat:=if inv then cs (cm (chn w a).2 (en0 (chn w b).1)) (cm (chn w b).2 (en0 (chn w a).1))else ca (cm (chn w a).2 (en0 (chn w b).1)) (cm (chn w b).2 (en0 (chn w a).1))
def qao (w:Int)(a b:List GEl):GRat:=cm (en0 (chn w a).1) (en0 (chn w b).1)
def qs0 (w:Int)(a b:List GEl)(inv:Bool):qco×Int:=
 if isZ (en0 (chn w a).1)then(⟨0,0,0,0⟩,17)else if isZ (en0 (chn w b).1)then(⟨0,0,0,0⟩,17)else(⟨(qb4 w a b inv).num,(qb4 w a b inv).den,(qao w a b).num,(qao w a b).den⟩,0)
section
variable {o q:Option (List GEl)}{w:Int}{inv:Bool}
theorem qas (hw:jh w 1 8=0)(h:zt (o.getD [])=0):bd 5329 (en0 (chn w (o.getD [])).1)∧bd 5329 (chn w (o.getD [])).2:=by
 obtain⟨h1,h2⟩:=qcx h
 have hb:=qts (qh4 hw) (qh5 h1).n (qh5 h1).e
 have hm:pw (o.getD []).length≤5329:=by
  match(o.getD []).length,h2 with
  |0,_=>decide
  |1,_=>decide
  |2,_=>decide
 exact⟨kn hm hb.a,kn hm hb.e⟩
theorem qty (ha:zt (o.getD [])=0)(hb:zt (q.getD [])=0)(hw:jh w 1 8=0):f25 o q w inv=some (qs0 w (o.getD []) (q.getD []) inv):=by
 obtain⟨a1,d1⟩:=qas hw ha
 obtain⟨a2,d2⟩:=qas hw hb
 unfold f25
 rw[qjy,qq,qjy,qq,qo8,qq,qiu (by simp),qq,ha,hb,hw]
 rw[show(decide (zx [0,0,0]=0))=true from rfl,cond_true,qux (qcx ha).1 hw,qq]
 unfold qs0
 cases h1:isZ (en0 (chn w (o.getD [])).1)with
 |true=>unfold trf;rw[h1];rfl
 |false=>
  have t1:trf w (o.getD [])=(⟨(chn w (o.getD [])).2.num,(chn w (o.getD [])).2.den,(chn w (o.getD [])).1.m0,(chn w (o.getD [])).1.m1⟩,0):=by unfold trf;rw[h1];rfl
  rw[t1]
  dsimp only
  rw[show(decide ((0:Int)=0))=true from rfl,cond_true,qux (qcx hb).1 hw,qq]
  cases h2:isZ (en0 (chn w (q.getD [])).1)with
  |true=>unfold trf;rw[h2];rfl
  |false=>
   have t2:trf w (q.getD [])=(⟨(chn w (q.getD [])).2.num,(chn w (q.getD [])).2.den,(chn w (q.getD [])).1.m0,(chn w (q.getD [])).1.m1⟩,0):=by unfold trf;rw[h2];rfl
   rw[t2]
   dsimp only
   rw[show(decide ((0:Int)=0))=true from rfl,cond_true]
   have x1:=(qis d1 a2).2
   have x2:=(qis d2 a1).2
   simp only[qzx,q02,qq]
   have r1:(⟨(chn w (o.getD [])).2.num,(chn w (o.getD [])).2.den⟩:GRat)=(chn w (o.getD [])).2:=rfl
   have r2:(⟨(chn w (q.getD [])).2.num,(chn w (q.getD [])).2.den⟩:GRat)=(chn w (q.getD [])).2:=rfl
   have r3:(⟨(chn w (o.getD [])).1.m0,(chn w (o.getD [])).1.m1⟩:GRat)=en0 (chn w (o.getD [])).1:=rfl
   have r4:(⟨(chn w (q.getD [])).1.m0,(chn w (q.getD [])).1.m1⟩:GRat)=en0 (chn w (q.getD [])).1:=rfl
   rw[r1,r2,r3,r4,jbs x2,q4p x2,q1m]
   cases inv<;>simp[qb4,qao]
end
section
variable (g p:Int→Bool)
def up:Nat→Int→Int→Option Int
 |0,_,f=>some f
 |n+1,w,f=>if g w then up n (w+1) (if f=0 then(if p w then w else f)else f)else none
end
theorem qwe {w:Int}(h1:1≤w)(h2:w≤8):jh w 1 8=0:=by
 unfold jh
 rw[if_neg (by omega),if_neg (by omega)]
def gW (a b:List GEl)(w:Int):Bool:=decide ((lev w a).2=0)&&decide ((lev w b).2=0)
def pW (a b:List GEl)(w:Int):Bool:=!decide ((lev w b).1.num*(lev w a).1.den<(lev w a).1.num*(lev w b).1.den)
section
variable {o q:Option (List GEl)}
theorem qxa (ha:yp (o.getD [])=0)(hb:yp (q.getD [])=0){hi:Int}(h8:hi≤8):∀(n:Nat) (w f:Int),1≤w→w+n=hi+1 →
  ∃d,itO (qec o q hi) (f,w)=some d∧(match d with | .inl e=>up (gW (o.getD []) (q.getD [])) (pW (o.getD []) (q.getD [])) n w f=none∧e.1=17 | .inr r=>up (gW (o.getD []) (q.getD [])) (pW (o.getD []) (q.getD [])) n w f=some r.1)
 |0,w,f,hw,hn=>by
  refine⟨.inr (f,w),qek ?_,rfl⟩
  unfold qec
  dsimp only
  rw[decide_eq_false (show ¬w≤hi by omega)];rfl
 |n+1,w,f,hw,hn=>by
  have hr:jh w 1 8=0:=qwe hw (by omega)
  have hst:qec o q hi (f,w)=cond (gW (o.getD []) (q.getD []) w) (some (.inl (if f=0 then(if pW (o.getD []) (q.getD []) w then w else f)else f,w+1))) (some (.inr (.inl (17,(lev w (o.getD [])).1.num,(lev w (o.getD [])).1.den,(lev w (q.getD [])).1.num,(lev w (q.getD [])).1.den)))):=by
   unfold qec
   dsimp only
   rw[decide_eq_true (show w≤hi by omega),cond_true,qkv ha hr,qq,qkv hb hr,qq,qiu (by simp),qq,q9 (x:=w+1) (by omega) (by omega)]
   unfold gW
   rcases qua ha hr with h1|⟨h1,k1,k2,k3,k4⟩
   ·rw[h1];rfl
   ·rcases qua hb hr with h2|⟨h2,j1,j2,j3,j4⟩
    ·rw[h1,h2];rfl
    ·rw[h1,h2]
     rw[show(decide (zx [0,0]=0))=true from rfl,show(decide ((0:Int)=0)&&decide ((0:Int)=0))=true from rfl,cond_true,cond_true,qu9 k1 k2 (by omega) k4 j1 j2 (by omega) j4,qq]
     unfold pW
     by_cases hf:f=0
     ·rw[decide_eq_true hf,cond_true,if_pos hf]
      cases decide ((lev w (q.getD [])).1.num*(lev w (o.getD [])).1.den<(lev w (o.getD [])).1.num*(lev w (q.getD [])).1.den)<;>rfl
     ·rw[decide_eq_false hf,cond_false,if_neg hf]
  cases hg:gW (o.getD []) (q.getD []) w with
  |false=>
   rw[hg]at hst
   exact⟨_,qek hst,by simp[up,hg],rfl⟩
  |true=>
   rw[hg]at hst
   obtain⟨d,g1,g2⟩:=qxa ha hb h8 n (w+1) (if f=0 then(if pW (o.getD []) (q.getD []) w then w else f)else f) (by omega) (by omega)
   refine⟨d,by rw[qkd hst];exact g1,?_⟩
   simpa only[up,hg,if_true]using g2
def qo5 (a b:List GEl)(lo hi:Int):Int:=zx [zt a,zt b,jh lo 1 8,jh hi 1 8,qb0 (decide (hi<lo)) 11]
end
theorem qqp {w:Int}{a b:List GEl}{inv:Bool}(h1:isZ (en0 (chn w a).1)=false)(h2:isZ (en0 (chn w b).1)=false):
  qs0 w a b inv=(⟨(qb4 w a b inv).num,(qb4 w a b inv).den,(qao w a b).num,(qao w a b).den⟩,0):=by
 unfold qs0
 rw[h1,h2];rfl
section
variable {o q:Option (List GEl)}{w:Int}{inv:Bool}
theorem q0n (ha:zt (o.getD [])=0)(hb:zt (q.getD [])=0)(hw:jh w 1 8=0):bd 113592964 (qb4 w (o.getD []) (q.getD []) inv):=by
 obtain⟨a1,d1⟩:=qas hw ha
 obtain⟨a2,d2⟩:=qas hw hb
 have x1:=(qis d1 a2).2
 have x2:=(qis d2 a1).2
 unfold qb4
 split
 ·exact q6w (A:=56796482) (B:=56796482) (by decide) (by decide) (by decide) x1 x2
 ·exact qsr (A:=56796482) (B:=56796482) (by decide) (by decide) (by decide) x1 x2
theorem q1n (ha:zt (o.getD [])=0)(hb:zt (q.getD [])=0)(hw:jh w 1 8=0):bd 56796482 (qao w (o.getD []) (q.getD [])):=(qis (qas hw ha).1 (qas hw hb).1).2
theorem qzu (ha:zt (o.getD [])=0)(hb:zt (q.getD [])=0)(hw:jh w 1 8=0):sqV (qao w (o.getD []) (q.getD []))=sqV (en0 (chn w (o.getD [])).1)*sqV (en0 (chn w (q.getD [])).1):=by
 unfold qao
 rw[(qis (qas hw ha).1 (qas hw hb).1).1]
 exact qwo _ _ _ _
theorem qqr (ha:zt (o.getD [])=0)(hb:zt (q.getD [])=0)(hw:jh w 1 8=0)(h1:isZ (en0 (chn w (o.getD [])).1)=false)(h2:isZ (en0 (chn w (q.getD [])).1)=false):
  f26 o q w inv=some (low (sqV (qb4 w (o.getD []) (q.getD []) inv)) (sqV (qao w (o.getD []) (q.getD []))),0):=by
 have hs:=qty (inv:=inv) ha hb hw
 have hn:bd 2073071593 (qb4 w (o.getD []) (q.getD []) inv):=kn (by decide) (q0n ha hb hw)
 have hd:bd 2073071593 (qao w (o.getD []) (q.getD [])):=kn (by decide) (q1n ha hb hw)
 have hp:0<sqV (qao w (o.getD []) (q.getD [])):=by
  rw[qzu ha hb hw]
  exact Int.mul_pos (qie (qil h1)) (qie (qil h2))
 have g1:=qdp hn
 have g2:=qdp hd
 unfold f26
 rw[hs,qq,qqp h1 h2]
 dsimp only
 rw[show(decide ((0:Int)=0))=true from rfl,cond_true]
 rw[show(⟨(qb4 w (o.getD []) (q.getD []) inv).num,(qb4 w (o.getD []) (q.getD []) inv).den⟩:GRat)=qb4 w (o.getD []) (q.getD []) inv from rfl,show(⟨(qao w (o.getD []) (q.getD [])).num,(qao w (o.getD []) (q.getD [])).den⟩:GRat)=qao w (o.getD []) (q.getD [])from rfl,qup hn,qq,qup hd,qq,qyb g1.1 g1.2.1 hp g2.2.1,qq]
end
end Go.Z
