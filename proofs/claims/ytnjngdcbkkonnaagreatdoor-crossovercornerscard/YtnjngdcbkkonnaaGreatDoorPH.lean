/- Chapter 4. -/
import Derived.Test.YtnjngdcbkkonnaaGreatDoorA5
import Derived.Test.YtnjngdcbkkonnaaGreatDoorPB
import Derived.Shelf.Bits.Mul64
set_option linter.unusedVariables false
set_option linter.unusedSimpArgs false
set_option maxRecDepth 100000
set_option maxHeartbeats 1000000
namespace Go.Z
open Go Go.Abs
def cm (a b:GRat):GRat:=⟨qf .i64 (qf .i64 (a.num * b.num) - qf .i64 (a.den * b.den)),qf .i64 (qf .i64 (a.num * b.den) + qf .i64 (a.den * b.num))⟩
def ca (a b:GRat):GRat:=⟨qf .i64 (a.num + b.num),qf .i64 (a.den + b.den)⟩
def en0 (m:yb):GRat:=⟨m.m0,m.m1⟩
def en1 (m:yb):GRat:=⟨m.m2,m.m3⟩
def en2 (m:yb):GRat:=⟨m.m4,m.m5⟩
def en3 (m:yb):GRat:=⟨m.m6,m.m7⟩
def mk4 (x y z w:GRat):yb:=⟨x.num,x.den,y.num,y.den,z.num,z.den,w.num,w.den⟩
def mp (a b:yb):yb:=mk4 (ca (cm (en0 a) (en0 b)) (cm (en1 a) (en2 b))) (ca (cm (en0 a) (en1 b)) (cm (en1 a) (en3 b))) (ca (cm (en2 a) (en0 b)) (cm (en3 a) (en2 b))) (ca (cm (en2 a) (en1 b)) (cm (en3 a) (en3 b)))
theorem jbb {a b:yb}:f206 a b=some (mp a b):=rfl
def kM (s:List UInt8) (v:GRat):yb:=if s=kSe then ⟨1,0,v.num,v.den,0,0,1,0⟩ else if s=kSh then ⟨1,0,0,0,v.num,v.den,1,0⟩ else if s=kB then ⟨v.num,v.den,1,0,0,0,v.num,v.den⟩ else ⟨v.num,v.den,0,0,1,0,v.num,v.den⟩
theorem jcl {s:List UInt8} {v:GRat} (h:isK s=true):kOf s v=some (kM s v,k8 s):=by
 unfold kOf kM k8
 by_cases h3:s=kB
 ·subst h3; rfl
 rw [decide_eq_false (show ¬ s=[98,108,111,99,107] from h3),cond_false]
 by_cases h1:s=kSe
 ·subst h1; rfl
 rw [if_neg h1,decide_eq_false (show ¬ s=[115,101,114,105,101,115] from h1),cond_false]
 by_cases h2:s=kSh
 ·subst h2; rfl
 rw [if_neg h2,decide_eq_false (show ¬ s=[115,104,117,110,116] from h2),cond_false]
 by_cases h4:s=kT
 ·subst h4; rfl
 ·simp [isK,h1,h2,h3,h4] at h
def vOf (w:Int) (x:GEl):GRat:=⟨x.a,qf .i64 (w * x.b)⟩
def stp (w:Int) (q:yb × GRat) (x:GEl):yb × GRat:=(mp q.1 (kM x.kind (vOf w x)),if k8 x.kind then cm q.2 (vOf w x) else q.2)
def m1:yb:=⟨1,0,0,0,0,0,1,0⟩
def chn (w:Int) (l:List GEl):yb × GRat:=l.foldl (stp w) (m1,⟨1,0⟩)
theorem jdu {s:List UInt8}:f55 s=some (k8 s):=by
 unfold f55 k8
 by_cases h:s=kB
 ·rw [decide_eq_true (show s=[98,108,111,99,107] from h),decide_eq_true h]; rfl
 ·rw [decide_eq_false (show ¬ s=[98,108,111,99,107] from h),decide_eq_false h]; rfl
theorem qwv {w:Int}:∀ {l:List GEl} {q:yb × GRat},(∀ x∈l,isK x.kind=true)→qjj w l q=some (l.foldl (stp w) q)
 | [],q,_=>rfl
 | x::l,q,h=>by
  have hx:=h x (List.mem_cons_self ..)
  simp only [qjj,qvj,jcl hx,qd,jbb,List.foldl_cons]
  have:(cond (k8 x.kind) (f207 q.2 ⟨x.a,qf .i64 (w * x.b)⟩) (some q.2))=some (if k8 x.kind then cm q.2 (vOf w x) else q.2):=by
   cases k8 x.kind <;> rfl
  rw [this,qd,qd]
  exact qwv fun y hy=>h y (List.mem_cons_of_mem _ hy)
theorem jba {o:Option (List GEl)} {w:Int} (hn:(o.getD []).length≤5) (h:∀ x∈o.getD [],isK x.kind=true):f173 o w=some (chn w (o.getD [])):=by
 unfold f173
 rw [decide_eq_true hn,cond_true,qwv h]; rfl
def t8 (i:Int) (m:yb):Int × Int × Int × Int × Int × Int × Int × Int × Int:=(i,m.m0,m.m1,m.m2,m.m3,m.m4,m.m5,m.m6,m.m7)
structure qij (x:GEl):Prop where
 k:isK x.kind=true
 a0:0≤x.a
 a8:x.a≤8
 b0:0≤x.b
 b8:x.b≤8
 z:k8 x.kind=true→¬ (x.a=0∧x.b=0)
theorem qb4 {n lo hi:Int} (h:jd n lo hi=0):lo≤n∧n≤hi:=by
 unfold jd at h
 split at h
 ·cases h
 ·split at h
  ·cases h
  ·omega
theorem q8p {x:GEl} (h:kc x=0):qij x:=by
 unfold kc at h
 rw [zr] at h
 have h1:=h _ (List.mem_cons_self ..)
 have h2:=qb4 (h (jd x.a 0 8) (by simp))
 have h3:=qb4 (h (jd x.b 0 8) (by simp))
 have h4:=h (kg (k8 x.kind && decide (x.a=0) && decide (x.b=0)) 6) (by simp)
 refine ⟨?_,h2.1,h2.2,h3.1,h3.2,?_⟩
 ·cases hk:isK x.kind with
  | true=>rfl
  | false=>rw [hk] at h1; cases h1
 ·intro hd ⟨ha,hb⟩
  rw [hd,decide_eq_true ha,decide_eq_true hb] at h4
  cases h4
theorem qg4 {l:List GEl} (h:zy l=0):l.length≤5∧∀ x∈l,qij x:=by
 unfold zy at h
 split at h
 ·cases h
 ·refine ⟨by omega,fun x hx=>q8p ?_⟩
  rw [zr] at h
  exact h _ (List.mem_map_of_mem hx)
theorem qqe {B x y c:Int} (h1:-B≤x) (h2:x≤B) (h3:0≤y) (h4:y≤c) (hB:0≤B):-(B * c)≤x * y∧x * y≤B * c:=by
 have k1:x * y≤B * y:=Int.mul_le_mul_of_nonneg_right h2 h3
 have k2:B * y≤B * c:=Int.mul_le_mul_of_nonneg_left h4 hB
 have k3:(-B) * y≤x * y:=Int.mul_le_mul_of_nonneg_right h1 h3
 rw [Int.neg_mul] at k3
 omega
structure bd (B:Int) (z:GRat):Prop where
 a:-B≤z.num
 b:z.num≤B
 c:-B≤z.den
 d:z.den≤B
structure vl (v:GRat):Prop where
 a:0≤v.num
 b:v.num≤8
 c:0≤v.den
 d:v.den≤64
theorem qq9 {B:Int} {z v:GRat} (hB:0≤B) (hB2:B≤100000000000) (hz:bd B z) (hv:vl v):bd (72 * B) (cm z v)∧cm z v=⟨z.num * v.num - z.den * v.den,z.num * v.den + z.den * v.num⟩:=by
 obtain ⟨z1,z2,z3,z4⟩:=hz
 obtain ⟨v1,v2,v3,v4⟩:=hv
 have k1:=qqe z1 z2 v1 v2 hB
 have k2:=qqe z3 z4 v3 v4 hB
 have k3:=qqe z1 z2 v3 v4 hB
 have k4:=qqe z3 z4 v1 v2 hB
 have e:cm z v=⟨z.num * v.num - z.den * v.den,z.num * v.den + z.den * v.num⟩:=by
  unfold cm
  rw [za (x:=z.num * v.num) (by omega) (by omega),za (x:=z.den * v.den) (by omega) (by omega),za (x:=z.num * v.den) (by omega) (by omega),za (x:=z.den * v.num) (by omega) (by omega),za (by omega) (by omega),za (by omega) (by omega)]
 refine ⟨?_,e⟩
 rw [e]
 exact ⟨by dsimp only; omega,by dsimp only; omega,by dsimp only; omega,by dsimp only; omega⟩
theorem jeu {B:Int} {z:GRat} (hB2:B≤100000000000) (hz:bd B z):bd B (cm z ⟨1,0⟩):=by
 obtain ⟨z1,z2,z3,z4⟩:=hz
 unfold cm
 simp only [Int.mul_one,Int.mul_zero]
 rw [za (x:=z.num) (by omega) (by omega),za (x:=0) (by omega) (by omega),za (x:=z.den) (by omega) (by omega),za (by omega) (by omega),za (by omega) (by omega)]
 exact ⟨by dsimp only; omega,by dsimp only; omega,by dsimp only; omega,by dsimp only; omega⟩
theorem q9s {B:Int} {z:GRat} (hB:0≤B):bd B (cm z ⟨0,0⟩):=by
 have e:cm z ⟨0,0⟩=⟨0,0⟩:=by unfold cm; simp only [Int.mul_zero]; rfl
 rw [e]
 exact ⟨by dsimp only; omega,hB,by dsimp only; omega,hB⟩
def sm (v:GRat):Prop:=v=⟨1,0⟩∨v=⟨0,0⟩
theorem q9m {B:Int} {z v:GRat} (hB:0≤B) (hB2:B≤100000000000) (hz:bd B z) (h:sm v):bd B (cm z v):=by
 rcases h with rfl | rfl
 ·exact jeu hB2 hz
 ·exact q9s hB
theorem q85 {A B:Int} {x y:GRat} (hA:0≤A) (hB:0≤B) (h:A + B≤9000000000000000000) (hx:bd A x) (hy:bd B y):bd (A + B) (ca x y):=by
 obtain ⟨x1,x2,x3,x4⟩:=hx
 obtain ⟨y1,y2,y3,y4⟩:=hy
 unfold ca
 rw [za (by omega) (by omega),za (by omega) (by omega)]
 exact ⟨by dsimp only; omega,by dsimp only; omega,by dsimp only; omega,by dsimp only; omega⟩
theorem qdj {A B:Int} {z:GRat} (h:A≤B) (hz:bd A z):bd B z:=by
 obtain ⟨z1,z2,z3,z4⟩:=hz
 exact ⟨by omega,by omega,by omega,by omega⟩
theorem qqy {B:Int} {x y p q:GRat} (hB:0≤B) (hB2:B≤100000000000) (hx:bd B x) (hy:bd B y) (h:(vl p∧sm q)∨(sm p∧vl q)):bd (73 * B) (ca (cm x p) (cm y q)):=by
 rcases h with ⟨h1,h2⟩ | ⟨h1,h2⟩
 ·exact qdj (by omega) (q85 (by omega) hB (by omega) (qq9 hB hB2 hx h1).1 (q9m hB hB2 hy h2))
 ·exact qdj (by omega) (q85 hB (by omega) (by omega) (q9m hB hB2 hx h1) (qq9 hB hB2 hy h2).1)
structure bq (B:Int) (q:yb × GRat):Prop where
 a:bd B (en0 q.1)
 b:bd B (en1 q.1)
 c:bd B (en2 q.1)
 d:bd B (en3 q.1)
 e:bd B q.2
theorem q36:vl ⟨1,0⟩:=⟨by decide,by decide,by decide,by decide⟩
theorem jac {s:List UInt8} {v:GRat} (hv:vl v):((vl (en0 (kM s v))∧sm (en2 (kM s v)))∨(sm (en0 (kM s v))∧vl (en2 (kM s v))))∧((vl (en1 (kM s v))∧sm (en3 (kM s v)))∨(sm (en1 (kM s v))∧vl (en3 (kM s v)))):=by
 have hv':vl ⟨v.num,v.den⟩:=hv
 unfold kM
 split
 ·exact ⟨.inl ⟨q36,.inr rfl⟩,.inl ⟨hv',.inl rfl⟩⟩
 split
 ·exact ⟨.inr ⟨.inl rfl,hv'⟩,.inr ⟨.inr rfl,q36⟩⟩
 split
 ·exact ⟨.inl ⟨hv',.inr rfl⟩,.inr ⟨.inl rfl,hv'⟩⟩
 ·exact ⟨.inl ⟨hv',.inl rfl⟩,.inr ⟨.inr rfl,hv'⟩⟩
theorem q55 {w:Int} {x:GEl} (hw:1≤w∧w≤8) (hx:qij x):vl (vOf w x)∧vOf w x=⟨x.a,w * x.b⟩:=by
 have k:=qqe (B:=8) (x:=w) (y:=x.b) (c:=8) (by omega) (by omega) hx.b0 hx.b8 (by decide)
 have k0:0≤w * x.b:=Int.mul_nonneg (by omega) hx.b0
 have e:vOf w x=⟨x.a,w * x.b⟩:=by unfold vOf; rw [za (by omega) (by omega)]
 refine ⟨?_,e⟩
 rw [e]
 exact ⟨hx.a0,hx.a8,k0,by dsimp only; omega⟩
theorem q3p {B w:Int} {q:yb × GRat} {x:GEl} (hB:0≤B) (hB2:B≤100000000000) (hw:1≤w∧w≤8) (hx:qij x) (h:bq B q):bq (73 * B) (stp w q x):=by
 have hv:=(q55 hw hx).1
 obtain ⟨c1,c2⟩:=jac (s:=x.kind) hv
 refine ⟨qqy hB hB2 h.a h.b c1,qqy hB hB2 h.a h.b c2,qqy hB hB2 h.c h.d c1,qqy hB hB2 h.c h.d c2,?_⟩
 unfold stp
 dsimp only
 split
 ·exact qdj (by omega) (qq9 hB hB2 h.e hv).1
 ·exact qdj (by omega) h.e
def pw:Nat→Int
 | 0=>1
 | n + 1=>73 * pw n
theorem qyp:∀ n,1≤pw n
 | 0=>by decide
 | n + 1=>by have:=qyp n; unfold pw; omega
theorem q0b {w:Int} (hw:1≤w∧w≤8):∀ {l:List GEl} {k:Nat} {q:yb × GRat},(∀ x∈l,qij x)→k + l.length≤5→bq (pw k) q→bq (pw (k + l.length)) (l.foldl (stp w) q)
 | [],k,q,_,_,h=>h
 | x::l,k,q,ho,hk,h=>by
  rw [List.length_cons] at hk
  have hb:pw k≤28398241:=by
   have:k≤4:=by omega
   match k,this with
   | 0,_=>decide
   | 1,_=>decide
   | 2,_=>decide
   | 3,_=>decide
   | 4,_=>decide
  have:=q0b hw (l:=l) (k:=k + 1) (q:=stp w q x) (fun y hy=>ho y (List.mem_cons_of_mem _ hy)) (by omega) (q3p (by have:=qyp k; omega) (by omega) hw (ho x (List.mem_cons_self ..)) h)
  rw [show k + (x::l).length=k + 1 + l.length by rw [List.length_cons]; omega]
  exact this
theorem jei {w:Int} {l:List GEl} (hw:1≤w∧w≤8) (hl:l.length≤5) (ho:∀ x∈l,qij x):bq (pw l.length) (chn w l):=by
 have h0:bq (pw 0) (m1,⟨1,0⟩):=⟨⟨by decide,by decide,by decide,by decide⟩,⟨by decide,by decide,by decide,by decide⟩,⟨by decide,by decide,by decide,by decide⟩,⟨by decide,by decide,by decide,by decide⟩,⟨by decide,by decide,by decide,by decide⟩⟩
 have:=q0b hw ho (k:=0) (by omega) h0
 rw [Nat.zero_add] at this
 exact this
theorem jbm:∀ {n:Nat},n≤5→pw n≤2073071593
 | 0,_=>by decide
 | 1,_=>by decide
 | 2,_=>by decide
 | 3,_=>by decide
 | 4,_=>by decide
 | 5,_=>by decide
 | n + 6,h=>by omega
theorem qqg {a b:Nat} (h:b ≠ 0):qeq (a:Int) (b:Int)=some ((a % b:Nat):Int):=by
 unfold qeq
 rw [if_neg (by omega)]
 rfl
theorem qq7 {δ:Type} {f:Int × Int→Option ((Int × Int) ⊕ δ)} {k:Int × Int→δ} (hf:∀ a b:Int,f (a,b)=cond (decide (b=0)) (some (.inr (k (a,b)))) (qe (qeq a b) fun v=>some (.inl (b,v)))):∀ (n:Nat) (a b:Nat),b≤n→itO f ((a:Int),(b:Int))=some (k (((Nat.gcd a b:Nat):Int),0))
 | n,a,0,_=>by
  rw [Nat.gcd_zero_right]
  exact qal (by rw [hf]; rfl)
 | 0,a,b + 1,h=>by omega
 | n + 1,a,b + 1,h=>by
  have hm:a % (b + 1) < b + 1:=Nat.mod_lt _ (by omega)
  rw [qcp (s':=(((b + 1:Nat):Int),((a % (b + 1):Nat):Int))) (by
   rw [hf,decide_eq_false (by omega),cond_false,qqg (by omega)]; rfl)]
  rw [qq7 hf n (b + 1) (a % (b + 1)) (by omega)]
  rw [Nat.gcd_comm a (b + 1),Nat.gcd_rec (b + 1) a,Nat.gcd_comm]
def low (a b:Int):GRat:=⟨a / (Nat.gcd a.toNat b.toNat:Nat),b / (Nat.gcd a.toNat b.toNat:Nat)⟩
theorem qfc {a g:Nat} (hg:0 < g) (ha:a≤9223372036854775807):qd6 .i64 (a:Int) (g:Int)=some ((a:Int) / (g:Int)):=by
 unfold qd6
 rw [if_neg (by omega)]
 have e:(a:Int).tdiv (g:Int)=(a:Int) / (g:Int):=rfl
 rw [e,za]
 ·have:0≤(a:Int) / (g:Int):=Int.ediv_nonneg (by omega) (by omega)
  omega
 ·have:(a:Int) / (g:Int)≤(a:Int):=Int.ediv_le_self _ (by omega)
  omega
section
variable {a b:Int}
theorem qpb (hb:0 < b):0 < Nat.gcd a.toNat b.toNat:=Nat.gcd_pos_of_pos_right _ (by omega)
theorem q61 (h0:0≤a) (h1:a≤9223372036854775807) (h2:0 < b) (h3:b≤9223372036854775807):f125 a b=some (low a b):=by
 have hg:=qpb (a:=a) h2
 obtain ⟨a,rfl⟩:=Int.eq_ofNat_of_zero_le h0
 obtain ⟨b,rfl⟩:=Int.eq_ofNat_of_zero_le (Int.le_of_lt h2)
 have hg:0 < Nat.gcd a b:=hg
 unfold f125
 rw [qq7 (k:=id) (fun _ _=>rfl) b a b (Nat.le_refl _),qd]
 dsimp only [id]
 rw [qfc hg (by omega),qd,qfc hg (by omega),qd]
 rfl
theorem q6y (h0:0≤a) (h1:a≤9223372036854775807) (h2:0 < b) (h3:b≤9223372036854775807):f174 a b=some (low a b):=by
 have hg:=qpb (a:=a) h2
 obtain ⟨a,rfl⟩:=Int.eq_ofNat_of_zero_le h0
 obtain ⟨b,rfl⟩:=Int.eq_ofNat_of_zero_le (Int.le_of_lt h2)
 have hg:0 < Nat.gcd a b:=hg
 unfold f174
 rw [qq7 (k:=id) (fun _ _=>rfl) b a b (Nat.le_refl _),qd]
 dsimp only [id]
 rw [qfc hg (by omega),qd,qfc hg (by omega),qd]
 rfl
theorem jbw (h0:0≤a) (h1:a≤9223372036854775807) (h2:0 < b) (h3:b≤9223372036854775807):f66 a b=some (low a b):=by
 have hg:=qpb (a:=a) h2
 obtain ⟨a,rfl⟩:=Int.eq_ofNat_of_zero_le h0
 obtain ⟨b,rfl⟩:=Int.eq_ofNat_of_zero_le (Int.le_of_lt h2)
 have hg:0 < Nat.gcd a b:=hg
 unfold f66
 rw [decide_eq_false (by omega),cond_false,za (x:=0 - (a:Int)) (by omega) (by omega),show max (a:Int) (0 - (a:Int))=(a:Int) by omega]
 rw [qq7 (k:=id) (fun _ _=>rfl) b a b (Nat.le_refl _),qd]
 dsimp only [id]
 rw [qfc hg (by omega),qd,qfc hg (by omega),qd]
 rfl
theorem jdy (h0:0≤a) (h2:0 < b):0≤(low a b).num∧(low a b).num≤a∧1≤(low a b).den∧(low a b).den≤b:=by
 have hg:=qpb (a:=a) h2
 unfold low
 dsimp only
 refine ⟨Int.ediv_nonneg h0 (by omega),Int.ediv_le_self _ h0,?_,Int.ediv_le_self _ (by omega)⟩
 have hd:Nat.gcd a.toNat b.toNat≤b.toNat:=Nat.gcd_le_right _ (by omega)
 exact (Int.le_ediv_iff_mul_le (by omega)).2 (by omega)
end
theorem q1q (a:Nat) (ha:a < 18446744073709551616):ql5 .and .u64 (a:Int) 4294967295=((a % 4294967296:Nat):Int):=Go.Proofs.Mul64.maskN a ha
theorem jks (a:Nat):qn1 .u64 (a:Int) 32=some ((a / 4294967296:Nat):Int):=by
 show some (Int.fdiv (a:Int) (2 ^ 32))=_
 rw [show ((2:Int) ^ 32)=((4294967296:Nat):Int) from rfl]
 have:Int.fdiv (a:Int) ((4294967296:Nat):Int)=((a / 4294967296:Nat):Int):=by
  rw [Int.fdiv_eq_ediv_of_nonneg _ (by omega)]; omega
 rw [this]
theorem wrapN (a:Nat) (ha:a < 18446744073709551616):qf .u64 (a:Int)=(a:Int):=by rw [qcg]; exact Go.Proofs.Mul64.wrapN a ha
theorem wrapM (a:Nat):qf .u64 (a:Int)=((a % 18446744073709551616:Nat):Int):=by rw [qcg]; exact Go.Proofs.Mul64.wrapM a
theorem qz0 (x y:Nat) (hx:x < 18446744073709551616) (hy:y < 18446744073709551616):f165 (x:Int) (y:Int)=some (((x * y / 18446744073709551616:Nat):Int),((x * y % 18446744073709551616:Nat):Int)):=by
 obtain ⟨bd,bt,bw,hhi⟩:=Lib.mul64_hi x y hx hy
 have ba:=Lib.half_mul_le (a:=x / 4294967296) (b:=y / 4294967296) (by omega) (by omega)
 have bb:=Lib.half_mul_le (a:=x / 4294967296) (b:=y % 4294967296) (by omega) (by omega)
 have bc:=Lib.half_mul_le (a:=x % 4294967296) (b:=y / 4294967296) (by omega) (by omega)
 have ba':x / 4294967296 * (y / 4294967296) < 18446744073709551616:=by omega
 have bb':x / 4294967296 * (y % 4294967296) < 18446744073709551616:=by omega
 have bc':x % 4294967296 * (y / 4294967296) < 18446744073709551616:=by omega
 have bh1:x / 4294967296 * (y / 4294967296) + (x / 4294967296 * (y % 4294967296) + x % 4294967296 * (y % 4294967296) / 4294967296) / 4294967296 < 18446744073709551616:=by omega
 have bh:x / 4294967296 * (y / 4294967296) + (x / 4294967296 * (y % 4294967296) + x % 4294967296 * (y % 4294967296) / 4294967296) / 4294967296 + ((x / 4294967296 * (y % 4294967296) + x % 4294967296 * (y % 4294967296) / 4294967296) % 4294967296 + x % 4294967296 * (y / 4294967296)) / 4294967296 < 18446744073709551616:=by omega
 unfold f165
 simp only [q1q x hx,q1q y hy,jks,qd,Go.Proofs.Mul64.mulN,Go.Proofs.Mul64.addN,wrapN _ bd,wrapN _ bb',wrapN _ bt,q1q _ bt,wrapN _ bc',wrapN _ bw,wrapN _ ba',wrapN _ bh1,wrapN _ bh,wrapM (x * y)]
 rw [hhi]
theorem q7j {a b:GRat} (a1:0≤a.num) (a2:a.num≤9223372036854775807) (a3:0≤a.den) (a4:a.den≤9223372036854775807) (b1:0≤b.num) (b2:b.num≤9223372036854775807) (b3:0≤b.den) (b4:b.den≤9223372036854775807):
  f127 a b=some (decide (b.num * a.den < a.num * b.den)):=by
 obtain ⟨p,q⟩:=a
 obtain ⟨r,s⟩:=b
 dsimp only at a1 a2 a3 a4 b1 b2 b3 b4 ⊢
 obtain ⟨p,rfl⟩:=Int.eq_ofNat_of_zero_le a1
 obtain ⟨q,rfl⟩:=Int.eq_ofNat_of_zero_le a3
 obtain ⟨r,rfl⟩:=Int.eq_ofNat_of_zero_le b1
 obtain ⟨s,rfl⟩:=Int.eq_ofNat_of_zero_le b3
 unfold f127
 simp only [wrapN p (by omega),wrapN q (by omega),wrapN r (by omega),wrapN s (by omega),qz0 p s (by omega) (by omega),qz0 r q (by omega) (by omega),qd]
 rw [Go.Proofs.Mul64.mulN,Go.Proofs.Mul64.mulN]
 generalize p * s=u
 generalize r * q=v
 by_cases h1:((v / 18446744073709551616:Nat):Int) < ((u / 18446744073709551616:Nat):Int)
 ·rw [decide_eq_true h1,cond_true,decide_eq_true (by omega)]
 ·rw [decide_eq_false h1,cond_false]
  by_cases h2:((u / 18446744073709551616:Nat):Int)=((v / 18446744073709551616:Nat):Int)
  ·rw [decide_eq_true h2,cond_true]
   congr 1
   exact decide_eq_decide.2 (by omega)
  ·rw [decide_eq_false h2,cond_false,decide_eq_false (by omega)]
theorem qw5 {a b:Nat} (h:0 < b) (ha:a≤9223372036854775807):qd6 .i64 (a:Int) (b:Int)=some ((a / b:Nat):Int):=by
 rw [qfc h ha]; rfl
theorem qub {rec:GRat→GRat→Option Bool} {a b c d:Nat} (hb:0 < b) (hd:0 < d) (ha':a≤9223372036854775807) (hc':c≤9223372036854775807)
  (hr:a / b=c / d→0 < a % b→0 < c % d→rec ⟨d,((c % d:Nat):Int)⟩ ⟨b,((a % b:Nat):Int)⟩=some (decide (d * (a % b) < b * (c % d)))):
  F58 rec ⟨a,b⟩ ⟨c,d⟩=some (decide (a * d < c * b)):=by
 unfold F58
 dsimp only
 simp only [qw5 hb ha',qw5 hd hc',qd,qqg (show b ≠ 0 by omega),qqg (show d ≠ 0 by omega)]
 have ea:=Nat.div_add_mod a b
 have ec:=Nat.div_add_mod c d
 have la:=Nat.mod_lt a hb
 have lc:=Nat.mod_lt c hd
 have e1:a * d=b * d * (a / b) + d * (a % b):=by
  conv=>lhs; rw [← ea]
  rw [Nat.add_mul]
  rw [Nat.mul_right_comm,Nat.mul_comm (a % b) d]
 have e2:c * b=b * d * (c / d) + b * (c % d):=by
  conv=>lhs; rw [← ec]
  rw [Nat.add_mul,Nat.mul_right_comm,Nat.mul_comm d b,Nat.mul_comm (c % d) b]
 have f1:d * (a % b) < b * d:=by rw [Nat.mul_comm b d]; exact Nat.mul_lt_mul_of_pos_left la hd
 have f2:b * (c % d) < b * d:=Nat.mul_lt_mul_of_pos_left lc hb
 by_cases h1:a / b=c / d
 ·rw [decide_eq_true (show ((a / b:Nat):Int)=((c / d:Nat):Int) by omega),cond_true]
  have e3:(a * d < c * b)↔d * (a % b) < b * (c % d):=by rw [e1,e2,h1]; omega
  by_cases h2:a % b=0
  ·rw [decide_eq_true (show ((a % b:Nat):Int)=0 by omega),cond_true]
   congr 1
   by_cases h3:c % d=0
   ·rw [decide_eq_true (show ((c % d:Nat):Int)=0 by omega),decide_eq_false (by rw [e3,h2,h3]; omega)]; rfl
   ·have:0 < b * (c % d):=Nat.mul_pos hb (by omega)
    rw [decide_eq_false (show ¬ ((c % d:Nat):Int)=0 by omega),decide_eq_true (by rw [e3,h2]; omega)]; rfl
  ·rw [decide_eq_false (show ¬ ((a % b:Nat):Int)=0 by omega),cond_false]
   by_cases h3:c % d=0
   ·rw [decide_eq_true (show ((c % d:Nat):Int)=0 by omega),cond_true,decide_eq_false (by rw [e3,h3]; omega)]
   ·rw [decide_eq_false (show ¬ ((c % d:Nat):Int)=0 by omega),cond_false,hr h1 (by omega) (by omega),qd]
    congr 1
    exact decide_eq_decide.2 e3.symm
 ·rw [decide_eq_false (show ¬ ((a / b:Nat):Int)=((c / d:Nat):Int) by omega),cond_false]
  congr 1
  refine decide_eq_decide.2 ?_
  rw [e1,e2]
  constructor
  ·intro h
   have:b * d * (a / b + 1)≤b * d * (c / d):=Nat.mul_le_mul_left _ (by omega)
   rw [Nat.mul_add] at this
   omega
  ·intro h
   by_cases h4:a / b < c / d
   ·omega
   ·have:b * d * (c / d + 1)≤b * d * (a / b):=Nat.mul_le_mul_left _ (by omega)
    rw [Nat.mul_add] at this
    omega
theorem qys {a b:Nat} (h:b≤a) (hb:0 < b):2 * (a % b)≤a:=by
 have:=Nat.mod_lt a hb
 have e:=Nat.div_add_mod a b
 have:1≤a / b:=(Nat.le_div_iff_mul_le hb).2 (by omega)
 have:b * 1≤b * (a / b):=Nat.mul_le_mul_left _ this
 omega
theorem qug:∀ (n:Nat) (a b c d:Nat),0 < b→0 < d→b≤a→d≤c→a≤9223372036854775807→c≤9223372036854775807→a * b < 2 ^ n→c * d < 2 ^ n→f58 n ⟨a,b⟩ ⟨c,d⟩=some (decide (a * d < c * b))
 | 0,a,b,c,d,hb,hd,hab,hcd,_,_,h1,h2=>by
  have:1 * 1≤a * b:=Nat.mul_le_mul (by omega) hb
  omega
 | n + 1,a,b,c,d,hb,hd,hab,hcd,ha',hc',h1,h2=>by
  refine qub hb hd ha' hc' fun _ k1 k2=>?_
  have la:=Nat.mod_lt a hb
  have lc:=Nat.mod_lt c hd
  have g1:d * (2 * (c % d))≤d * c:=Nat.mul_le_mul_left _ (qys hcd hd)
  have g2:b * (2 * (a % b))≤b * a:=Nat.mul_le_mul_left _ (qys hab hb)
  rw [Nat.pow_succ] at h1 h2
  rw [Nat.mul_left_comm] at g1 g2
  rw [Nat.mul_comm d c] at g1
  rw [Nat.mul_comm b a] at g2
  have:=qug n d (c % d) b (a % b) k2 k1 (by omega) (by omega) (by omega) (by omega) (by omega) (by omega)
  exact this
theorem jab {a b:GRat} (a1:0≤a.num) (a2:a.num≤9223372036854775807) (a3:1≤a.den) (a4:a.den≤9223372036854775807) (b1:0≤b.num) (b2:b.num≤9223372036854775807) (b3:1≤b.den) (b4:b.den≤9223372036854775807):
  f58 200 a b=some (decide (a.num * b.den < b.num * a.den)):=by
 obtain ⟨p,q⟩:=a
 obtain ⟨r,s⟩:=b
 dsimp only at a1 a2 a3 a4 b1 b2 b3 b4 ⊢
 obtain ⟨p,rfl⟩:=Int.eq_ofNat_of_zero_le a1
 obtain ⟨q,rfl⟩:=Int.eq_ofNat_of_zero_le (show (0:Int)≤q by omega)
 obtain ⟨r,rfl⟩:=Int.eq_ofNat_of_zero_le b1
 obtain ⟨s,rfl⟩:=Int.eq_ofNat_of_zero_le (show (0:Int)≤s by omega)
 rw [Go.Proofs.Mul64.mulN,Go.Proofs.Mul64.mulN]
 have h:=qub (rec:=f58 199) (a:=p) (b:=q) (c:=r) (d:=s) (by omega) (by omega) (by omega) (by omega) (fun _ k1 k2=>by
  have la:=Nat.mod_lt p (show 0 < q by omega)
  have lc:=Nat.mod_lt r (show 0 < s by omega)
  have g1:s * (r % s)≤9223372036854775807 * 9223372036854775807:=Nat.mul_le_mul (by omega) (by omega)
  have g2:q * (p % q)≤9223372036854775807 * 9223372036854775807:=Nat.mul_le_mul (by omega) (by omega)
  have g3:9223372036854775807 * 9223372036854775807 < 2 ^ 199:=by decide
  exact qug 199 s (r % s) q (p % q) k2 k1 (by omega) (by omega) (by omega) (by omega) (by omega) (by omega))
 have e:f58 200 ⟨p,q⟩ ⟨r,s⟩=some (decide (p * s < r * q)):=h
 rw [e]
 congr 1
 exact decide_eq_decide.2 (by omega)
def sqV (z:GRat):Int:=z.num * z.num + z.den * z.den
theorem q3b {B x:Int} (h1:-B≤x) (h2:x≤B) (hB:0≤B):0≤x * x∧x * x≤B * B:=by
 have h0:0≤x * x:=by
  rcases Int.le_total 0 x with h | h
  ·exact Int.mul_nonneg h h
  ·have:=Int.mul_nonneg (a:=-x) (b:=-x) (by omega) (by omega)
   rw [Int.neg_mul_neg] at this
   exact this
 refine ⟨h0,?_⟩
 rcases Int.le_total 0 x with h | h
 ·exact Int.mul_le_mul h2 h2 h hB
 ·have:=Int.mul_le_mul (show -x≤B by omega) (show -x≤B by omega) (show 0≤-x by omega) hB
  rw [Int.neg_mul_neg] at this
  exact this
theorem qtd {z:GRat} (h:¬ (z.num=0∧z.den=0)):0 < sqV z:=by
 unfold sqV
 have h1:∀ x:Int,x ≠ 0→0 < x * x:=by
  intro x hx
  rcases Int.lt_or_gt_of_ne hx with k | k
  ·have:=Int.mul_pos (a:=-x) (b:=-x) (by omega) (by omega)
   rw [Int.neg_mul_neg] at this
   exact this
  ·exact Int.mul_pos k k
 have h2:∀ x:Int,0≤x * x:=fun x=>(q3b (B:=max x (-x)) (by omega) (by omega) (by omega)).1
 by_cases hz:z.num=0
 ·have:=h1 z.den (fun e=>h ⟨hz,e⟩)
  have:=h2 z.num
  omega
 ·have:=h1 z.num hz
  have:=h2 z.den
  omega
section
variable {z:GRat}
theorem qnq (hz:bd 2073071593 z):0≤sqV z∧sqV z≤9223372036854775807∧qf .i64 (qf .i64 (z.num * z.num) + qf .i64 (z.den * z.den))=sqV z:=by
 obtain ⟨h1,h2,h3,h4⟩:=hz
 have k1:=q3b h1 h2 (by decide)
 have k2:=q3b h3 h4 (by decide)
 unfold sqV
 refine ⟨by omega,by omega,?_⟩
 rw [za (x:=z.num * z.num) (by omega) (by omega),za (x:=z.den * z.den) (by omega) (by omega),za (by omega) (by omega)]
theorem qz3 (hz:bd 2073071593 z):f175 z=some (sqV z):=by unfold f175; rw [(qnq hz).2.2]
end
def isZ (z:GRat):Bool:=decide (z.num=0) && decide (z.den=0)
theorem qtp {z:GRat} (h:isZ z=false):¬ (z.num=0∧z.den=0):=by
 rintro ⟨h1,h2⟩
 unfold isZ at h
 rw [h1,h2] at h
 cases h
def lev (w:Int) (l:List GEl):GRat × Int:=if isZ (en0 (chn w l).1) then (⟨0,0⟩,17) else (low (sqV (chn w l).2) (sqV (en0 (chn w l).1)),0)
structure okL (l:List GEl):Prop where
 n:l.length≤5
 e:∀ x∈l,qij x
theorem q4y {l:List GEl} (h:zy l=0):okL l:=⟨(qg4 h).1,(qg4 h).2⟩
section
variable {o:Option (List GEl)} {w:Int}
theorem q0k (hw:1≤w∧w≤8) (h:okL (o.getD [])):bq 2073071593 (chn w (o.getD [])):=by
 have hb:=jei hw h.n h.e
 have hm:=jbm h.n
 exact ⟨qdj hm hb.a,qdj hm hb.b,qdj hm hb.c,qdj hm hb.d,qdj hm hb.e⟩
theorem q9y {m:yb} {d:GRat} {c0 c1:Int} (hm:bd 2073071593 (en0 m)) (hd:bd 2073071593 d):f132 m d c0 c1=some (if isZ (en0 m) then (⟨0,0⟩,17) else (low (sqV d) (sqV (en0 m)),0)):=by
 unfold f132
 have e:(decide (m.m0=0) && decide (m.m1=0))=isZ (en0 m):=rfl
 rw [e]
 cases hz:isZ (en0 m) with
 | true=>rfl
 | false=>
  have g1:=qnq hd
  have g2:=qnq hm
  have g3:=qtd (qtp hz)
  rw [cond_false,qz3 hd,qd,show (⟨m.m0,m.m1⟩:GRat)=en0 m from rfl,qz3 hm,qd,q6y g1.1 g1.2.1 g3 g2.2.1,qd]
  simp
theorem q9z (hl:zy (o.getD [])=0) (hw:jd w 1 8=0):f131 o w=some (lev w (o.getD [])):=by
 have h:=q4y hl
 have hb:=q0k (qb4 hw) h
 unfold f131
 rw [q04,qd,q9v,qd,qde (by simp),qd,hl,hw]
 rw [show (decide (js [0,0]=0))=true from rfl,cond_true,jba h.n (fun x hx=>(h.e x hx).k),qd,q9y hb.a hb.e,qd]
 unfold lev
 split <;> rfl
theorem qyr (hl:zy (o.getD [])=0) (hw:jd w 1 8=0):f57 o w=some (lev w (o.getD [])):=by
 unfold f57; rw [q9z hl hw]; rfl
theorem jd6 (hl:zy (o.getD [])=0) (hw:jd w 1 8=0):((lev w (o.getD [])).2=17)∨((lev w (o.getD [])).2=0∧0≤(lev w (o.getD [])).1.num∧(lev w (o.getD [])).1.num≤9223372036854775807∧1≤(lev w (o.getD [])).1.den∧(lev w (o.getD [])).1.den≤9223372036854775807):=by
 have hb:=q0k (qb4 hw) (q4y hl)
 unfold lev
 cases hz:isZ (en0 (chn w (o.getD [])).1) with
 | true=>exact .inl rfl
 | false=>
  have g1:=qnq hb.e
  have g2:=qnq hb.a
  have g3:=qtd (qtp hz)
  have:=jdy g1.1 g3
  right
  simp only [Bool.false_eq_true,if_false]
  exact ⟨trivial,this.1,by omega,this.2.2.1,by omega⟩
end
theorem jdi {o:Option (List GEl)} (hn:(o.getD []).length≤1073741824):f46 o=some (qt (o.getD []),yw (o.getD [])):=by
 unfold f46
 rw [qku (o.getD []) (qmf o) id hn (fun a=>by unfold qmf; rw [yg]; rfl) (fun i x a hx hi ha=>by
  unfold qmf
  rw [yu hi,cond_true,yk hx,qd,qch ha,ze hi (by omega)]; rfl),qd,List.map_id]
theorem qt1 {a b c:Int}:js [js [a,b],c]=js [a,b,c]:=by
 simp only [js]
 by_cases h1:a=0
 ·by_cases h2:b=0 <;> simp [h1,h2]
 ·simp [h1]
end Go.Z
