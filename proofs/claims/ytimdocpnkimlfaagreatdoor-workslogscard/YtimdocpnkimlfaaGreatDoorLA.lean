/- The library's functions in the abstract machine. -/
import Derived.Test.YtimdocpnkimlfaaGreatDoorZS
import Derived.Test.YtimdocpnkimlfaaGreatDoorZP
import Derived.Lib.AppendIntMem
import Derived.Test.YtimdocpnkimlfaaGreatDoorZM
import Derived.Test.YtimdocpnkimlfaaGreatDoorL1
set_option linter.unusedVariables false
set_option linter.unusedSimpArgs false
set_option maxRecDepth 100000
open Nat renaming eq_of_beq_eq_true→I,beq→Ec,le_of_ble_eq_true→En,blt→Hb,ble→Hu,le_refl→Ib,blt_eq→Jg
open Bool renaming and_eq_true→Ea,false→Eb,cond_eq_ite→E3,true→Gc,false_eq_true→Ha
open Option renaming some→Ek,none→Ga
open List renaming cons_append→Hy,length_map→Hz,isPrefixOf→H2,length_singleton→If,length_append→Jn,length_cons→Jp,mem_map→Jq,map_map→N1
namespace Go.Z
open Go Go.Abs Go.Proofs Go.RowKit
theorem qyw {C}:∀(l:List ByteArray),aF C (l.map fun s=>.str s.data.toList) (l.map Value.string)
 | []=>.nil
 |s::l=>.cons _ _ _ _ (show bp C (.str s.data.toList) (.string s)from .str _) (qyw l)
theorem qxw {C r}:∀ {ss:List (List UInt8)} {o:Nat},aO C r 1 (ss.map AVal.str) o→∀(j:Nat) s,ss[j]?=Ek s→C.K r (o+j)=Ek (.string ⟨⟨s⟩⟩)
 | [],o,_,j,s,hj=>by simp at hj
 |x::ss,o,h,j,s,hj=>by
  cases h with
  |cO _ _ _ _ _ hs hx hr=>
   cases j with
   |zero=>
    simp only[List.getElem?_cons_zero,Ek.injEq]at hj
    subst hj
    cases hx with
    |cV _ _ _ _ u hv hu _=>
     rw[Nat.add_zero,hv,bp.bL hu]
   |succ j=>
    have:=qxw hr j s (by simpa using hj)
    rw[show o+(j+1)=o+1+j by omega]
    exact this
theorem QH {w w'}(h:Below w.heap.size w w'):Ext w w':=⟨h.size,h.block,h.os,h.output⟩
theorem q9g {n}(h0:-9223372036854775808≤n)(h1:n≤9223372036854775807):IsoCall Tryz.prog 103 [.int .i64 n] (.str (Lib.itoa n)) Eb:=by
 refine Em fun K w vs ht hk hr=>?_
 cases hr with
 |cons _ _ v vs hx hr=>
  cases hr
  obtain rfl:=bp.br hx
  have hg:Tryz.prog.globalNamed l9=Ek 1:=by kernel_rfl
  refine⟨.string ⟨⟨Lib.itoa n⟩⟩,.str _,(Tryz.strconv_Itoa n h0 h1 w (ht.table hg)).mono ?_⟩
  rintro e w' ⟨rfl,k,os,rfl⟩
  exact⟨rfl,QH (Lib.below_grow w.heap.size w (Ib _) k os)⟩
theorem qu3 {s c}:IsoCall Tryz.prog 254 [.str s,.int .u8 c] (.int .i64 (Lib.indexByte s c.toNat.toUInt8)) Eb:=by
 refine Em fun K w vs ht hk hr=>?_
 cases hr with
 |cons _ _ v vs hx hr=>
  cases hr with
  |cons _ _ v2 vs gT hr=>
   cases hr
   obtain rfl:=bp.bL hx
   obtain rfl:=bp.br gT
   refine⟨_,.int _ _,(Tryz.stringslite_IndexByte ⟨⟨s⟩⟩ c w).mono ?_⟩
   rintro e w' ⟨rfl,rfl⟩
   exact⟨rfl,Ext.refl _⟩
theorem q6o {s p}(hs:s.length<4294967281)(hp:1≤p.length):IsoCall Tryz.prog 44 [.str s,.str p] (.list Eb 1 ((Lib.splitB ⟨⟨p⟩⟩ 0 (Lib.countB ⟨⟨s⟩⟩ ⟨⟨p⟩⟩) ⟨⟨s⟩⟩).map fun x=>.str x.data.toList)) Eb:=by
 refine jb0 (us:=(Lib.splitB ⟨⟨p⟩⟩ 0 (Lib.countB ⟨⟨s⟩⟩ ⟨⟨p⟩⟩) ⟨⟨s⟩⟩).map Value.string) (t:=9) (fun x hx=>?_) (fun K=>qyw _) (fun u hu=>?_) fun K w vs ht hk hr=>?_
 ·obtain⟨y,_,rfl⟩:=Jq.1 hx;rfl
 ·obtain⟨y,_,rfl⟩:=Jq.1 hu;rfl
 ·cases hr with
  |cons _ _ v vs hx hr=>
   cases hr with
   |cons _ _ v2 vs gT hr=>
    cases hr
    obtain rfl:=bp.bL hx
    obtain rfl:=bp.bL gT
    have hg0:Tryz.prog.globalNamed tr=Ek 0:=by kernel_rfl
    obtain⟨m,hm⟩:=ht.length hg0
    refine(Tryz.strings_Split ⟨⟨s⟩⟩ ⟨⟨p⟩⟩ m w hs hm hp).mono ?_
    rintro e w' ⟨rfl,rfl⟩
    refine⟨?_,rfl⟩
    rw[Hz,Lib.splitB_all ⟨⟨p⟩⟩ hp 0 _ ⟨⟨s⟩⟩ rfl]
theorem q96 {ss p}(aS:ss≠[])(hN:ss.length≤140737488355328)(hlen:(Lib.join ss p).length≤140737488355328):IsoCall Tryz.prog 105 [.list Eb 1 (ss.map .str),.str p] (.str (Lib.join ss p)) Eb:=by
 refine Em fun K w vs ht hk hr=>?_
 cases hr with
 |cons _ _ v vs hx hr=>
  cases hr with
  |cons _ _ v2 vs gT hr=>
   cases hr
   obtain rfl:=bp.bL gT
   have hl:∃r o cap,v=.slice (Ek ⟨r,o,Ga⟩) (ss.map AVal.str).length cap∧(ss.map AVal.str).length≤cap∧aO (.bw K) r 1 (ss.map .str) o:=by
    generalize hq:ss.map AVal.str=q at hx
    cases hx with
    |list _ _ r o cap hl cA=>exact⟨r,o,cap,rfl,hl,cA⟩
    |ie _ a hs=>exact absurd (List.map_eq_nil_iff.1 hq) aS
   obtain⟨r,o,cap,rfl,hcap,cA⟩:=hl
   have kI:(ss.map fun s=>(⟨⟨s⟩⟩:ByteArray)).map (·.data.toList)=ss:=by
    rw[N1]
    exact List.map_id' _
   have hcells:∀(j:Nat) x,(ss.map fun s=>(⟨⟨s⟩⟩:ByteArray))[j]?=Ek x→w.cell? ⟨r,o+j,Ga⟩=Ek (.string x):=by
    intro j x hj
    rw[List.getElem?_map,Option.map_eq_some_iff]at hj
    obtain⟨s,hs,rfl⟩:=hj
    exact hk _ _ _ (qxw cA j s hs)
   have hbk:r<w.heap.size:=by
    cases Bc:ss with
    |nil=>exact absurd Bc aS
    |cons s l=>
     have:=hcells 0 ⟨⟨s⟩⟩ (by rw[Bc];rfl)
     rcases Nat.lt_or_ge r w.heap.size with h|h
     ·exact h
     ·simp[World.cell?,Array.getElem?_eq_none h]at this
   have hj:=Tryz.strings_Join r o cap (ss.map fun s=>(⟨⟨s⟩⟩:ByteArray)) ⟨⟨p⟩⟩ w hcells hbk (by simpa using hN) (by simpa using hcap) (by rw[kI];exact hlen)
   rw[kI,Hz]at hj
   rw[Hz]
   refine⟨.string ⟨⟨Lib.join ss p⟩⟩,.str _,hj.mono ?_⟩
   rintro e w' ⟨rfl,hb⟩
   exact⟨rfl,QH hb⟩
theorem q2k {s:List UInt8}{c}(hc:c≤9223372036854775807)(hlen:s.length*c≤140737488355328):IsoCall Tryz.prog 196 [.str s,.int .i64 (c:Int)] (.str (Lib.repeatL s c)) Eb:=by
 refine Em fun K w vs ht hk hr=>?_
 cases hr with
 |cons _ _ v vs hx hr=>
  cases hr with
  |cons _ _ v2 vs gT hr=>
   cases hr
   obtain rfl:=bp.bL hx
   obtain rfl:=bp.br gT
   refine⟨.string ⟨⟨Lib.repeatL s c⟩⟩,.str _,(Tryz.strings_Repeat ⟨⟨s⟩⟩ c w hc hlen).mono ?_⟩
   rintro e w' ⟨rfl,hb⟩
   exact⟨rfl,QH hb⟩
theorem qus {p}:IsoCall Tryz.prog 105 [.list Gc 0 [],.str p] (.str []) Eb:=by
 refine Em fun K w vs ht hk hr=>?_
 cases hr with
 |cons _ _ v vs hx hr=>
  cases hr with
  |cons _ _ v2 vs gT hr=>
   cases hr
   obtain rfl:=bp.bL gT
   cases hx
   refine⟨.string ⟨#[]⟩,.str _,(Tryz.strings_Join_none _ _ ⟨⟨p⟩⟩ w).mono ?_⟩
   rintro e w' ⟨rfl,rfl⟩
   exact⟨rfl,Ext.refl _⟩
end Go.Z
namespace Go.Z
open Go Go.Abs Go.Proofs
def nW (c:UInt8)(acc:List UInt8):List UInt8→List (List UInt8)
 | []=>[acc]
 |x::t=>if x=c then acc::nW c [] t else nW c (acc++[x]) t
def dz (c:UInt8)(s:List UInt8):List (List UInt8):=nW c [] s
theorem q0t {c}:∀ {s:List UInt8} {acc:List UInt8},c ∉ s→nW c acc s=[acc++s]
 | [],acc,_=>by simp[nW]
 |x::t,acc,h=>by
  have h1:x≠c:=fun e=>h (by simp[e])
  have h2:c ∉ t:=fun e=>h (by simp[e])
  rw[nW,if_neg h1,q0t h2]
  simp
theorem q1q {c}:∀ {a b acc:List UInt8},c ∉ a→nW c acc (a++c::b)=(acc++a)::dz c b
 | [],b,acc,_=>by simp[nW,dz]
 |x::t,b,acc,h=>by
  have h1:x≠c:=fun e=>h (by simp[e])
  have h2:c ∉ t:=fun e=>h (by simp[e])
  rw[Hy,nW,if_neg h1,q1q h2]
  simp
theorem nX {c s}(h:c ∉ s):dz c s=[s]:=q0t h
theorem rD {c a b}(h:c ∉ a):dz c (a++c::b)=a::dz c b:=q1q h
theorem E7 (c:UInt8)(s:List UInt8):c ∉ s∨∃a b,s=a++c::b∧c ∉ a:=by
 by_cases h:c∈s
 ·obtain⟨a,b,h1,h2⟩:=List.eq_append_cons_of_mem h
  exact .inr ⟨a,b,h1,h2⟩
 ·exact .inl h
theorem E8 {c:UInt8}{P:List UInt8→Prop}(h0:∀s,c ∉ s→P s)(h1:∀a b,c ∉ a→P b→P (a++c::b)):∀(n:Nat) (s:List UInt8),s.length≤n→P s
 |0,s,hn=>h0 s (by rw[List.length_eq_zero_iff.1 (by omega:s.length=0)];simp)
 |n+1,s,hn=>by
  rcases E7 c s with h|⟨a,b,rfl,h⟩
  ·exact h0 s h
  ·exact h1 a b h (E8 h0 h1 n b (by simp only[Jn,Jp]at hn;omega))
theorem wq (c:UInt8)(s:List UInt8):dz c s≠[]:=by
 rcases E7 c s with h|⟨a,b,rfl,h⟩
 ·rw[nX h];simp
 ·rw[rD h];simp
theorem q0x (c:UInt8)(s:List UInt8):(dz c s).length≤s.length+1:=by
 refine E8 (c:=c) (P:=fun s=>(dz c s).length≤s.length+1) ?_ ?_ s.length s (Ib _)
 ·intro s h;rw[nX h];simp
 ·intro a b h ih
  rw[rD h]
  simp only[Jn,Jp]
  omega
theorem q9o (c:UInt8)(s:List UInt8):Lib.join (dz c s) [c]=s:=by
 refine E8 (c:=c) (P:=fun s=>Lib.join (dz c s) [c]=s) ?_ ?_ s.length s (Ib _)
 ·intro s h;rw[nX h,Lib.join_one]
 ·intro a b h ih
  rw[rD h]
  cases hb:dz c b with
  |nil=>exact absurd hb (wq c b)
  |cons x r=>
   rw[hb]at ih
   rw[Lib.join_cons]
   rw[Lib.join_cons]at ih
   simp only[Lib.joinTail,List.map_cons,List.flatten_cons]at ih ⊢
   rw[←ih]
   simp
theorem qxq {c}:∀ {s:List UInt8},c ∉ s→Lib.index s [c]=-1
 | [],_=>rfl
 |x::t,h=>by
  have h1:x≠c:=fun e=>h (by simp[e])
  have h2:c ∉ t:=fun e=>h (by simp[e])
  have hp:([c]:List UInt8).isPrefixOf (x::t)=Eb:=by simp[H2,Ne.symm h1]
  rw[Lib.index,hp,qxq h2];rfl
theorem qwz {c}:∀ {a b:List UInt8},c ∉ a→Lib.index (a++c::b) [c]=(a.length:Int)
 | [],b,_=>by simp[Lib.index,H2]
 |x::t,b,h=>by
  have h1:x≠c:=fun e=>h (by simp[e])
  have h2:c ∉ t:=fun e=>h (by simp[e])
  have hp:([c]:List UInt8).isPrefixOf (x::(t++c::b))=Eb:=by simp[H2,Ne.symm h1]
  have aS:((t.length:Int) == -1)=Eb:=by simp
  rw[Hy,Lib.index,hp,qwz h2,aS]
  simp
theorem q1w {c}:∀ {s:List UInt8},c ∉ s→Lib.indexByte s c=-1
 | [],_=>rfl
 |x::t,h=>by
  have h1:x≠c:=fun e=>h (by simp[e])
  have h2:c ∉ t:=fun e=>h (by simp[e])
  rw[Lib.indexByte,if_neg (by simpa using h1),q1w h2];rfl
theorem QI {c}:∀ {a b:List UInt8},c ∉ a→Lib.indexByte (a++c::b) c=(a.length:Int)
 | [],b,_=>by simp[Lib.indexByte]
 |x::t,b,h=>by
  have h1:x≠c:=fun e=>h (by simp[e])
  have h2:c ∉ t:=fun e=>h (by simp[e])
  have aS:((t.length:Int) == -1)=Eb:=by simp
  rw[Hy,Lib.indexByte,if_neg (by simpa using h1),QI h2,aS]
  simp
theorem q77 (c:UInt8)(s:List UInt8):Lib.split s [c]=dz c s:=by
 refine E8 (c:=c) (P:=fun s=>Lib.split s [c]=dz c s) ?_ ?_ s.length s (Ib _)
 ·intro s h
  rw[nX h,Lib.split,Lib.count_miss (qxq h)];rfl
 ·intro a b h ih
  have hi:=qwz (b:=b) h
  have hd:(a++c::b).drop (a.length+1)=b:=by
   rw[show a++c::b=(a++[c])++b by simp,show a.length+1=(a++[c]).length by simp,List.drop_left]
  have hm:((a.length:Int) == -1)=Eb:=by simp
  rw[rD h,Lib.split,Lib.count_hit (by simp) hi]
  simp only[If,hd,Nat.add_comm 1]
  rw[Lib.splitK,hi,hm]
  simp only[Ha,if_false,Int.toNat_natCast,Nat.add_zero,If,hd]
  rw[List.take_left',←ih]; · rfl
  ·rfl
def BU (c:UInt8):List UInt8→Nat→Int
 | [],_=>-1
 |b::l,n=>bif b == c then(n:Int)else BU c l (n+1)
theorem q08 (c:UInt8):∀(l:List UInt8) (n:Nat),BU c l n=if Lib.indexByte l c == -1 then -1 else Lib.indexByte l c+n
 | [],n=>rfl
 |b::l,n=>by
  have oD:=Lib.indexByte_ge l c
  rw[BU,Lib.indexByte,q08 c l (n+1)]
  cases hb:(b == c)with
  |true=>simp
  |false=>
   simp only[cond_false,Ha,if_false]
   by_cases h:Lib.indexByte l c=-1
   ·simp[h]
   ·have h1:(Lib.indexByte l c == -1)=Eb:=by simpa using h
    have h2:(Lib.indexByte l c+1 == -1)=Eb:=by simp;omega
    simp only[h1,h2,Ha,if_false]
    omega
theorem qum (c:UInt8)(l:List UInt8):BU c l 0=Lib.indexByte l c:=by
 rw[q08]
 by_cases h:Lib.indexByte l c=-1
 ·simp[h]
 ·have h1:(Lib.indexByte l c == -1)=Eb:=by simpa using h
  simp[h1]
def BV:Nat→Nat→List UInt8→List UInt8
 |0,_,acc=>acc
 |f+1,u,acc=>bif Hb u 10 then UInt8.ofNat (48+u)::acc else BV f (u / 10) (UInt8.ofNat (48+u % 10)::acc)
theorem QJ:∀ (f u:Nat) (acc:List UInt8),u<10^f→0<f→BV f u acc=Lib.decDigits u++acc
 |0,_,_,_,h=>by omega
 |f+1,u,acc,hu,_=>by
  rw[BV,Lib.decDigits]
  by_cases h:u<10
  ·rw[Jg.mpr h];simp[h]
  ·have hb:Hb u 10=Eb:=by
    cases hh:Hb u 10 with
    |false=>rfl
    |true=>exact absurd (Jg.mp hh) h
   have hf:0<f:=by
    rcases Nat.eq_zero_or_pos f with rfl|h1
    ·simp at hu;omega
    ·exact h1
   rw[hb,dif_neg h]
   simp only[cond_false]
   rw[QJ f (u / 10) _ (by rw[Nat.pow_succ]at hu;omega) hf]
   simp
def BW:List AVal→Option (List (List UInt8))
 | []=>Ek []
 | .str s::l=>match BW l with
  |some r=>Ek (s::r)
  |none=>Ga
 |_=>Ga
theorem qtu:∀ {l:List AVal} {r:List (List UInt8)},BW l=Ek r→l=r.map .str
 | [],r,h=>by cases h;rfl
 | .str s::l,r,h=>by
  simp only[BW]at h
  split at h
  ·rename_i q hq
   cases h
   rw[qtu hq];rfl
  ·cases h
 | .bool _::_,_,h | .int ..::_,_,h | .list ..::_,_,h | .ms ..::_,_,h | .ptr ..::_,_,h | .ax _::_,_,h | .bC::_,_,h | .map _::_,_,h | .bB::_,_,h | .fn ..::_,_,h | .bN::_,_,h | .agg _::_,_,h | .av _::_,_,h | .undef::_,_,h | .any::_,_,h | .aA ..::_,_,h | .dK ..::_,_,h | .ct _::_,_,h=>by cases h
def IZ:List AVal→Option (AVal×Bool)
 | [.str s,.int .u8 (.ofNat c)]=>Ek (.int .i64 (BU (UInt8.ofNat c) s 0),Eb)
 |_=>Ga
def E9:List AVal→Option (AVal×Bool)
 | [.str s,.str [c]]=>bif Hb s.length 4294967281 then Ek (.list Eb 1 ((dz c s).map .str),Eb)else Ga
 |_=>Ga
def t99:List AVal→Option (AVal×Bool)
 | [.list Gc 0 [],.str _]=>Ek (.str [],Eb)
 | [.list Eb 1 l,.str p]=>match BW l with
  |some (s::ss)=>bif Hu (s::ss).length 100000&&Hu (p.intercalate (s::ss)).length 100000000 then Ek (.str (p.intercalate (s::ss)),Eb)else Ga
  |_=>Ga
 |_=>Ga
def ua:List AVal→Option (AVal×Bool)
 | [.int .i64 (.ofNat n)]=>bif Hb n 1000000000000000000 then Ek (.str (BV 18 n []),Eb)else Ga
 |_=>Ga
def Fc:List AVal→Option (AVal×Bool)
 | [.str s,.int .i64 (.ofNat c)]=>bif Hu c 100000&&Hu (s.length*c) 100000 then Ek (.str (Lib.repeatL s c),Eb)else Ga
 |_=>Ga
theorem je1 {args v o}(h:IZ args=Ek (v,o)):IsoCall Tryz.prog 254 args v o:=by
 unfold IZ at h;split at h
 ·rename_i s c
  cases h
  rw[qum]
  exact qu3 (s:=s) (c:=Int.ofNat c)
 ·cases h
theorem je9 {args v o}(h:E9 args=Ek (v,o)):IsoCall Tryz.prog 44 args v o:=by
 unfold E9 at h;split at h
 ·rename_i s c
  cases hl:Hb s.length 4294967281 with
  |false=>rw[hl]at h;cases h
  |true=>
   rw[hl]at h
   cases h
   have:=q6o (s:=s) (p:=[c]) (Jg.mp hl) (by simp)
   have e:(Lib.splitB ⟨⟨[c]⟩⟩ 0 (Lib.countB ⟨⟨s⟩⟩ ⟨⟨[c]⟩⟩) ⟨⟨s⟩⟩).map (fun x=>AVal.str x.data.toList)=(dz c s).map .str:=by
    rw[←q77]
    have e2:(Lib.splitB ⟨⟨[c]⟩⟩ 0 (Lib.countB ⟨⟨s⟩⟩ ⟨⟨[c]⟩⟩) ⟨⟨s⟩⟩).map (·.data.toList)=Lib.split s [c]:=by
     rw[Lib.splitB_data];rfl
    rw[←e2,N1];rfl
   rw[e]at this
   exact this
 ·cases h
theorem jil {args v o}(h:t99 args=Ek (v,o)):IsoCall Tryz.prog 105 args v o:=by
 unfold t99 at h;split at h
 ·cases h;exact qus
 ·rename_i l p
  split at h
  ·rename_i s ss hq
   cases hk:(Hu (s::ss).length 100000&&Hu (p.intercalate (s::ss)).length 100000000)with
   |false=>rw[hk]at h;cases h
   |true=>
    rw[hk]at h
    cases h
    simp only[Ea]at hk
    have h1:=En hk.1
    have h2:=En hk.2
    rw[qtu hq]
    exact q96 (ss:=s::ss) (p:=p) (by simp) (by omega) (by show(p.intercalate (s::ss)).length≤_;omega)
  ·cases h
 ·cases h
theorem q0z {args v o}(h:ua args=Ek (v,o)):IsoCall Tryz.prog 103 args v o:=by
 unfold ua at h;split at h
 ·rename_i n
  cases hk:Hb n 1000000000000000000 with
  |false=>rw[hk]at h;cases h
  |true=>
   rw[hk]at h
   cases h
   have hn:=Jg.mp hk
   have:=q9g (n:=Int.ofNat n) (by simp<;>omega) (by simp<;>omega)
   have e:Lib.itoa (Int.ofNat n)=BV 18 n []:=by
    rw[QJ 18 n [] (by omega) (by omega),List.append_nil]
    unfold Lib.itoa
    rw[if_neg (by simp)]
    rfl
   rw[e]at this
   exact this
 ·cases h
theorem je8 {args v o}(h:Fc args=Ek (v,o)):IsoCall Tryz.prog 196 args v o:=by
 unfold Fc at h;split at h
 ·rename_i s c
  cases hk:(Hu c 100000&&Hu (s.length*c) 100000)with
  |false=>rw[hk]at h;cases h
  |true=>
   rw[hk]at h
   cases h
   simp only[Ea]at hk
   have h1:=En hk.1
   have h2:=En hk.2
   exact q2k (s:=s) (c:=c) (by omega) (by omega)
 ·cases h
theorem q6v {k f}(h:Is k f):Abs.Enters Tryz.prog k:=by
 obtain⟨fn,hh,h1,h2⟩:=h
 obtain⟨c,g1,g2,g3,g4,g5⟩:=OO h2
 exact⟨fn,h1,g5,by rw[g1];rfl⟩
theorem kf {k}(h:(tree.find k).isSome=Gc):Abs.Enters Tryz.prog k:=by
 obtain⟨f,hf⟩:=Option.isSome_iff_exists.1 h
 exact q6v (cP.fD all hf)
def CJ:uL:=fun k=>bif Ec k 254 then Ek IZ else bif Ec k 44 then Ek E9 else bif Ec k 105 then Ek t99 else bif Ec k 103 then Ek ua else bif Ec k 196 then Ek Fc else Ga
def BX (args:List AVal)(h:ql):Option (AVal×Bool×ql):=bif qr 0 args then(match ua args with
 |some (v,_)=>Ek (v,Eb,h)
 |none=>Ga)else Ga
def QK:W5:=fun k=>bif Ec k 103 then Ek BX else Ga
def isL (k:Nat):Bool:=Ec k 254||Ec k 44||Ec k 105||Ec k 103||Ec k 196
def bg:jg:={ bn:=fun k=>bif isL k then Ga else QL.bn k,bM:=CJ,bR:=QK,maps:=Fe }
theorem jex {args h v o h'}(hq:BX args h=Ek (v,o,h')):vw Tryz.prog 103 args h v o h':=by
 unfold BX at hq
 cases hb:qr 0 args with
 |false=>rw[hb]at hq;cases hq
 |true=>
  rw[hb]at hq
  simp only[cond_true]at hq
  split at hq
  ·rename_i v' o' ht
   cases hq
   have hv:jQ v=Gc:=by
    unfold ua at ht;split at ht
    ·rename_i n
     cases hk:Hb n 1000000000000000000 with
     |false=>rw[hk]at ht;cases ht
     |true=>rw[hk]at ht;cases ht;rfl
    ·cases ht
   exact(q0z ht).shr hb hv h
  ·cases hq
theorem Nu:∀ (t:List (Nat×List Row)),(t.all fun p=>(tree.find p.1).isSome)=Gc→∀k l,s6 t k=Ek l→(tree.find k).isSome=Gc
 |(j,m)::t,h,k,l,hk=>by
  simp only[List.all_cons,Ea]at h
  simp only[s6,E3]at hk
  split at hk
  ·next hb=>rw[←I hb];exact h.1
  ·exact Nu t h.2 k l hk
theorem po:bu Tryz.prog pr:=W3 Ny
theorem bh:bu Tryz.prog bg where
 fn:=by
  intro k f hf
  simp only[bg,E3]at hf
  split at hf
  ·cases hf
  ·exact(okW Ny).fn k f hf
 eW:=by
  intro k f hf
  simp only[bg,CJ,E3]at hf
  split at hf
  ·next hb=>cases hf;obtain rfl:=I hb;exact⟨kf (k:=254) (by kernel_rfl),fun args v o h _ _=>je1 h⟩
  split at hf
  ·next hb=>cases hf;obtain rfl:=I hb;exact⟨kf (k:=44) (by kernel_rfl),fun args v o h _ _=>je9 h⟩
  split at hf
  ·next hb=>cases hf;obtain rfl:=I hb;exact⟨kf (k:=105) (by kernel_rfl),fun args v o h _ _=>jil h⟩
  split at hf
  ·next hb=>cases hf;obtain rfl:=I hb;exact⟨kf (k:=103) (by kernel_rfl),fun args v o h _ _=>q0z h⟩
  split at hf
  ·next hb=>cases hf;obtain rfl:=I hb;exact⟨kf (k:=196) (by kernel_rfl),fun args v o h _ _=>je8 h⟩
  ·cases hf
 mixed:=po.mixed
 dY:=by
  intro k f hf
  simp only[bg,QK,E3]at hf
  split at hf
  ·next hb=>cases hf;obtain rfl:=I hb;exact⟨kf (k:=103) (by kernel_rfl),fun args h v o h' hq=>jex hq⟩
  ·cases hf
 maps:=po.maps
end Go.Z
namespace Go.Z
open Go Go.Abs Go.Proofs
def BZ:AVal→AVal→Bool
 | .fn (.func a) [] [],.fn (.func b) [] []=>Ec a b
 | .bN,.bN=>Gc
 | .aA a b c,.aA a' b' c'=>Ec a a'&&(Ec b b'&&Ec c c')
 | .ptr a b,.ptr a' b'=>Ec a a'&&Ec b b'
 |a,b=>ia a b
theorem I0 {a b}(h:BZ a b=Gc):a=b:=by
 unfold BZ at h
 split at h
 ·rw[I h]
 ·rfl
 ·simp only[Ea]at h
  rw[I h.1,I h.2.1,I h.2.2]
 ·simp only[Ea]at h
  rw[I h.1,I h.2]
 ·exact Zz h
def Ff:List AVal→List AVal→Bool
 | [],[]=>Gc
 |a::l,b::m=>BZ a b&&Ff l m
 |_,_=>Eb
theorem QM:∀ {l m:List AVal},Ff l m=Gc→l=m
 | [],[],_=>rfl
 |a::l,b::m,h=>by
  simp only[Ff,Ea]at h
  rw[I0 h.1,QM h.2]
 | [],_::_,h=>by cases h
 |_::_,[],h=>by cases h
def QN:AVal→AVal→Bool
 | .agg l,.agg m=>Ff l m
 |a,b=>BZ a b
theorem q68 {a b}(h:QN a b=Gc):a=b:=by
 unfold QN at h
 split at h
 ·rw[QM h]
 ·exact I0 h
def I1:List (AVal×Bool)→List (AVal×Bool)→Bool
 | [],[]=>Gc
 |(a,o)::l,(b,q)::m=>BZ a b&&((o == q)&&I1 l m)
 |_,_=>Eb
theorem qrt:∀ {l m:List (AVal×Bool)},I1 l m=Gc→l=m
 | [],[],_=>rfl
 |(a,o)::l,(b,q)::m,h=>by
  simp only[I1,Ea,beq_iff_eq]at h
  rw[I0 h.1,h.2.1,qrt h.2.2]
 | [],_::_,h=>by cases h
 |_::_,[],h=>by cases h
def I2:List (AVal×AVal)→List (AVal×AVal)→Bool
 | [],[]=>Gc
 |(a,o)::l,(b,q)::m=>BZ a b&&(QN o q&&I2 l m)
 |_,_=>Eb
theorem qr4:∀ {l m:List (AVal×AVal)},I2 l m=Gc→l=m
 | [],[],_=>rfl
 |(a,o)::l,(b,q)::m,h=>by
  simp only[I2,Ea]at h
  rw[I0 h.1,q68 h.2.1,qr4 h.2.2]
 | [],_::_,h=>by cases h
 |_::_,[],h=>by cases h
def QO:aJ→aJ→Bool
 | .hole,.hole=>Gc
 | .dead,.dead=>Gc
 | .cells l,.cells m=>I1 l m
 | .map l,.map m=>I2 l m
 | .vec a b l,.vec a' b' m=>Ec a a'&&(Ec b b'&&qV l m)
 |_,_=>Eb
theorem q13 {a b}(h:QO a b=Gc):a=b:=by
 unfold QO at h
 split at h
 ·rfl
 ·rfl
 ·rw[qrt h]
 ·rw[qr4 h]
 ·simp only[Ea]at h
  rw[I h.1,I h.2.1,Bv h.2.2]
 ·cases h
def I3:ql→ql→Bool
 | [],[]=>Gc
 |a::l,b::m=>QO a b&&I3 l m
 |_,_=>Eb
theorem qr2:∀ {l m:ql},I3 l m=Gc→l=m
 | [],[],_=>rfl
 |a::l,b::m,h=>by
  simp only[I3,Ea]at h
  rw[q13 h.1,qr2 h.2]
 | [],_::_,h=>by cases h
 |_::_,[],h=>by cases h
abbrev zz:=List AVal×ql×AVal×Bool×ql
def G8 (args:List AVal)(h:ql):List zz→Option (AVal×Bool×ql)
 | []=>Ga
 |r::l=>bif Ff args r.1&&I3 h r.2.1 then Ek r.2.2 else G8 args h l
theorem W1 {args h x}:∀ {l:List zz},G8 args h l=Ek x→(args,h,x)∈l
 | [],h=>by cases h
 |r::l,hx=>by
  simp only[G8,E3]at hx
  split at hx
  ·next hb=>
   simp only[Ea]at hb
   cases hx
   rw[QM hb.1,qr2 hb.2]
   exact List.mem_cons_self ..
  ·exact List.mem_cons_of_mem _ (W1 hx)
def Nw (P:Program)(k:Nat):List zz→Prop
 | []=>True
 |r::l=>vw P k r.1 r.2.1 r.2.2.1 r.2.2.2.1 r.2.2.2.2∧Nw P k l
theorem W0 {P k}:∀ {l:List zz},Nw P k l→∀r∈l,vw P k r.1 r.2.1 r.2.2.1 r.2.2.2.1 r.2.2.2.2
 |r::l,h,x,hx=>by
  cases hx with
  |head=>exact h.1
  |tail _ hx=>exact W0 h.2 x hx
theorem jf {P p}(hp:bu P p){n k args h h' v o}(hr:ah p (yj p n) k args h=Ek (v,o,h')):vw P k args h v o h':=
 (DA hp (bV.D6 (H3 hp n).1) (by rw[←H8];exact hr)).2
end Go.Z
