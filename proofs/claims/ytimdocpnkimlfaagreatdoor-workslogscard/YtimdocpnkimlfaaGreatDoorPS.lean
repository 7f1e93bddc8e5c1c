/- The program in which the library's functions on strings, and the document's examples, are . -/
import Derived.Test.YtimdocpnkimlfaaGreatDoorAZ
import Derived.Test.YtimdocpnkimlfaaGreatDoorS1
import Derived.Test.YtimdocpnkimlfaaGreatDoorW12
set_option linter.unusedVariables false
set_option linter.unusedSimpArgs false
set_option maxRecDepth 100000
noncomputable section
open Bool renaming false→I,true→Ec,false_beq→En,not_false→E3,true_beq→Ga,not_true→Gc,not_not→Ha,and_self→Hy
open Option renaming some→Ea,none→Eb
open Nat renaming le_refl→Ek,ble→Hb,blt→Hu
namespace Go.Z
open Go Go.Abs Go.Proofs
def I4:uL:=fun k=>bif Nat.beq k 15 then Ea Nx else CJ k
def ak:jg:={ bn:=pr.bn,bM:=I4,bR:=QK,maps:=Fe }
theorem c5:en pr ak where
 maps:=fun k es h=>h
 bn:=fun k b hb=>.inl hb
 bR:=by intro k F hn hF;cases hF
 bM:=by
  intro k
  cases hk:I4 k with
  |none=>exact .inr ⟨hk,rfl⟩
  |some t=>
   refine .inl ⟨t,hk,fun args r h=>?_⟩
   have hn:pr.bn k=Eb:=q4t (by
    cases hs:isS k with
    |true=>rfl
    |false=>
     simp only[isS,Bool.or_eq_false_iff]at hs
     obtain⟨⟨⟨⟨⟨h1,h2⟩,h3⟩,h4⟩,h5⟩,h6⟩:=hs
     simp only[I4,CJ,h1,h2,h3,h4,h5,h6,cond_false]at hk
     cases hk)
   unfold ae ah at h
   rw[hn]at h
   cases h
theorem okS:bu Tryz.prog ak where
 fn:=po.fn
 eW:=by
  intro k f hf
  simp only[ak,I4,Bool.cond_eq_ite]at hf
  split at hf
  ·next hb=>obtain rfl:=Nat.eq_of_beq_eq_true hb;exact okZ.eW 15 f hf
  ·exact bh.eW k f hf
 mixed:=po.mixed
 dY:=bh.dY
 maps:=po.maps
theorem wu {k f args v}(hp:ak.bM k=Ea f)(h:f args=Ea (v,I))(hv:jQ v=Ec):ae ak (X ak) k args=Ea (v,I):=by
 unfold ae
 rw[hp]
 simp only[h,hv,cond_true]
def Fg (s:List UInt8):Int→Option Int
 | .ofNat n=>Ea (BU (UInt8.ofNat n) s 0)
 |_=>Eb
theorem j2z {s:List UInt8}{c r:Int}(h:Fg s c=Ea r):ae ak (X ak) 254 [.str s,.int .u8 c]=Ea (.int .i64 r,I):=by
 cases c with
 |ofNat n=>cases h;exact wu (f:=IZ) rfl rfl rfl
 |negSucc n=>cases h
theorem qui:∀ (l:List (List UInt8)),qr 0 (l.map .str)=Ec
 | []=>rfl
 |x::l=>by simp only[List.map_cons,qr,below,qui l,Hy]
def f44 (s:List UInt8):List UInt8→Option (Option (List (List UInt8)))
 | [c]=>bif Hu s.length 4294967281 then Ea (Ea (dz c s))else Eb
 |_=>Eb
theorem W44 {s p:List UInt8}{r}(h:f44 s p=Ea r):ae ak (X ak) 44 [.str s,.str p]=Ea (sl 1 qv r,I):=by
 cases p with
 |nil=>cases h
 |cons c t=>
  cases t with
  |cons _ _=>cases h
  |nil=>
   simp only[f44]at h
   cases hb:Hu s.length 4294967281 with
   |false=>rw[hb]at h;cases h
   |true=>
    rw[hb]at h
    cases h
    exact wu (f:=E9) rfl (by simp only[E9,hb,cond_true];rfl) (by show qr 0 ((dz c s).map .str)=Ec;exact qui _)
theorem qrg:∀ (l:List (List UInt8)),BW (l.map .str)=Ea l
 | []=>rfl
 |x::l=>by simp only[List.map_cons,BW,qrg l]
def f105:Option (List (List UInt8))→List UInt8→Option (List UInt8)
 |none,_=>Ea []
 |some (s::ss),p=>bif Hb (s::ss).length 100000&&Hb (p.intercalate (s::ss)).length 100000000 then Ea (p.intercalate (s::ss))else Eb
 |some [],_=>Eb
theorem jy6 {l:Option (List (List UInt8))}{p:List UInt8}{r}(h:f105 l p=Ea r):ae ak (X ak) 105 [sl 1 qv l,.str p]=Ea (.str r,I):=by
 cases l with
 |none=>cases h;exact wu (f:=t99) rfl rfl rfl
 |some l=>
  cases l with
  |nil=>cases h
  |cons s ss=>
   simp only[f105]at h
   cases hb:(Hb (s::ss).length 100000&&Hb (p.intercalate (s::ss)).length 100000000)with
   |false=>rw[hb]at h;cases h
   |true=>
    rw[hb]at h
    cases h
    refine wu (f:=t99) rfl ?_ rfl
    show t99 [.list I 1 ((s::ss).map .str),.str p]=_
    simp only[t99,qrg,hb,cond_true]
def nw:Int→Option (List UInt8)
 | .ofNat n=>bif Hu n 1000000000000000000 then Ea (BV 18 n [])else Eb
 |_=>Eb
theorem jk1 {n:Int}{r}(h:nw n=Ea r):ae ak (X ak) 103 [.int .i64 n]=Ea (.str r,I):=by
 cases n with
 |negSucc n=>cases h
 |ofNat n=>
  simp only[nw]at h
  cases hb:Hu n 1000000000000000000 with
  |false=>rw[hb]at h;cases h
  |true=>rw[hb]at h;cases h;exact wu (f:=ua) rfl (by simp only[ua,hb,cond_true]) rfl
theorem jsv (hp:ql){n:Int}{r}(h:nw n=Ea r):ah ak (X ak) 103 [.int .i64 n] hp=Ea (.str r,I,hp):=by
 have hn:pr.bn 103=Eb:=q4t (k:=103) rfl
 have qO:ak.bn 103=Eb:=hn
 unfold ah
 rw[qO,show ak.bR 103=Ea BX from rfl]
 cases n with
 |negSucc n=>cases h
 |ofNat n=>
  simp only[nw]at h
  cases hb:Hu n 1000000000000000000 with
  |false=>rw[hb]at h;cases h
  |true=>rw[hb]at h;cases h;show BX _ _=_;simp only[BX,ua,hb,cond_true,qr,below,Hy]
def Fh (s:List UInt8):Int→Option (List UInt8)
 | .ofNat c=>bif Hb c 100000&&Hb (s.length*c) 100000 then Ea (Lib.repeatL s c)else Eb
 |_=>Eb
theorem jzl {s:List UInt8}{c:Int}{r}(h:Fh s c=Ea r):ae ak (X ak) 196 [.str s,.int .i64 c]=Ea (.str r,I):=by
 cases c with
 |negSucc n=>cases h
 |ofNat c=>
  simp only[Fh]at h
  cases hb:(Hb c 100000&&Hb (s.length*c) 100000)with
  |false=>rw[hb]at h;cases h
  |true=>rw[hb]at h;cases h;exact wu (f:=Fc) rfl (by simp only[Fc,hb,cond_true]) rfl
theorem I5 {r}(h:CK=Ea r):ae ak (X ak) 15 []=Ea (.bool r,I):=by
 cases h;exact wu (f:=Nx) rfl rfl rfl
end Go.Z
set_option maxHeartbeats 4000000
namespace Go.Z
open Go Go.Abs Go.W
def f197 (a0:List UInt8)(a1:List UInt8):Option Int:=
 cond (decide ((a1.length:Int)=0))
  (Ea 0)
  (cond (decide (a1=a0))
   (Ea 0)
   (cond (decide ((a1.length:Int)=1))
    (qe (jn a1 0) fun v4=>
    qe (Fg a0 (v4.toNat:Int)) fun v6=>
    Ea v6)
    (cond (decide ((a0.length:Int)≤(a1.length:Int)))
     (Ea (-1))
     (Eb))))
theorem jw3 {a0:List UInt8}{a1:List UInt8}{r}(h:f197 a0 a1=Ea r):ae ak (X ak) 197 [.str a0,.str a1]=Ea (.int .i64 r,I):=by
 unfold f197 at h
 rcases qc h with⟨h1,h⟩|⟨h1,h⟩
 ·have hr:0=r:=Ea.inj h
  subst hr
  have this:∃hh,ah ak (X ak) 197 [.str a0,.str a1] []=Ea (.int .i64 0,I,hh):=by
   rw[qn (show ak.bn 197=Ea hE from rfl) (by simp)]
   simp only[go_sem,seval,hE,h1]
   exact⟨_,rfl⟩
  obtain⟨hh,this⟩:=this
  exact qm rfl this (by first|rfl|simp only[go_sem,seval]) (by first|rfl|simp only[go_sem,seval])
 ·rcases qc h with⟨h2,h⟩|⟨h2,h⟩
  ·have hr:0=r:=Ea.inj h
   subst hr
   have this:∃hh,ah ak (X ak) 197 [.str a0,.str a1] []=Ea (.int .i64 0,I,hh):=by
    rw[qn (show ak.bn 197=Ea hE from rfl) (by simp)]
    simp only[go_sem,seval,hE,h1,h2]
    exact⟨_,rfl⟩
   obtain⟨hh,this⟩:=this
   exact qm rfl this (by first|rfl|simp only[go_sem,seval]) (by first|rfl|simp only[go_sem,seval])
  ·rcases qc h with⟨h3,h⟩|⟨h3,h⟩
   ·obtain⟨v4,h5,h⟩:=qa h
    obtain⟨v6,h7,h⟩:=qa h
    have wh7:ae ak (X ak) 254 [.str a0,.int .u8 (v4.toNat:Int)]=Ea (.int .i64 v6,I):=j2z h7
    have hr:v6=r:=Ea.inj h
    subst hr
    have this:∃hh,ah ak (X ak) 197 [.str a0,.str a1] []=Ea (.int .i64 v6,I,hh):=by
     rw[qn (show ak.bn 197=Ea hE from rfl) (by simp)]
     simp only[go_sem,seval,hE,h1,h2,h3,jk h5,wh7]
     exact⟨_,rfl⟩
    obtain⟨hh,this⟩:=this
    exact qm rfl this (by first|rfl|simp only[go_sem,seval]) (by first|rfl|simp only[go_sem,seval])
   ·rcases qc h with⟨h8,h⟩|⟨h8,h⟩
    ·have hr:(-1)=r:=Ea.inj h
     subst hr
     have this:∃hh,ah ak (X ak) 197 [.str a0,.str a1] []=Ea (.int .i64 (-1),I,hh):=by
      rw[qn (show ak.bn 197=Ea hE from rfl) (by simp)]
      simp only[go_sem,seval,hE,h1,h2,h3,h8]
      exact⟨_,rfl⟩
     obtain⟨hh,this⟩:=this
     exact qm rfl this (by first|rfl|simp only[go_sem,seval]) (by first|rfl|simp only[go_sem,seval])
    ·cases h
def Fi (a0:List UInt8)(a1:List UInt8):Option ((List UInt8)×(List UInt8)×Bool):=
 qe (f197 a0 a1) fun v1=>
 cond (decide (0≤v1))
  (qe (kc a0 Eb (Ea v1)) fun v4=>
  qe (kc a0 (Ea (qh .i64 (v1+(a1.length:Int)))) Eb) fun v6=>
  Ea (v4,v6,Ec))
  (Ea (a0,[],I))
theorem j0r {a0:List UInt8}{a1:List UInt8}{r}(h:Fi a0 a1=Ea r):ae ak (X ak) 139 [.str a0,.str a1]=Ea (.av [.str r.1,.str r.2.1,.bool r.2.2],I):=by
 unfold Fi at h
 obtain⟨v1,h2,h⟩:=qa h
 have cT:ae ak (X ak) 197 [.str a0,.str a1]=Ea (.int .i64 v1,I):=jw3 h2
 rcases qc h with⟨h3,h⟩|⟨h3,h⟩
 ·obtain⟨v4,h5,h⟩:=qa h
  obtain⟨v6,h7,h⟩:=qa h
  have hr:(v4,v6,Ec)=r:=Ea.inj h
  subst hr
  have this:∃hh,ah ak (X ak) 139 [.str a0,.str a1] []=Ea (.av [.str v4,.str v6,.bool Ec],I,hh):=by
   rw[qn (show ak.bn 139=Ea lQ from rfl) (by simp)]
   simp only[go_sem,seval,lQ,cT,h3,rC h5,zw h7]
   exact⟨_,rfl⟩
  obtain⟨hh,this⟩:=this
  exact qm rfl this (by first|rfl|simp only[go_sem,seval]) (by first|rfl|simp only[go_sem,seval])
 ·have hr:(a0,[],I)=r:=Ea.inj h
  subst hr
  have this:∃hh,ah ak (X ak) 139 [.str a0,.str a1] []=Ea (.av [.str a0,.str [],.bool I],I,hh):=by
   rw[qn (show ak.bn 139=Ea lQ from rfl) (by simp)]
   simp only[go_sem,seval,lQ,cT,h3]
   exact⟨_,rfl⟩
  obtain⟨hh,this⟩:=this
  exact qm rfl this (by first|rfl|simp only[go_sem,seval]) (by first|rfl|simp only[go_sem,seval])
def f84 (a0:List UInt8)(a1:List UInt8):Option ((List UInt8)×(List UInt8)×Bool):=
 qe (Fi a0 a1) fun v1=>
 Ea (v1.1,v1.2.1,v1.2.2)
theorem W84 {a0:List UInt8}{a1:List UInt8}{r}(h:f84 a0 a1=Ea r):ae ak (X ak) 84 [.str a0,.str a1]=Ea (.av [.str r.1,.str r.2.1,.bool r.2.2],I):=by
 unfold f84 at h
 obtain⟨v1,h2,h⟩:=qa h
 have cT:ae ak (X ak) 139 [.str a0,.str a1]=Ea (.av [.str v1.1,.str v1.2.1,.bool v1.2.2],I):=j0r h2
 have hr:(v1.1,v1.2.1,v1.2.2)=r:=Ea.inj h
 subst hr
 have this:∃hh,ah ak (X ak) 84 [.str a0,.str a1] []=Ea (.av [.str v1.1,.str v1.2.1,.bool v1.2.2],I,hh):=by
  rw[qn (show ak.bn 84=Ea Fj from rfl) (by simp)]
  simp only[go_sem,seval,Fj,cT]
  exact⟨_,rfl⟩
 obtain⟨hh,this⟩:=this
 exact qm rfl this (by first|rfl|simp only[go_sem,seval]) (by first|rfl|simp only[go_sem,seval])
def wv (a0:List UInt8)(s0:Int×Int):Option ((Int×Int)⊕((Int×Int))):=
 cond (decide (s0.2<(a0.length:Int)))
  (qe (jn a0 s0.2) fun v12=>
  qe (nU (qh .i64 ((qh .i64 (313*s0.1))+(qh .i64 (v12.toNat:Int)))) 9999889) fun fX=>
  Ea (.inl (fX,qh .i64 (s0.2+1))))
  (Ea (.inr (s0.1,s0.2)))
def I6 (a0:List UInt8)(s0:Int×Int):aV:=⟨[(0,.str a0,I),(3,.int .i64 s0.1,I),(7,.int .i64 (a0.length:Int),I),(8,.int .i64 s0.2,I)],[]⟩
def QP (a0:List UInt8)(d:(Int×Int)):je×aV:=(.exit 0,⟨[(0,.str a0,I),(3,.int .i64 d.1,I),(7,.int .i64 (a0.length:Int),I),(8,.int .i64 d.2,I),(9,.bool I,I)],[]⟩)
theorem jjz (a0:List UInt8)(s0:Int×Int)(r)(h:wv a0 s0=Ea r):zd ak B0 (I6 a0) (QP a0) s0 r:=by
 unfold wv at h
 rcases qc h with⟨de,h⟩|⟨de,h⟩
 ·obtain⟨v12,dM,h⟩:=qa h
  obtain⟨fX,gO,h⟩:=qa h
  cases h
  exact jp (aN:=⟨[(0,.str a0,I),(3,.int .i64 fX,I),(7,.int .i64 (a0.length:Int),I),(8,.int .i64 (qh .i64 (s0.2+1)),I)],[]⟩) (by simp only[go_sem,seval,B0,I6,de,jk dM,IV gO]<;>rfl) (ju (Ek _))
 ·cases h
  exact qy (by simp only[go_sem,seval,B0,I6,de,QP]<;>rfl)
theorem jf2 (a0:List UInt8){s0:Int×Int}{d}(h:bq (wv a0) s0=Ea d):X ak (.loop B0) (I6 a0 s0)=Ea (QP a0 d):=ki (jjz a0) (fun d hh=>by cases hh) h
def f138 (a0:List UInt8):Option (List UInt8):=
 qe (bq (wv a0) (1,0)) fun d16=>
 qe (nw d16.1) fun fj=>
 qe (Fh ([48]:List UInt8) (qh .i64 (7-(fj.length:Int)))) fun v20=>
 qe (kr v20 fj) fun v22=>
 Ea v22
theorem jhn {a0:List UInt8}{r}(h:f138 a0=Ea r):ae ak (X ak) 138 [.str a0]=Ea (.str r,I):=by
 unfold f138 at h
 obtain⟨d16,fC,h⟩:=qa h
 have hH:X ak (.loop B0) ⟨[(0,.str a0,I),(3,.int .i64 1,I),(7,.int .i64 (a0.length:Int),I),(8,.int .i64 0,I)],[]⟩=Ea (.exit 0,⟨[(0,.str a0,I),(3,.int .i64 d16.1,I),(7,.int .i64 (a0.length:Int),I),(8,.int .i64 d16.2,I),(9,.bool I,I)],[]⟩):=jf2 a0 fC
 obtain⟨fj,dJ,h⟩:=qa h
 have wx:ae ak (X ak) 103 [.int .i64 d16.1]=Ea (.str fj,I):=jk1 dJ
 obtain⟨v20,dL,h⟩:=qa h
 have hJ:ae ak (X ak) 196 [.str ([48]:List UInt8),.int .i64 (qh .i64 (7-(fj.length:Int)))]=Ea (.str v20,I):=jzl dL
 obtain⟨v22,gX,h⟩:=qa h
 have hr:v22=r:=Ea.inj h
 subst hr
 have this:∃hh,ah ak (X ak) 138 [.str a0] []=Ea (.str v22,I,hh):=by
  rw[qn (show ak.bn 138=Ea pq from rfl) (by simp)]
  simp only[go_sem,seval,pq,hH,wx,hJ,yr gX]
  exact⟨_,rfl⟩
 obtain⟨hh,this⟩:=this
 exact qm rfl this (by first|rfl|simp only[go_sem,seval]) (by first|rfl|simp only[go_sem,seval])
end Go.Z
namespace Go.Z
open Go Go.Abs Go.W
def sC (a0:List UInt8)(s0:Int×Nat):Option ((Int×Nat)⊕(Nat⊕(Int×Nat))):=
 cond (decide (s0.2<a0.length))
  (cond (decide (((qf a0 s0.2).1:Int)<48))
   (Ea (.inr (.inl (s0.2+(qf a0 s0.2).2))))
   (cond (decide (57<((qf a0 s0.2).1:Int)))
    (Ea (.inr (.inl (s0.2+(qf a0 s0.2).2))))
    (Ea (.inl (qh .i64 ((qh .i64 (10*s0.1))+(qh .i64 (qh .i32 (((qf a0 s0.2).1:Int)-48)))),s0.2+(qf a0 s0.2).2)))))
  (Ea (.inr (.inr (s0.1,s0.2))))
def B1 (a0:List UInt8)(s0:Int×Nat):aV:=⟨[(4,.int .i64 s0.1,I),(25,.ptr 0 0,I)],[.iter a0 s0.2]⟩
def Fk (a0:List UInt8):Nat⊕(Int×Nat)→je×aV
 | .inl d=>(.ret,⟨[(2,.int .i64 0,I),(3,.bool I,I)],[.iter a0 d]⟩)
 | .inr d=>(.exit 0,⟨[(4,.int .i64 d.1,I),(25,.ptr 0 0,I),(26,.av [.bool I],I),(27,.bool I,I)],[.iter a0 d.2]⟩)
theorem ji4 (a0:List UInt8)(s0:Int×Nat)(r)(h:sC a0 s0=Ea r):zd ak kU (B1 a0) (Fk a0) s0 r:=by
 unfold sC at h
 rcases qc h with⟨dM,h⟩|⟨dM,h⟩
 ·rcases qc h with⟨dw,h⟩|⟨dw,h⟩
  ·cases h
   exact qy (by simp only[go_sem,seval,kU,B1,dM,lO dM,dw,Fk]<;>rfl)
  ·rcases qc h with⟨gO,h⟩|⟨gO,h⟩
   ·cases h
    exact qy (by simp only[go_sem,seval,kU,B1,dM,lO dM,dw,gO,Fk]<;>rfl)
   ·cases h
    exact jp (aN:=⟨[(4,.int .i64 (qh .i64 ((qh .i64 (10*s0.1))+(qh .i64 (qh .i32 (((qf a0 s0.2).1:Int)-48))))),I),(25,.ptr 0 0,I)],[.iter a0 (s0.2+(qf a0 s0.2).2)]⟩) (by simp only[go_sem,seval,kU,B1,dM,lO dM,dw,gO]<;>rfl) (ju (Ek _))
 ·cases h
  exact qy (by simp only[go_sem,seval,kU,B1,dM,EG dM,Fk]<;>rfl)
theorem q67 (a0:List UInt8){s0:Int×Nat}{d}(h:bq (sC a0) s0=Ea d):X ak (.loop kU) (B1 a0 s0)=Ea (Fk a0 d):=ki (ji4 a0) (fun d=>by rcases d with d|d<;>(intro hh;cases hh)) h
def Fl (a0:List UInt8)(s0:Int×Nat):Option ((Int×Nat)⊕(Nat⊕(Int×Nat))):=
 cond (decide (s0.2<a0.length))
  (cond (decide (((qf a0 s0.2).1:Int)<48))
   (Ea (.inr (.inl (s0.2+(qf a0 s0.2).2))))
   (cond (decide (57<((qf a0 s0.2).1:Int)))
    (Ea (.inr (.inl (s0.2+(qf a0 s0.2).2))))
    (Ea (.inl (qh .i64 ((qh .i64 (10*s0.1))+(qh .i64 (qh .i32 (((qf a0 s0.2).1:Int)-48)))),s0.2+(qf a0 s0.2).2)))))
  (Ea (.inr (.inr (s0.1,s0.2))))
def B2 (a0:List UInt8)(s0:Int×Nat):aV:=⟨[(4,.int .i64 s0.1,I),(25,.ptr 0 0,I)],[.iter a0 s0.2]⟩
def Fm (a0:List UInt8):Nat⊕(Int×Nat)→je×aV
 | .inl d=>(.ret,⟨[(2,.int .i64 0,I),(3,.bool I,I)],[.iter a0 d]⟩)
 | .inr d=>(.exit 0,⟨[(4,.int .i64 d.1,I),(25,.ptr 0 0,I),(26,.av [.bool I],I),(27,.bool I,I)],[.iter a0 d.2]⟩)
theorem jeh (a0:List UInt8)(s0:Int×Nat)(r)(h:Fl a0 s0=Ea r):zd ak kU (B2 a0) (Fm a0) s0 r:=by
 unfold Fl at h
 rcases qc h with⟨ez,h⟩|⟨ez,h⟩
 ·rcases qc h with⟨fJ,h⟩|⟨fJ,h⟩
  ·cases h
   exact qy (by simp only[go_sem,seval,kU,B2,ez,lO ez,fJ,Fm]<;>rfl)
  ·rcases qc h with⟨dW,h⟩|⟨dW,h⟩
   ·cases h
    exact qy (by simp only[go_sem,seval,kU,B2,ez,lO ez,fJ,dW,Fm]<;>rfl)
   ·cases h
    exact jp (aN:=⟨[(4,.int .i64 (qh .i64 ((qh .i64 (10*s0.1))+(qh .i64 (qh .i32 (((qf a0 s0.2).1:Int)-48))))),I),(25,.ptr 0 0,I)],[.iter a0 (s0.2+(qf a0 s0.2).2)]⟩) (by simp only[go_sem,seval,kU,B2,ez,lO ez,fJ,dW]<;>rfl) (ju (Ek _))
 ·cases h
  exact qy (by simp only[go_sem,seval,kU,B2,ez,EG ez,Fm]<;>rfl)
theorem q0q (a0:List UInt8){s0:Int×Nat}{d}(h:bq (Fl a0) s0=Ea d):X ak (.loop kU) (B2 a0 s0)=Ea (Fm a0 d):=ki (jeh a0) (fun d=>by rcases d with d|d<;>(intro hh;cases hh)) h
def B3 (a0:List UInt8):Option (Int×Bool):=
 cond (decide (a0=[]))
  (Ea (0,I))
  (cond (decide (9<(a0.length:Int)))
   (Ea (0,I))
   (cond (decide (1<(a0.length:Int)))
    (qe (jn a0 0) fun v4=>
    cond (decide ((v4.toNat:Int)=48))
     (Ea (0,I))
     (qe (bq (sC a0) (0,0)) fun d16=>match d16 with
      | .inl d18=>
       Ea (0,I)
      | .inr d19=>
       Ea (d19.1,Ec)))
    (qe (bq (Fl a0) (0,0)) fun d29=>match d29 with
     | .inl d31=>
      Ea (0,I)
     | .inr d32=>
      Ea (d32.1,Ec))))
theorem jii {a0:List UInt8}{r}(h:B3 a0=Ea r):ae ak (X ak) 184 [.str a0]=Ea (.av [.int .i64 r.1,.bool r.2],I):=by
 unfold B3 at h
 rcases qc h with⟨h1,h⟩|⟨h1,h⟩
 ·have hr:(0,I)=r:=Ea.inj h
  subst hr
  have this:∃hh,ah ak (X ak) 184 [.str a0] []=Ea (.av [.int .i64 0,.bool I],I,hh):=by
   rw[qn (show ak.bn 184=Ea eo from rfl) (by simp)]
   simp only[go_sem,seval,eo,h1]
   exact⟨_,rfl⟩
  obtain⟨hh,this⟩:=this
  exact qm rfl this (by first|rfl|simp only[go_sem,seval]) (by first|rfl|simp only[go_sem,seval])
 ·rcases qc h with⟨h2,h⟩|⟨h2,h⟩
  ·have hr:(0,I)=r:=Ea.inj h
   subst hr
   have this:∃hh,ah ak (X ak) 184 [.str a0] []=Ea (.av [.int .i64 0,.bool I],I,hh):=by
    rw[qn (show ak.bn 184=Ea eo from rfl) (by simp)]
    simp only[go_sem,seval,eo,h1,h2]
    exact⟨_,rfl⟩
   obtain⟨hh,this⟩:=this
   exact qm rfl this (by first|rfl|simp only[go_sem,seval]) (by first|rfl|simp only[go_sem,seval])
  ·rcases qc h with⟨h3,h⟩|⟨h3,h⟩
   ·obtain⟨v4,h5,h⟩:=qa h
    rcases qc h with⟨h6,h⟩|⟨h6,h⟩
    ·have hr:(0,I)=r:=Ea.inj h
     subst hr
     have this:∃hh,ah ak (X ak) 184 [.str a0] []=Ea (.av [.int .i64 0,.bool I],I,hh):=by
      rw[qn (show ak.bn 184=Ea eo from rfl) (by simp)]
      simp only[go_sem,seval,eo,h1,h2,h3,jk h5,h6]
      exact⟨_,rfl⟩
     obtain⟨hh,this⟩:=this
     exact qm rfl this (by first|rfl|simp only[go_sem,seval]) (by first|rfl|simp only[go_sem,seval])
    ·obtain⟨d16,fC,h⟩:=qa h
     rcases d16 with d18|d19
     ·have hH:X ak (.loop kU) ⟨[(4,.int .i64 0,I),(25,.ptr 0 0,I)],[.iter a0 0]⟩=Ea (.ret,⟨[(2,.int .i64 0,I),(3,.bool I,I)],[.iter a0 d18]⟩):=q67 a0 fC
      have hr:(0,I)=r:=Ea.inj h
      subst hr
      have this:∃hh,ah ak (X ak) 184 [.str a0] []=Ea (.av [.int .i64 0,.bool I],I,hh):=by
       rw[qn (show ak.bn 184=Ea eo from rfl) (by simp)]
       simp only[go_sem,seval,eo,h1,h2,h3,jk h5,h6,hH]
       exact⟨_,rfl⟩
      obtain⟨hh,this⟩:=this
      exact qm rfl this (by first|rfl|simp only[go_sem,seval]) (by first|rfl|simp only[go_sem,seval])
     ·have hH:X ak (.loop kU) ⟨[(4,.int .i64 0,I),(25,.ptr 0 0,I)],[.iter a0 0]⟩=Ea (.exit 0,⟨[(4,.int .i64 d19.1,I),(25,.ptr 0 0,I),(26,.av [.bool I],I),(27,.bool I,I)],[.iter a0 d19.2]⟩):=q67 a0 fC
      have hr:(d19.1,Ec)=r:=Ea.inj h
      subst hr
      have this:∃hh,ah ak (X ak) 184 [.str a0] []=Ea (.av [.int .i64 d19.1,.bool Ec],I,hh):=by
       rw[qn (show ak.bn 184=Ea eo from rfl) (by simp)]
       simp only[go_sem,seval,eo,h1,h2,h3,jk h5,h6,hH]
       exact⟨_,rfl⟩
      obtain⟨hh,this⟩:=this
      exact qm rfl this (by first|rfl|simp only[go_sem,seval]) (by first|rfl|simp only[go_sem,seval])
   ·obtain⟨d29,dS,h⟩:=qa h
    rcases d29 with d31|d32
    ·have ep:X ak (.loop kU) ⟨[(4,.int .i64 0,I),(25,.ptr 0 0,I)],[.iter a0 0]⟩=Ea (.ret,⟨[(2,.int .i64 0,I),(3,.bool I,I)],[.iter a0 d31]⟩):=q0q a0 dS
     have hr:(0,I)=r:=Ea.inj h
     subst hr
     have this:∃hh,ah ak (X ak) 184 [.str a0] []=Ea (.av [.int .i64 0,.bool I],I,hh):=by
      rw[qn (show ak.bn 184=Ea eo from rfl) (by simp)]
      simp only[go_sem,seval,eo,h1,h2,h3,ep]
      exact⟨_,rfl⟩
     obtain⟨hh,this⟩:=this
     exact qm rfl this (by first|rfl|simp only[go_sem,seval]) (by first|rfl|simp only[go_sem,seval])
    ·have ep:X ak (.loop kU) ⟨[(4,.int .i64 0,I),(25,.ptr 0 0,I)],[.iter a0 0]⟩=Ea (.exit 0,⟨[(4,.int .i64 d32.1,I),(25,.ptr 0 0,I),(26,.av [.bool I],I),(27,.bool I,I)],[.iter a0 d32.2]⟩):=q0q a0 dS
     have hr:(d32.1,Ec)=r:=Ea.inj h
     subst hr
     have this:∃hh,ah ak (X ak) 184 [.str a0] []=Ea (.av [.int .i64 d32.1,.bool Ec],I,hh):=by
      rw[qn (show ak.bn 184=Ea eo from rfl) (by simp)]
      simp only[go_sem,seval,eo,h1,h2,h3,ep]
      exact⟨_,rfl⟩
     obtain⟨hh,this⟩:=this
     exact qm rfl this (by first|rfl|simp only[go_sem,seval]) (by first|rfl|simp only[go_sem,seval])
end Go.Z
namespace Go.Z
open Go Go.Abs Go.W
def wy (a0:Int):Option Bool:=
 cond (decide (a0<48))
  (Ea Ec)
  (Ea (decide (57<a0)))
theorem jiq (hp:ql){a0:Int}{r}(h:wy a0=Ea r):ah ak (X ak) 141 [.int .i32 a0] hp=Ea (.bool r,I,hp):=by
 unfold wy at h
 rcases qc h with⟨h1,h⟩|⟨h1,h⟩
 ·have hr:Ec=r:=Ea.inj h
  subst hr
  rw[qn (show ak.bn 141=Ea lR from rfl) (by simp)]
  simp only[go_sem,seval,lR,h1]<;>rfl
 ·have hr:decide (57<a0)=r:=Ea.inj h
  subst hr
  rw[qn (show ak.bn 141=Ea lR from rfl) (by simp)]
  simp only[go_sem,seval,lR,h1]<;>rfl
def wz (a0:List UInt8)(a2:Bool):Option (Option (Bool×Int×Nat)⊕((Int×Nat)⊕(Bool×Nat))):=
 cond (decide (0<a0.length))
  (qe (wy ((qf a0 0).1:Int)) fun QQ=>
  cond QQ
   (cond a2
    (Ea (.inr (.inl ((0:Int),0+(qf a0 0).2))))
    (Ea (.inl (Ea (I,(0:Int),0+(qf a0 0).2)))))
   (cond a2
    (Ea (.inl (Ea (Ec,(0:Int),0+(qf a0 0).2))))
    (Ea (.inr (.inl ((0:Int),0+(qf a0 0).2))))))
  (Ea (.inr (.inr (a2,0))))
def sD (a0:List UInt8)(a2:Bool)(s0:Bool×Int×Nat):Option (Option (Bool×Int×Nat)⊕((Int×Nat)⊕(Bool×Nat))):=
 cond (decide (s0.2.2<a0.length))
  (qe (wy ((qf a0 s0.2.2).1:Int)) fun gE=>
  cond gE
   (cond s0.1
    (Ea (.inr (.inl ((s0.2.2:Int),s0.2.2+(qf a0 s0.2.2).2))))
    (Ea (.inl (Ea (I,(s0.2.2:Int),s0.2.2+(qf a0 s0.2.2).2)))))
   (cond s0.1
    (Ea (.inl (Ea (Ec,(s0.2.2:Int),s0.2.2+(qf a0 s0.2.2).2))))
    (Ea (.inr (.inl ((s0.2.2:Int),s0.2.2+(qf a0 s0.2.2).2))))))
  (Ea (.inr (.inr (s0.1,s0.2.2))))
def Fo (a0:List UInt8)(a2:Bool):Option (Bool×Int×Nat)→Option (Option (Bool×Int×Nat)⊕((Int×Nat)⊕(Bool×Nat)))
 |none=>wz a0 a2
 |some x=>sD a0 a2 x
def pv (a0:List UInt8)(a2:Bool)(s0:Bool×Int×Nat):aV:=⟨[(1,.fn (.func 141) [] [],I),(2,.bool s0.1,I),(7,.int .i64 s0.2.1,I),(10,.ptr 0 0,I),(19,.bool I,I)],[.iter a0 s0.2.2]⟩
def mO (a0:List UInt8)(a2:Bool):Option (Bool×Int×Nat)→aV
 |none=>⟨[(1,.fn (.func 141) [] [],I),(2,.bool a2,I),(10,.ptr 0 0,I)],[.iter a0 0]⟩
 |some x=>pv a0 a2 x
def rE (a0:List UInt8)(a2:Bool):(Int×Nat)⊕(Bool×Nat)→je×aV
 | .inl d=>(.ret,⟨[(6,.int .i64 d.1,I)],[.iter a0 d.2]⟩)
 | .inr d=>(.exit 0,⟨[(1,.fn (.func 141) [] [],I),(2,.bool d.1,I),(10,.ptr 0 0,I),(11,.av [.bool I],I),(12,.bool I,I)],[.iter a0 d.2]⟩)
theorem jfc (a0:List UInt8)(a2:Bool)(r)(h:wz a0 a2=Ea r):zd ak kz (mO a0 a2) (rE a0 a2) Eb r:=by
 unfold wz at h
 rcases qc h with⟨fk,h⟩|⟨fk,h⟩
 ·obtain⟨QQ,eP,h⟩:=qa h
  have sE:ah ak (X ak) 141 [.int .i32 ((qf a0 0).1:Int)] [.iter a0 (0+(qf a0 0).2)]=Ea (.bool QQ,I,[.iter a0 (0+(qf a0 0).2)]):=jiq [.iter a0 (0+(qf a0 0).2)] eP
  rcases qc h with⟨gF,h⟩|⟨gF,h⟩
  ·rcases qc h with⟨hO,h⟩|⟨hO,h⟩
   ·cases h
    exact qy (by simp only[go_sem,seval,kz,mO,pv,fk,lO fk,sE,Ga,En,Gc,E3,Ha,gF,hO,rE]<;>rfl)
   ·cases h
    exact jp (aN:=⟨[(1,.fn (.func 141) [] [],I),(2,.bool I,I),(7,.int .i64 (0:Int),I),(10,.ptr 0 0,I),(19,.bool I,I)],[.iter a0 (0+(qf a0 0).2)]⟩) (by simp only[go_sem,seval,kz,mO,pv,fk,lO fk,sE,Ga,En,Gc,E3,Ha,gF,hO]<;>rfl) (ju (Ek _))
  ·rcases qc h with⟨fF,h⟩|⟨fF,h⟩
   ·cases h
    exact jp (aN:=⟨[(1,.fn (.func 141) [] [],I),(2,.bool Ec,I),(7,.int .i64 (0:Int),I),(10,.ptr 0 0,I),(19,.bool I,I)],[.iter a0 (0+(qf a0 0).2)]⟩) (by simp only[go_sem,seval,kz,mO,pv,fk,lO fk,sE,Ga,En,Gc,E3,Ha,gF,fF]<;>rfl) (ju (Ek _))
   ·cases h
    exact qy (by simp only[go_sem,seval,kz,mO,pv,fk,lO fk,sE,Ga,En,Gc,E3,Ha,gF,fF,rE]<;>rfl)
 ·cases h
  exact qy (by simp only[go_sem,seval,kz,mO,pv,fk,EG fk,rE]<;>rfl)
theorem jew (a0:List UInt8)(a2:Bool)(s0:Bool×Int×Nat)(r)(h:sD a0 a2 s0=Ea r):zd ak kz (mO a0 a2) (rE a0 a2) (Ea s0) r:=by
 unfold sD at h
 rcases qc h with⟨dW,h⟩|⟨dW,h⟩
 ·obtain⟨gE,dS,h⟩:=qa h
  have ep:ah ak (X ak) 141 [.int .i32 ((qf a0 s0.2.2).1:Int)] [.iter a0 (s0.2.2+(qf a0 s0.2.2).2)]=Ea (.bool gE,I,[.iter a0 (s0.2.2+(qf a0 s0.2.2).2)]):=jiq [.iter a0 (s0.2.2+(qf a0 s0.2.2).2)] dS
  rcases qc h with⟨eE,h⟩|⟨eE,h⟩
  ·rcases qc h with⟨iQ,h⟩|⟨iQ,h⟩
   ·cases h
    exact qy (by simp only[go_sem,seval,kz,mO,pv,dW,lO dW,ep,Ga,En,Gc,E3,Ha,eE,iQ,rE]<;>rfl)
   ·cases h
    exact jp (aN:=⟨[(1,.fn (.func 141) [] [],I),(2,.bool I,I),(7,.int .i64 (s0.2.2:Int),I),(10,.ptr 0 0,I),(19,.bool I,I)],[.iter a0 (s0.2.2+(qf a0 s0.2.2).2)]⟩) (by simp only[go_sem,seval,kz,mO,pv,dW,lO dW,ep,Ga,En,Gc,E3,Ha,eE,iQ]<;>rfl) (ju (Ek _))
  ·rcases qc h with⟨mP,h⟩|⟨mP,h⟩
   ·cases h
    exact jp (aN:=⟨[(1,.fn (.func 141) [] [],I),(2,.bool Ec,I),(7,.int .i64 (s0.2.2:Int),I),(10,.ptr 0 0,I),(19,.bool I,I)],[.iter a0 (s0.2.2+(qf a0 s0.2.2).2)]⟩) (by simp only[go_sem,seval,kz,mO,pv,dW,lO dW,ep,Ga,En,Gc,E3,Ha,eE,mP]<;>rfl) (ju (Ek _))
   ·cases h
    exact qy (by simp only[go_sem,seval,kz,mO,pv,dW,lO dW,ep,Ga,En,Gc,E3,Ha,eE,mP,rE]<;>rfl)
 ·cases h
  exact qy (by simp only[go_sem,seval,kz,mO,pv,dW,EG dW,rE]<;>rfl)
theorem jkf (a0:List UInt8)(a2:Bool):∀(x:Option (Bool×Int×Nat)) (r) (h:Fo a0 a2 x=Ea r),zd ak kz (mO a0 a2) (rE a0 a2) x r
 |none,r,h=>jfc a0 a2 r h
 |some x,r,h=>jew a0 a2 x r h
theorem q5g (a0:List UInt8)(a2:Bool){s0:Option (Bool×Int×Nat)}{d}(h:bq (Fo a0 a2) s0=Ea d):X ak (.loop kz) (mO a0 a2 s0)=Ea (rE a0 a2 d):=ki (jkf a0 a2) (fun d=>by rcases d with d|d<;>(intro hh;cases hh)) h
def I7 (a0:List UInt8)(a2:Bool):Option Int:=
 qe (bq (Fo a0 a2) Eb) fun d40=>match d40 with
  | .inl d42=>
   Ea d42.1
  | .inr d43=>
   Ea (-1)
theorem j1v {a0:List UInt8}{a2:Bool}{r}(h:I7 a0 a2=Ea r):ae ak (X ak) 258 [.str a0,.fn (.func 141) [] [],.bool a2]=Ea (.int .i64 r,I):=by
 unfold I7 at h
 obtain⟨d40,hP,h⟩:=qa h
 rcases d40 with d42|d43
 ·have jO:X ak (.loop kz) ⟨[(1,.fn (.func 141) [] [],I),(2,.bool a2,I),(10,.ptr 0 0,I)],[.iter a0 0]⟩=Ea (.ret,⟨[(6,.int .i64 d42.1,I)],[.iter a0 d42.2]⟩):=q5g a0 a2 hP
  have hr:d42.1=r:=Ea.inj h
  subst hr
  have this:∃hh,ah ak (X ak) 258 [.str a0,.fn (.func 141) [] [],.bool a2] []=Ea (.int .i64 d42.1,I,hh):=by
   rw[qn (show ak.bn 258=Ea lS from rfl) (by simp)]
   simp only[go_sem,seval,lS,jO]
   exact⟨_,rfl⟩
  obtain⟨hh,this⟩:=this
  exact qm rfl this (by first|rfl|simp only[go_sem,seval]) (by first|rfl|simp only[go_sem,seval])
 ·have jO:X ak (.loop kz) ⟨[(1,.fn (.func 141) [] [],I),(2,.bool a2,I),(10,.ptr 0 0,I)],[.iter a0 0]⟩=Ea (.exit 0,⟨[(1,.fn (.func 141) [] [],I),(2,.bool d43.1,I),(10,.ptr 0 0,I),(11,.av [.bool I],I),(12,.bool I,I)],[.iter a0 d43.2]⟩):=q5g a0 a2 hP
  have hr:(-1)=r:=Ea.inj h
  subst hr
  have this:∃hh,ah ak (X ak) 258 [.str a0,.fn (.func 141) [] [],.bool a2] []=Ea (.int .i64 (-1),I,hh):=by
   rw[qn (show ak.bn 258=Ea lS from rfl) (by simp)]
   simp only[go_sem,seval,lS,jO]
   exact⟨_,rfl⟩
  obtain⟨hh,this⟩:=this
  exact qm rfl this (by first|rfl|simp only[go_sem,seval]) (by first|rfl|simp only[go_sem,seval])
def I9 (a0:List UInt8):Option Int:=
 qe (I7 a0 Ec) fun v1=>
 Ea v1
theorem j1p {a0:List UInt8}{r}(h:I9 a0=Ea r):ae ak (X ak) 198 [.str a0,.fn (.func 141) [] []]=Ea (.int .i64 r,I):=by
 unfold I9 at h
 obtain⟨v1,h2,h⟩:=qa h
 have cT:ae ak (X ak) 258 [.str a0,.fn (.func 141) [] [],.bool Ec]=Ea (.int .i64 v1,I):=j1v h2
 have hr:v1=r:=Ea.inj h
 subst hr
 have this:∃hh,ah ak (X ak) 198 [.str a0,.fn (.func 141) [] []] []=Ea (.int .i64 v1,I,hh):=by
  rw[qn (show ak.bn 198=Ea pw from rfl) (by simp)]
  simp only[go_sem,seval,pw,cT]
  exact⟨_,rfl⟩
 obtain⟨hh,this⟩:=this
 exact qm rfl this (by first|rfl|simp only[go_sem,seval]) (by first|rfl|simp only[go_sem,seval])
def Fp (a0:List UInt8):Option Bool:=
 qe (I9 a0) fun v1=>
 Ea (decide (0≤v1))
theorem jzm {a0:List UInt8}{r}(h:Fp a0=Ea r):ae ak (X ak) 140 [.str a0,.fn (.func 141) [] []]=Ea (.bool r,I):=by
 unfold Fp at h
 obtain⟨v1,h2,h⟩:=qa h
 have cT:ae ak (X ak) 198 [.str a0,.fn (.func 141) [] []]=Ea (.int .i64 v1,I):=j1p h2
 have hr:decide (0≤v1)=r:=Ea.inj h
 subst hr
 have this:∃hh,ah ak (X ak) 140 [.str a0,.fn (.func 141) [] []] []=Ea (.bool (decide (0≤v1)),I,hh):=by
  rw[qn (show ak.bn 140=Ea px from rfl) (by simp)]
  simp only[go_sem,seval,px,cT]
  exact⟨_,rfl⟩
 obtain⟨hh,this⟩:=this
 exact qm rfl this (by first|rfl|simp only[go_sem,seval]) (by first|rfl|simp only[go_sem,seval])
def ub (a0:Option (List Int))(s0:(Option (List (List UInt8)))×Int×Bool):Option (((Option (List (List UInt8)))×Int×Bool)⊕(((Option (List (List UInt8)))×Bool×Int))):=
 cond (decide (s0.2.1<((a0.getD []).length:Int)))
  (qe (jn (a0.getD []) s0.2.1) fun fj=>
  qe (nw fj) fun v20=>
  cond s0.2.2
   (qe (cK s0.1 [v20]) fun v23=>
   Ea (.inl (v23,qh .i64 (s0.2.1+1),Ec)))
   (cond s0.1.isNone
    (qe (cK s0.1 [v20]) fun v26=>
    Ea (.inl (v26,qh .i64 (s0.2.1+1),Ec)))
    (Eb)))
  (Ea (.inr (s0.1,s0.2.2,s0.2.1)))
def Fq (a0:Option (List Int))(s0:(Option (List (List UInt8)))×Int×Bool):aV:=⟨[(1,.fn (.func 103) [] [],I),(5,sl 1 qv s0.1,s0.2.2),(8,sl 1 qx a0,I),(9,.int .i64 ((a0.getD []).length:Int),I),(10,.int .i64 s0.2.1,I)],[]⟩
def QR (a0:Option (List Int))(d:((Option (List (List UInt8)))×Bool×Int)):je×aV:=(.exit 0,⟨[(1,.fn (.func 103) [] [],I),(5,sl 1 qv d.1,d.2.1),(8,sl 1 qx a0,I),(9,.int .i64 ((a0.getD []).length:Int),I),(10,.int .i64 d.2.2,I),(11,.bool I,I)],[]⟩)
theorem jjv (a0:Option (List Int))(s0:(Option (List (List UInt8)))×Int×Bool)(r)(h:ub a0 s0=Ea r):zd ak wA (Fq a0) (QR a0) s0 r:=by
 unfold ub at h
 rcases qc h with⟨fC,h⟩|⟨fC,h⟩
 ·obtain⟨fj,dJ,h⟩:=qa h
  obtain⟨v20,dL,h⟩:=qa h
  have hJ:ah ak (X ak) 103 [.int .i64 fj] []=Ea (.str v20,I,[]):=jsv [] dL
  rcases qc h with⟨gj,h⟩|⟨gj,h⟩
  ·obtain⟨v23,lg,h⟩:=qa h
   cases h
   exact jp (aN:=⟨[(1,.fn (.func 103) [] [],I),(5,sl 1 qv v23,Ec),(8,sl 1 qx a0,I),(9,.int .i64 ((a0.getD []).length:Int),I),(10,.int .i64 (qh .i64 (s0.2.1+1)),I)],[]⟩) (by simp only[go_sem,seval,wA,Fq,fC,js dJ,hJ,gj,IX lg]<;>rfl) (ju (Ek _))
  ·rcases qc h with⟨jI,h⟩|⟨jI,h⟩
   ·obtain⟨v26,fJ,h⟩:=qa h
    cases h
    exact jp (aN:=⟨[(1,.fn (.func 103) [] [],I),(5,sl 1 qv v26,Ec),(8,sl 1 qx a0,I),(9,.int .i64 ((a0.getD []).length:Int),I),(10,.int .i64 (qh .i64 (s0.2.1+1)),I)],[]⟩) (by simp only[go_sem,seval,wA,Fq,fC,js dJ,hJ,gj,jI,IY fJ jI]<;>rfl) (ju (Ek _))
   ·cases h
 ·cases h
  exact qy (by simp only[go_sem,seval,wA,Fq,fC,QR]<;>rfl)
theorem jh2 (a0:Option (List Int)){s0:(Option (List (List UInt8)))×Int×Bool}{d}(h:bq (ub a0) s0=Ea d):X ak (.loop wA) (Fq a0 s0)=Ea (QR a0 d):=ki (jjv a0) (fun d hh=>by cases hh) h
def f195 (a0:Option (List Int)):Option ((Option (List (List UInt8)))×Bool):=
 qe (bq (ub a0) (Eb,0,I)) fun d28=>
 Ea (d28.1,d28.2.1)
theorem j0o {a0:Option (List Int)}{r}(h:f195 a0=Ea r):ae ak (X ak) 195 [sl 1 qx a0,.fn (.func 103) [] []]=Ea (sl 1 qv r.1,r.2):=by
 unfold f195 at h
 obtain⟨d28,nv,h⟩:=qa h
 have fY:X ak (.loop wA) ⟨[(1,.fn (.func 103) [] [],I),(5,.list Ec 0 [],I),(8,sl 1 qx a0,I),(9,.int .i64 ((a0.getD []).length:Int),I),(10,.int .i64 0,I)],[]⟩=Ea (.exit 0,⟨[(1,.fn (.func 103) [] [],I),(5,sl 1 qv d28.1,d28.2.1),(8,sl 1 qx a0,I),(9,.int .i64 ((a0.getD []).length:Int),I),(10,.int .i64 d28.2.2,I),(11,.bool I,I)],[]⟩):=jh2 a0 nv
 have hr:(d28.1,d28.2.1)=r:=Ea.inj h
 subst hr
 have this:∃hh,ah ak (X ak) 195 [sl 1 qx a0,.fn (.func 103) [] []] []=Ea (sl 1 qv d28.1,d28.2.1,hh):=by
  rw[qn (show ak.bn 195=Ea py from rfl) (by simp)]
  simp only[go_sem,seval,py,fY]
  exact⟨_,rfl⟩
 obtain⟨hh,this⟩:=this
 exact IG rfl this (by first|rfl|simp only[go_sem,seval]) (by first|rfl|simp only[go_sem,seval]) (by first|rfl|simp only[go_sem,seval])
def Fs (a0:aT):Option (List UInt8):=
 qe (nw a0.number) fun v1=>
 qe (cK (Ea [v1,a0.kind]) (a0.names.getD [])) fun v3=>
 qe (f195 a0.values) fun v5=>
 qe (cK v3 (v5.1.getD [])) fun v7=>
 qe (f105 v7 ([32]:List UInt8)) fun v9=>
 Ea v9
theorem j1k {a0:aT}{r}(h:Fs a0=Ea r):ae ak (X ak) 137 [.agg [.int .i64 a0.number,.str a0.kind,sl 1 qv a0.names,sl 1 qx a0.values,.str a0.text]]=Ea (.str r,I):=by
 unfold Fs at h
 obtain⟨v1,h2,h⟩:=qa h
 have cT:ae ak (X ak) 103 [.int .i64 a0.number]=Ea (.str v1,I):=jk1 h2
 obtain⟨v3,h4,h⟩:=qa h
 obtain⟨v5,h6,h⟩:=qa h
 have iR:ae ak (X ak) 195 [sl 1 qx a0.values,.fn (.func 103) [] []]=Ea (sl 1 qv v5.1,v5.2):=j0o h6
 obtain⟨v7,h8,h⟩:=qa h
 obtain⟨v9,iu,h⟩:=qa h
 have dT:ae ak (X ak) 105 [sl 1 qv v7,.str ([32]:List UInt8)]=Ea (.str v9,I):=jy6 iu
 have hr:v9=r:=Ea.inj h
 subst hr
 have this:∃hh,ah ak (X ak) 137 [.agg [.int .i64 a0.number,.str a0.kind,sl 1 qv a0.names,sl 1 qx a0.values,.str a0.text]] []=Ea (.str v9,I,hh):=by
  rw[qn (show ak.bn 137=Ea pz from rfl) (by simp)]
  simp only[go_sem,seval,pz,cT,(show ∀(b t:Nat) (hq:ql),bZ 1 b hq (Ea t) (Ea (.list I 1 [.str v1,.str a0.kind])) (Ea (sl 1 qv a0.names))=cj (decide (b≤4096)) (Ea ⟨sl 1 qv v3,Ec,Ea t,hq⟩)from fun _ _ _=>QG (o:=Ea [v1,a0.kind]) h4),iR,QG h8,dT]
  exact⟨_,rfl⟩
 obtain⟨hh,this⟩:=this
 exact qm rfl this (by first|rfl|simp only[go_sem,seval]) (by first|rfl|simp only[go_sem,seval])
def f83 (a0:aT):Option (List UInt8):=
 qe (Fs a0) fun v1=>
 qe (kr v1 ([35]:List UInt8)) fun v3=>
 qe (f138 v1) fun v5=>
 qe (kr v3 v5) fun v7=>
 qe (kr v7 ([10]:List UInt8)) fun v9=>
 Ea v9
theorem W83 {a0:aT}{r}(h:f83 a0=Ea r):ae ak (X ak) 83 [.agg [.int .i64 a0.number,.str a0.kind,sl 1 qv a0.names,sl 1 qx a0.values,.str a0.text]]=Ea (.str r,I):=by
 unfold f83 at h
 obtain⟨v1,h2,h⟩:=qa h
 have cT:ae ak (X ak) 137 [.agg [.int .i64 a0.number,.str a0.kind,sl 1 qv a0.names,sl 1 qx a0.values,.str a0.text]]=Ea (.str v1,I):=j1k h2
 obtain⟨v3,h4,h⟩:=qa h
 obtain⟨v5,h6,h⟩:=qa h
 have iR:ae ak (X ak) 138 [.str v1]=Ea (.str v5,I):=jhn h6
 obtain⟨v7,h8,h⟩:=qa h
 obtain⟨v9,iu,h⟩:=qa h
 have hr:v9=r:=Ea.inj h
 subst hr
 have this:∃hh,ah ak (X ak) 83 [.agg [.int .i64 a0.number,.str a0.kind,sl 1 qv a0.names,sl 1 qx a0.values,.str a0.text]] []=Ea (.str v9,I,hh):=by
  rw[qn (show ak.bn 83=Ea Ft from rfl) (by simp)]
  simp only[go_sem,seval,Ft,cT,yr h4,iR,yr h8,yr iu]
  exact⟨_,rfl⟩
 obtain⟨hh,this⟩:=this
 exact qm rfl this (by first|rfl|simp only[go_sem,seval]) (by first|rfl|simp only[go_sem,seval])
end Go.Z
namespace Go.Z
open Go Go.Abs Go.W
theorem jxp {a0:Option (List (List UInt8))}{a1:List UInt8}{r}(h:f69 a0 a1=Ea r):ae ak (X ak) 69 [sl 1 qv a0,.str a1]=Ea (.bool r,I):=c5.ae (W69 h)
theorem jj0 {a0:Option (List Int)}{r}(h:f46 a0=Ea r):ae ak (X ak) 46 [sl 1 qx a0]=Ea (.int .i64 r,I):=c5.ae (W46 h)
theorem QS {a0:Bool}{a1:Int}{r}(h:f48 a0 a1=Ea r):ae ak (X ak) 48 [.bool a0,.int .i64 a1]=Ea (.int .i64 r,I):=c5.ae (Ja h)
theorem jho {a0:aT}{r}(h:f47 a0=Ea r):ae ak (X ak) 47 [.agg [.int .i64 a0.number,.str a0.kind,sl 1 qv a0.names,sl 1 qx a0.values,.str a0.text]]=Ea (.int .i64 r,I):=c5.ae (W47 h)
theorem jo5 {a0:Option (List (List UInt8))}{r}(h:B4 a0=Ea r):ae ak (X ak) 114 [sl 1 qv a0]=Ea (sl 1 qv r.1,r.2):=c5.ae (j28 h)
@[go_sem] theorem j15:ak.maps 101=Ea qz:=rfl
def B5 (a0:List UInt8)(iy:Bool):Option (Int×Bool):=
 qe (B3 a0) fun v1=>
 cond iy
  (Ea (v1.1,v1.2))
  (Ea (v1.1,I))
theorem j2o {a0:List UInt8}{iy:Bool}{x0:aJ}{x1:aJ}{x2:aJ}{r}(h:B5 a0 iy=Ea r):ah ak (X ak) 183 [.str a0,.ptr 3 0] [x0,x1,x2,.cells [(.bool iy,I)]]=Ea (.int .i64 r.1,I,[x0,x1,x2,.cells [(.bool r.2,I)]]):=by
 unfold B5 at h
 obtain⟨v1,h2,h⟩:=qa h
 have cT:ae ak (X ak) 184 [.str a0]=Ea (.av [.int .i64 v1.1,.bool v1.2],I):=jii h2
 rcases qc h with⟨h3,h⟩|⟨h3,h⟩
 ·have hr:(v1.1,v1.2)=r:=Ea.inj h
  subst hr
  rw[qn (show ak.bn 183=Ea lT from rfl) (by simp)]
  simp only[go_sem,seval,lT,cT,h3]<;>rfl
 ·have hr:(v1.1,I)=r:=Ea.inj h
  subst hr
  rw[qn (show ak.bn 183=Ea lT from rfl) (by simp)]
  simp only[go_sem,seval,lT,cT,h3]<;>rfl
def uc (a0:Option (List (List UInt8)))(s0:(Option (List Int))×Int×Bool×Bool):Option (((Option (List Int))×Int×Bool×Bool)⊕(((Option (List Int))×Bool×Int×Bool))):=
 cond (decide (s0.2.1<((a0.getD []).length:Int)))
  (qe (jn (a0.getD []) s0.2.1) fun fj=>
  qe (B5 fj s0.2.2.1) fun v20=>
  cond s0.2.2.2
   (qe (cK s0.1 [v20.1]) fun v23=>
   Ea (.inl (v23,qh .i64 (s0.2.1+1),v20.2,Ec)))
   (cond s0.1.isNone
    (qe (cK s0.1 [v20.1]) fun v26=>
    Ea (.inl (v26,qh .i64 (s0.2.1+1),v20.2,Ec)))
    (Eb)))
  (Ea (.inr (s0.1,s0.2.2.2,s0.2.1,s0.2.2.1)))
def Fu (a0:Option (List (List UInt8)))(x0:aJ)(x1:aJ)(x2:aJ)(s0:(Option (List Int))×Int×Bool×Bool):aV:=⟨[(1,.fn (.func 183) [] [.ptr 3 0],I),(5,sl 1 qx s0.1,s0.2.2.2),(8,sl 1 qv a0,I),(9,.int .i64 ((a0.getD []).length:Int),I),(10,.int .i64 s0.2.1,I)],[x0,x1,x2,.cells [(.bool s0.2.2.1,I)]]⟩
def QT (a0:Option (List (List UInt8)))(x0:aJ)(x1:aJ)(x2:aJ)(d:((Option (List Int))×Bool×Int×Bool)):je×aV:=(.exit 0,⟨[(1,.fn (.func 183) [] [.ptr 3 0],I),(5,sl 1 qx d.1,d.2.1),(8,sl 1 qv a0,I),(9,.int .i64 ((a0.getD []).length:Int),I),(10,.int .i64 d.2.2.1,I),(11,.bool I,I)],[x0,x1,x2,.cells [(.bool d.2.2.2,I)]]⟩)
theorem jka (a0:Option (List (List UInt8)))(x0:aJ)(x1:aJ)(x2:aJ)(s0:(Option (List Int))×Int×Bool×Bool)(r)(h:uc a0 s0=Ea r):zd ak wC (Fu a0 x0 x1 x2) (QT a0 x0 x1 x2) s0 r:=by
 unfold uc at h
 rcases qc h with⟨fC,h⟩|⟨fC,h⟩
 ·obtain⟨fj,dJ,h⟩:=qa h
  obtain⟨v20,dL,h⟩:=qa h
  have hJ:ah ak (X ak) 183 [.str fj,.ptr 3 0] [x0,x1,x2,.cells [(.bool s0.2.2.1,I)]]=Ea (.int .i64 v20.1,I,[x0,x1,x2,.cells [(.bool v20.2,I)]]):=j2o dL
  rcases qc h with⟨gj,h⟩|⟨gj,h⟩
  ·obtain⟨v23,lg,h⟩:=qa h
   cases h
   exact jp (aN:=⟨[(1,.fn (.func 183) [] [.ptr 3 0],I),(5,sl 1 qx v23,Ec),(8,sl 1 qv a0,I),(9,.int .i64 ((a0.getD []).length:Int),I),(10,.int .i64 (qh .i64 (s0.2.1+1)),I)],[x0,x1,x2,.cells [(.bool v20.2,I)]]⟩) (by simp only[go_sem,seval,wC,Fu,fC,js dJ,hJ,gj,Qv lg]<;>rfl) (ju (Ek _))
  ·rcases qc h with⟨jI,h⟩|⟨jI,h⟩
   ·obtain⟨v26,fJ,h⟩:=qa h
    cases h
    exact jp (aN:=⟨[(1,.fn (.func 183) [] [.ptr 3 0],I),(5,sl 1 qx v26,Ec),(8,sl 1 qv a0,I),(9,.int .i64 ((a0.getD []).length:Int),I),(10,.int .i64 (qh .i64 (s0.2.1+1)),I)],[x0,x1,x2,.cells [(.bool v20.2,I)]]⟩) (by simp only[go_sem,seval,wC,Fu,fC,js dJ,hJ,gj,jI,Qw fJ jI]<;>rfl) (ju (Ek _))
   ·cases h
 ·cases h
  exact qy (by simp only[go_sem,seval,wC,Fu,fC,QT]<;>rfl)
theorem jj6 (a0:Option (List (List UInt8)))(x0:aJ)(x1:aJ)(x2:aJ){s0:(Option (List Int))×Int×Bool×Bool}{d}(h:bq (uc a0) s0=Ea d):X ak (.loop wC) (Fu a0 x0 x1 x2 s0)=Ea (QT a0 x0 x1 x2 d):=ki (jka a0 x0 x1 x2) (fun d hh=>by cases hh) h
def Fv (a0:Option (List (List UInt8)))(iy:Bool):Option ((Option (List Int))×Bool×Bool):=
 qe (bq (uc a0) (Eb,0,iy,I)) fun d28=>
 Ea (d28.1,d28.2.1,d28.2.2.2)
theorem j13 {a0:Option (List (List UInt8))}{iy:Bool}{x0:aJ}{x1:aJ}{x2:aJ}{r}(h:Fv a0 iy=Ea r):ah ak (X ak) 182 [sl 1 qv a0,.fn (.func 183) [] [.ptr 3 0]] [x0,x1,x2,.cells [(.bool iy,I)]]=Ea (sl 1 qx r.1,r.2.1,[x0,x1,x2,.cells [(.bool r.2.2,I)]]):=by
 unfold Fv at h
 obtain⟨d28,nv,h⟩:=qa h
 have fY:X ak (.loop wC) ⟨[(1,.fn (.func 183) [] [.ptr 3 0],I),(5,.list Ec 0 [],I),(8,sl 1 qv a0,I),(9,.int .i64 ((a0.getD []).length:Int),I),(10,.int .i64 0,I)],[x0,x1,x2,.cells [(.bool iy,I)]]⟩=Ea (.exit 0,⟨[(1,.fn (.func 183) [] [.ptr 3 0],I),(5,sl 1 qx d28.1,d28.2.1),(8,sl 1 qv a0,I),(9,.int .i64 ((a0.getD []).length:Int),I),(10,.int .i64 d28.2.2.1,I),(11,.bool I,I)],[x0,x1,x2,.cells [(.bool d28.2.2.2,I)]]⟩):=jj6 a0 x0 x1 x2 nv
 have hr:(d28.1,d28.2.1,d28.2.2.2)=r:=Ea.inj h
 subst hr
 rw[qn (show ak.bn 182=Ea pA from rfl) (by simp)]
 simp only[go_sem,seval,pA,fY]<;>rfl
def Fw (a0:Option (List (List UInt8)))(a1:Int):Option (aT×Bool):=
 qe (jn (a0.getD []) 0) fun v1=>
 cond (pi v1)
  (cond (decide (((a0.getD []).length:Int)=(qh .i64 ((qh .i64 (1+((ph v1).length:Int)))+(su v1)))))
   (qe (f69 a0 []) fun v5=>
   cond v5
    (Ea (⟨0,[],Eb,Eb,[]⟩,I))
    (qe (rA a0 (Ea 1) (Ea (qh .i64 (1+((ph v1).length:Int))))) fun v8=>
    qe (B4 v8) fun v10=>
    qe (rA a0 (Ea (qh .i64 (1+((ph v1).length:Int)))) Eb) fun v12=>
    qe (Fv v12 Ec) fun fX=>
    cond fX.2.1
     (Ea (⟨a1,v1,v10.1,fX.1,[]⟩,fX.2.2))
     (Ea (⟨a1,v1,v10.1,fX.1,[]⟩,fX.2.2))))
   (Ea (⟨0,[],Eb,Eb,[]⟩,I)))
  (Ea (⟨0,[],Eb,Eb,[]⟩,I))
theorem j0c {a0:Option (List (List UInt8))}{a1:Int}{r}(h:Fw a0 a1=Ea r):ae ak (X ak) 102 [sl 1 qv a0,.int .i64 a1]=Ea (.av [.agg [.int .i64 r.1.number,.str r.1.kind,sl 1 qv r.1.names,sl 1 qx r.1.values,.str r.1.text],.bool r.2],I):=by
 unfold Fw at h
 obtain⟨v1,h2,h⟩:=qa h
 rcases qc h with⟨h3,h⟩|⟨h3,h⟩
 ·rcases qc h with⟨h4,h⟩|⟨h4,h⟩
  ·obtain⟨v5,h6,h⟩:=qa h
   have iR:ae ak (X ak) 69 [sl 1 qv a0,.str []]=Ea (.bool v5,I):=jxp h6
   rcases qc h with⟨h7,h⟩|⟨h7,h⟩
   ·have hr:(⟨0,[],Eb,Eb,[]⟩,I)=r:=Ea.inj h
    subst hr
    have this:∃hh,ah ak (X ak) 102 [sl 1 qv a0,.int .i64 a1] []=Ea (.av [.agg [.int .i64 0,.str [],.list Ec 0 [],.list Ec 0 [],.str []],.bool I],I,hh):=by
     rw[qn (show ak.bn 102=Ea fZ from rfl) (by simp)]
     simp only[go_sem,seval,fZ,js h2,BL,h3,h4,iR,h7]
     exact⟨_,rfl⟩
    obtain⟨hh,this⟩:=this
    exact qm rfl this (by first|rfl|simp only[go_sem,seval]) (by first|rfl|simp only[go_sem,seval])
   ·obtain⟨v8,h9,h⟩:=qa h
    obtain⟨v10,de,h⟩:=qa h
    have pB:ae ak (X ak) 114 [sl 1 qv v8]=Ea (sl 1 qv v10.1,v10.2):=jo5 de
    obtain⟨v12,dM,h⟩:=qa h
    obtain⟨fX,gO,h⟩:=qa h
    have sF:ah ak (X ak) 182 [sl 1 qv v12,.fn (.func 183) [] [.ptr 3 0]] [.cells [(.int .i64 0,I),(.str [],I),(.list Ec 0 [],I),(.list Ec 0 [],I),(.str [],I)],.map qz,.cells [(.int .i64 a1,I),(.str v1,I),(sl 1 qv v10.1,I),(.list Ec 0 [],I),(.str [],I)],.cells [(.bool Ec,I)]]=Ea (sl 1 qx fX.1,fX.2.1,[.cells [(.int .i64 0,I),(.str [],I),(.list Ec 0 [],I),(.list Ec 0 [],I),(.str [],I)],.map qz,.cells [(.int .i64 a1,I),(.str v1,I),(sl 1 qv v10.1,I),(.list Ec 0 [],I),(.str [],I)],.cells [(.bool fX.2.2,I)]]):=j13 gO
    rcases qc h with⟨jY,h⟩|⟨jY,h⟩
    ·rw[jY]at sF
     have hr:(⟨a1,v1,v10.1,fX.1,[]⟩,fX.2.2)=r:=Ea.inj h
     subst hr
     have this:∃hh,ah ak (X ak) 102 [sl 1 qv a0,.int .i64 a1] []=Ea (.av [.agg [.int .i64 a1,.str v1,sl 1 qv v10.1,sl 1 qx fX.1,.str []],.bool fX.2.2],I,hh):=by
      rw[qn (show ak.bn 102=Ea fZ from rfl) (by simp)]
      simp only[go_sem,seval,fZ,js h2,BL,h3,h4,iR,h7,qx2 h9,pB,q1b dM,sF,jY]
      exact⟨_,rfl⟩
     obtain⟨hh,this⟩:=this
     exact qm rfl this (by first|rfl|simp only[go_sem,seval]) (by first|rfl|simp only[go_sem,seval])
    ·rw[jY]at sF
     have hr:(⟨a1,v1,v10.1,fX.1,[]⟩,fX.2.2)=r:=Ea.inj h
     subst hr
     have this:∃hh,ah ak (X ak) 102 [sl 1 qv a0,.int .i64 a1] []=Ea (.av [.agg [.int .i64 a1,.str v1,sl 1 qv v10.1,sl 1 qx fX.1,.str []],.bool fX.2.2],I,hh):=by
      rw[qn (show ak.bn 102=Ea fZ from rfl) (by simp)]
      simp only[go_sem,seval,fZ,js h2,BL,h3,h4,iR,h7,qx2 h9,pB,q1b dM,sF,jY]
      exact⟨_,rfl⟩
     obtain⟨hh,this⟩:=this
     exact qm rfl this (by first|rfl|simp only[go_sem,seval]) (by first|rfl|simp only[go_sem,seval])
  ·have hr:(⟨0,[],Eb,Eb,[]⟩,I)=r:=Ea.inj h
   subst hr
   have this:∃hh,ah ak (X ak) 102 [sl 1 qv a0,.int .i64 a1] []=Ea (.av [.agg [.int .i64 0,.str [],.list Ec 0 [],.list Ec 0 [],.str []],.bool I],I,hh):=by
    rw[qn (show ak.bn 102=Ea fZ from rfl) (by simp)]
    simp only[go_sem,seval,fZ,js h2,BL,h3,h4]
    exact⟨_,rfl⟩
   obtain⟨hh,this⟩:=this
   exact qm rfl this (by first|rfl|simp only[go_sem,seval]) (by first|rfl|simp only[go_sem,seval])
 ·have hr:(⟨0,[],Eb,Eb,[]⟩,I)=r:=Ea.inj h
  subst hr
  have this:∃hh,ah ak (X ak) 102 [sl 1 qv a0,.int .i64 a1] []=Ea (.av [.agg [.int .i64 0,.str [],.list Ec 0 [],.list Ec 0 [],.str []],.bool I],I,hh):=by
   rw[qn (show ak.bn 102=Ea fZ from rfl) (by simp)]
   simp only[go_sem,seval,fZ,js h2,BL,h3]
   exact⟨_,rfl⟩
  obtain⟨hh,this⟩:=this
  exact qm rfl this (by first|rfl|simp only[go_sem,seval]) (by first|rfl|simp only[go_sem,seval])
def Fx (a0:List UInt8):Option (aT×Bool):=
 qe (f84 a0 ([32]:List UInt8)) fun v1=>
 qe (B3 v1.1) fun v3=>
 cond v1.2.2
  (cond v3.2
   (qe (f44 v1.2.1 ([32]:List UInt8)) fun v7=>
   qe (Fw v7 v3.1) fun v9=>
   cond v9.2
    (qe (f47 v9.1) fun v12=>
    Ea (v9.1,decide (v12=0)))
    (Ea (v9.1,I)))
   (Ea (⟨0,[],Eb,Eb,[]⟩,I)))
  (Ea (⟨0,[],Eb,Eb,[]⟩,I))
theorem jy1 {a0:List UInt8}{r}(h:Fx a0=Ea r):ae ak (X ak) 142 [.str a0]=Ea (.av [.agg [.int .i64 r.1.number,.str r.1.kind,sl 1 qv r.1.names,sl 1 qx r.1.values,.str r.1.text],.bool r.2],I):=by
 unfold Fx at h
 obtain⟨v1,h2,h⟩:=qa h
 have cT:ae ak (X ak) 84 [.str a0,.str ([32]:List UInt8)]=Ea (.av [.str v1.1,.str v1.2.1,.bool v1.2.2],I):=W84 h2
 obtain⟨v3,h4,h⟩:=qa h
 have nY:ae ak (X ak) 184 [.str v1.1]=Ea (.av [.int .i64 v3.1,.bool v3.2],I):=jii h4
 rcases qc h with⟨h5,h⟩|⟨h5,h⟩
 ·rw[h5]at cT
  rcases qc h with⟨h6,h⟩|⟨h6,h⟩
  ·rw[h6]at nY
   obtain⟨v7,h8,h⟩:=qa h
   have eQ:ae ak (X ak) 44 [.str v1.2.1,.str ([32]:List UInt8)]=Ea (sl 1 qv v7,I):=W44 h8
   obtain⟨v9,iu,h⟩:=qa h
   have dT:ae ak (X ak) 102 [sl 1 qv v7,.int .i64 v3.1]=Ea (.av [.agg [.int .i64 v9.1.number,.str v9.1.kind,sl 1 qv v9.1.names,sl 1 qx v9.1.values,.str v9.1.text],.bool v9.2],I):=j0c iu
   rcases qc h with⟨de,h⟩|⟨de,h⟩
   ·rw[de]at dT
    obtain⟨v12,dM,h⟩:=qa h
    have gG:ae ak (X ak) 47 [.agg [.int .i64 v9.1.number,.str v9.1.kind,sl 1 qv v9.1.names,sl 1 qx v9.1.values,.str v9.1.text]]=Ea (.int .i64 v12,I):=jho dM
    have hr:(v9.1,decide (v12=0))=r:=Ea.inj h
    subst hr
    have this:∃hh,ah ak (X ak) 142 [.str a0] []=Ea (.av [.agg [.int .i64 v9.1.number,.str v9.1.kind,sl 1 qv v9.1.names,sl 1 qx v9.1.values,.str v9.1.text],.bool (decide (v12=0))],I,hh):=by
     rw[qn (show ak.bn 142=Ea hU from rfl) (by simp)]
     simp only[go_sem,seval,hU,cT,nY,h5,h6,eQ,dT,de,gG]
     exact⟨_,rfl⟩
    obtain⟨hh,this⟩:=this
    exact qm rfl this (by first|rfl|simp only[go_sem,seval]) (by first|rfl|simp only[go_sem,seval])
   ·rw[de]at dT
    have hr:(v9.1,I)=r:=Ea.inj h
    subst hr
    have this:∃hh,ah ak (X ak) 142 [.str a0] []=Ea (.av [.agg [.int .i64 v9.1.number,.str v9.1.kind,sl 1 qv v9.1.names,sl 1 qx v9.1.values,.str v9.1.text],.bool I],I,hh):=by
     rw[qn (show ak.bn 142=Ea hU from rfl) (by simp)]
     simp only[go_sem,seval,hU,cT,nY,h5,h6,eQ,dT,de]
     exact⟨_,rfl⟩
    obtain⟨hh,this⟩:=this
    exact qm rfl this (by first|rfl|simp only[go_sem,seval]) (by first|rfl|simp only[go_sem,seval])
  ·rw[h6]at nY
   have hr:(⟨0,[],Eb,Eb,[]⟩,I)=r:=Ea.inj h
   subst hr
   have this:∃hh,ah ak (X ak) 142 [.str a0] []=Ea (.av [.agg [.int .i64 0,.str [],.list Ec 0 [],.list Ec 0 [],.str []],.bool I],I,hh):=by
    rw[qn (show ak.bn 142=Ea hU from rfl) (by simp)]
    simp only[go_sem,seval,hU,cT,nY,h5,h6]
    exact⟨_,rfl⟩
   obtain⟨hh,this⟩:=this
   exact qm rfl this (by first|rfl|simp only[go_sem,seval]) (by first|rfl|simp only[go_sem,seval])
 ·rw[h5]at cT
  have hr:(⟨0,[],Eb,Eb,[]⟩,I)=r:=Ea.inj h
  subst hr
  have this:∃hh,ah ak (X ak) 142 [.str a0] []=Ea (.av [.agg [.int .i64 0,.str [],.list Ec 0 [],.list Ec 0 [],.str []],.bool I],I,hh):=by
   rw[qn (show ak.bn 142=Ea hU from rfl) (by simp)]
   simp only[go_sem,seval,hU,cT,nY,h5]
   exact⟨_,rfl⟩
  obtain⟨hh,this⟩:=this
  exact qm rfl this (by first|rfl|simp only[go_sem,seval]) (by first|rfl|simp only[go_sem,seval])
def f85 (a0:List UInt8)(a1:Int):Option (aT×Int):=
 cond (decide ((qh .i64 ((a0.length:Int)-8))<0))
  (Ea (⟨0,[],Eb,Eb,[]⟩,26))
  (qe (jn a0 (qh .i64 ((a0.length:Int)-8))) fun v2=>
  cond (decide ((v2.toNat:Int)=35))
   (qe (kc a0 (Ea (qh .i64 ((qh .i64 ((a0.length:Int)-8))+1))) Eb) fun v5=>
   qe (Fp v5) fun v7=>
   cond v7
    (Ea (⟨0,[],Eb,Eb,[]⟩,26))
    (qe (kc a0 Eb (Ea (qh .i64 ((a0.length:Int)-8)))) fun v10=>
    qe (f138 v10) fun v12=>
    cond (decide (v5=v12))
     (qe (Fx v10) fun eF=>
     qe (f48 (!eF.2) 26) fun iT=>
     qe (f48 (!decide (eF.1.number=(qh .i64 (a1+1)))) 11) fun mQ=>
     qe (f46 (Ea [iT,mQ])) fun v21=>
     cond (decide (v21=0))
      (Ea (eF.1,0))
      (Ea (⟨0,[],Eb,Eb,[]⟩,v21)))
     (Ea (⟨0,[],Eb,Eb,[]⟩,28))))
   (Ea (⟨0,[],Eb,Eb,[]⟩,26)))
theorem W85 {a0:List UInt8}{a1:Int}{r}(h:f85 a0 a1=Ea r):ae ak (X ak) 85 [.str a0,.int .i64 a1]=Ea (.av [.agg [.int .i64 r.1.number,.str r.1.kind,sl 1 qv r.1.names,sl 1 qx r.1.values,.str r.1.text],.int .i64 r.2],I):=by
 unfold f85 at h
 rcases qc h with⟨h1,h⟩|⟨h1,h⟩
 ·have hr:(⟨0,[],Eb,Eb,[]⟩,26)=r:=Ea.inj h
  subst hr
  have this:∃hh,ah ak (X ak) 85 [.str a0,.int .i64 a1] []=Ea (.av [.agg [.int .i64 0,.str [],.list Ec 0 [],.list Ec 0 [],.str []],.int .i64 26],I,hh):=by
   rw[qn (show ak.bn 85=Ea lU from rfl) (by simp)]
   simp only[go_sem,seval,lU,h1]
   exact⟨_,rfl⟩
  obtain⟨hh,this⟩:=this
  exact qm rfl this (by first|rfl|simp only[go_sem,seval]) (by first|rfl|simp only[go_sem,seval])
 ·obtain⟨v2,h3,h⟩:=qa h
  rcases qc h with⟨h4,h⟩|⟨h4,h⟩
  ·obtain⟨v5,h6,h⟩:=qa h
   obtain⟨v7,h8,h⟩:=qa h
   have eQ:ae ak (X ak) 140 [.str v5,.fn (.func 141) [] []]=Ea (.bool v7,I):=jzm h8
   rcases qc h with⟨h9,h⟩|⟨h9,h⟩
   ·have hr:(⟨0,[],Eb,Eb,[]⟩,26)=r:=Ea.inj h
    subst hr
    have this:∃hh,ah ak (X ak) 85 [.str a0,.int .i64 a1] []=Ea (.av [.agg [.int .i64 0,.str [],.list Ec 0 [],.list Ec 0 [],.str []],.int .i64 26],I,hh):=by
     rw[qn (show ak.bn 85=Ea lU from rfl) (by simp)]
     simp only[go_sem,seval,lU,h1,jk h3,h4,zw h6,eQ,h9]
     exact⟨_,rfl⟩
    obtain⟨hh,this⟩:=this
    exact qm rfl this (by first|rfl|simp only[go_sem,seval]) (by first|rfl|simp only[go_sem,seval])
   ·obtain⟨v10,de,h⟩:=qa h
    obtain⟨v12,dM,h⟩:=qa h
    have gG:ae ak (X ak) 138 [.str v10]=Ea (.str v12,I):=jhn dM
    rcases qc h with⟨dw,h⟩|⟨dw,h⟩
    ·obtain⟨eF,jY,h⟩:=qa h
     have dx:ae ak (X ak) 142 [.str v10]=Ea (.av [.agg [.int .i64 eF.1.number,.str eF.1.kind,sl 1 qv eF.1.names,sl 1 qx eF.1.values,.str eF.1.text],.bool eF.2],I):=jy1 jY
     obtain⟨iT,mN,h⟩:=qa h
     have fc:ae ak (X ak) 48 [.bool (!eF.2),.int .i64 26]=Ea (.int .i64 iT,I):=QS mN
     obtain⟨mQ,jW,h⟩:=qa h
     have iz:ae ak (X ak) 48 [.bool (!decide (eF.1.number=(qh .i64 (a1+1)))),.int .i64 11]=Ea (.int .i64 mQ,I):=QS jW
     obtain⟨v21,gj,h⟩:=qa h
     have Fy:ae ak (X ak) 46 [.list I 1 [.int .i64 iT,.int .i64 mQ]]=Ea (.int .i64 v21,I):=jj0 gj
     rcases qc h with⟨gX,h⟩|⟨gX,h⟩
     ·have hr:(eF.1,0)=r:=Ea.inj h
      subst hr
      have this:∃hh,ah ak (X ak) 85 [.str a0,.int .i64 a1] []=Ea (.av [.agg [.int .i64 eF.1.number,.str eF.1.kind,sl 1 qv eF.1.names,sl 1 qx eF.1.values,.str eF.1.text],.int .i64 0],I,hh):=by
       rw[qn (show ak.bn 85=Ea lU from rfl) (by simp)]
       simp only[go_sem,seval,lU,h1,jk h3,h4,zw h6,eQ,h9,rC de,gG,dw,dx,fc,iz,Fy,gX]
       exact⟨_,rfl⟩
      obtain⟨hh,this⟩:=this
      exact qm rfl this (by first|rfl|simp only[go_sem,seval]) (by first|rfl|simp only[go_sem,seval])
     ·have hr:(⟨0,[],Eb,Eb,[]⟩,v21)=r:=Ea.inj h
      subst hr
      have this:∃hh,ah ak (X ak) 85 [.str a0,.int .i64 a1] []=Ea (.av [.agg [.int .i64 0,.str [],.list Ec 0 [],.list Ec 0 [],.str []],.int .i64 v21],I,hh):=by
       rw[qn (show ak.bn 85=Ea lU from rfl) (by simp)]
       simp only[go_sem,seval,lU,h1,jk h3,h4,zw h6,eQ,h9,rC de,gG,dw,dx,fc,iz,Fy,gX]
       exact⟨_,rfl⟩
      obtain⟨hh,this⟩:=this
      exact qm rfl this (by first|rfl|simp only[go_sem,seval]) (by first|rfl|simp only[go_sem,seval])
    ·have hr:(⟨0,[],Eb,Eb,[]⟩,28)=r:=Ea.inj h
     subst hr
     have this:∃hh,ah ak (X ak) 85 [.str a0,.int .i64 a1] []=Ea (.av [.agg [.int .i64 0,.str [],.list Ec 0 [],.list Ec 0 [],.str []],.int .i64 28],I,hh):=by
      rw[qn (show ak.bn 85=Ea lU from rfl) (by simp)]
      simp only[go_sem,seval,lU,h1,jk h3,h4,zw h6,eQ,h9,rC de,gG,dw]
      exact⟨_,rfl⟩
     obtain⟨hh,this⟩:=this
     exact qm rfl this (by first|rfl|simp only[go_sem,seval]) (by first|rfl|simp only[go_sem,seval])
  ·have hr:(⟨0,[],Eb,Eb,[]⟩,26)=r:=Ea.inj h
   subst hr
   have this:∃hh,ah ak (X ak) 85 [.str a0,.int .i64 a1] []=Ea (.av [.agg [.int .i64 0,.str [],.list Ec 0 [],.list Ec 0 [],.str []],.int .i64 26],I,hh):=by
    rw[qn (show ak.bn 85=Ea lU from rfl) (by simp)]
    simp only[go_sem,seval,lU,h1,jk h3,h4]
    exact⟨_,rfl⟩
   obtain⟨hh,this⟩:=this
   exact qm rfl this (by first|rfl|simp only[go_sem,seval]) (by first|rfl|simp only[go_sem,seval])
def pC (a0:List UInt8)(s0:(Option (List aT))×Int×Bool):Option (((Option (List aT))×Int×Bool)⊕(((Option (List aT))×Bool×Int×Int)⊕((Option (List aT))×Bool×Int))):=
 cond (decide (s0.2.1<(a0.length:Int)))
  (qe (kc a0 (Ea s0.2.1) Eb) fun wD=>
  qe (f84 wD ([10]:List UInt8)) fun gE=>
  cond gE.2.2
   (qe (f85 gE.1 ((s0.1.getD []).length:Int)) fun hY=>
   cond (decide (hY.2=0))
    (cond s0.2.2
     (qe (cK s0.1 [hY.1]) fun pD=>
     Ea (.inl (pD,qh .i64 (s0.2.1+(qh .i64 ((gE.1.length:Int)+1))),Ec)))
     (cond s0.1.isNone
      (qe (cK s0.1 [hY.1]) fun nZ=>
      Ea (.inl (nZ,qh .i64 (s0.2.1+(qh .i64 ((gE.1.length:Int)+1))),Ec)))
      (Eb)))
    (Ea (.inr (.inl (s0.1,s0.2.2,s0.2.1,hY.2)))))
   (Ea (.inr (.inl (s0.1,s0.2.2,s0.2.1,29)))))
  (Ea (.inr (.inr (s0.1,s0.2.2,s0.2.1))))
def wE (a0:List UInt8)(s0:(Option (List aT))×Int×Bool):aV:=⟨[(0,.str a0,I),(5,sl 5 bX s0.1,s0.2.2),(6,.int .i64 s0.2.1,I)],[]⟩
def Fz (a0:List UInt8):((Option (List aT))×Bool×Int×Int)⊕((Option (List aT))×Bool×Int)→je×aV
 | .inl d=>(.ret,⟨[(2,sl 5 bX d.1,d.2.1),(3,.int .i64 d.2.2.1,I),(4,.int .i64 d.2.2.2,I)],[]⟩)
 | .inr d=>(.exit 0,⟨[(0,.str a0,I),(5,sl 5 bX d.1,d.2.1),(6,.int .i64 d.2.2,I),(18,.bool I,I)],[]⟩)
theorem jom (a0:List UInt8)(s0:(Option (List aT))×Int×Bool)(r)(h:pC a0 s0=Ea r):zd ak rF (wE a0) (Fz a0) s0 r:=by
 unfold pC at h
 rcases qc h with⟨ez,h⟩|⟨ez,h⟩
 ·obtain⟨wD,dW,h⟩:=qa h
  obtain⟨gE,dS,h⟩:=qa h
  have ep:ae ak (X ak) 84 [.str wD,.str ([10]:List UInt8)]=Ea (.av [.str gE.1,.str gE.2.1,.bool gE.2.2],I):=W84 dS
  rcases qc h with⟨eE,h⟩|⟨eE,h⟩
  ·rw[eE]at ep
   obtain⟨hY,mP,h⟩:=qa h
   have wF:ae ak (X ak) 85 [.str gE.1,.int .i64 ((s0.1.getD []).length:Int)]=Ea (.av [.agg [.int .i64 hY.1.number,.str hY.1.kind,sl 1 qv hY.1.names,sl 1 qx hY.1.values,.str hY.1.text],.int .i64 hY.2],I):=W85 mP
   rcases qc h with⟨fk,h⟩|⟨fk,h⟩
   ·rcases qc h with⟨du,h⟩|⟨du,h⟩
    ·obtain⟨pD,gF,h⟩:=qa h
     cases h
     exact jp (aN:=⟨[(0,.str a0,I),(5,sl 5 bX pD,Ec),(6,.int .i64 (qh .i64 (s0.2.1+(qh .i64 ((gE.1.length:Int)+1)))),I)],[]⟩) (by simp only[go_sem,seval,rF,wE,ez,zw dW,ep,eE,wF,fk,du,tQ gF]<;>rfl) (ju (Ek _))
    ·rcases qc h with⟨hO,h⟩|⟨hO,h⟩
     ·obtain⟨nZ,gP,h⟩:=qa h
      cases h
      exact jp (aN:=⟨[(0,.str a0,I),(5,sl 5 bX nZ,Ec),(6,.int .i64 (qh .i64 (s0.2.1+(qh .i64 ((gE.1.length:Int)+1)))),I)],[]⟩) (by simp only[go_sem,seval,rF,wE,ez,zw dW,ep,eE,wF,fk,du,hO,ZP gP hO]<;>rfl) (ju (Ek _))
     ·cases h
   ·cases h
    exact qy (by simp only[go_sem,seval,rF,wE,ez,zw dW,ep,eE,wF,fk,Fz]<;>rfl)
  ·rw[eE]at ep
   cases h
   exact qy (by simp only[go_sem,seval,rF,wE,ez,zw dW,ep,eE,Fz]<;>rfl)
 ·cases h
  exact qy (by simp only[go_sem,seval,rF,wE,ez,Fz]<;>rfl)
theorem jch (a0:List UInt8){s0:(Option (List aT))×Int×Bool}{d}(h:bq (pC a0) s0=Ea d):X ak (.loop rF) (wE a0 s0)=Ea (Fz a0 d):=ki (jom a0) (fun d=>by rcases d with d|d<;>(intro hh;cases hh)) h
def f30 (a0:List UInt8):Option ((Option (List aT))×Int×Int):=
 cond (decide (1000000<(a0.length:Int)))
  (Ea (Eb,0,27))
  (qe (bq (pC a0) (Eb,0,I)) fun d41=>match d41 with
   | .inl d43=>
    Ea (d43.1,d43.2.2.1,d43.2.2.2)
   | .inr d44=>
    Ea (d44.1,d44.2.2,0))
theorem W30 {a0:List UInt8}{r}(h:f30 a0=Ea r):ae ak (X ak) 30 [.str a0]=Ea (.av [sl 5 bX r.1,.int .i64 r.2.1,.int .i64 r.2.2],I):=by
 unfold f30 at h
 rcases qc h with⟨h1,h⟩|⟨h1,h⟩
 ·have hr:(Eb,0,27)=r:=Ea.inj h
  subst hr
  have this:∃hh,ah ak (X ak) 30 [.str a0] []=Ea (.av [.list Ec 0 [],.int .i64 0,.int .i64 27],I,hh):=by
   rw[qn (show ak.bn 30=Ea sG from rfl) (by simp)]
   simp only[go_sem,seval,sG,h1]
   exact⟨_,rfl⟩
  obtain⟨hh,this⟩:=this
  exact qm rfl this (by first|rfl|simp only[go_sem,seval]) (by first|rfl|simp only[go_sem,seval])
 ·obtain⟨d41,lq,h⟩:=qa h
  rcases d41 with d43|d44
  ·have lV:X ak (.loop rF) ⟨[(0,.str a0,I),(5,.list Ec 0 [],I),(6,.int .i64 0,I)],[]⟩=Ea (.ret,⟨[(2,sl 5 bX d43.1,d43.2.1),(3,.int .i64 d43.2.2.1,I),(4,.int .i64 d43.2.2.2,I)],[]⟩):=jch a0 lq
   have hr:(d43.1,d43.2.2.1,d43.2.2.2)=r:=Ea.inj h
   subst hr
   have this:∃hh,ah ak (X ak) 30 [.str a0] []=Ea (.av [sl 5 bX d43.1,.int .i64 d43.2.2.1,.int .i64 d43.2.2.2],I,hh):=by
    rw[qn (show ak.bn 30=Ea sG from rfl) (by simp)]
    simp only[go_sem,seval,sG,h1,lV]
    exact⟨_,rfl⟩
   obtain⟨hh,this⟩:=this
   exact qm rfl this (by first|rfl|simp only[go_sem,seval]) (by first|rfl|simp only[go_sem,seval])
  ·have lV:X ak (.loop rF) ⟨[(0,.str a0,I),(5,.list Ec 0 [],I),(6,.int .i64 0,I)],[]⟩=Ea (.exit 0,⟨[(0,.str a0,I),(5,sl 5 bX d44.1,d44.2.1),(6,.int .i64 d44.2.2,I),(18,.bool I,I)],[]⟩):=jch a0 lq
   have hr:(d44.1,d44.2.2,0)=r:=Ea.inj h
   subst hr
   have this:∃hh,ah ak (X ak) 30 [.str a0] []=Ea (.av [sl 5 bX d44.1,.int .i64 d44.2.2,.int .i64 0],I,hh):=by
    rw[qn (show ak.bn 30=Ea sG from rfl) (by simp)]
    simp only[go_sem,seval,sG,h1,lV]
    exact⟨_,rfl⟩
   obtain⟨hh,this⟩:=this
   exact qm rfl this (by first|rfl|simp only[go_sem,seval]) (by first|rfl|simp only[go_sem,seval])
def f29 (a0:List UInt8)(a1:aT):Option ((List UInt8)×Int):=
 qe (f30 a0) fun v1=>
 qe (f47 a1) fun v3=>
 qe (f48 (!decide (a1.number=(qh .i64 (((v1.1.getD []).length:Int)+1)))) 11) fun v5=>
 qe (f46 (Ea [v1.2.2,v3,v5])) fun v7=>
 cond (decide (v7=0))
  (qe (f83 a1) fun v10=>
  qe (kr a0 v10) fun v12=>
  cond (decide (1000000<(v12.length:Int)))
   (Ea ([],27))
   (Ea (v12,0)))
  (Ea ([],v7))
theorem W29 {a0:List UInt8}{a1:aT}{r}(h:f29 a0 a1=Ea r):ae ak (X ak) 29 [.str a0,.agg [.int .i64 a1.number,.str a1.kind,sl 1 qv a1.names,sl 1 qx a1.values,.str a1.text]]=Ea (.av [.str r.1,.int .i64 r.2],I):=by
 unfold f29 at h
 obtain⟨v1,h2,h⟩:=qa h
 have cT:ae ak (X ak) 30 [.str a0]=Ea (.av [sl 5 bX v1.1,.int .i64 v1.2.1,.int .i64 v1.2.2],I):=W30 h2
 obtain⟨v3,h4,h⟩:=qa h
 have nY:ae ak (X ak) 47 [.agg [.int .i64 a1.number,.str a1.kind,sl 1 qv a1.names,sl 1 qx a1.values,.str a1.text]]=Ea (.int .i64 v3,I):=jho h4
 obtain⟨v5,h6,h⟩:=qa h
 have iR:ae ak (X ak) 48 [.bool (!decide (a1.number=(qh .i64 (((v1.1.getD []).length:Int)+1)))),.int .i64 11]=Ea (.int .i64 v5,I):=QS h6
 obtain⟨v7,h8,h⟩:=qa h
 have eQ:ae ak (X ak) 46 [.list I 1 [.int .i64 v1.2.2,.int .i64 v3,.int .i64 v5]]=Ea (.int .i64 v7,I):=jj0 h8
 rcases qc h with⟨h9,h⟩|⟨h9,h⟩
 ·obtain⟨v10,de,h⟩:=qa h
  have pB:ae ak (X ak) 83 [.agg [.int .i64 a1.number,.str a1.kind,sl 1 qv a1.names,sl 1 qx a1.values,.str a1.text]]=Ea (.str v10,I):=W83 de
  obtain⟨v12,dM,h⟩:=qa h
  rcases qc h with⟨dw,h⟩|⟨dw,h⟩
  ·have hr:([],27)=r:=Ea.inj h
   subst hr
   have this:∃hh,ah ak (X ak) 29 [.str a0,.agg [.int .i64 a1.number,.str a1.kind,sl 1 qv a1.names,sl 1 qx a1.values,.str a1.text]] []=Ea (.av [.str [],.int .i64 27],I,hh):=by
    rw[qn (show ak.bn 29=Ea sH from rfl) (by simp)]
    simp only[go_sem,seval,sH,cT,nY,iR,eQ,h9,pB,yr dM,dw]
    exact⟨_,rfl⟩
   obtain⟨hh,this⟩:=this
   exact qm rfl this (by first|rfl|simp only[go_sem,seval]) (by first|rfl|simp only[go_sem,seval])
  ·have hr:(v12,0)=r:=Ea.inj h
   subst hr
   have this:∃hh,ah ak (X ak) 29 [.str a0,.agg [.int .i64 a1.number,.str a1.kind,sl 1 qv a1.names,sl 1 qx a1.values,.str a1.text]] []=Ea (.av [.str v12,.int .i64 0],I,hh):=by
    rw[qn (show ak.bn 29=Ea sH from rfl) (by simp)]
    simp only[go_sem,seval,sH,cT,nY,iR,eQ,h9,pB,yr dM,dw]
    exact⟨_,rfl⟩
   obtain⟨hh,this⟩:=this
   exact qm rfl this (by first|rfl|simp only[go_sem,seval]) (by first|rfl|simp only[go_sem,seval])
 ·have hr:([],v7)=r:=Ea.inj h
  subst hr
  have this:∃hh,ah ak (X ak) 29 [.str a0,.agg [.int .i64 a1.number,.str a1.kind,sl 1 qv a1.names,sl 1 qx a1.values,.str a1.text]] []=Ea (.av [.str [],.int .i64 v7],I,hh):=by
   rw[qn (show ak.bn 29=Ea sH from rfl) (by simp)]
   simp only[go_sem,seval,sH,cT,nY,iR,eQ,h9]
   exact⟨_,rfl⟩
  obtain⟨hh,this⟩:=this
  exact qm rfl this (by first|rfl|simp only[go_sem,seval]) (by first|rfl|simp only[go_sem,seval])
end Go.Z
end
