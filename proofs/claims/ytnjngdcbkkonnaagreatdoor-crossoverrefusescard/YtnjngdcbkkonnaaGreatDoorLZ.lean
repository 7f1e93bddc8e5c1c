/- The program with the result of the fixed examples. -/
import Derived.Test.YtnjngdcbkkonnaaGreatDoorA2
import Derived.Test.YtnjngdcbkkonnaaGreatDoorTK
import Derived.Test.YtnjngdcbkkonnaaGreatDoorA21
set_option linter.unusedVariables false
set_option linter.unusedSimpArgs false
set_option maxRecDepth 100000
noncomputable section
namespace Go.Z
open Go Go.Abs Go.Proofs
def tAw:List qa→Option (qa×Bool)
 | []=>some (.bool true,false)
 |_=>none
def E16:Option Bool:=some true
@[go_sem] theorem jva {n:Nat}{x:qa}:Abs.below n (.vptr x)=Abs.below n x:=by simp only[Abs.below]
end Go.Z
namespace Go.Z
open Go Go.Abs Go.Proofs
def opY (k:Nat):Bool:=[3,4,5,6,7,8,9,10,11,12,13,14,15].any (Nat.beq k)
def q7w:qil:=fun k=>bif Nat.beq k 16 then some tAw else none
def prY:qn:=qb9 prT q7w opY
theorem okY:qu Tryz.prog prY:=qwc okT (by
 intro k f hf
 simp only[q7w,Bool.cond_eq_ite]at hf
 split at hf
 ·next hb=>
  cases hf
  obtain rfl:=Nat.eq_of_beq_eq_true hb
  refine⟨qcw (k:=16) (by kernel_rfl),fun args v o h _ _=>?_⟩
  cases args with
  |nil=>cases h;exact q98
  |cons a l=>cases h
 ·cases hf)
theorem atY {k:Nat}(ho:opY k=false)(hm:q7w k=none){args:List qa}{v:qa}{o:Bool}(h:j7 prT (X prT) k args=some (v,o))(hv:Abs.below 0 v=true):j7 prY (X prY) k args=some (v,o):=qw1 ho hm h hv
theorem Y16 {r}(h:E16=some r):j7 prY (X prY) 16 []=some (.bool r,false):=by
 cases h
 exact qrg (f:=tAw) rfl rfl rfl rfl
set_option maxHeartbeats 4000000
theorem Y24 {a0:TP}{r}(h:f24 a0=some r):j7 prY (X prY) 24 [sl 8 zi a0]=some (sl 8 zi r.1,r.2):=atY rfl rfl (atT rfl rfl (W24 h) (by first|rfl|simp only[go_sem,seval])) (by first|rfl|simp only[go_sem,seval])
theorem Y25 {a0:TP}{r}(h:f25 a0=some r):j7 prY (X prY) 25 [sl 8 zi a0]=some (Iv r,false):=atY rfl rfl (atT rfl rfl (W25 h) (by first|rfl|simp only[go_sem,seval])) (by first|rfl|simp only[go_sem,seval])
theorem Y32 {a0:TI}{r}(h:f32 a0=some r):j7 prY (X prY) 32 [sl 1 zh a0]=some (Iv r,false):=atY rfl rfl (atT rfl rfl (W32 h) (by first|rfl|simp only[go_sem,seval])) (by first|rfl|simp only[go_sem,seval])
theorem Y36 {a0:TP}{a1:TB}{a2:Int}{r}(h:f36 a0 a1 a2=some r):j7 prY (X prY) 36 [sl 8 zi a0,sl 5 yg a1,Iv a2]=some (.bool r,false):=atY rfl rfl (atT rfl rfl (W36 h) (by first|rfl|simp only[go_sem,seval])) (by first|rfl|simp only[go_sem,seval])
theorem Y38 {a0:TB}{r}(h:f38 a0=some r):j7 prY (X prY) 38 [sl 5 yg a0]=some (sl 5 yg r.1,r.2):=atY rfl rfl (atT rfl rfl (W38 h) (by first|rfl|simp only[go_sem,seval])) (by first|rfl|simp only[go_sem,seval])
theorem Y39 {a0:TB}{r}(h:f39 a0=some r):j7 prY (X prY) 39 [sl 5 yg a0]=some (Iv r,false):=atY rfl rfl (atT rfl rfl (W39 h) (by first|rfl|simp only[go_sem,seval])) (by first|rfl|simp only[go_sem,seval])
theorem Y40 {a0:Int}{a1:Int}{a2:Int}{r}(h:f40 a0 a1 a2=some r):j7 prY (X prY) 40 [Iv a0,Iv a1,Iv a2]=some (Iv r,false):=atY rfl rfl (atT rfl rfl (W40 h) (by first|rfl|simp only[go_sem,seval])) (by first|rfl|simp only[go_sem,seval])
theorem Y44 {a0:TE}{r}(h:f44 a0=some r):j7 prY (X prY) 44 [sl 3 vel a0]=some (.bool r,false):=atY rfl rfl (atT rfl rfl (W44 h) (by first|rfl|simp only[go_sem,seval])) (by first|rfl|simp only[go_sem,seval])
theorem Y86 {a0:Option (List qj)}{r}(h:f86 a0=some r):j7 prY (X prY) 86 [sl 3 kj a0]=some (sl 3 kj r.1,r.2):=atY rfl rfl (atT rfl rfl (W86 h) (by first|rfl|simp only[go_sem,seval])) (by first|rfl|simp only[go_sem,seval])
theorem Y89 {a0:Option (List qj)}{a1:Option (List qj)}{r}(h:f89 a0 a1=some r):j7 prY (X prY) 89 [sl 3 kj a0,sl 3 kj a1]=some (.bool r,false):=atY rfl rfl (atT rfl rfl (W89 h) (by first|rfl|simp only[go_sem,seval])) (by first|rfl|simp only[go_sem,seval])
theorem Y90 {a0:Option (List qj)}{r}(h:f90 a0=some r):j7 prY (X prY) 90 [sl 3 kj a0]=some (sl 3 kj r.1,r.2):=atY rfl rfl (atT rfl rfl (W90 h) (by first|rfl|simp only[go_sem,seval])) (by first|rfl|simp only[go_sem,seval])
theorem Y84 {a0:TP}{a1:TB}{a2:Int}{r}(h:f84 a0 a1 a2=some r):j7 prY (X prY) 84 [sl 8 zi a0,sl 5 yg a1,Iv a2]=some (.tup [sl 3 kj r.1,Iv r.2],false):=atY rfl rfl (W84 h) (by first|rfl|simp only[go_sem,seval])
theorem Y85 {a0:TP}{a1:TB}{a2:Int}{a3:Option (List qj)}{r}(h:f85 a0 a1 a2 a3=some r):j7 prY (X prY) 85 [sl 8 zi a0,sl 5 yg a1,Iv a2,sl 3 kj a3]=some (Iv r,false):=atY rfl rfl (W85 h) (by first|rfl|simp only[go_sem,seval])
theorem Y87 {a0:TP}{a1:TB}{a2:Int}{r}(h:f87 a0 a1 a2=some r):j7 prY (X prY) 87 [sl 8 zi a0,sl 5 yg a1,Iv a2]=some (.tup [sl 3 kj r.1,.bool r.2],false):=atY rfl rfl (W87 h) (by first|rfl|simp only[go_sem,seval])
theorem Y88 {a0:TP}{a1:TB}{a2:Int}{a3:Option (List qj)}{r}(h:f88 a0 a1 a2 a3=some r):j7 prY (X prY) 88 [sl 8 zi a0,sl 5 yg a1,Iv a2,sl 3 kj a3]=some (Iv r,false):=atY rfl rfl (W88 h) (by first|rfl|simp only[go_sem,seval])
def qj5 (a0:je)(a1:Option (List qj))(s0:Int):Option (Int⊕((TI×Int×TE)⊕Int)):=
 cond (decide (s0<((a1.getD []).length:Int)))
  (j5 (yd (a1.getD []) s0) fun v23=>
  cond (decide (6<((v23.choice.getD []).length:Int)))
   (some (.inr (.inl (v23.choice,v23.rband,v23.rladder))))
   (j5 (f44 v23.rladder) fun v26=>
   cond v26
    (some (.inl (za .i64 (s0+1))))
    (some (.inr (.inl (v23.choice,v23.rband,v23.rladder))))))
  (some (.inr (.inr s0)))
def qft (a0:je)(a1:Option (List qj))(s0:Int):qc:=⟨[(1,sl 3 kj a1,false),(2,.vptr (.agg [sl 8 zi a0.parts,sl 5 yg a0.bands,Iv a0.n]),false),(33,sl 3 kj a1,false),(34,Lv a1,false),(35,Iv s0,false)],[]⟩
def ql0 (a0:je)(a1:Option (List qj)):(TI×Int×TE)⊕Int→qi×qc
 | .inl d=>(.ret,⟨[(4,.bool true,false)],[.cells [(sl 1 zh d.1,false),(Iv d.2.1,false),(sl 3 vel d.2.2,false)]]⟩)
 | .inr d=>(.exit 0,⟨[(1,sl 3 kj a1,false),(2,.vptr (.agg [sl 8 zi a0.parts,sl 5 yg a0.bands,Iv a0.n]),false),(33,sl 3 kj a1,false),(34,Lv a1,false),(35,Iv d,false),(36,.bool false,false)],[]⟩)
theorem js7 (a0:je)(a1:Option (List qj))(s0:Int)(r)(h:qj5 a0 a1 s0=some r):yh prY qqc (qft a0 a1) (ql0 a0 a1) s0 r:=by
 unfold qj5 at h
 rcases j0 h with⟨h22,h⟩|⟨h22,h⟩
 ·obtain⟨v23,h24,h⟩:=jz h
  rcases j0 h with⟨h25,h⟩|⟨h25,h⟩
  ·cases h
   exact j8 (by simp only[go_sem,seval,qqc,qft,h22,zf h24,h25,ql0]<;>rfl)
  obtain⟨v26,h27,h⟩:=jz h
  have wh27:=Y44 h27
  rcases j0 h with⟨h28,h⟩|⟨h28,h⟩
  ·cases h
   exact ko (by simp only[go_sem,seval,qqc,qft,h22,zf h24,h25,wh27,h28];exact⟨_,rfl⟩) rfl (by first|simp only[go_sem,seval,qft]|rfl) (by first|simp only[go_sem,seval,qft]|rfl)
  cases h
  exact j8 (by simp only[go_sem,seval,qqc,qft,h22,zf h24,h25,wh27,h28,ql0]<;>rfl)
 cases h
 exact j8 (by simp only[go_sem,seval,qqc,qft,h22,ql0]<;>rfl)
theorem jf6 (a0:je)(a1:Option (List qj)){s0:Int}{d}(h:itO (qj5 a0 a1) s0=some d):X prY (.loop qqc) (qft a0 a1 s0)=some (ql0 a0 a1 d):=yo (js7 a0 a1) (fun d=>by rcases d with d|d<;>(intro hh;cases hh)) h
def f12 (a0:je)(a1:Option (List qj)):Option Bool:=
 j5 (E16) fun v1=>
 cond v1
  (j5 (f36 a0.parts a0.bands a0.n) fun v4=>
  cond v4
   (cond (decide (100<((a1.getD []).length:Int)))
    (some v1)
    (j5 (itO (qj5 a0 a1) 0) fun d29=>match d29 with
     | .inl d31=>
      some true
     | .inr d32=>
      j5 (f24 a0.parts) fun v33=>
      j5 (f38 a0.bands) fun v35=>
      j5 (f84 v33.1 v35.1 a0.n) fun v37=>
      j5 (f86 a1) fun v39=>
      j5 (f85 v33.1 v35.1 a0.n v39.1) fun v41=>
      j5 (f25 a0.parts) fun v43=>
      j5 (f39 a0.bands) fun v45=>
      j5 (f40 a0.n 0 3) fun v47=>
      j5 (f32 (some [v43,v45,v47])) fun v49=>
      cond (decide (v49=0))
       (j5 (f87 a0.parts a0.bands a0.n) fun v52=>
       cond v52.2
        (j5 (f88 a0.parts a0.bands a0.n a1) fun v55=>
        j5 (f90 v37.1) fun v57=>
        j5 (f89 v57.1 v52.1) fun v59=>
        cond v59
         (cond (decide (v37.2=v49))
          (some (decide (v41=v55)))
          (some false))
         (some false))
        (j5 (f88 a0.parts a0.bands a0.n a1) fun v63=>
        j5 (f90 v37.1) fun v65=>
        j5 (f89 v65.1 v52.1) fun v67=>
        cond v67
         (cond (decide (v37.2=30))
          (some (decide (v41=v63)))
          (some false))
         (some false)))
       (j5 (f90 v37.1) fun v71=>
       j5 (f89 v71.1 none) fun v73=>
       cond v73
        (cond (decide (v37.2=v49))
         (some (decide (v41=v49)))
         (some false))
        (some false))))
   (some v1))
  (some v1)
theorem W12 {a0:je}{a1:Option (List qj)}{r}(h:f12 a0 a1=some r):j7 prY (X prY) 12 [.agg [sl 8 zi a0.parts,sl 5 yg a0.bands,Iv a0.n],sl 3 kj a1]=some (.bool r,false):=by
 unfold f12 at h
 obtain⟨v1,h2,h⟩:=jz h
 rcases j0 h with⟨h3,h⟩|⟨h3,h⟩
 ·obtain⟨v4,h5,h⟩:=jz h
  have wh5:=Y36 h5
  rcases j0 h with⟨h6,h⟩|⟨h6,h⟩
  ·rcases j0 h with⟨h7,h⟩|⟨h7,h⟩
   ·obtain rfl:=oi h
    refine zg c12 ?_
    simp only[go_sem,seval,c12,Y16 h2,h3,wh5,h6,h7]
    exact⟨_,rfl⟩
   obtain⟨d29,h30,h⟩:=jz h
   rcases d29 with d31|d32
   ·have wh30:=jf6 a0 a1 h30
    dsimp only[qft,ql0]at wh30
    obtain rfl:=oi h
    refine zg c12 ?_
    simp only[go_sem,seval,c12,Y16 h2,h3,wh5,h6,h7,wh30]
    exact⟨_,rfl⟩
   have wh30:=jf6 a0 a1 h30
   dsimp only[qft,ql0]at wh30
   obtain⟨v33,h34,h⟩:=jz h
   have wh34:=Y24 h34
   obtain⟨v35,h36,h⟩:=jz h
   have wh36:=Y38 h36
   obtain⟨v37,h38,h⟩:=jz h
   have wh38:=Y84 h38
   obtain⟨v39,h40,h⟩:=jz h
   obtain⟨v41,h42,h⟩:=jz h
   have wh42:=Y85 h42
   obtain⟨v43,h44,h⟩:=jz h
   have wh44:=Y25 h44
   obtain⟨v45,h46,h⟩:=jz h
   have wh46:=Y39 h46
   obtain⟨v47,h48,h⟩:=jz h
   have wh48:=Y40 h48
   obtain⟨v49,h50,h⟩:=jz h
   have wh50:j7 prY (X prY) 32 [.list false 1 [Iv v43,Iv v45,Iv v47]]=some (Iv v49,false):=Y32 h50
   rcases j0 h with⟨h51,h⟩|⟨h51,h⟩
   ·obtain⟨v52,h53,h⟩:=jz h
    have wh53:=Y87 h53
    rcases j0 h with⟨h54,h⟩|⟨h54,h⟩
    ·obtain⟨v55,h56,h⟩:=jz h
     have wh56:=Y88 h56
     obtain⟨v57,h58,h⟩:=jz h
     have wh58:=Y90 h58
     obtain⟨v59,h60,h⟩:=jz h
     have wh60:=Y89 h60
     rcases j0 h with⟨h61,h⟩|⟨h61,h⟩
     ·rcases j0 h with⟨h62,h⟩|⟨h62,h⟩
      ·obtain rfl:=oi h
       refine zg c12 ?_
       simp only[go_sem,seval,c12,Y16 h2,h3,wh5,h6,h7,wh30,wh34,wh36,wh38,Y86 h40,wh42,wh44,wh46,wh48,wh50,h51,wh53,h54,wh56,wh58,wh60,h61,h62]
       exact⟨_,rfl⟩
      obtain rfl:=oi h
      refine zg c12 ?_
      simp only[go_sem,seval,c12,Y16 h2,h3,wh5,h6,h7,wh30,wh34,wh36,wh38,Y86 h40,wh42,wh44,wh46,wh48,wh50,h51,wh53,h54,wh56,wh58,wh60,h61,h62]
      exact⟨_,rfl⟩
     obtain rfl:=oi h
     refine zg c12 ?_
     simp only[go_sem,seval,c12,Y16 h2,h3,wh5,h6,h7,wh30,wh34,wh36,wh38,Y86 h40,wh42,wh44,wh46,wh48,wh50,h51,wh53,h54,wh56,wh58,wh60,h61]
     exact⟨_,rfl⟩
    obtain⟨v63,h64,h⟩:=jz h
    have wh64:=Y88 h64
    obtain⟨v65,h66,h⟩:=jz h
    have wh66:=Y90 h66
    obtain⟨v67,h68,h⟩:=jz h
    have wh68:=Y89 h68
    rcases j0 h with⟨h69,h⟩|⟨h69,h⟩
    ·rcases j0 h with⟨h70,h⟩|⟨h70,h⟩
     ·obtain rfl:=oi h
      refine zg c12 ?_
      simp only[go_sem,seval,c12,Y16 h2,h3,wh5,h6,h7,wh30,wh34,wh36,wh38,Y86 h40,wh42,wh44,wh46,wh48,wh50,h51,wh53,h54,wh64,wh66,wh68,h69,h70]
      exact⟨_,rfl⟩
     obtain rfl:=oi h
     refine zg c12 ?_
     simp only[go_sem,seval,c12,Y16 h2,h3,wh5,h6,h7,wh30,wh34,wh36,wh38,Y86 h40,wh42,wh44,wh46,wh48,wh50,h51,wh53,h54,wh64,wh66,wh68,h69,h70]
     exact⟨_,rfl⟩
    obtain rfl:=oi h
    refine zg c12 ?_
    simp only[go_sem,seval,c12,Y16 h2,h3,wh5,h6,h7,wh30,wh34,wh36,wh38,Y86 h40,wh42,wh44,wh46,wh48,wh50,h51,wh53,h54,wh64,wh66,wh68,h69]
    exact⟨_,rfl⟩
   obtain⟨v71,h72,h⟩:=jz h
   have wh72:=Y90 h72
   obtain⟨v73,h74,h⟩:=jz h
   have wh74:j7 prY (X prY) 89 [sl 3 kj v71.1,.list true 0 []]=some (.bool v73,false):=Y89 h74
   rcases j0 h with⟨h75,h⟩|⟨h75,h⟩
   ·rcases j0 h with⟨h76,h⟩|⟨h76,h⟩
    ·obtain rfl:=oi h
     refine zg c12 ?_
     simp only[go_sem,seval,c12,Y16 h2,h3,wh5,h6,h7,wh30,wh34,wh36,wh38,Y86 h40,wh42,wh44,wh46,wh48,wh50,h51,wh72,wh74,h75,h76]
     exact⟨_,rfl⟩
    obtain rfl:=oi h
    refine zg c12 ?_
    simp only[go_sem,seval,c12,Y16 h2,h3,wh5,h6,h7,wh30,wh34,wh36,wh38,Y86 h40,wh42,wh44,wh46,wh48,wh50,h51,wh72,wh74,h75,h76]
    exact⟨_,rfl⟩
   obtain rfl:=oi h
   refine zg c12 ?_
   simp only[go_sem,seval,c12,Y16 h2,h3,wh5,h6,h7,wh30,wh34,wh36,wh38,Y86 h40,wh42,wh44,wh46,wh48,wh50,h51,wh72,wh74,h75]
   exact⟨_,rfl⟩
  obtain rfl:=oi h
  refine zg c12 ?_
  simp only[go_sem,seval,c12,Y16 h2,h3,wh5,h6]
  exact⟨_,rfl⟩
 obtain rfl:=oi h
 refine zg c12 ?_
 simp only[go_sem,seval,c12,Y16 h2,h3]
 exact⟨_,rfl⟩
end Go.Z
end
