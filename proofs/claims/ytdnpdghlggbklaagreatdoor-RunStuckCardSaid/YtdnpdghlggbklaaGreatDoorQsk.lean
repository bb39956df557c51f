/- A part of the proof; the statement is proved in the last part. -/
import Derived.Test.YtdnpdghlggbklaaGreatDoorQsj
set_option linter.unusedSimpArgs false
set_option linter.unusedVariables false
namespace Go.Proofs.YtdnpdghlggbklaaGreatDoor.Am
section
set_option maxRecDepth 100000
set_option linter.unusedSimpArgs false
set_option linter.unusedSectionVars false
theorem fk{P:Program}{KL:AV→SH→Prop}{g:FuncId}{cs args:List AV}{L L':SH}{b:Nat}{x:Blk}{R:AV→SH→Prop}(h:af P g (args++cs) [(b,x)] R)(hd:eI b x L L')(hk:∀v K,R v K→KL v (K++L')):W.call P (.fn g cs) args L KL:=
 ⟨h.frame (K:=[(b,x)]) (R:=L') hd.perm λu K hu=>hk u K hu⟩
def mG(s:aU)(o t:Option Nat):List AV:=[.Xw s.pc,aP o s.regs.length,aP t s.taint.length,.Xw s.ev]
def nT(s:aU)(bs:Nat)(o t:Option Nat):SH:=(bs,⟨4,[mG s o t]⟩)::(ae o 1 (s.regs.map aj)++ae t 1 (s.taint.map cp))
def zY(r:Option aU)(bs:Nat)(o t:Option Nat)(v:AV)(L:SH):Prop:=
 match r with
 |none=>v=.bool false
 |some s2=>v=.bool true∧L=nT s2 bs o t
theorem Lu(s:aU)(bs:Nat)(o t:Option Nat)(ho:o=none→s.regs=[])(r:Int):af Tryz.prog 116 [.Xw r,.pptr [[.ptr bs 0 0]] 0 0] [(bs,⟨4,[mG s o t]⟩)] λv L=>v=.bool (s.has r)∧L=[(bs,⟨4,[mG s o t]⟩)]:=by
 refine qu _ _ _ _ ?_;unfold jj;generalize hQ:(λ(v:AV) (L:SH)=>v=.bool (s.has r)∧L=[(bs,(⟨4,[mG s o t]⟩:Blk))])=Q;cases o with
 |none=>
  have h0:=ho rfl;unfold mG at hQ ⊢;dsimp only[aP]at hQ ⊢
  repeat' (first|refine st ?_|refine sb λnb_ hnb_=>?_|refine s2 (λh=>?_) λh=>?_|fail)
  all_goals
   subst hQ;refine⟨?_,rfl⟩;simp_all[aU.has,inB]<;>omega
 |some b=>
  unfold mG at hQ ⊢;dsimp only[aP]at hQ ⊢
  repeat' (first|refine st ?_|refine sb λnb_ hnb_=>?_|refine s2 (λh=>?_) λh=>?_|fail)
  all_goals
   subst hQ;refine⟨?_,rfl⟩;simp_all[aU.has,inB]<;>omega
theorem kg{s:aU}{r:Int}:s.has r=true↔∃k:Nat,r=k∧k<s.regs.length:=by unfold aU.has;rw[aw];exact⟨λ⟨h1,h2⟩=>⟨r.toNat,Xr,Xr⟩,λ⟨k,h1,h2⟩=>by omega⟩
theorem kh{o:Option Nat}{α:Type}{l:List α}{k:Nat}(h:o=none→l=[])(hk:k<l.length):∃b,o=some b:=by
 cases o with
 |none=>rw[h rfl]at hk;simp at hk
 |some b=>exact⟨b,rfl⟩
section
variable (s:aU) (bs:Nat) (o t:Option Nat) (ho:o=none→s.regs=[]) (ht:t=none→s.taint=[]) (hlen:s.taint.length=s.regs.length) (hsm:s.regs.length<2^40) (hsh:∀l∈s.taint,l.length≤2^30) (ia ib ic n site:Int)
include ho ht hlen hsm hsh
theorem Sk:af Tryz.prog 83 [.ptr bs 0 0,.agg (bj.mk 5 ia ib ic n site).enc] (nT s bs o t) (zY (bU ⟨5,ia,ib,ic,n,site⟩ s) bs o t):=by
 refine de _ _ _ _ ?_;unfold cT;generalize hQ:zY (bU ⟨5,ia,ib,ic,n,site⟩ s) bs o t=Q;unfold nT
 repeat' (first|refine st ?_|refine sb λnb_ hnb_=>?_|refine s2 (λh=>?_) λh=>?_|fail)
 subst hQ;exact⟨rfl,rfl⟩
theorem Sm:af Tryz.prog 83 [.ptr bs 0 0,.agg (bj.mk 1 ia ib ic n site).enc] (nT s bs o t) (zY (bU ⟨1,ia,ib,ic,n,site⟩ s) bs o t):=by
 have hex:=λr=>Lu s bs o t ho r
 refine af.fz (de _ _ _ _ ?_);unfold cT;generalize hQ:(λ(v:AV) (L:SH)=>∃v2 L2,aF [v] L [v2] L2∧zY (bU ⟨1,ia,ib,ic,n,site⟩ s) bs o t v2 L2)=Q;cases ha:s.has ia with
 |false=>
  have e:bU ⟨1,ia,ib,ic,n,site⟩ s=none:=by simp[bU,ha]
  unfold nT
  repeat' (first|refine st ?_|(refine o7 (fk (hex _) (.here _) ?_);rintro _ _ ⟨rfl,rfl⟩;(try rw[ha]))|refine sb λnb_ hnb_=>?_|refine s2 (λh=>?_) λh=>?_|fail)
  subst hQ;rw[e];exact⟨_,[],aF.all (.refl _),rfl⟩
 |true=>
  have e:bU ⟨1,ia,ib,ic,n,site⟩ s=some (s.put ia n []):=by simp[bU,ha]
  rw[e]at hQ;obtain⟨a,rfl,hal⟩:=kg.1 ha;obtain⟨b1,rfl⟩:=kh ho hal;obtain⟨b2,rfl⟩:=kh ht (k:=a) Xr;have hal2:a<s.taint.length:=by omega
  have hxa:=ay (f:=aj) hal;have hya:=ay (f:=cp) hal2;unfold nT;dsimp only[ae,List.cons_append,List.nil_append]
  repeat' (first|refine st ?_|(refine o7 (fk (hex _) (.here _) ?_);rintro _ _ ⟨rfl,rfl⟩;first|rw[ha])|refine sb λnb_ hnb_=>?_|refine s2 (λh=>?_) λh=>?_|fail)
  subst hQ;refine⟨_,_,?_,rfl,rfl⟩;have e1:(s.put a n []).regs.map aj=(s.regs.map aj).set a [.Xw n]:=by simp[aU.put,WH,aj]
  have e2:(s.put a n []).taint.map cp=(s.taint.map cp).set a [.lst []]:=by simp[aU.put,WH,cp]
  have e3:mG (s.put a n []) (some b1) (some b2)=[.Xw (IntKind.i64.wrap (s.pc+1)),.sl b1 0 s.regs.length,.sl b2 0 s.taint.length,.Xw s.ev]:=by simp[mG,aU.put,aP]
  unfold nT;rw[e1,e2,e3];dsimp only[ae,List.cons_append,List.nil_append];refine aF.rowA (K:=[]) (A:=[(bs,_),(b1,_)]) (b:=b2) (R:=[]) (rows:=(s.taint.map cp).set a [.nils]) (rows':=(s.taint.map cp).set a [.lst []]) rp Xu (λj r r' q1 q2=>?_) rfl;rw[List.getElem?_set]at q1 q2;by_cases hj:a=j
  ·rw[if_pos hj]at q1 q2;rw[if_pos (by simp;omega)]at q1 q2;cases q1;cases q2;exact .cons .nils .nil
  ·rw[if_neg hj]at q1 q2;rw[q1]at q2;cases q2;exact iU.refl _ _
theorem Sn:af Tryz.prog 83 [.ptr bs 0 0,.agg (bj.mk 2 ia ib ic n site).enc] (nT s bs o t) (zY (bU ⟨2,ia,ib,ic,n,site⟩ s) bs o t):=by
 have hex:=λr=>Lu s bs o t ho r
 refine de _ _ _ _ ?_;unfold cT;generalize hQ:zY (bU ⟨2,ia,ib,ic,n,site⟩ s) bs o t=Q;cases ha:s.has ia with
 |false=>
  have e:bU ⟨2,ia,ib,ic,n,site⟩ s=none:=by simp[bU,ha]
  unfold nT
  repeat' (first|refine st ?_|(refine o7 (fk (hex _) (.here _) ?_);rintro _ _ ⟨rfl,rfl⟩;first|rw[ha])|refine sb λnb_ hnb_=>?_|refine s2 (λh=>?_) λh=>?_|fail)
  subst hQ;rw[e];rfl
 |true=>
  cases hb:s.has ib with
  |false=>
   have e:bU ⟨2,ia,ib,ic,n,site⟩ s=none:=by simp[bU,hb]
   unfold nT
   repeat' (first|refine st ?_|(refine o7 (fk (hex _) (.here _) ?_);rintro _ _ ⟨rfl,rfl⟩;first|rw[ha]|rw[hb])|refine sb λnb_ hnb_=>?_|refine s2 (λh=>?_) λh=>?_|fail)
   subst hQ;rw[e];rfl
  |true=>
   have e:bU ⟨2,ia,ib,ic,n,site⟩ s=some (s.put ia (s.reg ib) (s.tnt ib)):=by simp[bU,ha,hb]
   rw[e]at hQ;obtain⟨a,rfl,hal⟩:=kg.1 ha;obtain⟨b,rfl,hbl⟩:=kg.1 hb;obtain⟨b1,rfl⟩:=kh ho hal;obtain⟨b2,rfl⟩:=kh ht (k:=a) Xr;have hal2:a<s.taint.length:=by omega
   have hxa:=ay (f:=aj) hal;have hya:=ay (f:=cp) hal2;have hbl2:b<s.taint.length:=by omega
   have hxb:=ay (f:=aj) hbl;have hyb:=ay (f:=cp) hbl2;have hcl:=cR s.taint[b] (by have:=hsh _ (List.getElem_mem hbl2);omega);unfold nT;dsimp only[ae,List.cons_append,List.nil_append]
   repeat' (first|refine st ?_|(refine o7 (fk (hex _) (.here _) ?_);rintro _ _ ⟨rfl,rfl⟩;first|rw[ha]|rw[hb])|(refine pf 81 ?_;refine pm (hcl) ?_)|refine sb λnb_ hnb_=>?_|refine s2 (λh=>?_) λh=>?_|fail)
   subst hQ;refine⟨rfl,?_⟩;simp[nT,aU.put,mG,aU.reg,aU.tnt,ae,List.getD,hbl,hbl2,WH,aj,cp]
theorem So:af Tryz.prog 83 [.ptr bs 0 0,.agg (bj.mk 3 ia ib ic n site).enc] (nT s bs o t) (zY (bU ⟨3,ia,ib,ic,n,site⟩ s) bs o t):=by
 have hex:=λr=>Lu s bs o t ho r
 refine de _ _ _ _ ?_;unfold cT;generalize hQ:zY (bU ⟨3,ia,ib,ic,n,site⟩ s) bs o t=Q;cases ha:s.has ia with
 |false=>
  have e:bU ⟨3,ia,ib,ic,n,site⟩ s=none:=by simp[bU,ha]
  unfold nT
  repeat' (first|refine st ?_|(refine o7 (fk (hex _) (.here _) ?_);rintro _ _ ⟨rfl,rfl⟩;first|rw[ha])|refine sb λnb_ hnb_=>?_|refine s2 (λh=>?_) λh=>?_|fail)
  subst hQ;rw[e];rfl
 |true=>
  cases hb:s.has ib with
  |false=>
   have e:bU ⟨3,ia,ib,ic,n,site⟩ s=none:=by simp[bU,hb]
   unfold nT
   repeat' (first|refine st ?_|(refine o7 (fk (hex _) (.here _) ?_);rintro _ _ ⟨rfl,rfl⟩;first|rw[ha]|rw[hb])|refine sb λnb_ hnb_=>?_|refine s2 (λh=>?_) λh=>?_|fail)
   subst hQ;rw[e];rfl
  |true=>
   have e:bU ⟨3,ia,ib,ic,n,site⟩ s=if(Pn n (s.reg ib)).2 then some (s.put ia (Pn n (s.reg ib)).1 (s.tnt ib))else none:=by simp[bU,ha,hb]
   rw[e]at hQ;obtain⟨a,rfl,hal⟩:=kg.1 ha;obtain⟨b,rfl,hbl⟩:=kg.1 hb;obtain⟨b1,rfl⟩:=kh ho hal;obtain⟨b2,rfl⟩:=kh ht (k:=a) Xr;have hal2:a<s.taint.length:=by omega
   have hxa:=ay (f:=aj) hal;have hya:=ay (f:=cp) hal2;have hbl2:b<s.taint.length:=by omega
   have hxb:=ay (f:=aj) hbl;have hyb:=ay (f:=cp) hbl2;have hcl:=cR s.taint[b] (by have:=hsh _ (V3 hbl2);omega);have hun:=II n s.regs[b];have hrb:s.reg b=s.regs[b]:=by simp[aU.reg,List.getD,hbl]
   have htb:s.tnt b=s.taint[b]:=by simp[aU.tnt,List.getD,hbl2]
   rw[hrb,htb]at hQ;generalize Pn n s.regs[b]=p at hun hQ;unfold GX at hun;unfold nT;dsimp only[ae,List.cons_append,List.nil_append]
   repeat' (first|refine st ?_|(refine o7 (fk (hex _) (.here _) ?_);rintro _ _ ⟨rfl,rfl⟩;first|rw[ha]|rw[hb])|(refine pf 81 ?_;refine pm (hcl) ?_)|(refine pf 103 ?_;refine pm (hun) ?_)|refine sb λnb_ hnb_=>?_|refine s2 (λh=>?_) λh=>?_|fail)
   subst hQ;unfold zY;cases hp:p.2 with
   |false=>rfl
   |true=>refine⟨rfl,?_⟩;simp[nT,aU.put,mG,ae,WH,aj,cp]
theorem Sp:af Tryz.prog 83 [.ptr bs 0 0,.agg (bj.mk 4 ia ib ic n site).enc] (nT s bs o t) (zY (bU ⟨4,ia,ib,ic,n,site⟩ s) bs o t):=by
 have hex:=λr=>Lu s bs o t ho r
 refine de _ _ _ _ ?_;unfold cT;generalize hQ:zY (bU ⟨4,ia,ib,ic,n,site⟩ s) bs o t=Q;cases ha:s.has ia with
 |false=>
  have e:bU ⟨4,ia,ib,ic,n,site⟩ s=none:=by simp[bU,ha]
  unfold nT
  repeat' (first|refine st ?_|(refine o7 (fk (hex _) (.here _) ?_);rintro _ _ ⟨rfl,rfl⟩;first|rw[ha])|refine sb λnb_ hnb_=>?_|refine s2 (λh=>?_) λh=>?_|fail)
  subst hQ;rw[e];rfl
 |true=>
  cases hb:s.has ib with
  |false=>
   have e:bU ⟨4,ia,ib,ic,n,site⟩ s=none:=by simp[bU,hb]
   unfold nT
   repeat' (first|refine st ?_|(refine o7 (fk (hex _) (.here _) ?_);rintro _ _ ⟨rfl,rfl⟩;first|rw[ha]|rw[hb])|refine sb λnb_ hnb_=>?_|refine s2 (λh=>?_) λh=>?_|fail)
   subst hQ;rw[e];rfl
  |true=>
   cases hc:s.has ic with
   |false=>
    have e:bU ⟨4,ia,ib,ic,n,site⟩ s=none:=by simp[bU,hc]
    unfold nT
    repeat' (first|refine st ?_|(refine o7 (fk (hex _) (.here _) ?_);rintro _ _ ⟨rfl,rfl⟩;first|rw[ha]|rw[hb]|rw[hc])|refine sb λnb_ hnb_=>?_|refine s2 (λh=>?_) λh=>?_|fail)
    subst hQ;rw[e];rfl
   |true=>
    have e:bU ⟨4,ia,ib,ic,n,site⟩ s=if(Dr n (s.reg ib) (s.reg ic)).2 then some (s.put ia (Dr n (s.reg ib) (s.reg ic)).1 (Ka (s.tnt ib++s.tnt ic)))else none:=by simp[bU,ha,hb,hc]
    rw[e]at hQ;obtain⟨a,rfl,hal⟩:=kg.1 ha;obtain⟨b,rfl,hbl⟩:=kg.1 hb;obtain⟨c,rfl,hcl⟩:=kg.1 hc;obtain⟨b1,rfl⟩:=kh ho hal;obtain⟨b2,rfl⟩:=kh ht (k:=a) Xr;have hal2:a<s.taint.length:=by omega
    have hxa:=ay (f:=aj) hal;have hya:=ay (f:=cp) hal2;have hbl2:b<s.taint.length:=by omega
    have hxb:=ay (f:=aj) hbl;have hyb:=ay (f:=cp) hbl2;have hcl2:c<s.taint.length:=by omega
    have hxc:=ay (f:=aj) hcl;have hyc:=ay (f:=cp) hcl2;have hun2:=Oe s.taint[b] s.taint[c] (hsh _ (V3 hbl2)) (hsh _ (V3 hcl2));have hun:=Gb n s.regs[b] s.regs[c];have hrb:s.reg b=s.regs[b]:=by simp[aU.reg,List.getD,hbl]
    have htb:s.tnt b=s.taint[b]:=by simp[aU.tnt,List.getD,hbl2]
    have hrc:s.reg c=s.regs[c]:=by simp[aU.reg,List.getD,hcl]
    have htc:s.tnt c=s.taint[c]:=by simp[aU.tnt,List.getD,hcl2]
    rw[hrb,htb,hrc,htc]at hQ;generalize Dr n s.regs[b] s.regs[c]=p at hun hQ;generalize Ka (s.taint[b]++s.taint[c])=u at hun2 hQ;unfold GX at hun;unfold nT;dsimp only[ae,List.cons_append,List.nil_append]
    repeat' (first|refine st ?_|(refine o7 (fk (hex _) (.here _) ?_);rintro _ _ ⟨rfl,rfl⟩;first|rw[ha]|rw[hb]|rw[hc])|(refine pf 117 ?_;refine pm (hun2) ?_)|(refine pf 104 ?_;refine pm (hun) ?_)|refine sb λnb_ hnb_=>?_|refine s2 (λh=>?_) λh=>?_|fail)
    subst hQ;unfold zY;cases hp:p.2 with
    |false=>rfl
    |true=>refine⟨rfl,?_⟩;simp[nT,aU.put,mG,ae,WH,aj,cp]
end
end
section
set_option maxRecDepth 100000
set_option linter.unusedSimpArgs false
set_option linter.unusedSectionVars false
def Lv:List AV:=[.Xw 0,.nils,.nils,.Xw 0]
theorem GY{P:Program}{KL R1:AV→SH→Prop}{g:FuncId}{args:List AV}{L K R:SH}(h:af P g args K R1)(hL:L.Perm (K++R))(hq:∀v K',R1 v K'→KL v (R++K')):W.callM P g args L KL:=
 ⟨.perm (h.frame hL λu K' hu=>⟨R++K',Wf,hq u K' hu⟩)⟩
theorem Of(s:aU)(bs:Nat)(o t:Option Nat)(ho:o=none→s.regs=[])(ht:t=none→s.taint=[])(hlen:s.taint.length=s.regs.length)(hsm:s.regs.length<2^40)(hsh:∀l∈s.taint,l.length≤2^30)(i:bj)(h1:1≤i.op)(h5:i.op≤5):
  af Tryz.prog 83 [.ptr bs 0 0,.agg i.enc] (nT s bs o t) (zY (bU i s) bs o t):=by
 obtain⟨op,ia,ib,ic,n,site⟩:=i;dsimp only at h1 h5;obtain rfl|rfl|rfl|rfl|rfl:op=1∨op=2∨op=3∨op=4∨op=5:=by omega
 ·exact Sm s bs o t ho ht hlen hsm hsh ia ib ic n site
 ·exact Sn s bs o t ho ht hlen hsm hsh ia ib ic n site
 ·exact So s bs o t ho ht hlen hsm hsh ia ib ic n site
 ·exact Sp s bs o t ho ht hlen hsm hsh ia ib ic n site
 ·exact Sk s bs o t ho ht hlen hsm hsh ia ib ic n site
theorem xu(s:aU)(a v:Int)(t:List Int):(s.put a v t).regs.length=s.regs.length∧(s.put a v t).taint.length=s.taint.length:=by simp[aU.put]
theorem Gc{s s2:aU}{i:bj}(he:bU i s=some s2):s2.regs.length=s.regs.length∧s2.taint.length=s.taint.length:=by
 unfold bU at he;split at he
 ·split at he
  ·cases he;exact xu _ _ _ _
  ·cases he
 ·split at he
  ·split at he
   ·cases he;exact xu _ _ _ _
   ·cases he
  ·split at he
   ·split at he
    ·cases he;exact xu _ _ _ _
    ·cases he
   ·split at he
    ·split at he
     ·cases he;exact xu _ _ _ _
     ·cases he
    ·cases he;exact⟨rfl,rfl⟩
theorem lM{α:Type}{K:SH}{f:α→List AV}{l:List α}{o:Option Nat}{n:Nat}(hn:n=l.length)(h0:o=none→l=[])(hm:∀b,o=some b→(b,(⟨1,l.map f⟩:Blk))∈K):Fz K (aP o n) (.lst (l.map f)):=by
 cases o with
 |none=>rw[h0 rfl];exact .refl _
 |some b=>exact Fz.sls (hm b rfl) rfl Xv hn
theorem P8{K:SH}{s:aU}{o t:Option Nat}(ho:o=none→s.regs=[])(ht:t=none→s.taint=[])(h:∀p∈ae o 1 (s.regs.map aj)++ae t 1 (s.taint.map cp),p∈K):Fz K (.agg (mG s o t)) (.agg s.enc):=
 Fz.aggs (.cons (.refl _) (.cons (lM rfl ho λb e=>h _ (by subst e;simp[ae])) (.cons (lM rfl ht λb e=>h _ (by subst e;simp[ae])) (.cons (.refl _) .nil))))
theorem GZ(K:SH):Fz K (.agg Lv) (.agg aU.zero.enc):=Fz.aggs (.cons (.refl _) (.cons .nils (.cons .nils (.cons (.refl _) .nil))))
theorem G0{K:SH}{a b:AV}{ok:Bool}(h:Fz K a b):Fz K (.tup [a,.bool ok]) (.tup [b,.bool ok]):=.tup _ _ rfl λi x y h1 h2=>by
 match i with
 |0=>cases h1;cases h2;exact h
 |1=>cases h1;cases h2;exact .refl _
 |i+2=>simp at h1
theorem Lw{ins:List bj}{k:Nat}{s:aU}(h:inB s.pc ins.length=false):fV ins k s=(aU.zero,false):=by cases k<;>simp[fV,h]
theorem Og{ins:List bj}{k:Nat}{s:aU}(h:inB s.pc ins.length=true)(h2:(ins.getD s.pc.toNat default).op<1∨5<(ins.getD s.pc.toNat default).op):fV ins k s=(s,true):=by cases k<;>simp only[fV,h,if_true,if_pos h2]
theorem Oh{ins:List bj}{k:Nat}{s:aU}(h:inB s.pc ins.length=true)(h2:¬((ins.getD s.pc.toNat default).op<1∨5<(ins.getD s.pc.toNat default).op))(h3:bU (ins.getD s.pc.toNat default) s=none):fV ins k s=(aU.zero,false):=by cases k<;>simp only[fV,h,if_true,if_neg h2,h3]
theorem Oi{ins:List bj}{s:aU}(h:inB s.pc ins.length=true)(h2:¬((ins.getD s.pc.toNat default).op<1∨5<(ins.getD s.pc.toNat default).op)):fV ins 0 s=(aU.zero,false):=by simp only[fV,h,if_true,if_neg h2]
theorem Oj{ins:List bj}{k:Nat}{s s2:aU}(h:inB s.pc ins.length=true)(h2:¬((ins.getD s.pc.toNat default).op<1∨5<(ins.getD s.pc.toNat default).op))(h3:bU (ins.getD s.pc.toNat default) s=some s2):fV ins (k+1) s=fV ins k s2:=by simp only[fV,h,if_true,if_neg h2,h3]
section
variable (c:gL) (s:aU) (U:List Int) (hU:U.length≤2^30) (hT:jU U s) (hc:c.ins.length<2^40) (o t:Option Nat) (ho:o=none→s.regs=[]) (ht:t=none→s.taint=[])
include hU hT hc ho ht
theorem IJ(b3 b4:Nat)(Q:AV→SH→Prop)(hq:∀v L,Fz L v (Dx (fV c.ins c.ins.length s))→Q v L):
  W.loop (gN Q) [.pptr [c.enc] 0 0,.ptr b3 0 0,.ptr b4 0 0,.Xw (0:Nat)] ((b4,⟨4,[Lv]⟩)::nT s b3 o t):=by
 refine cb c.ins.length (λk (e:aU)=>([.pptr [c.enc] 0 0,.ptr b3 0 0,.ptr b4 0 0,.Xw k],(b4,⟨4,[Lv]⟩)::nT e b3 o t)) (λk e=>jU U e∧(e.regs.length=s.regs.length∧e.taint.length=s.taint.length)∧fV c.ins (c.ins.length-k) e=fV c.ins c.ins.length s) s ⟨hT,⟨rfl,rfl⟩,rfl⟩ (.refl _ _) ?_;intro k e hk ⟨he,⟨hl1,hl2⟩,hrun⟩;rw[←hrun]at hq;have ho':o=none→e.regs=[]:=λx=>WS.1 (by rw[hl1,ho x];rfl)
 have ht':t=none→e.taint=[]:=λx=>WS.1 (by rw[hl2,ht x];rfl)
 dsimp only;unfold gN;have zero:fV c.ins (c.ins.length-k) e=(aU.zero,false)→∀L,Q (.tup [.agg Lv,.bool false]) L:=λh L=>hq _ _ (by rw[h];exact G0 (GZ _))
 by_cases p1:e.pc<0
 ·have hd1:decide (e.pc<0)=true:=by simpa using p1
  have hz:=zero (Lw (by simp[inB];omega));unfold nT mG
  repeat' (first|refine st ?_|refine sb λnb_ hnb_=>?_|refine s2 (λh=>?_) λh=>?_|fail)
  exact hz _
 ·have hd1:decide (e.pc<0)=false:=by simpa using p1
  by_cases p2:(c.ins.length:Int)≤e.pc
  ·have hd2:decide ((c.ins.length:Int)≤e.pc)=true:=by simpa using p2
   have hz:=zero (Lw (by simp[inB];omega));unfold nT mG
   repeat' (first|refine st ?_|refine sb λnb_ hnb_=>?_|refine s2 (λh=>?_) λh=>?_|fail)
   exact hz _
  ·have hd2:decide ((c.ins.length:Int)≤e.pc)=false:=by simpa using p2
   have hin:inB e.pc c.ins.length=true:=by simp[inB];omega
   have hx:=dK (f:=bj.enc) hin;generalize hi:c.ins.getD e.pc.toNat default=i at hx;by_cases p3:i.op<1∨5<i.op
   ·have hr:=Og (k:=c.ins.length-k) hin (by rw[hi];exact p3);rw[hr]at hq;have fin:∀x,Q (.tup [.agg (mG e o t),.bool true]) ((b4,x)::nT e b3 o t):=λx=>hq _ _ (G0 (P8 ho' ht' λp hp=>by unfold nT;exact .tail _ (.tail _ hp)))
    unfold nT mG at fin ⊢;by_cases p4:i.op<1
    ·have q1:decide (i.op<1)=true:=by simpa using p4
     rcases o with _|b1<;>rcases t with _|b2
     all_goals
      dsimp only[aP,ae,List.cons_append,List.nil_append]at fin ⊢
      repeat' (first|refine st ?_|refine sb λnb_ hnb_=>?_|refine s2 (λh=>?_) λh=>?_|fail)
      exact fin _
    ·have q1:decide (i.op<1)=false:=by simpa using p4
     have q2:decide (5<i.op)=true:=by simp;omega
     rcases o with _|b1<;>rcases t with _|b2
     all_goals
      dsimp only[aP,ae,List.cons_append,List.nil_append]at fin ⊢
      repeat' (first|refine st ?_|refine sb λnb_ hnb_=>?_|refine s2 (λh=>?_) λh=>?_|fail)
      exact fin _
   ·have q1:decide (i.op<1)=false:=by simp;omega
    have q2:decide (5<i.op)=false:=by simp;omega
    by_cases p5:k=c.ins.length
    ·have q3:decide ((k:Int)=(c.ins.length:Int))=true:=by simp[p5]
     have hz:=zero (by rw[p5,Nat.sub_self];exact Oi hin (by rw[hi];exact p3));unfold nT mG
     repeat' (first|refine st ?_|refine sb λnb_ hnb_=>?_|refine s2 (λh=>?_) λh=>?_|fail)
     exact hz _
    ·have q3:decide ((k:Int)=(c.ins.length:Int))=false:=by simp;omega
     have hex:=Of e b3 o t ho' ht' he.len he.small he.short i Xr Xr;obtain⟨m,hm⟩:∃m,c.ins.length-k=m+1:=⟨c.ins.length-k-1,Xr⟩;cases hst:bU i e with
     |none=>
      have hz:=zero (Oh hin (by rw[hi];exact p3) (by rw[hi];exact hst));rw[hst]at hex;change af _ _ _ _ (λv L=>v=AV.bool false)at hex;unfold nT mG
      repeat' (first|refine st ?_|((with_reducible refine aY 83 ?_);(refine GY hex (Wf (l₁:=[(b4,_)]) (l₂:=nT e b3 o t)) ?_;rintro _ K' rfl))|refine sb λnb_ hnb_=>?_|refine s2 (λh=>?_) λh=>?_|fail)
      exact hz _
     |some s2=>
      rw[hst]at hex;change af _ _ _ _ (λv L=>v=AV.bool true∧L=nT s2 b3 o t)at hex;have hrun2:fV c.ins (c.ins.length-(k+1)) s2=fV c.ins c.ins.length s:=by rw[←hrun,hm,Oj hin (by rw[hi];exact p3) (by rw[hi];exact hst),show c.ins.length-(k+1)=m by omega]
      have hls:=Gc hst;unfold nT mG
      repeat' (first|refine st ?_|((with_reducible refine aY 83 ?_);(refine GY hex (Wf (l₁:=[(b4,_)]) (l₂:=nT e b3 o t)) ?_;rintro _ _ ⟨rfl,rfl⟩))|refine sb λnb_ hnb_=>?_|refine s2 (λh=>?_) λh=>?_|fail)
      exact⟨k+1,s2,Xr,Xr,⟨he.step hU hst,⟨Xr,Xr⟩,hrun2⟩,fS (by rw[aD (by omega:k<c.ins.length) Xr]<;>rfl) rfl⟩
end
end
section
set_option maxRecDepth 100000
set_option linter.unusedSimpArgs false
set_option linter.unusedSectionVars false
theorem Ol{U:List Int}(hU:U.length≤2^30){ins:List bj}:∀(k:Nat) {s:aU},jU U s→jU U (fV ins k s).1:=by
 have hz:jU U aU.zero:=⟨rfl,Xv,nofun,nofun⟩;intro k
 induction k with
 |zero=>
  intro s h;unfold fV;split
  ·split
   ·exact h
   ·exact hz
  ·exact hz
 |succ k ih=>
  intro s h;unfold fV;split
  ·split
   ·exact h
   ·split
    ·exact hz
    ·rename_i s2 he;exact ih (h.step hU he)
  ·exact hz
theorem IK{U:List Int}(hU:U.length≤2^30){c:gL}{s:aU}(h:jU U s):jU U (bN c s).1:=by
 unfold bN;split
 ·exact Ol hU _ h
 ·exact⟨rfl,Xv,nofun,nofun⟩
section
variable (c:gL) (s:aU) (U:List Int) (hU:U.length≤2^30) (hr:s.regs.length<2^40) (ht:s.taint.length<2^40) (hsh:∀l∈s.taint,l.length≤2^30) (hsub:∀l∈s.taint,∀x∈l,x∈U) (hc:c.ins.length<2^40)
include hU hr ht hsh hsub hc
theorem Mj:ax Tryz.prog 52 [.agg c.enc,.agg s.enc] (Dx (bN c s)):=by
 refine af.fz (zX _ _ _ _ ?_);unfold nq;generalize hQ:(λ(v:AV) (L:SH)=>∃v2 L2,aF [v] L [v2] L2∧v2=Dx (bN c s)∧L2=[])=Q;have hq:∀v L,Fz L v (Dx (bN c s))→Q v L:=λv L h=>by subst hQ;exact⟨_,[],aF.all h,rfl,rfl⟩
 clear hQ;by_cases p1:(s.regs.length:Int)=c.regs
 ·have d1:decide ((s.regs.length:Int)≠c.regs)=false:=by simpa using p1
  by_cases p2:(s.taint.length:Int)=c.regs
  ·have d2:decide ((s.taint.length:Int)≠c.regs)=false:=by simpa using p2
   have hT:jU U s:=⟨Xr,hr,hsh,hsub⟩;have e:bN c s=fV c.ins c.ins.length s:=by unfold bN;rw[if_pos ⟨p1,p2⟩]
   rw[e]at hq;have hcl:=Kb s hr ht hsh
   repeat' (first|refine st ?_|((with_reducible refine aY 82 ?_);(refine GY (K:=[]) hcl (List.Perm.refl _) ?_;rintro _ _ ⟨o,t,rfl,rfl,ho,ht2⟩))|refine sb λnb_ hnb_=>?_|refine s2 (λh=>?_) λh=>?_|fail)
   rename_i b3 _;rcases o with _|b1<;>rcases t with _|b2
   all_goals
    repeat' (first|refine st ?_|refine sb λnb_ hnb_=>?_|refine s2 (λh=>?_) λh=>?_|fail)
    exact IJ c s U hU hT hc _ _ ho ht2 b3 nb_ Q hq
  ·have d2:decide ((s.taint.length:Int)≠c.regs)=true:=by simpa using p2
   have e:bN c s=(aU.zero,false):=by unfold bN;rw[if_neg (λh=>p2 h.2)]
   rw[e]at hq
   repeat' (first|refine st ?_|refine sb λnb_ hnb_=>?_|refine s2 (λh=>?_) λh=>?_|fail)
   exact hq _ _ (G0 (GZ _))
 ·have d1:decide ((s.regs.length:Int)≠c.regs)=true:=by simpa using p1
  have e:bN c s=(aU.zero,false):=by unfold bN;rw[if_neg (λh=>p1 h.1)]
  rw[e]at hq
  repeat' (first|refine st ?_|refine sb λnb_ hnb_=>?_|refine s2 (λh=>?_) λh=>?_|fail)
  exact hq _ _ (G0 (GZ _))
end
end
section
set_option maxRecDepth 100000
set_option linter.unusedSimpArgs false
def cW(w:aM):SyncD:=⟨List.replicate w.locks.length ⟨-1,[]⟩,-1,List.replicate w.futures.length false,(List.replicate w.threads.length (⟨0,0,false⟩:ThrD)).set 0 ⟨1,0,false⟩⟩
theorem Om(w:aM)(h1:w.locks.length≤100)(h2:w.futures.length≤100)(h3:w.threads.length≤100):ax Tryz.prog 71 [.agg w.enc] (.agg (cW w).enc):=by
 refine af.fz (BK _ _ _ ?_);unfold pd;generalize hQ:(λ(v:AV) (L:SH)=>∃v2 L2,aF [v] L [v2] L2∧v2=AV.agg (cW w).enc∧L2=[])=Q
 repeat' (first|refine st ?_|refine sb λnb_ hnb_=>?_|refine s2 (λh=>?_) λh=>?_|fail)
 rename_i b2 _ b3 _ b4 _ b5 _ b6 _;refine Df w.locks.length (λi=>([.ptr b3 0 0,.pptr [[.sl b4 0 w.locks.length,.Xw (-1),.sl b5 0 w.futures.length,.sl b6 0 w.threads.length]] 0 0,.Xw w.locks.length,.Xw i],
  [(b6,⟨3,List.replicate w.threads.length [.Xw 0,.Xw 0,.bool false]⟩),(b5,⟨1,List.replicate w.futures.length [.bool false]⟩),(b4,⟨2,List.replicate i [.Xw (-1),.nils]++List.replicate (w.locks.length-i) [.Xw 0,.nils]⟩),(b3,⟨4,[[.nils,.Xw 0,.nils,.nils]]⟩)])) (λ_=>True) trivial rfl Xu ?_
 intro i hi _;dsimp only;unfold m7;rcases Nat.lt_or_ge i w.locks.length with g1|g1
 ·have hd:=bK g1;have hx:=PK i w.locks.length (α:=List AV) [.Xw (-1),.nils] [.Xw 0,.nils] g1
  repeat' (first|refine st ?_|refine sb λnb_ hnb_=>?_|refine s2 (λh=>?_) λh=>?_|fail)
  refine⟨i+1,Xr,Xr,trivial,fS (by rw[aD g1 Xr]<;>rfl) ?_⟩;rw[←PJ i w.locks.length _ _ g1];rfl
 ·have hd:=bO g1;have fin:∀(T:List ThrD) (L:SH),T=(cW w).threads→L=[(b6,⟨3,T.map ThrD.enc⟩),(b5,⟨1,List.replicate w.futures.length [.bool false]⟩),(b4,⟨2,List.replicate i [.Xw (-1),.nils]++List.replicate (w.locks.length-i) [.Xw 0,.nils]⟩),(b3,⟨4,[[.sl b4 0 w.locks.length,.Xw (-1),.sl b5 0 w.futures.length,.sl b6 0 w.threads.length]]⟩)]→
    Q (.agg [.sl b4 0 w.locks.length,.Xw (-1),.sl b5 0 w.futures.length,.sl b6 0 w.threads.length]) L:=by
   intro T L hT hL;subst hL;subst hQ;have hi0:i=w.locks.length:=by omega
   subst hi0;refine⟨_,[],aF.all (Fz.aggs (.cons ?_ (.cons (.refl _) (.cons ?_ (.cons ?_ .nil))))),rfl,rfl⟩
   ·refine Fz.slm (f:=λ_=>[.Xw (-1),.nils]) (.tail _ (.tail _ (.head _))) (by simp[cW]) Xv (by simp[cW]) (λy hy=>rfl) (λy hy q a a2 q1 q2=>?_);have:y=⟨-1,[]⟩:=by simp[cW]at hy;exact hy.2
    subst this
    match q with
    |0=>cases q1;cases q2;exact .refl _
    |1=>cases q1;cases q2;exact .nils
    |q+2=>simp at q1
   ·exact Fz.sls (.tail _ (.head _)) (by simp[cW,aI]) Xv (by simp[cW])
   ·exact Fz.sls (.head _) (by rw[hT]) Xv (by simp[cW])
  rcases WE w.threads.length with g2|g2
  ·have hd2:decide ((0:Int)<(w.threads.length:Int))=false:=by simp[g2]
   repeat' (first|refine st ?_|refine sb λnb_ hnb_=>?_|refine s2 (λh=>?_) λh=>?_|fail)
   exact fin [] _ (by simp[cW,g2]) (by simp[g2])
  ·have hd2:decide ((0:Int)<(w.threads.length:Int))=true:=by simpa using g2
   have hx0:(List.replicate w.threads.length ([.Xw 0,.Xw 0,.bool false]:List AV))[0]? =some [.Xw 0,.Xw 0,.bool false]:=by simp[g2]
   repeat' (first|refine st ?_|refine sb λnb_ hnb_=>?_|refine s2 (λh=>?_) λh=>?_|fail)
   refine fin _ _ rfl ?_;simp[cW,ThrD.enc,WH]
end
section
set_option maxRecDepth 100000
def zZ(Q:R)(b:Kn)(c d e f g:AV)(a:SH):Prop:=W.un .not g λh=>wk h (Q (.bool false) a) (wb .add 3 c (.Xw 1) λi=>b [d,e,f,i] a)
def z7(Q:R)(f:Kn)(c:SH)(d a e g:AV):Prop:=lE 2 d a c λh=>o6 [(.Xw 0),.nils] 2 h c λi b=>W.faddr 0 e λj=>bS 6 j b λk=>bS 2 i b λl=>wc (.fn 39 []) [k,a,l] b (zZ Q f a e d g)
def lN(Q:R)(d:Vs)(a:SH)(e:Kn):Prop:=wu 1 20 21 22 d λf g b c=>wb .lss 3 c b λh=>wk h ((z7 Q e a g c f b)) (Q (.bool true) a)
def z8(Q:R)(b g:AV)(h:SH):Prop:=W.un .not g λa=>wg a false (W.faddr 6 b) h λi d=>wg a false (wl i d) d λj k=>wg a false (W.len j) k λl m=>wg a false (W.faddr 0 b) m λn o=>wg a false (W.faddr 4 n) o λp e=>wg a false (wl p e) e λq r=>wg a false (W.len q) r λs t=>wg a false (wb .neq 3 l s) t λu c=>W.pick a (.bool true) u λv=>wk v (Q (.bool false) c) (aB 6 b c λf=>W.len f λw=>W.loop (lN Q) [b,f,w,(.Xw 0)] c)
def nu(c:AV)(L:SH)(Q:R):Prop:=qo c L λa b=>W.faddr 0 a λd=>bS 6 d b λe=>wc (.fn 38 []) [e] b (z8 Q a)
theorem Aa(t0:AV)(L:SH)(Q:R)(h:nu t0 L Q):af Tryz.prog 21 [t0] L Q:=
 fs [] [(4,[1,20,21,22])] [(0,[1]),(5,[4])] [] Tryz.func21 h
def mH(Q:R)(b:Kn)(c d e f g h i j k l m:AV)(a:SH):Prop:=W.un .not m λn=>wk n (Q (.bool false) a) (wb .add 3 c (.Xw 1) λo=>b [d,e,f,g,h,i,j,k,l,o] a)
def mI(Q:R)(e:Kn)(a:SH)(b c d f g h i j k l:AV):Prop:=wo 1 b c a λm=>aB 0 d a λn=>wc (.fn 67 []) [m,n] a (mH Q e c f g d h i j k b l)
def mJ(Q:R)(b:Kn)(c d e f g h i:AV)(a:SH):Prop:=W.un .not i λj=>wk j (Q (.bool false) a) (wb .add 3 c (.Xw 1) λk=>b [d,e,f,g,h,k] a)
def mK(Q:R)(d:Kn)(a:SH)(b c e f g h i:AV):Prop:=bS 6 b a λj=>aB 1 c a λk=>W.len k λl=>bS 6 e a λm=>wc (.fn 69 []) [j,l,m] a (mJ Q d f g b c h i)
def fW(Q:R)(k:Kn)(l:Vs)(a:SH)(m:Kn):Prop:=PW 1 3 5 8 26 27 28 78 79 80 l λb c d e f g h n i j=>wb .lss 3 j i λo=>wk o ((mI Q m a n j d b c e f g h i)) ((mK Q k a c d e h b f g))
def mL(Q:R)(b:Kn)(c d e f g h i a:AV)(j:SH):Prop:=W.len a λk=>W.loop (fW Q b) [c,d,e,f,g,h,i,a,k,(.Xw 0)] j
def dO(Q:R)(c:Kn)(d:Vs)(a:SH):Prop:=RV 1 3 5 6 8 26 27 28 d λe f g l b h i j=>bS 6 b a λk=>wc (.fn 68 []) [k] a (mL Q c e f g b h i j)
def mM(Q:R)(c:Kn)(d:Vs)(a:SH)(b e f g h i j:AV):Prop:=aB 5 b a λk=>wb .neq 3 k (.Xw (-1)) λl=>wk l (Q (.bool false) a) (c [e,f,g,(av [1,3,5,26,27,28] d 6),b,h,i,j] a)
def mN(Q:R)(a:Vs)(b:SH):Prop:=RV 1 3 5 6 8 26 27 28 a λd e f c g h i j=>Q c b
def mO(Q:R)(n:Kn)(o:Vs)(b c d e f g h p:AV)(q:SH):Prop:=W.un .not p λa=>wg a false (W.faddr 5 b) q λr i=>wg a false (wl r i) i λs t=>wg a false (W.faddr 5 c) t λu j=>wg a false (wl u j) j λv k=>wg a false (W.idx 3 s v k) k λw x=>wg a false (W.faddr 0 w) x λy l=>wg a false (wl y l) l λz A=>bH a false d A λB C=>wg a false (wb .neq 3 z B) C λD m=>W.pick a (.bool true) D λE=>wk E (W.join (mN Q) λF=>F [d,b,e,(.bool false),c,f,g,h] m) (n [d,b,e,(av [1,3,5,26,27,28] o 6),c,f,g,h] m)
def mP(Q:R)(d:Kn)(e:Vs)(a:SH)(b c f g h i j:AV):Prop:=aB 5 b a λk=>aB 5 c a λl=>W.len l λm=>wc (.fn 67 []) [k,m] a (mO Q d e c b f g h i j)
def mQ(Q:R)(k:Kn)(c:Vs)(a:SH)(b d e f g h i:AV):Prop:=W.join (dO Q k) λj=>aB 0 b a λl=>wb .eql 3 l (.Xw 28) λm=>wk m ((mM Q j c a b d e f g h i)) ((mP Q j c a b e d f g h i))
def mR(Q:R)(m:Kn)(n:Vs)(e:SH)(f d g o p q:AV):Prop:=lE 6 f d e λr=>o6 [(.Xw 0),(.Xw 0),(.Xw 0),(.Xw 0),(.Xw 0),(.Xw 0)] 6 r e λb h=>aB 0 b h λs=>wb .lss 3 s (.Xw 1) λc=>wg c false (W.faddr 0 b) h λt i=>wg c false (wl t i) i λu v=>wg c false (wb .gtr 3 u (.Xw 28)) v λw x=>W.pick c (.bool true) w λa=>wg a false (W.faddr 0 b) x λy j=>wg a false (wl y j) j λz A=>wg a false (wb .eql 3 z (.Xw 28)) A λB C=>bH a false d C λD E=>wg a false (W.faddr 1 g) E λF k=>wg a false (wl F k) k λG H=>wg a false (W.len G) H λI J=>wg a false (wb .sub 3 I (.Xw 1)) J λM N=>wg a false (wb .eql 3 D M) N λO P=>wg a false (wb .neq 4 B O) P λS l=>W.pick a (.bool true) S λT=>wk T (Q (.bool false) l) ((mQ Q m n l b o p g f q d))
def fX(Q:R)(b:Vs)(a:SH)(f:Kn):Prop:=Iv 1 3 5 26 27 28 b λg h c i d e=>wb .lss 3 e d λj=>wk j ((mR Q f b a i e c g h d)) (aB 1 c a λk=>wc (.fn 70 []) [k] a λl m=>Q l m)
def gw(i j k:AV)(L:SH)(Q:R):Prop:=W.box i L λl m=>W.box k m λn o=>W.frz1 l o λp q=>W.frz1 n q λa e=>aB 0 a e λr=>wb .lss 3 r (.Xw 0) λc=>wg c false (W.faddr 0 a) e λs f=>wg c false (wl s f) f λt u=>wg c false (wb .gtr 3 t (.Xw 32)) u λv w=>W.pick c (.bool true) v λb=>wg b false (W.faddr 1 a) w λx g=>wg b false (wl x g) g λy z=>wg b false (W.len y) z λA B=>wg b false (wb .eql 3 A (.Xw 0)) B λC d=>W.pick b (.bool true) C λD=>wk D (Q (.bool false) d) (aB 1 a d λh=>W.len h λE=>W.loop (fX Q) [j,p,a,h,E,(.Xw 0)] d)
theorem mS(t0 t1 t2:AV)(L:SH)(Q:R)(h:gw t0 t1 t2 L Q):af Tryz.prog 39 [t0,t1,t2] L Q:=
 fs [(12,[1,3,5,6,8,26,27,28])] [(14,[1,3,5,8,26,27,28,78,79,80]),(4,[1,3,5,26,27,28])] [(0,[3,5]),(5,[8])] [] Tryz.func39 h
def kM(Q:R)(a:AV)(b:SH):Prop:=W.ext 0 a λd=>W.ext 1 a λc=>Q c b
def kN(Q:R)(a:AV)(b:SH):Prop:=W.ext 0 a λd=>W.ext 1 a λc=>Q c b
def kO(Q:R)(a:SH)(b c d:AV):Prop:=wb .eql 3 b (.Xw 27) λe=>wk e (aB 2 c a λf=>aB 3 d a λg=>W.len g λh=>wc (.fn 67 []) [f,h] a λi j=>Q i j) (Q (.bool true) a)
def kP(Q:R)(a:SH)(b c d:AV):Prop:=wb .eql 3 b (.Xw 26) λe=>wk e (aB 1 c a λf=>aB 3 d a λg=>W.len g λh=>wc (.fn 67 []) [f,h] a λi j=>Q i j) ((kO Q a b c d))
def kQ(Q:R)(d:Vs)(a:SH):Prop:=wu 3 5 12 97 d λb c e f=>wk f (aB 1 c a λg=>aB 4 b a λh=>W.len h λi=>wc (.fn 67 []) [g,i] a λj k=>Q j k) ((kP Q a e c b))
def kR(Q:R)(b:SH)(a c d:AV):Prop:=W.join (kQ Q) λe=>wb .eql 3 a (.Xw 24) λf=>wk f (e [c,d,a,f] b) (wb .eql 3 a (.Xw 25) λg=>e [c,d,a,g] b)
def kS(Q:R)(d:Vs)(a:SH):Prop:=wu 3 5 12 87 d λb c e f=>wk f (aB 1 c a λg=>aB 2 b a λh=>W.len h λi=>wc (.fn 67 []) [g,i] a λj k=>Q j k) ((kR Q a e b c))
def kT(Q:R)(b:SH)(a c d:AV):Prop:=W.join (kS Q) λe=>wb .eql 3 a (.Xw 21) λf=>wk f (e [c,d,a,f] b) (wb .eql 3 a (.Xw 22) λg=>wk g (e [c,d,a,g] b) (wb .eql 3 a (.Xw 23) λh=>e [c,d,a,h] b))
def kU(Q:R)(d:Vs)(a:SH):Prop:=wu 3 5 12 78 d λb c e f=>wk f (bS 6 b a λg=>aB 1 c a λh=>wc (.fn 65 []) [g,h,(.bool true)] a λi j=>Q i j) ((kT Q a e b c))
def kV(b:Kn)(c:SH)(a d e:AV):Prop:=wb .eql 3 a (.Xw 14) λf=>wk f (b [d,e,a,f] c) (wb .eql 3 a (.Xw 15) λg=>wk g (b [d,e,a,g] c) (wb .eql 3 a (.Xw 16) λh=>b [d,e,a,h] c))
def kW(Q:R)(b:SH)(a c d:AV):Prop:=W.join (kU Q) λe=>wb .eql 3 a (.Xw 13) λf=>wk f (e [c,d,a,f] b) ((kV e b a c d))
def kX(Q:R)(d:Vs)(a:SH):Prop:=wu 3 5 12 71 d λb c e f=>wk f (bS 6 b a λg=>aB 1 c a λh=>wc (.fn 65 []) [g,h,(.bool false)] a λi j=>Q i j) ((kW Q a e b c))
def kY(Q:R)(b:SH)(a c d:AV):Prop:=W.join (kX Q) λe=>wb .eql 3 a (.Xw 11) λf=>wk f (e [c,d,a,f] b) (wb .eql 3 a (.Xw 12) λg=>e [c,d,a,g] b)
def kZ(Q:R)(a:SH)(c d b:AV):Prop:=wb .eql 3 c (.Xw 9) λe=>wk e (bS 6 d a λf=>aB 1 b a λg=>aB 4 b a λh=>wc (.fn 106 []) [f,g,h] a λi j=>Q i j) ((kY Q a c d b))
def k9(Q:R)(a:SH)(c d b:AV):Prop:=wb .eql 3 c (.Xw 7) λe=>wk e (bS 6 d a λf=>aB 2 b a λg=>aB 4 b a λh=>wc (.fn 106 []) [f,g,h] a λi j=>Q i j) ((kZ Q a c d b))
def la(Q:R)(a:SH)(b c d:AV):Prop:=wb .eql 3 b (.Xw 8) λe=>wk e (bS 6 c a λf=>aB 1 d a λg=>wc (.fn 105 []) [f,g] a λh i=>Q h i) ((k9 Q a b c d))
def jV(Q:R)(a:SH)(b c d:AV):Prop:=wb .eql 3 b (.Xw 6) λe=>wk e (bS 6 c a λf=>aB 2 d a λg=>wc (.fn 105 []) [f,g] a λh i=>Q h i) ((la Q a b c d))
def jW(Q:R)(a:SH)(d b c e:AV):Prop:=wb .eql 3 b (.Xw 10) λf=>wk f (aB 2 c a λg=>wc (.fn 67 []) [g,d] a λh i=>Q h i) ((jV Q a b e c))
def jX(Q:R)(a:SH)(b c d e:AV):Prop:=wb .eql 3 c (.Xw 5) λf=>wk f (aB 1 d a λg=>wc (.fn 67 []) [g,b] a λh i=>Q h i) ((jW Q a b c d e))
def jY(Q:R)(a:SH)(d b c e:AV):Prop:=wb .eql 3 b (.Xw 4) λf=>wk f (aB 4 c a λg=>wc (.fn 104 []) [g,(.Xw 0),(.Xw 0)] a (kN Q)) ((jX Q a d b c e))
def fH(d e f:AV)(L:SH)(Q:R):Prop:=W.box d L λg h=>W.box f h λi j=>W.frz1 g j λk l=>W.frz1 i l λb a=>aB 0 b a λc=>wb .eql 3 c (.Xw 3) λm=>wk m (aB 4 b a λn=>wc (.fn 103 []) [n,(.Xw 0)] a (kM Q)) ((jY Q a e c b k))
theorem ld(t0 t1 t2:AV)(L:SH)(Q:R)(h:fH t0 t1 t2 L Q):af Tryz.prog 69 [t0,t1,t2] L Q:=
 fs [(21,[3,5,12,71]),(26,[3,5,12,78]),(30,[3,5,12,87]),(33,[3,5,12,97])] [] [(0,[3,5])] [] Tryz.func69 h
def qv(Q:R)(e f a:AV)(g:SH):Prop:=wg a true (W.faddr 0 f) g λh b=>wg a true (wl h b) b λi j=>bH a true e j λk c=>wg a true (W.idx 5 i k c) c λl m=>wg a true (W.faddr 2 l) m λn d=>wg a true (wl n d) d λo p=>wg a true (wb .eql 3 o (.Xw 0)) p λq r=>W.pick a q (.bool false) λs=>Q s r
def jk(d a:AV)(L:SH)(Q:R):Prop:=qo d L λb c=>aB 0 b c λe=>W.len e λf=>wc (.fn 67 []) [a,f] c (qv Q a b)
theorem qw(t0 t1:AV)(L:SH)(Q:R)(h:jk t0 t1 L Q):af Tryz.prog 105 [t0,t1] L Q:=
 fs [] [] [(0,[2])] [] Tryz.func105 h
def sN(Q:R)(d o e b:AV)(p:SH):Prop:=wg b true (W.faddr 0 e) p λq f=>wg b true (wl q f) f λr s=>bH b true d s λt g=>wg b true (W.idx 5 r t g) g λu v=>wg b true (W.faddr 1 u) v λw h=>wg b true (wl w h) h λx y=>wg b true (wb .eql 3 x (.Xw 0)) y λz A=>W.pick b z (.bool false) λc=>wg c true (W.faddr 0 e) A λB i=>wg c true (wl B i) i λC D=>bH c true d D λE j=>wg c true (W.idx 5 C E j) j λF G=>wg c true (W.faddr 2 F) G λH k=>wg c true (wl H k) k λI J=>wg c true (wb .neq 3 I (.Xw 0)) J λM N=>W.pick c M (.bool false) λa=>wg a true (W.faddr 0 e) N λO l=>wg a true (wl O l) l λP S=>bH a true d S λT m=>wg a true (W.idx 5 P T m) m λU V=>wg a true (W.faddr 2 U) V λX n=>wg a true (wl X n) n λY Z=>bH a true o Z λa0 a1=>wg a true (wb .eql 2 Y a0) a1 λa2 a3=>W.pick a a2 (.bool false) λa4=>Q a4 a3
def ki(d a e:AV)(L:SH)(Q:R):Prop:=qo d L λb c=>aB 0 b c λf=>W.len f λg=>wc (.fn 67 []) [a,g] c (sN Q a e b)
theorem sO(t0 t1 t2:AV)(L:SH)(Q:R)(h:ki t0 t1 t2 L Q):af Tryz.prog 106 [t0,t1,t2] L Q:=
 fs [] [] [(0,[3])] [] Tryz.func106 h
def jl(b:AV)(L:SH)(Q:R):Prop:=wb .geq 3 b (.Xw 1) λa=>bH a true b L λc d=>wg a true (wb .leq 3 c (.Xw 5)) d λe f=>W.pick a e (.bool false) λg=>Q g f
theorem qx(t0:AV)(L:SH)(Q:R)(h:jl t0 L Q):af Tryz.prog 107 [t0] L Q:=
 fs [] [] [] [] Tryz.func107 h
def qy(e:Kn)(a:SH)(b c d f g h i:AV):Prop:=W.idx 1 b c a λj=>W.store 1 j (.bool true) a λk=>wc (.fn 108 []) [d,c] k λl m=>e [d,f,b,g,l,h,i] m
def qz(k l:Kn)(b c d f g h a:AV)(m:SH):Prop:=bH a true b m λn o=>bH a true c o λp i=>wg a true (W.idx 1 n p i) i λq j=>wg a true (wl q j) j λr s=>wg a true (W.un .not r) s λt e=>W.pick a t (.bool false) λu=>wk u (W.idx 1 b c e λv=>W.store 1 v (.bool true) e λw=>wc (.fn 108 []) [d,c] w λx y=>k [d,b,f,x,g,h] y) (wb .add 3 h (.Xw 1) λz=>l [d,b,f,g,z] e)
def eW(d:Kn)(e:Vs)(a:SH)(f:Kn):Prop:=Iv 0 3 4 6 14 15 e λb g h c i j=>eB 6 0 b c a λk=>wc (.fn 107 []) [k] a (qz f d g c b h i j)
def qA(Q:R)(l m:Kn)(c d e f g h i a:AV)(n:SH):Prop:=bH a true c n λo p=>bH a true d p λq j=>wg a true (W.idx 1 o q j) j λr k=>wg a true (wl r k) k λs t=>wg a true (W.un .not s) t λu b=>W.pick a u (.bool false) λv=>wk v (wo 1 e d b λw=>wk w (Q (.bool false) b) ((qy l b e d f c g h i))) (W.loop (eW m) [f,c,e,g,h,i] b)
def eX(Q:R)(d:Kn)(e:Vs)(a:SH)(f:Kn):Prop:=NR 0 3 4 5 6 14 15 e λb g h i c j k=>eB 6 0 b c a λl=>wc (.fn 107 []) [l] a (qA Q f d g c h b i j k)
def iC(Q:R)(d:Vs)(b:SH)(e:Kn):Prop:=HE 0 3 4 14 15 d λf g h c a=>wb .lss 3 a c λi=>wk i (W.loop (eX Q e) [f,g,h,a,a,c,a] b) (Q (.bool true) b)
def jm(a:AV)(L:SH)(Q:R):Prop:=W.len a λb=>W.mslice 1 1 [(.bool false)] b b L λd e=>W.len a λc=>W.mslice 1 1 [(.bool false)] c c e λf g=>W.len a λh=>W.loop (iC Q) [a,d,f,h,(.Xw 0)] g
theorem qB(t0:AV)(L:SH)(Q:R)(h:jm t0 L Q):af Tryz.prog 70 [t0] L Q:=
 fs [] [(7,[0,3,4,5,6,14,15]),(13,[0,3,4,6,14,15]),(4,[0,3,4,14,15])] [] [] Tryz.func70 h
def iD(b a:AV)(L:SH)(Q:R):Prop:=eB 6 0 b a L λc=>wb .eql 3 c (.Xw 5) λd=>wk d (eB 6 1 b a L λe=>Q e L) (wb .add 3 a (.Xw 1) λf=>Q f L)
theorem po(t0 t1:AV)(L:SH)(Q:R)(h:iD t0 t1 L Q):af Tryz.prog 108 [t0,t1] L Q:=
 fs [] [] [] [] Tryz.func108 h
def nU(Q:R)(b:Kn)(c d e f g:AV)(a:SH):Prop:=W.un .not g λh=>wk h (Q (.bool false) a) (wb .add 3 c (.Xw 1) λi=>b [d,e,f,i] a)
def nV(Q:R)(f:Kn)(b:SH)(c d e g:AV):Prop:=lE 2 c d b λh=>o6 [(.str []),(.Xw 0)] 2 h b λi a=>bS 6 e a λj=>aB 1 i a λk=>wc (.fn 65 []) [j,k,(.bool false)] a (nU Q f d e c g)
def gx(Q:R)(e:Vs)(a:SH)(f:Kn):Prop:=wu 1 60 61 62 e λb g c d=>wb .lss 3 d c λh=>wk h ((nV Q f a g d b c)) (bS 6 b a λi=>wc (.fn 66 []) [i] a λj k=>Q j k)
def nW(Q:R)(b d:AV)(e:SH):Prop:=W.ext 0 d λh=>W.ext 1 d λi=>W.un .not i λa=>wg a false (bS 6 b e) e λj k=>bH a false h k λl f=>W.grd a false (λm=>wc (.fn 64 []) [j,l] f λn o=>m n o) f λp q=>wg a false (W.un .not p) q λr c=>W.pick a (.bool true) r λs=>wk s (Q (.bool false) c) (aB 2 b c λg=>W.len g λt=>W.loop (gx Q) [b,g,t,(.Xw 0)] c)
def nX(Q:R)(d:SH)(b:AV):Prop:=aB 4 b d λf=>W.len f λg=>wb .lss 3 g (.Xw 1) λa=>wg a false (W.faddr 4 b) d λh e=>wg a false (wl h e) e λi j=>wg a false (W.len i) j λk l=>wg a false (wb .gtr 3 k (.Xw 4)) l λm c=>W.pick a (.bool true) m λn=>wk n (Q (.bool false) c) (aB 0 b c λo=>wc (.fn 63 []) [o] c (nW Q b))
def hO(l:AV)(L:SH)(Q:R):Prop:=qo l L λa f=>aB 0 a f λm=>W.len m λn=>wb .gtr 3 n (.Xw 12) λb=>wg b false (W.faddr 1 a) f λo g=>wg b false (wl o g) g λp q=>wg b false (W.len p) q λr s=>wg b false (wb .gtr 3 r (.Xw 4)) s λt u=>W.pick b (.bool true) t λc=>wg c false (W.faddr 2 a) u λv h=>wg c false (wl v h) h λw x=>wg c false (W.len w) x λy z=>wg c false (wb .gtr 3 y (.Xw 2)) z λA B=>W.pick c (.bool true) A λd=>wg d false (W.faddr 3 a) B λC i=>wg d false (wl C i) i λD E=>wg d false (W.len D) E λF G=>wg d false (wb .gtr 3 F (.Xw 2)) G λH I=>W.pick d (.bool true) H λe=>wg e false (W.faddr 5 a) I λJ j=>wg e false (wl J j) j λM N=>wg e false (W.len M) N λO P=>wg e false (wb .gtr 3 O (.Xw 60)) P λS k=>W.pick e (.bool true) S λT=>wk T (Q (.bool false) k) ((nX Q k a))
theorem nY(t0:AV)(L:SH)(Q:R)(h:hO t0 L Q):af Tryz.prog 38 [t0] L Q:=
 fs [] [(9,[1,60,61,62])] [(0,[1]),(10,[6])] [] Tryz.func38 h
def nZ(Q:R)(b:Kn)(a:SH)(c d e f:AV):Prop:=aB 1 c a λg=>wb .neq 3 g (.Xw 0) λh=>wk h (Q (.tup [.nils,(.bool false)]) a) (wb .add 3 d (.Xw 1) λi=>b [e,f,i] a)
def oa(Q:R)(f:Kn)(g:SH)(b c d e h i:AV):Prop:=W.faddr 1 b λj=>W.store 1 j c g λa=>(true=true)∧(wb .add 3 d c λk=>di [] 4 5 e k a λl m=>dr [] 5 5 l a λn o=>dr [rm 5 o,rm 4 m] 6 5 b a λp s=>wb .neq 126 n p λq=>wk q (Q (.tup [.nils,(.bool false)]) a) (wb .add 3 c (.Xw 1) λr=>f [e,h,d,b,i,r] a))
def dV(Q:R)(h:Kn)(i:Vs)(a:SH)(j:Kn):Prop:=Iv 0 4 5 6 51 52 i λb c d e f g=>wb .lss 3 g f λk=>wk k ((oa Q j a e g d b c f)) (aB 2 e a λl=>wb .add 3 d l λm=>h [b,c,m] a)
def oe(Q:R)(l:Kn)(f:SH)(b g h m:AV):Prop:=aB 2 b f λn=>wb .lss 3 n (.Xw 1) λc=>wg c false (W.faddr 2 b) f λo i=>wg c false (wl o i) i λp q=>wg c false (wb .gtr 3 p (.Xw 4)) q λr s=>W.pick c (.bool true) r λd=>wg d false (W.faddr 3 b) s λt j=>wg d false (wl t j) j λu v=>W.pick d (.bool true) u λa=>wg a false (W.faddr 2 b) v λw k=>wg a false (wl w k) k λx y=>bH a false g y λz A=>wg a false (W.len z) A λB C=>bH a false h C λD E=>wg a false (wb .sub 3 B D) E λF G=>wg a false (wb .gtr 3 x F) G λH e=>W.pick a (.bool true) H λI=>wk I (Q (.tup [.nils,(.bool false)]) e) (aB 2 b e λJ=>W.loop (dV Q l) [g,m,h,b,J,(.Xw 0)] e)
def og(Q:R)(e:Kn)(f:SH)(b c i:AV):Prop:=lE 5 b c f λj=>W.alloc [(.str []),(.Xw 0),(.Xw 0),(.bool false),(.Xw 0)] f λa k=>W.store 5 a j k λg=>aB 0 a g λl=>W.bslice 1 [(.str [])] 1 [(0,l)] g λm n=>W.append 1 16 i m n λh d=>aB 2 a d λo=>wb .eql 3 o (.Xw 0) λp=>wk p ((nZ Q e d a c b h)) ((oe Q e d a b c h))
def gy(Q:R)(e:Vs)(a:SH)(f:Kn):Prop:=wq 0 4 5 e λb c d=>W.len b λg=>wb .lss 3 d g λh=>wk h ((og Q f a b d c)) (Q (.tup [c,(.bool true)]) a)
def eE(a:AV)(L:SH)(Q:R):Prop:=W.loop (gy Q) [a,.nils,(.Xw 0)] L
theorem gz(t0:AV)(L:SH)(Q:R)(h:eE t0 L Q):af Tryz.prog 63 [t0] L Q:=
 fs [] [(13,[0,4,5,6,51,52]),(3,[0,4,5])] [] [(16,[0,0,0,6,15,31,0,127])] Tryz.func63 h
def oh(Q:R)(c:Kn)(d:Vs)(a:SH):Prop:=NR 1 3 4 6 8 9 10 d λe f b g h i j=>aB 1 g a λk=>wb .neq 3 k b λl=>wk l (Q (.bool false) a) (wb .add 3 b (.Xw 1) λm=>wb .add 3 j (.Xw 1) λn=>c [e,f,m,h,i,n] a)
def oo(Q:R)(i:Kn)(a:SH)(b c d e f g j:AV):Prop:=W.join (oh Q i) λh=>aB 0 b a λk=>wb .gtr 3 k c λl=>wk l (aB 0 b a λm=>h [d,m,(.Xw 0),b,e,f,g] a) (h [d,c,j,b,e,f,g] a)
def oq(Q:R)(l:Kn)(c:SH)(d e f g m n:AV):Prop:=lE 3 d e c λo=>o6 [(.Xw 0),(.Xw 0),(.Xw 0)] 3 o c λb h=>aB 0 b h λp=>wb .lss 3 p f λa=>wg a false (W.faddr 0 b) h λq i=>wg a false (wl q i) i λr s=>wg a false (W.faddr 4 g) s λt j=>wg a false (wl t j) j λu v=>wg a false (W.len u) v λw x=>wg a false (wb .geq 3 r w) x λy k=>W.pick a (.bool true) y λz=>wk z (Q (.bool false) k) ((oo Q l k b f g d m e n))
def gA(Q:R)(d:Vs)(a:SH)(e:Kn):Prop:=Iv 1 3 4 8 9 10 d λf g h i b c=>wb .lss 3 c b λj=>wk j ((oq Q e a i c g f b h)) (Q (.bool true) a)
def hY(d:AV)(L:SH)(Q:R):Prop:=qo d L λa b=>aB 5 a b λc=>W.len c λe=>W.loop (gA Q) [a,(.Xw 0),(.Xw 0),c,e,(.Xw 0)] b
theorem ou(t0:AV)(L:SH)(Q:R)(h:hY t0 L Q):af Tryz.prog 66 [t0] L Q:=
 fs [(8,[1,3,4,6,8,9,10])] [(3,[1,3,4,8,9,10])] [(0,[1]),(4,[6])] [] Tryz.func66 h
def xv(Q:R)(e f g a:AV)(h:SH):Prop:=wg a true (W.faddr 1 g) h λi b=>wg a true (wl i b) b λj k=>bH a true e k λl c=>wg a true (W.idx 2 j l c) c λm n=>wg a true (W.faddr 1 m) n λo d=>wg a true (wl o d) d λp q=>bH a true f q λr s=>wg a true (wb .eql 4 p r) s λt u=>W.pick a t (.bool false) λv=>Q v u
def lO(d a e:AV)(L:SH)(Q:R):Prop:=qo d L λb c=>aB 1 b c λf=>W.len f λg=>wc (.fn 67 []) [a,g] c (xv Q a e b)
theorem xw(t0 t1 t2:AV)(L:SH)(Q:R)(h:lO t0 t1 t2 L Q):af Tryz.prog 65 [t0,t1,t2] L Q:=
 fs [] [] [(0,[3])] [] Tryz.func65 h
def lP(b c:AV)(L:SH)(Q:R):Prop:=wb .geq 3 b (.Xw 0) λa=>bH a true b L λd e=>bH a true c e λf g=>wg a true (wb .lss 3 d f) g λh i=>W.pick a h (.bool false) λj=>Q j i
theorem xx(t0 t1:AV)(L:SH)(Q:R)(h:lP t0 t1 L Q):af Tryz.prog 67 [t0,t1] L Q:=
 fs [] [] [] [] Tryz.func67 h
def pp(Q:R)(a:SH)(b:AV):Prop:=aB 1 b a λc=>aB 2 b a λd=>aB 3 b a λe=>W.bslice 1 [(.Xw 0)] 3 [(0,c),(1,d),(2,e)] a λf g=>Q f g
def pq(Q:R)(a:SH)(c b:AV):Prop:=wb .eql 3 c (.Xw 9) λd=>wk d (aB 2 b a λe=>aB 3 b a λf=>W.bslice 1 [(.Xw 0)] 2 [(0,e),(1,f)] a λg h=>Q g h) (Q .nils a)
def pr(Q:R)(c:Vs)(a:SH):Prop:=wq 1 4 37 c λb d e=>wk e (aB 2 b a λf=>W.bslice 1 [(.Xw 0)] 1 [(0,f)] a λg h=>Q g h) ((pq Q a d b))
def pt(Q:R)(b:SH)(a c:AV):Prop:=W.join (pr Q) λd=>wb .eql 3 a (.Xw 8) λe=>wk e (d [c,a,e] b) (wb .eql 3 a (.Xw 26) λf=>d [c,a,f] b)
def pu(Q:R)(a:SH)(c b:AV):Prop:=wb .eql 3 c (.Xw 7) λd=>wk d (aB 1 b a λe=>aB 3 b a λf=>W.bslice 1 [(.Xw 0)] 2 [(0,e),(1,f)] a λg h=>Q g h) ((pt Q a c b))
def pw(Q:R)(d:Vs)(a:SH):Prop:=wq 1 4 13 d λb c e=>wk e (aB 1 b a λf=>aB 2 b a λg=>W.bslice 1 [(.Xw 0)] 2 [(0,f),(1,g)] a λh i=>Q h i) (wb .eql 3 c (.Xw 4) λj=>wk j ((pp Q a b)) ((pu Q a c b)))
def px(Q:R)(b:SH)(a c:AV):Prop:=W.join (pw Q) λd=>wb .eql 3 a (.Xw 2) λe=>wk e (d [c,a,e] b) (wb .eql 3 a (.Xw 3) λf=>d [c,a,f] b)
def py(Q:R)(c:Vs)(a:SH):Prop:=wq 1 4 5 c λb d e=>wk e (aB 1 b a λf=>W.bslice 1 [(.Xw 0)] 1 [(0,f)] a λg h=>Q g h) ((px Q a d b))
def pz(b:Kn)(c:SH)(a d:AV):Prop:=wb .eql 3 a (.Xw 6) λe=>wk e (b [d,a,e] c) (wb .eql 3 a (.Xw 10) λf=>wk f (b [d,a,f] c) (wb .eql 3 a (.Xw 27) λg=>b [d,a,g] c))
def iE(f:AV)(L:SH)(Q:R):Prop:=qo f L λa b=>aB 0 a b λc=>W.join (py Q) λd=>wb .eql 3 c (.Xw 1) λe=>wk e (d [a,c,e] b) ((pz d b c a))
theorem pB(t0:AV)(L:SH)(Q:R)(h:iE t0 L Q):af Tryz.prog 68 [t0] L Q:=
 fs [(5,[1,4,5]),(8,[1,4,13]),(15,[1,4,37])] [] [(0,[1])] [] Tryz.func68 h
end
end Go.Proofs.YtdnpdghlggbklaaGreatDoor.Am
