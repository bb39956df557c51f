/- A part of the proof; the statement is proved in the last part. -/
import Derived.Test.YtdnpdghlggbklaaGreatDoorQtj
set_option linter.unusedSimpArgs false
set_option linter.unusedVariables false
namespace Go.Proofs.YtdnpdghlggbklaaGreatDoor.Am
section
set_option maxRecDepth 100000
set_option linter.unusedSimpArgs false
def Ir(p:Int×Bool):AV:=.tup [.ZO p.1,.bool p.2]
theorem Kd(b:Bool):az Tryz.prog 129 [.bool b] (.ZO (lD b)):=by
 refine GG _ _ _ ?_;unfold yx;cases b
 all_goals
  repeat' (first|refine st ?_|refine sb λnb_ hnb_=>?_|refine s2 (λh=>?_) λh=>?_|fail)
  exact⟨rfl,rfl⟩
theorem Ke(op a:Int):az Tryz.prog 103 [.ZO op,.ZO a] (Ir (NP op a)):=by
 refine GI _ _ _ _ ?_;unfold yy;generalize hQ:(λ(u:AV) (K:SH)=>u=Ir (NP op a)∧K=[])=Q
 repeat' (first|refine st ?_|(refine pf 129 ?_;refine pm (Kd _) ?_)|refine sb λnb_ hnb_=>?_|refine s2 (λh=>?_) λh=>?_|fail)
 all_goals
  subst hQ;refine⟨?_,rfl⟩;simp_all[NP,Ir]
theorem Hw(op a b:Int):az Tryz.prog 104 [.ZO op,.ZO a,.ZO b] (Ir (yr op a b)):=by
 refine EY _ _ _ _ _ ?_;unfold tK;generalize hQ:(λ(u:AV) (K:SH)=>u=Ir (yr op a b)∧K=[])=Q
 repeat' (first|refine st ?_|(refine pf 129 ?_;refine pm (Kd _) ?_)|refine sb λnb_ hnb_=>?_|refine s2 (λh=>?_) λh=>?_|fail)
 all_goals
  subst hQ;refine⟨?_,rfl⟩;simp_all[yr,Ir]
end
section
set_option maxRecDepth 100000
set_option linter.unusedSimpArgs false
set_option linter.unusedSectionVars false
theorem fJ{P:Program}{KL:AV→SH→Prop}{g:FuncId}{cs args:List AV}{L L':SH}{b:Nat}{x:Blk}{R:AV→SH→Prop}(h:af P g (args++cs) [(b,x)] R)(hd:eP b x L L')(hk:∀v K,R v K→KL v (K++L')):W.call P (.fn g cs) args L KL:=
 ⟨h.frame (K:=[(b,x)]) (R:=L') hd.perm λu K hu=>hk u K hu⟩
def nM(s:aH)(o t:Option Nat):List AV:=[.ZO s.pc,aS o s.regs.length,aS t s.taint.length,.ZO s.ev]
def pp(s:aH)(bs:Nat)(o t:Option Nat):SH:=(bs,⟨4,[nM s o t]⟩)::(ae o 1 (s.regs.map aj)++ae t 1 (s.taint.map cz))
def Bl(r:Option aH)(bs:Nat)(o t:Option Nat)(v:AV)(L:SH):Prop:=
 match r with
 |none=>v=.bool false
 |some s2=>v=.bool true∧L=pp s2 bs o t
theorem M8(s:aH)(bs:Nat)(o t:Option Nat)(ho:o=none→s.regs=[])(r:Int):af Tryz.prog 116 [.ZO r,.pptr [[.ptr bs 0 0]] 0 0] [(bs,⟨4,[nM s o t]⟩)] λv L=>v=.bool (s.has r)∧L=[(bs,⟨4,[nM s o t]⟩)]:=by
 refine rK _ _ _ _ ?_;unfold jG;generalize hQ:(λ(v:AV) (L:SH)=>v=.bool (s.has r)∧L=[(bs,(⟨4,[nM s o t]⟩:Blk))])=Q;cases o with
 |none=>
  have h0:=ho rfl;unfold nM at hQ ⊢;dsimp only[aS]at hQ ⊢
  repeat' (first|refine st ?_|refine sb λnb_ hnb_=>?_|refine s2 (λh=>?_) λh=>?_|fail)
  all_goals
   subst hQ;refine⟨?_,rfl⟩;simp_all[aH.has,inB]<;>omega
 |some b=>
  unfold nM at hQ ⊢;dsimp only[aS]at hQ ⊢
  repeat' (first|refine st ?_|refine sb λnb_ hnb_=>?_|refine s2 (λh=>?_) λh=>?_|fail)
  all_goals
   subst hQ;refine⟨?_,rfl⟩;simp_all[aH.has,inB]<;>omega
theorem kT{s:aH}{r:Int}:s.has r=true↔∃k:Nat,r=k∧k<s.regs.length:=by unfold aH.has;rw[ax];exact⟨λ⟨h1,h2⟩=>⟨r.toNat,ZJ,ZJ⟩,λ⟨k,h1,h2⟩=>by omega⟩
theorem kU{o:Option Nat}{α:Type}{l:List α}{k:Nat}(h:o=none→l=[])(hk:k<l.length):∃b,o=some b:=by
 cases o with
 |none=>rw[h rfl]at hk;simp at hk
 |some b=>exact⟨b,rfl⟩
section
variable (s:aH) (bs:Nat) (o t:Option Nat) (ho:o=none→s.regs=[]) (ht:t=none→s.taint=[]) (hlen:s.taint.length=s.regs.length) (hsm:s.regs.length<2^40) (hsh:∀l∈s.taint,l.length≤2^30) (ia ib ic n site:Int)
include ho ht hlen hsm hsh
theorem Uw:af Tryz.prog 83 [.ptr bs 0 0,.agg (bq.mk 5 ia ib ic n site).enc] (pp s bs o t) (Bl (bQ ⟨5,ia,ib,ic,n,site⟩ s) bs o t):=by
 refine du _ _ _ _ ?_;unfold cY;generalize hQ:Bl (bQ ⟨5,ia,ib,ic,n,site⟩ s) bs o t=Q;unfold pp
 repeat' (first|refine st ?_|refine sb λnb_ hnb_=>?_|refine s2 (λh=>?_) λh=>?_|fail)
 subst hQ;exact⟨rfl,rfl⟩
theorem Ux:af Tryz.prog 83 [.ptr bs 0 0,.agg (bq.mk 1 ia ib ic n site).enc] (pp s bs o t) (Bl (bQ ⟨1,ia,ib,ic,n,site⟩ s) bs o t):=by
 have hex:=λr=>M8 s bs o t ho r
 refine af.fz (du _ _ _ _ ?_);unfold cY;generalize hQ:(λ(v:AV) (L:SH)=>∃v2 L2,aG [v] L [v2] L2∧Bl (bQ ⟨1,ia,ib,ic,n,site⟩ s) bs o t v2 L2)=Q;cases ha:s.has ia with
 |false=>
  have e:bQ ⟨1,ia,ib,ic,n,site⟩ s=none:=by simp[bQ,ha]
  unfold pp
  repeat' (first|refine st ?_|(refine qg (fJ (hex _) (.here _) ?_);rintro _ _ ⟨rfl,rfl⟩;(try rw[ha]))|refine sb λnb_ hnb_=>?_|refine s2 (λh=>?_) λh=>?_|fail)
  subst hQ;rw[e];exact⟨_,[],aG.all (.refl _),rfl⟩
 |true=>
  have e:bQ ⟨1,ia,ib,ic,n,site⟩ s=some (s.put ia n []):=by simp[bQ,ha]
  rw[e]at hQ;obtain⟨a,rfl,hal⟩:=kT.1 ha;obtain⟨b1,rfl⟩:=kU ho hal;obtain⟨b2,rfl⟩:=kU ht (k:=a) ZJ;have hal2:a<s.taint.length:=by omega
  have hxa:=ay (f:=aj) hal;have hya:=ay (f:=cz) hal2;unfold pp;dsimp only[ae,List.cons_append,List.nil_append]
  repeat' (first|refine st ?_|(refine qg (fJ (hex _) (.here _) ?_);rintro _ _ ⟨rfl,rfl⟩;first|rw[ha])|refine sb λnb_ hnb_=>?_|refine s2 (λh=>?_) λh=>?_|fail)
  subst hQ;refine⟨_,_,?_,rfl,rfl⟩;have e1:(s.put a n []).regs.map aj=(s.regs.map aj).set a [.ZO n]:=by simp[aH.put,Y6,aj]
  have e2:(s.put a n []).taint.map cz=(s.taint.map cz).set a [.lst []]:=by simp[aH.put,Y6,cz]
  have e3:nM (s.put a n []) (some b1) (some b2)=[.ZO (IntKind.i64.wrap (s.pc+1)),.sl b1 0 s.regs.length,.sl b2 0 s.taint.length,.ZO s.ev]:=by simp[nM,aH.put,aS]
  unfold pp;rw[e1,e2,e3];dsimp only[ae,List.cons_append,List.nil_append];refine aG.rowA (K:=[]) (A:=[(bs,_),(b1,_)]) (b:=b2) (R:=[]) (rows:=(s.taint.map cz).set a [.nils]) (rows':=(s.taint.map cz).set a [.lst []]) rp ZM (λj r r' q1 q2=>?_) rfl;rw[List.getElem?_set]at q1 q2;by_cases hj:a=j
  ·rw[if_pos hj]at q1 q2;rw[if_pos (by simp;omega)]at q1 q2;cases q1;cases q2;exact .cons .nils .nil
  ·rw[if_neg hj]at q1 q2;rw[q1]at q2;cases q2;exact iV.refl _ _
theorem Uy:af Tryz.prog 83 [.ptr bs 0 0,.agg (bq.mk 2 ia ib ic n site).enc] (pp s bs o t) (Bl (bQ ⟨2,ia,ib,ic,n,site⟩ s) bs o t):=by
 have hex:=λr=>M8 s bs o t ho r
 refine du _ _ _ _ ?_;unfold cY;generalize hQ:Bl (bQ ⟨2,ia,ib,ic,n,site⟩ s) bs o t=Q;cases ha:s.has ia with
 |false=>
  have e:bQ ⟨2,ia,ib,ic,n,site⟩ s=none:=by simp[bQ,ha]
  unfold pp
  repeat' (first|refine st ?_|(refine qg (fJ (hex _) (.here _) ?_);rintro _ _ ⟨rfl,rfl⟩;first|rw[ha])|refine sb λnb_ hnb_=>?_|refine s2 (λh=>?_) λh=>?_|fail)
  subst hQ;rw[e];rfl
 |true=>
  cases hb:s.has ib with
  |false=>
   have e:bQ ⟨2,ia,ib,ic,n,site⟩ s=none:=by simp[bQ,hb]
   unfold pp
   repeat' (first|refine st ?_|(refine qg (fJ (hex _) (.here _) ?_);rintro _ _ ⟨rfl,rfl⟩;first|rw[ha]|rw[hb])|refine sb λnb_ hnb_=>?_|refine s2 (λh=>?_) λh=>?_|fail)
   subst hQ;rw[e];rfl
  |true=>
   have e:bQ ⟨2,ia,ib,ic,n,site⟩ s=some (s.put ia (s.reg ib) (s.tnt ib)):=by simp[bQ,ha,hb]
   rw[e]at hQ;obtain⟨a,rfl,hal⟩:=kT.1 ha;obtain⟨b,rfl,hbl⟩:=kT.1 hb;obtain⟨b1,rfl⟩:=kU ho hal;obtain⟨b2,rfl⟩:=kU ht (k:=a) ZJ;have hal2:a<s.taint.length:=by omega
   have hxa:=ay (f:=aj) hal;have hya:=ay (f:=cz) hal2;have hbl2:b<s.taint.length:=by omega
   have hxb:=ay (f:=aj) hbl;have hyb:=ay (f:=cz) hbl2;have hcl:=cW s.taint[b] (by have:=hsh _ (List.getElem_mem hbl2);omega);unfold pp;dsimp only[ae,List.cons_append,List.nil_append]
   repeat' (first|refine st ?_|(refine qg (fJ (hex _) (.here _) ?_);rintro _ _ ⟨rfl,rfl⟩;first|rw[ha]|rw[hb])|(refine pf 81 ?_;refine pm (hcl) ?_)|refine sb λnb_ hnb_=>?_|refine s2 (λh=>?_) λh=>?_|fail)
   subst hQ;refine⟨rfl,?_⟩;simp[pp,aH.put,nM,aH.reg,aH.tnt,ae,List.getD,hbl,hbl2,Y6,aj,cz]
theorem Uz:af Tryz.prog 83 [.ptr bs 0 0,.agg (bq.mk 3 ia ib ic n site).enc] (pp s bs o t) (Bl (bQ ⟨3,ia,ib,ic,n,site⟩ s) bs o t):=by
 have hex:=λr=>M8 s bs o t ho r
 refine du _ _ _ _ ?_;unfold cY;generalize hQ:Bl (bQ ⟨3,ia,ib,ic,n,site⟩ s) bs o t=Q;cases ha:s.has ia with
 |false=>
  have e:bQ ⟨3,ia,ib,ic,n,site⟩ s=none:=by simp[bQ,ha]
  unfold pp
  repeat' (first|refine st ?_|(refine qg (fJ (hex _) (.here _) ?_);rintro _ _ ⟨rfl,rfl⟩;first|rw[ha])|refine sb λnb_ hnb_=>?_|refine s2 (λh=>?_) λh=>?_|fail)
  subst hQ;rw[e];rfl
 |true=>
  cases hb:s.has ib with
  |false=>
   have e:bQ ⟨3,ia,ib,ic,n,site⟩ s=none:=by simp[bQ,hb]
   unfold pp
   repeat' (first|refine st ?_|(refine qg (fJ (hex _) (.here _) ?_);rintro _ _ ⟨rfl,rfl⟩;first|rw[ha]|rw[hb])|refine sb λnb_ hnb_=>?_|refine s2 (λh=>?_) λh=>?_|fail)
   subst hQ;rw[e];rfl
  |true=>
   have e:bQ ⟨3,ia,ib,ic,n,site⟩ s=if(NP n (s.reg ib)).2 then some (s.put ia (NP n (s.reg ib)).1 (s.tnt ib))else none:=by simp[bQ,ha,hb]
   rw[e]at hQ;obtain⟨a,rfl,hal⟩:=kT.1 ha;obtain⟨b,rfl,hbl⟩:=kT.1 hb;obtain⟨b1,rfl⟩:=kU ho hal;obtain⟨b2,rfl⟩:=kU ht (k:=a) ZJ;have hal2:a<s.taint.length:=by omega
   have hxa:=ay (f:=aj) hal;have hya:=ay (f:=cz) hal2;have hbl2:b<s.taint.length:=by omega
   have hxb:=ay (f:=aj) hbl;have hyb:=ay (f:=cz) hbl2;have hcl:=cW s.taint[b] (by have:=hsh _ (Yr hbl2);omega);have hun:=Ke n s.regs[b];have hrb:s.reg b=s.regs[b]:=by simp[aH.reg,List.getD,hbl]
   have htb:s.tnt b=s.taint[b]:=by simp[aH.tnt,List.getD,hbl2]
   rw[hrb,htb]at hQ;generalize NP n s.regs[b]=p at hun hQ;unfold Ir at hun;unfold pp;dsimp only[ae,List.cons_append,List.nil_append]
   repeat' (first|refine st ?_|(refine qg (fJ (hex _) (.here _) ?_);rintro _ _ ⟨rfl,rfl⟩;first|rw[ha]|rw[hb])|(refine pf 81 ?_;refine pm (hcl) ?_)|(refine pf 103 ?_;refine pm (hun) ?_)|refine sb λnb_ hnb_=>?_|refine s2 (λh=>?_) λh=>?_|fail)
   subst hQ;unfold Bl;cases hp:p.2 with
   |false=>rfl
   |true=>refine⟨rfl,?_⟩;simp[pp,aH.put,nM,ae,Y6,aj,cz]
theorem UA:af Tryz.prog 83 [.ptr bs 0 0,.agg (bq.mk 4 ia ib ic n site).enc] (pp s bs o t) (Bl (bQ ⟨4,ia,ib,ic,n,site⟩ s) bs o t):=by
 have hex:=λr=>M8 s bs o t ho r
 refine du _ _ _ _ ?_;unfold cY;generalize hQ:Bl (bQ ⟨4,ia,ib,ic,n,site⟩ s) bs o t=Q;cases ha:s.has ia with
 |false=>
  have e:bQ ⟨4,ia,ib,ic,n,site⟩ s=none:=by simp[bQ,ha]
  unfold pp
  repeat' (first|refine st ?_|(refine qg (fJ (hex _) (.here _) ?_);rintro _ _ ⟨rfl,rfl⟩;first|rw[ha])|refine sb λnb_ hnb_=>?_|refine s2 (λh=>?_) λh=>?_|fail)
  subst hQ;rw[e];rfl
 |true=>
  cases hb:s.has ib with
  |false=>
   have e:bQ ⟨4,ia,ib,ic,n,site⟩ s=none:=by simp[bQ,hb]
   unfold pp
   repeat' (first|refine st ?_|(refine qg (fJ (hex _) (.here _) ?_);rintro _ _ ⟨rfl,rfl⟩;first|rw[ha]|rw[hb])|refine sb λnb_ hnb_=>?_|refine s2 (λh=>?_) λh=>?_|fail)
   subst hQ;rw[e];rfl
  |true=>
   cases hc:s.has ic with
   |false=>
    have e:bQ ⟨4,ia,ib,ic,n,site⟩ s=none:=by simp[bQ,hc]
    unfold pp
    repeat' (first|refine st ?_|(refine qg (fJ (hex _) (.here _) ?_);rintro _ _ ⟨rfl,rfl⟩;first|rw[ha]|rw[hb]|rw[hc])|refine sb λnb_ hnb_=>?_|refine s2 (λh=>?_) λh=>?_|fail)
    subst hQ;rw[e];rfl
   |true=>
    have e:bQ ⟨4,ia,ib,ic,n,site⟩ s=if(yr n (s.reg ib) (s.reg ic)).2 then some (s.put ia (yr n (s.reg ib) (s.reg ic)).1 (EM (s.tnt ib++s.tnt ic)))else none:=by simp[bQ,ha,hb,hc]
    rw[e]at hQ;obtain⟨a,rfl,hal⟩:=kT.1 ha;obtain⟨b,rfl,hbl⟩:=kT.1 hb;obtain⟨c,rfl,hcl⟩:=kT.1 hc;obtain⟨b1,rfl⟩:=kU ho hal;obtain⟨b2,rfl⟩:=kU ht (k:=a) ZJ;have hal2:a<s.taint.length:=by omega
    have hxa:=ay (f:=aj) hal;have hya:=ay (f:=cz) hal2;have hbl2:b<s.taint.length:=by omega
    have hxb:=ay (f:=aj) hbl;have hyb:=ay (f:=cz) hbl2;have hcl2:c<s.taint.length:=by omega
    have hxc:=ay (f:=aj) hcl;have hyc:=ay (f:=cz) hcl2;have hun2:=PX s.taint[b] s.taint[c] (hsh _ (Yr hbl2)) (hsh _ (Yr hcl2));have hun:=Hw n s.regs[b] s.regs[c];have hrb:s.reg b=s.regs[b]:=by simp[aH.reg,List.getD,hbl]
    have htb:s.tnt b=s.taint[b]:=by simp[aH.tnt,List.getD,hbl2]
    have hrc:s.reg c=s.regs[c]:=by simp[aH.reg,List.getD,hcl]
    have htc:s.tnt c=s.taint[c]:=by simp[aH.tnt,List.getD,hcl2]
    rw[hrb,htb,hrc,htc]at hQ;generalize yr n s.regs[b] s.regs[c]=p at hun hQ;generalize EM (s.taint[b]++s.taint[c])=u at hun2 hQ;unfold Ir at hun;unfold pp;dsimp only[ae,List.cons_append,List.nil_append]
    repeat' (first|refine st ?_|(refine qg (fJ (hex _) (.here _) ?_);rintro _ _ ⟨rfl,rfl⟩;first|rw[ha]|rw[hb]|rw[hc])|(refine pf 117 ?_;refine pm (hun2) ?_)|(refine pf 104 ?_;refine pm (hun) ?_)|refine sb λnb_ hnb_=>?_|refine s2 (λh=>?_) λh=>?_|fail)
    subst hQ;unfold Bl;cases hp:p.2 with
    |false=>rfl
    |true=>refine⟨rfl,?_⟩;simp[pp,aH.put,nM,ae,Y6,aj,cz]
end
end
section
set_option maxRecDepth 100000
set_option linter.unusedSimpArgs false
set_option linter.unusedSectionVars false
def M9:List AV:=[.ZO 0,.nils,.nils,.ZO 0]
theorem Is{P:Program}{KL R1:AV→SH→Prop}{g:FuncId}{args:List AV}{L K R:SH}(h:af P g args K R1)(hL:L.Perm (K++R))(hq:∀v K',R1 v K'→KL v (R++K')):W.callM P g args L KL:=
 ⟨.perm (h.frame hL λu K' hu=>⟨R++K',YD,hq u K' hu⟩)⟩
theorem PY(s:aH)(bs:Nat)(o t:Option Nat)(ho:o=none→s.regs=[])(ht:t=none→s.taint=[])(hlen:s.taint.length=s.regs.length)(hsm:s.regs.length<2^40)(hsh:∀l∈s.taint,l.length≤2^30)(i:bq)(h1:1≤i.op)(h5:i.op≤5):
  af Tryz.prog 83 [.ptr bs 0 0,.agg i.enc] (pp s bs o t) (Bl (bQ i s) bs o t):=by
 obtain⟨op,ia,ib,ic,n,site⟩:=i;dsimp only at h1 h5;obtain rfl|rfl|rfl|rfl|rfl:op=1∨op=2∨op=3∨op=4∨op=5:=by omega
 ·exact Ux s bs o t ho ht hlen hsm hsh ia ib ic n site
 ·exact Uy s bs o t ho ht hlen hsm hsh ia ib ic n site
 ·exact Uz s bs o t ho ht hlen hsm hsh ia ib ic n site
 ·exact UA s bs o t ho ht hlen hsm hsh ia ib ic n site
 ·exact Uw s bs o t ho ht hlen hsm hsh ia ib ic n site
theorem yR(s:aH)(a v:Int)(t:List Int):(s.put a v t).regs.length=s.regs.length∧(s.put a v t).taint.length=s.taint.length:=by simp[aH.put]
theorem Hy{s s2:aH}{i:bq}(he:bQ i s=some s2):s2.regs.length=s.regs.length∧s2.taint.length=s.taint.length:=by
 unfold bQ at he;split at he
 ·split at he
  ·cases he;exact yR _ _ _ _
  ·cases he
 ·split at he
  ·split at he
   ·cases he;exact yR _ _ _ _
   ·cases he
  ·split at he
   ·split at he
    ·cases he;exact yR _ _ _ _
    ·cases he
   ·split at he
    ·split at he
     ·cases he;exact yR _ _ _ _
     ·cases he
    ·cases he;exact⟨rfl,rfl⟩
theorem mA{α:Type}{K:SH}{f:α→List AV}{l:List α}{o:Option Nat}{n:Nat}(hn:n=l.length)(h0:o=none→l=[])(hm:∀b,o=some b→(b,(⟨1,l.map f⟩:Blk))∈K):Fz K (aS o n) (.lst (l.map f)):=by
 cases o with
 |none=>rw[h0 rfl];exact .refl _
 |some b=>exact Fz.sls (hm b rfl) rfl ZN hn
theorem R9{K:SH}{s:aH}{o t:Option Nat}(ho:o=none→s.regs=[])(ht:t=none→s.taint=[])(h:∀p∈ae o 1 (s.regs.map aj)++ae t 1 (s.taint.map cz),p∈K):Fz K (.agg (nM s o t)) (.agg s.enc):=
 Fz.aggs (.cons (.refl _) (.cons (mA rfl ho λb e=>h _ (by subst e;simp[ae])) (.cons (mA rfl ht λb e=>h _ (by subst e;simp[ae])) (.cons (.refl _) .nil))))
theorem It(K:SH):Fz K (.agg M9) (.agg aH.zero.enc):=Fz.aggs (.cons (.refl _) (.cons .nils (.cons .nils (.cons (.refl _) .nil))))
theorem Iu{K:SH}{a b:AV}{ok:Bool}(h:Fz K a b):Fz K (.tup [a,.bool ok]) (.tup [b,.bool ok]):=.tup _ _ rfl λi x y h1 h2=>by
 match i with
 |0=>cases h1;cases h2;exact h
 |1=>cases h1;cases h2;exact .refl _
 |i+2=>simp at h1
theorem Na{ins:List bq}{k:Nat}{s:aH}(h:inB s.pc ins.length=false):ef ins k s=(aH.zero,false):=by cases k<;>simp[ef,h]
theorem P0{ins:List bq}{k:Nat}{s:aH}(h:inB s.pc ins.length=true)(h2:(ins.getD s.pc.toNat default).op<1∨5<(ins.getD s.pc.toNat default).op):ef ins k s=(s,true):=by cases k<;>simp only[ef,h,if_true,if_pos h2]
theorem P1{ins:List bq}{k:Nat}{s:aH}(h:inB s.pc ins.length=true)(h2:¬((ins.getD s.pc.toNat default).op<1∨5<(ins.getD s.pc.toNat default).op))(h3:bQ (ins.getD s.pc.toNat default) s=none):ef ins k s=(aH.zero,false):=by cases k<;>simp only[ef,h,if_true,if_neg h2,h3]
theorem P2{ins:List bq}{s:aH}(h:inB s.pc ins.length=true)(h2:¬((ins.getD s.pc.toNat default).op<1∨5<(ins.getD s.pc.toNat default).op)):ef ins 0 s=(aH.zero,false):=by simp only[ef,h,if_true,if_neg h2]
theorem P3{ins:List bq}{k:Nat}{s s2:aH}(h:inB s.pc ins.length=true)(h2:¬((ins.getD s.pc.toNat default).op<1∨5<(ins.getD s.pc.toNat default).op))(h3:bQ (ins.getD s.pc.toNat default) s=some s2):ef ins (k+1) s=ef ins k s2:=by simp only[ef,h,if_true,if_neg h2,h3]
section
variable (c:hY) (s:aH) (U:List Int) (hU:U.length≤2^30) (hT:jF U s) (hc:c.ins.length<2^40) (o t:Option Nat) (ho:o=none→s.regs=[]) (ht:t=none→s.taint=[])
include hU hT hc ho ht
theorem Kf(b3 b4:Nat)(Q:AV→SH→Prop)(hq:∀v L,Fz L v (EN (ef c.ins c.ins.length s))→Q v L):
  W.loop (ie Q) [.pptr [c.enc] 0 0,.ptr b3 0 0,.ptr b4 0 0,.ZO (0:Nat)] ((b4,⟨4,[M9]⟩)::pp s b3 o t):=by
 refine bW c.ins.length (λk (e:aH)=>([.pptr [c.enc] 0 0,.ptr b3 0 0,.ptr b4 0 0,.ZO k],(b4,⟨4,[M9]⟩)::pp e b3 o t)) (λk e=>jF U e∧(e.regs.length=s.regs.length∧e.taint.length=s.taint.length)∧ef c.ins (c.ins.length-k) e=ef c.ins c.ins.length s) s ⟨hT,⟨rfl,rfl⟩,rfl⟩ (.refl _ _) ?_;intro k e hk ⟨he,⟨hl1,hl2⟩,hrun⟩;rw[←hrun]at hq;have ho':o=none→e.regs=[]:=λx=>Y5.1 (by rw[hl1,ho x];rfl)
 have ht':t=none→e.taint=[]:=λx=>Y5.1 (by rw[hl2,ht x];rfl)
 dsimp only;unfold ie;have zero:ef c.ins (c.ins.length-k) e=(aH.zero,false)→∀L,Q (.tup [.agg M9,.bool false]) L:=λh L=>hq _ _ (by rw[h];exact Iu (It _))
 by_cases p1:e.pc<0
 ·have hd1:decide (e.pc<0)=true:=by simpa using p1
  have hz:=zero (Na (by simp[inB];omega));unfold pp nM
  repeat' (first|refine st ?_|refine sb λnb_ hnb_=>?_|refine s2 (λh=>?_) λh=>?_|fail)
  exact hz _
 ·have hd1:decide (e.pc<0)=false:=by simpa using p1
  by_cases p2:(c.ins.length:Int)≤e.pc
  ·have hd2:decide ((c.ins.length:Int)≤e.pc)=true:=by simpa using p2
   have hz:=zero (Na (by simp[inB];omega));unfold pp nM
   repeat' (first|refine st ?_|refine sb λnb_ hnb_=>?_|refine s2 (λh=>?_) λh=>?_|fail)
   exact hz _
  ·have hd2:decide ((c.ins.length:Int)≤e.pc)=false:=by simpa using p2
   have hin:inB e.pc c.ins.length=true:=by simp[inB];omega
   have hx:=dU (f:=bq.enc) hin;generalize hi:c.ins.getD e.pc.toNat default=i at hx;by_cases p3:i.op<1∨5<i.op
   ·have hr:=P0 (k:=c.ins.length-k) hin (by rw[hi];exact p3);rw[hr]at hq;have fin:∀x,Q (.tup [.agg (nM e o t),.bool true]) ((b4,x)::pp e b3 o t):=λx=>hq _ _ (Iu (R9 ho' ht' λp hp=>by unfold pp;exact .tail _ (.tail _ hp)))
    unfold pp nM at fin ⊢;by_cases p4:i.op<1
    ·have q1:decide (i.op<1)=true:=by simpa using p4
     rcases o with _|b1<;>rcases t with _|b2
     all_goals
      dsimp only[aS,ae,List.cons_append,List.nil_append]at fin ⊢
      repeat' (first|refine st ?_|refine sb λnb_ hnb_=>?_|refine s2 (λh=>?_) λh=>?_|fail)
      exact fin _
    ·have q1:decide (i.op<1)=false:=by simpa using p4
     have q2:decide (5<i.op)=true:=by simp;omega
     rcases o with _|b1<;>rcases t with _|b2
     all_goals
      dsimp only[aS,ae,List.cons_append,List.nil_append]at fin ⊢
      repeat' (first|refine st ?_|refine sb λnb_ hnb_=>?_|refine s2 (λh=>?_) λh=>?_|fail)
      exact fin _
   ·have q1:decide (i.op<1)=false:=by simp;omega
    have q2:decide (5<i.op)=false:=by simp;omega
    by_cases p5:k=c.ins.length
    ·have q3:decide ((k:Int)=(c.ins.length:Int))=true:=by simp[p5]
     have hz:=zero (by rw[p5,Nat.sub_self];exact P2 hin (by rw[hi];exact p3));unfold pp nM
     repeat' (first|refine st ?_|refine sb λnb_ hnb_=>?_|refine s2 (λh=>?_) λh=>?_|fail)
     exact hz _
    ·have q3:decide ((k:Int)=(c.ins.length:Int))=false:=by simp;omega
     have hex:=PY e b3 o t ho' ht' he.len he.small he.short i ZJ ZJ;obtain⟨m,hm⟩:∃m,c.ins.length-k=m+1:=⟨c.ins.length-k-1,ZJ⟩;cases hst:bQ i e with
     |none=>
      have hz:=zero (P1 hin (by rw[hi];exact p3) (by rw[hi];exact hst));rw[hst]at hex;change af _ _ _ _ (λv L=>v=AV.bool false)at hex;unfold pp nM
      repeat' (first|refine st ?_|((with_reducible refine bz 83 ?_);(refine Is hex (YD (l₁:=[(b4,_)]) (l₂:=pp e b3 o t)) ?_;rintro _ K' rfl))|refine sb λnb_ hnb_=>?_|refine s2 (λh=>?_) λh=>?_|fail)
      exact hz _
     |some s2=>
      rw[hst]at hex;change af _ _ _ _ (λv L=>v=AV.bool true∧L=pp s2 b3 o t)at hex;have hrun2:ef c.ins (c.ins.length-(k+1)) s2=ef c.ins c.ins.length s:=by rw[←hrun,hm,P3 hin (by rw[hi];exact p3) (by rw[hi];exact hst),show c.ins.length-(k+1)=m by omega]
      have hls:=Hy hst;unfold pp nM
      repeat' (first|refine st ?_|((with_reducible refine bz 83 ?_);(refine Is hex (YD (l₁:=[(b4,_)]) (l₂:=pp e b3 o t)) ?_;rintro _ _ ⟨rfl,rfl⟩))|refine sb λnb_ hnb_=>?_|refine s2 (λh=>?_) λh=>?_|fail)
      exact⟨k+1,s2,ZJ,ZJ,⟨he.step hU hst,⟨ZJ,ZJ⟩,hrun2⟩,eQ (by rw[aA (by omega:k<c.ins.length) ZJ]<;>rfl) rfl⟩
end
end
section
set_option maxRecDepth 100000
set_option linter.unusedSimpArgs false
set_option linter.unusedSectionVars false
theorem P4{U:List Int}(hU:U.length≤2^30){ins:List bq}:∀(k:Nat) {s:aH},jF U s→jF U (ef ins k s).1:=by
 have hz:jF U aH.zero:=⟨rfl,ZN,nofun,nofun⟩;intro k
 induction k with
 |zero=>
  intro s h;unfold ef;split
  ·split
   ·exact h
   ·exact hz
  ·exact hz
 |succ k ih=>
  intro s h;unfold ef;split
  ·split
   ·exact h
   ·split
    ·exact hz
    ·rename_i s2 he;exact ih (h.step hU he)
  ·exact hz
theorem Kg{U:List Int}(hU:U.length≤2^30){c:hY}{s:aH}(h:jF U s):jF U (aQ c s).1:=by
 unfold aQ;split
 ·exact P4 hU _ h
 ·exact⟨rfl,ZN,nofun,nofun⟩
section
variable (c:hY) (s:aH) (U:List Int) (hU:U.length≤2^30) (hr:s.regs.length<2^40) (ht:s.taint.length<2^40) (hsh:∀l∈s.taint,l.length≤2^30) (hsub:∀l∈s.taint,∀x∈l,x∈U) (hc:c.ins.length<2^40)
include hU hr ht hsh hsub hc
theorem NX:az Tryz.prog 52 [.agg c.enc,.agg s.enc] (EN (aQ c s)):=by
 refine af.fz (Bk _ _ _ _ ?_);unfold oJ;generalize hQ:(λ(v:AV) (L:SH)=>∃v2 L2,aG [v] L [v2] L2∧v2=EN (aQ c s)∧L2=[])=Q;have hq:∀v L,Fz L v (EN (aQ c s))→Q v L:=λv L h=>by subst hQ;exact⟨_,[],aG.all h,rfl,rfl⟩
 clear hQ;by_cases p1:(s.regs.length:Int)=c.regs
 ·have d1:decide ((s.regs.length:Int)≠c.regs)=false:=by simpa using p1
  by_cases p2:(s.taint.length:Int)=c.regs
  ·have d2:decide ((s.taint.length:Int)≠c.regs)=false:=by simpa using p2
   have hT:jF U s:=⟨ZJ,hr,hsh,hsub⟩;have e:aQ c s=ef c.ins c.ins.length s:=by unfold aQ;rw[if_pos ⟨p1,p2⟩]
   rw[e]at hq;have hcl:=LK s hr ht hsh
   repeat' (first|refine st ?_|((with_reducible refine bz 82 ?_);(refine Is (K:=[]) hcl (List.Perm.refl _) ?_;rintro _ _ ⟨o,t,rfl,rfl,ho,ht2⟩))|refine sb λnb_ hnb_=>?_|refine s2 (λh=>?_) λh=>?_|fail)
   rename_i b3 _;rcases o with _|b1<;>rcases t with _|b2
   all_goals
    repeat' (first|refine st ?_|refine sb λnb_ hnb_=>?_|refine s2 (λh=>?_) λh=>?_|fail)
    exact Kf c s U hU hT hc _ _ ho ht2 b3 nb_ Q hq
  ·have d2:decide ((s.taint.length:Int)≠c.regs)=true:=by simpa using p2
   have e:aQ c s=(aH.zero,false):=by unfold aQ;rw[if_neg (λh=>p2 h.2)]
   rw[e]at hq
   repeat' (first|refine st ?_|refine sb λnb_ hnb_=>?_|refine s2 (λh=>?_) λh=>?_|fail)
   exact hq _ _ (Iu (It _))
 ·have d1:decide ((s.regs.length:Int)≠c.regs)=true:=by simpa using p1
  have e:aQ c s=(aH.zero,false):=by unfold aQ;rw[if_neg (λh=>p1 h.1)]
  rw[e]at hq
  repeat' (first|refine st ?_|refine sb λnb_ hnb_=>?_|refine s2 (λh=>?_) λh=>?_|fail)
  exact hq _ _ (Iu (It _))
end
end
section
set_option maxRecDepth 100000
set_option linter.unusedSimpArgs false
def cU(w:aO):SyncD:=⟨List.replicate w.locks.length ⟨-1,[]⟩,-1,List.replicate w.futures.length false,(List.replicate w.threads.length (⟨0,0,false⟩:ThrD)).set 0 ⟨1,0,false⟩⟩
theorem P5(w:aO)(h1:w.locks.length≤100)(h2:w.futures.length≤100)(h3:w.threads.length≤100):az Tryz.prog 71 [.agg w.enc] (.agg (cU w).enc):=by
 refine af.fz (CY _ _ _ ?_);unfold ql;generalize hQ:(λ(v:AV) (L:SH)=>∃v2 L2,aG [v] L [v2] L2∧v2=AV.agg (cU w).enc∧L2=[])=Q
 repeat' (first|refine st ?_|refine sb λnb_ hnb_=>?_|refine s2 (λh=>?_) λh=>?_|fail)
 rename_i b2 _ b3 _ b4 _ b5 _ b6 _;refine qf w.locks.length (λi=>([.ptr b3 0 0,.pptr [[.sl b4 0 w.locks.length,.ZO (-1),.sl b5 0 w.futures.length,.sl b6 0 w.threads.length]] 0 0,.ZO w.locks.length,.ZO i],
  [(b6,⟨3,List.replicate w.threads.length [.ZO 0,.ZO 0,.bool false]⟩),(b5,⟨1,List.replicate w.futures.length [.bool false]⟩),(b4,⟨2,List.replicate i [.ZO (-1),.nils]++List.replicate (w.locks.length-i) [.ZO 0,.nils]⟩),(b3,⟨4,[[.nils,.ZO 0,.nils,.nils]]⟩)])) (λ_=>True) trivial rfl ZM ?_
 intro i hi _;dsimp only;unfold oD;rcases Nat.lt_or_ge i w.locks.length with g1|g1
 ·have hd:=bE g1;have hx:=RJ i w.locks.length (α:=List AV) [.ZO (-1),.nils] [.ZO 0,.nils] g1
  repeat' (first|refine st ?_|refine sb λnb_ hnb_=>?_|refine s2 (λh=>?_) λh=>?_|fail)
  refine⟨i+1,ZJ,ZJ,trivial,eQ (by rw[aA g1 ZJ]<;>rfl) ?_⟩;rw[←RI i w.locks.length _ _ g1];rfl
 ·have hd:=bI g1;have fin:∀(T:List ThrD) (L:SH),T=(cU w).threads→L=[(b6,⟨3,T.map ThrD.enc⟩),(b5,⟨1,List.replicate w.futures.length [.bool false]⟩),(b4,⟨2,List.replicate i [.ZO (-1),.nils]++List.replicate (w.locks.length-i) [.ZO 0,.nils]⟩),(b3,⟨4,[[.sl b4 0 w.locks.length,.ZO (-1),.sl b5 0 w.futures.length,.sl b6 0 w.threads.length]]⟩)]→
    Q (.agg [.sl b4 0 w.locks.length,.ZO (-1),.sl b5 0 w.futures.length,.sl b6 0 w.threads.length]) L:=by
   intro T L hT hL;subst hL;subst hQ;have hi0:i=w.locks.length:=by omega
   subst hi0;refine⟨_,[],aG.all (Fz.aggs (.cons ?_ (.cons (.refl _) (.cons ?_ (.cons ?_ .nil))))),rfl,rfl⟩
   ·refine Fz.slm (f:=λ_=>[.ZO (-1),.nils]) (.tail _ (.tail _ (.head _))) (by simp[cU]) ZN (by simp[cU]) (λy hy=>rfl) (λy hy q a a2 q1 q2=>?_);have:y=⟨-1,[]⟩:=by simp[cU]at hy;exact hy.2
    subst this
    match q with
    |0=>cases q1;cases q2;exact .refl _
    |1=>cases q1;cases q2;exact .nils
    |q+2=>simp at q1
   ·exact Fz.sls (.tail _ (.head _)) (by simp[cU,bj]) ZN (by simp[cU])
   ·exact Fz.sls (.head _) (by rw[hT]) ZN (by simp[cU])
  rcases Y0 w.threads.length with g2|g2
  ·have hd2:decide ((0:Int)<(w.threads.length:Int))=false:=by simp[g2]
   repeat' (first|refine st ?_|refine sb λnb_ hnb_=>?_|refine s2 (λh=>?_) λh=>?_|fail)
   exact fin [] _ (by simp[cU,g2]) (by simp[g2])
  ·have hd2:decide ((0:Int)<(w.threads.length:Int))=true:=by simpa using g2
   have hx0:(List.replicate w.threads.length ([.ZO 0,.ZO 0,.bool false]:List AV))[0]? =some [.ZO 0,.ZO 0,.bool false]:=by simp[g2]
   repeat' (first|refine st ?_|refine sb λnb_ hnb_=>?_|refine s2 (λh=>?_) λh=>?_|fail)
   refine fin _ _ rfl ?_;simp[cU,ThrD.enc,Y6]
end
section
set_option maxRecDepth 100000
def Bm(Q:R)(b:Kn)(c d e f g:AV)(a:SH):Prop:=W.un .not g λh=>wk h (Q (.bool false) a) (wb .add 3 c (.ZO 1) λi=>b [d,e,f,i] a)
def Bn(Q:R)(f:Kn)(c:SH)(d a e g:AV):Prop:=ma 2 d a c λh=>rE [(.ZO 0),.nils] 2 h c λi b=>W.faddr 0 e λj=>cp 6 j b λk=>cp 2 i b λl=>wc (.fn 39 []) [k,a,l] b (Bm Q f a e d g)
def mB(Q:R)(d:Vs)(a:SH)(e:Kn):Prop:=ug 1 20 21 22 d λf g b c=>wb .lss 3 c b λh=>wk h ((Bn Q e a g c f b)) (Q (.bool true) a)
def Bo(Q:R)(b g:AV)(h:SH):Prop:=W.un .not g λa=>wg a false (W.faddr 6 b) h λi d=>wg a false (wl i d) d λj k=>wg a false (W.len j) k λl m=>wg a false (W.faddr 0 b) m λn o=>wg a false (W.faddr 4 n) o λp e=>wg a false (wl p e) e λq r=>wg a false (W.len q) r λs t=>wg a false (wb .neq 3 l s) t λu c=>W.pick a (.bool true) u λv=>wk v (Q (.bool false) c) (aC 6 b c λf=>W.len f λw=>W.loop (mB Q) [b,f,w,(.ZO 0)] c)
def oL(c:AV)(L:SH)(Q:R):Prop:=rF c L λa b=>W.faddr 0 a λd=>cp 6 d b λe=>wc (.fn 38 []) [e] b (Bo Q a)
theorem Bp(t0:AV)(L:SH)(Q:R)(h:oL t0 L Q):af Tryz.prog 21 [t0] L Q:=
 fs [] [(4,[1,20,21,22])] [(0,[1]),(5,[4])] [] Tryz.func21 h
def nN(Q:R)(b:Kn)(c d e f g h i j k l m:AV)(a:SH):Prop:=W.un .not m λn=>wk n (Q (.bool false) a) (wb .add 3 c (.ZO 1) λo=>b [d,e,f,g,h,i,j,k,l,o] a)
def nO(Q:R)(e:Kn)(a:SH)(b c d f g h i j k l:AV):Prop:=tH 1 b c a λm=>aC 0 d a λn=>wc (.fn 67 []) [m,n] a (nN Q e c f g d h i j k b l)
def nP(Q:R)(b:Kn)(c d e f g h i:AV)(a:SH):Prop:=W.un .not i λj=>wk j (Q (.bool false) a) (wb .add 3 c (.ZO 1) λk=>b [d,e,f,g,h,k] a)
def nQ(Q:R)(d:Kn)(a:SH)(b c e f g h i:AV):Prop:=cp 6 b a λj=>aC 1 c a λk=>W.len k λl=>cp 6 e a λm=>wc (.fn 69 []) [j,l,m] a (nP Q d f g b c h i)
def gw(Q:R)(k:Kn)(l:Vs)(a:SH)(m:Kn):Prop:=RW 1 3 5 8 26 27 28 78 79 80 l λb c d e f g h n i j=>wb .lss 3 j i λo=>wk o ((nO Q m a n j d b c e f g h i)) ((nQ Q k a c d e h b f g))
def nR(Q:R)(b:Kn)(c d e f g h i a:AV)(j:SH):Prop:=W.len a λk=>W.loop (gw Q b) [c,d,e,f,g,h,i,a,k,(.ZO 0)] j
def dY(Q:R)(c:Kn)(d:Vs)(a:SH):Prop:=Ua 1 3 5 6 8 26 27 28 d λe f g l b h i j=>cp 6 b a λk=>wc (.fn 68 []) [k] a (nR Q c e f g b h i j)
def nS(Q:R)(c:Kn)(d:Vs)(a:SH)(b e f g h i j:AV):Prop:=aC 5 b a λk=>wb .neq 3 k (.ZO (-1)) λl=>wk l (Q (.bool false) a) (c [e,f,g,(aw [1,3,5,26,27,28] d 6),b,h,i,j] a)
def nT(Q:R)(a:Vs)(b:SH):Prop:=Ua 1 3 5 6 8 26 27 28 a λd e f c g h i j=>Q c b
def nU(Q:R)(n:Kn)(o:Vs)(b c d e f g h p:AV)(q:SH):Prop:=W.un .not p λa=>wg a false (W.faddr 5 b) q λr i=>wg a false (wl r i) i λs t=>wg a false (W.faddr 5 c) t λu j=>wg a false (wl u j) j λv k=>wg a false (W.idx 3 s v k) k λw x=>wg a false (W.faddr 0 w) x λy l=>wg a false (wl y l) l λz A=>bJ a false d A λB C=>wg a false (wb .neq 3 z B) C λD m=>W.pick a (.bool true) D λE=>wk E (W.join (nT Q) λF=>F [d,b,e,(.bool false),c,f,g,h] m) (n [d,b,e,(aw [1,3,5,26,27,28] o 6),c,f,g,h] m)
def nV(Q:R)(d:Kn)(e:Vs)(a:SH)(b c f g h i j:AV):Prop:=aC 5 b a λk=>aC 5 c a λl=>W.len l λm=>wc (.fn 67 []) [k,m] a (nU Q d e c b f g h i j)
def nW(Q:R)(k:Kn)(c:Vs)(a:SH)(b d e f g h i:AV):Prop:=W.join (dY Q k) λj=>aC 0 b a λl=>wb .eql 3 l (.ZO 28) λm=>wk m ((nS Q j c a b d e f g h i)) ((nV Q j c a b e d f g h i))
def nX(Q:R)(m:Kn)(n:Vs)(e:SH)(f d g o p q:AV):Prop:=ma 6 f d e λr=>rE [(.ZO 0),(.ZO 0),(.ZO 0),(.ZO 0),(.ZO 0),(.ZO 0)] 6 r e λb h=>aC 0 b h λs=>wb .lss 3 s (.ZO 1) λc=>wg c false (W.faddr 0 b) h λt i=>wg c false (wl t i) i λu v=>wg c false (wb .gtr 3 u (.ZO 28)) v λw x=>W.pick c (.bool true) w λa=>wg a false (W.faddr 0 b) x λy j=>wg a false (wl y j) j λz A=>wg a false (wb .eql 3 z (.ZO 28)) A λB C=>bJ a false d C λD E=>wg a false (W.faddr 1 g) E λF k=>wg a false (wl F k) k λG H=>wg a false (W.len G) H λI J=>wg a false (wb .sub 3 I (.ZO 1)) J λM N=>wg a false (wb .eql 3 D M) N λO P=>wg a false (wb .neq 4 B O) P λS l=>W.pick a (.bool true) S λT=>wk T (Q (.bool false) l) ((nW Q m n l b o p g f q d))
def gx(Q:R)(b:Vs)(a:SH)(f:Kn):Prop:=J1 1 3 5 26 27 28 b λg h c i d e=>wb .lss 3 e d λj=>wk j ((nX Q f b a i e c g h d)) (aC 1 c a λk=>wc (.fn 70 []) [k] a λl m=>Q l m)
def gO(i j k:AV)(L:SH)(Q:R):Prop:=W.box i L λl m=>W.box k m λn o=>W.frz1 l o λp q=>W.frz1 n q λa e=>aC 0 a e λr=>wb .lss 3 r (.ZO 0) λc=>wg c false (W.faddr 0 a) e λs f=>wg c false (wl s f) f λt u=>wg c false (wb .gtr 3 t (.ZO 32)) u λv w=>W.pick c (.bool true) v λb=>wg b false (W.faddr 1 a) w λx g=>wg b false (wl x g) g λy z=>wg b false (W.len y) z λA B=>wg b false (wb .eql 3 A (.ZO 0)) B λC d=>W.pick b (.bool true) C λD=>wk D (Q (.bool false) d) (aC 1 a d λh=>W.len h λE=>W.loop (gx Q) [j,p,a,h,E,(.ZO 0)] d)
theorem nY(t0 t1 t2:AV)(L:SH)(Q:R)(h:gO t0 t1 t2 L Q):af Tryz.prog 39 [t0,t1,t2] L Q:=
 fs [(12,[1,3,5,6,8,26,27,28])] [(14,[1,3,5,8,26,27,28,78,79,80]),(4,[1,3,5,26,27,28])] [(0,[3,5]),(5,[8])] [] Tryz.func39 h
def lE(Q:R)(a:AV)(b:SH):Prop:=W.ext 0 a λd=>W.ext 1 a λc=>Q c b
def lF(Q:R)(a:AV)(b:SH):Prop:=W.ext 0 a λd=>W.ext 1 a λc=>Q c b
def lG(Q:R)(a:SH)(b c d:AV):Prop:=wb .eql 3 b (.ZO 27) λe=>wk e (aC 2 c a λf=>aC 3 d a λg=>W.len g λh=>wc (.fn 67 []) [f,h] a λi j=>Q i j) (Q (.bool true) a)
def lH(Q:R)(a:SH)(b c d:AV):Prop:=wb .eql 3 b (.ZO 26) λe=>wk e (aC 1 c a λf=>aC 3 d a λg=>W.len g λh=>wc (.fn 67 []) [f,h] a λi j=>Q i j) ((lG Q a b c d))
def lI(Q:R)(d:Vs)(a:SH):Prop:=ug 3 5 12 97 d λb c e f=>wk f (aC 1 c a λg=>aC 4 b a λh=>W.len h λi=>wc (.fn 67 []) [g,i] a λj k=>Q j k) ((lH Q a e c b))
def lJ(Q:R)(b:SH)(a c d:AV):Prop:=W.join (lI Q) λe=>wb .eql 3 a (.ZO 24) λf=>wk f (e [c,d,a,f] b) (wb .eql 3 a (.ZO 25) λg=>e [c,d,a,g] b)
def lK(Q:R)(d:Vs)(a:SH):Prop:=ug 3 5 12 87 d λb c e f=>wk f (aC 1 c a λg=>aC 2 b a λh=>W.len h λi=>wc (.fn 67 []) [g,i] a λj k=>Q j k) ((lJ Q a e b c))
def lL(Q:R)(b:SH)(a c d:AV):Prop:=W.join (lK Q) λe=>wb .eql 3 a (.ZO 21) λf=>wk f (e [c,d,a,f] b) (wb .eql 3 a (.ZO 22) λg=>wk g (e [c,d,a,g] b) (wb .eql 3 a (.ZO 23) λh=>e [c,d,a,h] b))
def lM(Q:R)(d:Vs)(a:SH):Prop:=ug 3 5 12 78 d λb c e f=>wk f (cp 6 b a λg=>aC 1 c a λh=>wc (.fn 65 []) [g,h,(.bool true)] a λi j=>Q i j) ((lL Q a e b c))
def lN(b:Kn)(c:SH)(a d e:AV):Prop:=wb .eql 3 a (.ZO 14) λf=>wk f (b [d,e,a,f] c) (wb .eql 3 a (.ZO 15) λg=>wk g (b [d,e,a,g] c) (wb .eql 3 a (.ZO 16) λh=>b [d,e,a,h] c))
def lO(Q:R)(b:SH)(a c d:AV):Prop:=W.join (lM Q) λe=>wb .eql 3 a (.ZO 13) λf=>wk f (e [c,d,a,f] b) ((lN e b a c d))
def lP(Q:R)(d:Vs)(a:SH):Prop:=ug 3 5 12 71 d λb c e f=>wk f (cp 6 b a λg=>aC 1 c a λh=>wc (.fn 65 []) [g,h,(.bool false)] a λi j=>Q i j) ((lO Q a e b c))
def lQ(Q:R)(b:SH)(a c d:AV):Prop:=W.join (lP Q) λe=>wb .eql 3 a (.ZO 11) λf=>wk f (e [c,d,a,f] b) (wb .eql 3 a (.ZO 12) λg=>e [c,d,a,g] b)
def lR(Q:R)(a:SH)(c d b:AV):Prop:=wb .eql 3 c (.ZO 9) λe=>wk e (cp 6 d a λf=>aC 1 b a λg=>aC 4 b a λh=>wc (.fn 106 []) [f,g,h] a λi j=>Q i j) ((lQ Q a c d b))
def lS(Q:R)(a:SH)(c d b:AV):Prop:=wb .eql 3 c (.ZO 7) λe=>wk e (cp 6 d a λf=>aC 2 b a λg=>aC 4 b a λh=>wc (.fn 106 []) [f,g,h] a λi j=>Q i j) ((lR Q a c d b))
def lT(Q:R)(a:SH)(b c d:AV):Prop:=wb .eql 3 b (.ZO 8) λe=>wk e (cp 6 c a λf=>aC 1 d a λg=>wc (.fn 105 []) [f,g] a λh i=>Q h i) ((lS Q a b c d))
def kD(Q:R)(a:SH)(b c d:AV):Prop:=wb .eql 3 b (.ZO 6) λe=>wk e (cp 6 c a λf=>aC 2 d a λg=>wc (.fn 105 []) [f,g] a λh i=>Q h i) ((lT Q a b c d))
def kE(Q:R)(a:SH)(d b c e:AV):Prop:=wb .eql 3 b (.ZO 10) λf=>wk f (aC 2 c a λg=>wc (.fn 67 []) [g,d] a λh i=>Q h i) ((kD Q a b e c))
def kF(Q:R)(a:SH)(b c d e:AV):Prop:=wb .eql 3 c (.ZO 5) λf=>wk f (aC 1 d a λg=>wc (.fn 67 []) [g,b] a λh i=>Q h i) ((kE Q a b c d e))
def kG(Q:R)(a:SH)(d b c e:AV):Prop:=wb .eql 3 b (.ZO 4) λf=>wk f (aC 4 c a λg=>wc (.fn 104 []) [g,(.ZO 0),(.ZO 0)] a (lF Q)) ((kF Q a d b c e))
def gb(d e f:AV)(L:SH)(Q:R):Prop:=W.box d L λg h=>W.box f h λi j=>W.frz1 g j λk l=>W.frz1 i l λb a=>aC 0 b a λc=>wb .eql 3 c (.ZO 3) λm=>wk m (aC 4 b a λn=>wc (.fn 103 []) [n,(.ZO 0)] a (lE Q)) ((kG Q a e c b k))
theorem lU(t0 t1 t2:AV)(L:SH)(Q:R)(h:gb t0 t1 t2 L Q):af Tryz.prog 69 [t0,t1,t2] L Q:=
 fs [(21,[3,5,12,71]),(26,[3,5,12,78]),(30,[3,5,12,87]),(33,[3,5,12,97])] [] [(0,[3,5])] [] Tryz.func69 h
def rL(Q:R)(e f a:AV)(g:SH):Prop:=wg a true (W.faddr 0 f) g λh b=>wg a true (wl h b) b λi j=>bJ a true e j λk c=>wg a true (W.idx 5 i k c) c λl m=>wg a true (W.faddr 2 l) m λn d=>wg a true (wl n d) d λo p=>wg a true (wb .eql 3 o (.ZO 0)) p λq r=>W.pick a q (.bool false) λs=>Q s r
def jH(d a:AV)(L:SH)(Q:R):Prop:=rF d L λb c=>aC 0 b c λe=>W.len e λf=>wc (.fn 67 []) [a,f] c (rL Q a b)
theorem rM(t0 t1:AV)(L:SH)(Q:R)(h:jH t0 t1 L Q):af Tryz.prog 105 [t0,t1] L Q:=
 fs [] [] [(0,[2])] [] Tryz.func105 h
def uj(Q:R)(d o e b:AV)(p:SH):Prop:=wg b true (W.faddr 0 e) p λq f=>wg b true (wl q f) f λr s=>bJ b true d s λt g=>wg b true (W.idx 5 r t g) g λu v=>wg b true (W.faddr 1 u) v λw h=>wg b true (wl w h) h λx y=>wg b true (wb .eql 3 x (.ZO 0)) y λz A=>W.pick b z (.bool false) λc=>wg c true (W.faddr 0 e) A λB i=>wg c true (wl B i) i λC D=>bJ c true d D λE j=>wg c true (W.idx 5 C E j) j λF G=>wg c true (W.faddr 2 F) G λH k=>wg c true (wl H k) k λI J=>wg c true (wb .neq 3 I (.ZO 0)) J λM N=>W.pick c M (.bool false) λa=>wg a true (W.faddr 0 e) N λO l=>wg a true (wl O l) l λP S=>bJ a true d S λT m=>wg a true (W.idx 5 P T m) m λU V=>wg a true (W.faddr 2 U) V λX n=>wg a true (wl X n) n λY Z=>bJ a true o Z λa0 a1=>wg a true (wb .eql 2 Y a0) a1 λa2 a3=>W.pick a a2 (.bool false) λa4=>Q a4 a3
def kV(d a e:AV)(L:SH)(Q:R):Prop:=rF d L λb c=>aC 0 b c λf=>W.len f λg=>wc (.fn 67 []) [a,g] c (uj Q a e b)
theorem uk(t0 t1 t2:AV)(L:SH)(Q:R)(h:kV t0 t1 t2 L Q):af Tryz.prog 106 [t0,t1,t2] L Q:=
 fs [] [] [(0,[3])] [] Tryz.func106 h
def jI(b:AV)(L:SH)(Q:R):Prop:=wb .geq 3 b (.ZO 1) λa=>bJ a true b L λc d=>wg a true (wb .leq 3 c (.ZO 5)) d λe f=>W.pick a e (.bool false) λg=>Q g f
theorem rN(t0:AV)(L:SH)(Q:R)(h:jI t0 L Q):af Tryz.prog 107 [t0] L Q:=
 fs [] [] [] [] Tryz.func107 h
def rO(e:Kn)(a:SH)(b c d f g h i:AV):Prop:=W.idx 1 b c a λj=>W.store 1 j (.bool true) a λk=>wc (.fn 108 []) [d,c] k λl m=>e [d,f,b,g,l,h,i] m
def rP(k l:Kn)(b c d f g h a:AV)(m:SH):Prop:=bJ a true b m λn o=>bJ a true c o λp i=>wg a true (W.idx 1 n p i) i λq j=>wg a true (wl q j) j λr s=>wg a true (W.un .not r) s λt e=>W.pick a t (.bool false) λu=>wk u (W.idx 1 b c e λv=>W.store 1 v (.bool true) e λw=>wc (.fn 108 []) [d,c] w λx y=>k [d,b,f,x,g,h] y) (wb .add 3 h (.ZO 1) λz=>l [d,b,f,g,z] e)
def ft(d:Kn)(e:Vs)(a:SH)(f:Kn):Prop:=J1 0 3 4 6 14 15 e λb g h c i j=>fb 6 0 b c a λk=>wc (.fn 107 []) [k] a (rP f d g c b h i j)
def rQ(Q:R)(l m:Kn)(c d e f g h i a:AV)(n:SH):Prop:=bJ a true c n λo p=>bJ a true d p λq j=>wg a true (W.idx 1 o q j) j λr k=>wg a true (wl r k) k λs t=>wg a true (W.un .not s) t λu b=>W.pick a u (.bool false) λv=>wk v (tH 1 e d b λw=>wk w (Q (.bool false) b) ((rO l b e d f c g h i))) (W.loop (ft m) [f,c,e,g,h,i] b)
def fw(Q:R)(d:Kn)(e:Vs)(a:SH)(f:Kn):Prop:=NN 0 3 4 5 6 14 15 e λb g h i c j k=>fb 6 0 b c a λl=>wc (.fn 107 []) [l] a (rQ Q f d g c h b i j k)
def iX(Q:R)(d:Vs)(b:SH)(e:Kn):Prop:=Jd 0 3 4 14 15 d λf g h c a=>wb .lss 3 a c λi=>wk i (W.loop (fw Q e) [f,g,h,a,a,c,a] b) (Q (.bool true) b)
def jJ(a:AV)(L:SH)(Q:R):Prop:=W.len a λb=>W.mslice 1 1 [(.bool false)] b b L λd e=>W.len a λc=>W.mslice 1 1 [(.bool false)] c c e λf g=>W.len a λh=>W.loop (iX Q) [a,d,f,h,(.ZO 0)] g
theorem rR(t0:AV)(L:SH)(Q:R)(h:jJ t0 L Q):af Tryz.prog 70 [t0] L Q:=
 fs [] [(7,[0,3,4,5,6,14,15]),(13,[0,3,4,6,14,15]),(4,[0,3,4,14,15])] [] [] Tryz.func70 h
def iY(b a:AV)(L:SH)(Q:R):Prop:=fb 6 0 b a L λc=>wb .eql 3 c (.ZO 5) λd=>wk d (fb 6 1 b a L λe=>Q e L) (wb .add 3 a (.ZO 1) λf=>Q f L)
theorem qu(t0 t1:AV)(L:SH)(Q:R)(h:iY t0 t1 L Q):af Tryz.prog 108 [t0,t1] L Q:=
 fs [] [] [] [] Tryz.func108 h
def pq(Q:R)(b:Kn)(c d e f g:AV)(a:SH):Prop:=W.un .not g λh=>wk h (Q (.bool false) a) (wb .add 3 c (.ZO 1) λi=>b [d,e,f,i] a)
def pr(Q:R)(f:Kn)(b:SH)(c d e g:AV):Prop:=ma 2 c d b λh=>rE [(.str []),(.ZO 0)] 2 h b λi a=>cp 6 e a λj=>aC 1 i a λk=>wc (.fn 65 []) [j,k,(.bool false)] a (pq Q f d e c g)
def gP(Q:R)(e:Vs)(a:SH)(f:Kn):Prop:=ug 1 60 61 62 e λb g c d=>wb .lss 3 d c λh=>wk h ((pr Q f a g d b c)) (cp 6 b a λi=>wc (.fn 66 []) [i] a λj k=>Q j k)
def pt(Q:R)(b d:AV)(e:SH):Prop:=W.ext 0 d λh=>W.ext 1 d λi=>W.un .not i λa=>wg a false (cp 6 b e) e λj k=>bJ a false h k λl f=>W.grd a false (λm=>wc (.fn 64 []) [j,l] f λn o=>m n o) f λp q=>wg a false (W.un .not p) q λr c=>W.pick a (.bool true) r λs=>wk s (Q (.bool false) c) (aC 2 b c λg=>W.len g λt=>W.loop (gP Q) [b,g,t,(.ZO 0)] c)
def pu(Q:R)(d:SH)(b:AV):Prop:=aC 4 b d λf=>W.len f λg=>wb .lss 3 g (.ZO 1) λa=>wg a false (W.faddr 4 b) d λh e=>wg a false (wl h e) e λi j=>wg a false (W.len i) j λk l=>wg a false (wb .gtr 3 k (.ZO 4)) l λm c=>W.pick a (.bool true) m λn=>wk n (Q (.bool false) c) (aC 0 b c λo=>wc (.fn 63 []) [o] c (pt Q b))
def iA(l:AV)(L:SH)(Q:R):Prop:=rF l L λa f=>aC 0 a f λm=>W.len m λn=>wb .gtr 3 n (.ZO 12) λb=>wg b false (W.faddr 1 a) f λo g=>wg b false (wl o g) g λp q=>wg b false (W.len p) q λr s=>wg b false (wb .gtr 3 r (.ZO 4)) s λt u=>W.pick b (.bool true) t λc=>wg c false (W.faddr 2 a) u λv h=>wg c false (wl v h) h λw x=>wg c false (W.len w) x λy z=>wg c false (wb .gtr 3 y (.ZO 2)) z λA B=>W.pick c (.bool true) A λd=>wg d false (W.faddr 3 a) B λC i=>wg d false (wl C i) i λD E=>wg d false (W.len D) E λF G=>wg d false (wb .gtr 3 F (.ZO 2)) G λH I=>W.pick d (.bool true) H λe=>wg e false (W.faddr 5 a) I λJ j=>wg e false (wl J j) j λM N=>wg e false (W.len M) N λO P=>wg e false (wb .gtr 3 O (.ZO 60)) P λS k=>W.pick e (.bool true) S λT=>wk T (Q (.bool false) k) ((pu Q k a))
theorem pw(t0:AV)(L:SH)(Q:R)(h:iA t0 L Q):af Tryz.prog 38 [t0] L Q:=
 fs [] [(9,[1,60,61,62])] [(0,[1]),(10,[6])] [] Tryz.func38 h
def px(Q:R)(b:Kn)(a:SH)(c d e f:AV):Prop:=aC 1 c a λg=>wb .neq 3 g (.ZO 0) λh=>wk h (Q (.tup [.nils,(.bool false)]) a) (wb .add 3 d (.ZO 1) λi=>b [e,f,i] a)
def py(Q:R)(f:Kn)(g:SH)(b c d e h i:AV):Prop:=W.faddr 1 b λj=>W.store 1 j c g λa=>(true=true)∧(wb .add 3 d c λk=>di [] 4 5 e k a λl m=>dr [] 5 5 l a λn o=>dr [rm 5 o,rm 4 m] 6 5 b a λp s=>wb .neq 126 n p λq=>wk q (Q (.tup [.nils,(.bool false)]) a) (wb .add 3 c (.ZO 1) λr=>f [e,h,d,b,i,r] a))
def el(Q:R)(h:Kn)(i:Vs)(a:SH)(j:Kn):Prop:=J1 0 4 5 6 51 52 i λb c d e f g=>wb .lss 3 g f λk=>wk k ((py Q j a e g d b c f)) (aC 2 e a λl=>wb .add 3 d l λm=>h [b,c,m] a)
def pz(Q:R)(l:Kn)(f:SH)(b g h m:AV):Prop:=aC 2 b f λn=>wb .lss 3 n (.ZO 1) λc=>wg c false (W.faddr 2 b) f λo i=>wg c false (wl o i) i λp q=>wg c false (wb .gtr 3 p (.ZO 4)) q λr s=>W.pick c (.bool true) r λd=>wg d false (W.faddr 3 b) s λt j=>wg d false (wl t j) j λu v=>W.pick d (.bool true) u λa=>wg a false (W.faddr 2 b) v λw k=>wg a false (wl w k) k λx y=>bJ a false g y λz A=>wg a false (W.len z) A λB C=>bJ a false h C λD E=>wg a false (wb .sub 3 B D) E λF G=>wg a false (wb .gtr 3 x F) G λH e=>W.pick a (.bool true) H λI=>wk I (Q (.tup [.nils,(.bool false)]) e) (aC 2 b e λJ=>W.loop (el Q l) [g,m,h,b,J,(.ZO 0)] e)
def pB(Q:R)(e:Kn)(f:SH)(b c i:AV):Prop:=ma 5 b c f λj=>W.alloc [(.str []),(.ZO 0),(.ZO 0),(.bool false),(.ZO 0)] f λa k=>W.store 5 a j k λg=>aC 0 a g λl=>W.bslice 1 [(.str [])] 1 [(0,l)] g λm n=>W.append 1 16 i m n λh d=>aC 2 a d λo=>wb .eql 3 o (.ZO 0) λp=>wk p ((px Q e d a c b h)) ((pz Q e d a b c h))
def gQ(Q:R)(e:Vs)(a:SH)(f:Kn):Prop:=tI 0 4 5 e λb c d=>W.len b λg=>wb .lss 3 d g λh=>wk h ((pB Q f a b d c)) (Q (.tup [c,(.bool true)]) a)
def eU(a:AV)(L:SH)(Q:R):Prop:=W.loop (gQ Q) [a,.nils,(.ZO 0)] L
theorem gR(t0:AV)(L:SH)(Q:R)(h:eU t0 L Q):af Tryz.prog 63 [t0] L Q:=
 fs [] [(13,[0,4,5,6,51,52]),(3,[0,4,5])] [] [(16,[0,0,0,6,15,31,0,127])] Tryz.func63 h
def pC(Q:R)(c:Kn)(d:Vs)(a:SH):Prop:=NN 1 3 4 6 8 9 10 d λe f b g h i j=>aC 1 g a λk=>wb .neq 3 k b λl=>wk l (Q (.bool false) a) (wb .add 3 b (.ZO 1) λm=>wb .add 3 j (.ZO 1) λn=>c [e,f,m,h,i,n] a)
def pD(Q:R)(i:Kn)(a:SH)(b c d e f g j:AV):Prop:=W.join (pC Q i) λh=>aC 0 b a λk=>wb .gtr 3 k c λl=>wk l (aC 0 b a λm=>h [d,m,(.ZO 0),b,e,f,g] a) (h [d,c,j,b,e,f,g] a)
def pE(Q:R)(l:Kn)(c:SH)(d e f g m n:AV):Prop:=ma 3 d e c λo=>rE [(.ZO 0),(.ZO 0),(.ZO 0)] 3 o c λb h=>aC 0 b h λp=>wb .lss 3 p f λa=>wg a false (W.faddr 0 b) h λq i=>wg a false (wl q i) i λr s=>wg a false (W.faddr 4 g) s λt j=>wg a false (wl t j) j λu v=>wg a false (W.len u) v λw x=>wg a false (wb .geq 3 r w) x λy k=>W.pick a (.bool true) y λz=>wk z (Q (.bool false) k) ((pD Q l k b f g d m e n))
def gS(Q:R)(d:Vs)(a:SH)(e:Kn):Prop:=J1 1 3 4 8 9 10 d λf g h i b c=>wb .lss 3 c b λj=>wk j ((pE Q e a i c g f b h)) (Q (.bool true) a)
def iB(d:AV)(L:SH)(Q:R):Prop:=rF d L λa b=>aC 5 a b λc=>W.len c λe=>W.loop (gS Q) [a,(.ZO 0),(.ZO 0),c,e,(.ZO 0)] b
theorem pF(t0:AV)(L:SH)(Q:R)(h:iB t0 L Q):af Tryz.prog 66 [t0] L Q:=
 fs [(8,[1,3,4,6,8,9,10])] [(3,[1,3,4,8,9,10])] [(0,[1]),(4,[6])] [] Tryz.func66 h
def yS(Q:R)(e f g a:AV)(h:SH):Prop:=wg a true (W.faddr 1 g) h λi b=>wg a true (wl i b) b λj k=>bJ a true e k λl c=>wg a true (W.idx 2 j l c) c λm n=>wg a true (W.faddr 1 m) n λo d=>wg a true (wl o d) d λp q=>bJ a true f q λr s=>wg a true (wb .eql 4 p r) s λt u=>W.pick a t (.bool false) λv=>Q v u
def mC(d a e:AV)(L:SH)(Q:R):Prop:=rF d L λb c=>aC 1 b c λf=>W.len f λg=>wc (.fn 67 []) [a,g] c (yS Q a e b)
theorem yT(t0 t1 t2:AV)(L:SH)(Q:R)(h:mC t0 t1 t2 L Q):af Tryz.prog 65 [t0,t1,t2] L Q:=
 fs [] [] [(0,[3])] [] Tryz.func65 h
def mD(b c:AV)(L:SH)(Q:R):Prop:=wb .geq 3 b (.ZO 0) λa=>bJ a true b L λd e=>bJ a true c e λf g=>wg a true (wb .lss 3 d f) g λh i=>W.pick a h (.bool false) λj=>Q j i
theorem yU(t0 t1:AV)(L:SH)(Q:R)(h:mD t0 t1 L Q):af Tryz.prog 67 [t0,t1] L Q:=
 fs [] [] [] [] Tryz.func67 h
def qv(Q:R)(a:SH)(b:AV):Prop:=aC 1 b a λc=>aC 2 b a λd=>aC 3 b a λe=>W.bslice 1 [(.ZO 0)] 3 [(0,c),(1,d),(2,e)] a λf g=>Q f g
def qw(Q:R)(a:SH)(c b:AV):Prop:=wb .eql 3 c (.ZO 9) λd=>wk d (aC 2 b a λe=>aC 3 b a λf=>W.bslice 1 [(.ZO 0)] 2 [(0,e),(1,f)] a λg h=>Q g h) (Q .nils a)
def qx(Q:R)(c:Vs)(a:SH):Prop:=tI 1 4 37 c λb d e=>wk e (aC 2 b a λf=>W.bslice 1 [(.ZO 0)] 1 [(0,f)] a λg h=>Q g h) ((qw Q a d b))
def qy(Q:R)(b:SH)(a c:AV):Prop:=W.join (qx Q) λd=>wb .eql 3 a (.ZO 8) λe=>wk e (d [c,a,e] b) (wb .eql 3 a (.ZO 26) λf=>d [c,a,f] b)
def qz(Q:R)(a:SH)(c b:AV):Prop:=wb .eql 3 c (.ZO 7) λd=>wk d (aC 1 b a λe=>aC 3 b a λf=>W.bslice 1 [(.ZO 0)] 2 [(0,e),(1,f)] a λg h=>Q g h) ((qy Q a c b))
def qA(Q:R)(d:Vs)(a:SH):Prop:=tI 1 4 13 d λb c e=>wk e (aC 1 b a λf=>aC 2 b a λg=>W.bslice 1 [(.ZO 0)] 2 [(0,f),(1,g)] a λh i=>Q h i) (wb .eql 3 c (.ZO 4) λj=>wk j ((qv Q a b)) ((qz Q a c b)))
def qB(Q:R)(b:SH)(a c:AV):Prop:=W.join (qA Q) λd=>wb .eql 3 a (.ZO 2) λe=>wk e (d [c,a,e] b) (wb .eql 3 a (.ZO 3) λf=>d [c,a,f] b)
def qC(Q:R)(c:Vs)(a:SH):Prop:=tI 1 4 5 c λb d e=>wk e (aC 1 b a λf=>W.bslice 1 [(.ZO 0)] 1 [(0,f)] a λg h=>Q g h) ((qB Q a d b))
def qD(b:Kn)(c:SH)(a d:AV):Prop:=wb .eql 3 a (.ZO 6) λe=>wk e (b [d,a,e] c) (wb .eql 3 a (.ZO 10) λf=>wk f (b [d,a,f] c) (wb .eql 3 a (.ZO 27) λg=>b [d,a,g] c))
def iZ(f:AV)(L:SH)(Q:R):Prop:=rF f L λa b=>aC 0 a b λc=>W.join (qC Q) λd=>wb .eql 3 c (.ZO 1) λe=>wk e (d [a,c,e] b) ((qD d b c a))
theorem qE(t0:AV)(L:SH)(Q:R)(h:iZ t0 L Q):af Tryz.prog 68 [t0] L Q:=
 fs [(5,[1,4,5]),(8,[1,4,13]),(15,[1,4,37])] [] [(0,[1])] [] Tryz.func68 h
end
end Go.Proofs.YtdnpdghlggbklaaGreatDoor.Am
