/- A part of the proof; the statement is proved in the last part. -/
import Derived.Test.YtdnpdghlggbklaaGreatDoorQsa
import Derived.Lib.Strings
import Derived.IntWalk
import Derived.Deep.AppendSrc
import Derived.MapKept
import Derived.Carry
import Derived.Lib.OthersKept
import Derived.Laws.RangeString
set_option linter.unusedSimpArgs false
set_option linter.unusedVariables false
namespace Go.Proofs.YtdnpdghlggbklaaGreatDoor.Am
section
section
variable {P:Program} {w:World} {σ:bb} {T:Nat→Prop}
theorem ms{op:BinOp}{t:TypeId}{k k':IntKind}{a b:Int}{v:AV}(F:TypeId→Option (List TypeId))(h:gY P F op t (.int k a) (.int k' b)=some v):
  ∃v',(binOp op t (.int k a) (.int k' b)).run P w=.ok v' w∧aT w σ T v v':=by
 by_cases hk:k=k'
 ·subst hk;cases op<;>simp only[gY,ne_eq,not_true_eq_false,if_false,reduceCtorEq,VU]at h
  case shl=>
   split at h
   ·rename_i hb;cases h;exact⟨_,by simp only[binOp,Op.shift];rw[if_neg Xr];rfl,.int _ _⟩
   ·cases h
  case shr=>
   split at h
   ·rename_i hb;cases h;exact⟨_,by simp only[binOp,Op.shift];rw[if_neg Xr];rfl,.int _ _⟩
   ·cases h
  case quo=>
   split at h
   ·cases h
   ·rename_i hb;cases h;exact⟨_,by simp only[binOp,Op.intDiv,ne_eq,not_true_eq_false,if_false];rw[if_neg hb];rfl,.int _ _⟩
  case rem=>
   split at h
   ·cases h
   ·rename_i hb;cases h;exact⟨_,by simp only[binOp,Op.intDiv,ne_eq,not_true_eq_false,if_false];rw[if_neg hb];rfl,.int _ _⟩
  all_goals (subst h;refine⟨_,by simp only[binOp,ne_eq,not_true_eq_false,if_false];rfl,?_⟩;constructor)
 ·cases op<;>simp only[gY,ne_eq,hk,not_false_eq_true,if_true,reduceCtorEq]at h
  case shl=>
   split at h
   ·rename_i hb;cases h;exact⟨_,by simp only[binOp,Op.shift];rw[if_neg Xr];rfl,.int _ _⟩
   ·cases h
  case shr=>
   split at h
   ·rename_i hb;cases h;exact⟨_,by simp only[binOp,Op.shift];rw[if_neg Xr];rfl,.int _ _⟩
   ·cases h
theorem KQ{l:List UInt8}{s:ByteArray}(h:s.data.toList=l):aT w σ T (.str l) (.string s):=by subst h;exact .str s
theorem Gr{op:BinOp}{t:TypeId}{a b:ByteArray}{v:AV}(F:TypeId→Option (List TypeId))(h:gY P F op t (.str a.data.toList) (.str b.data.toList)=some v):
  ∃v',(binOp op t (.string a) (.string b)).run P w=.ok v' w∧aT w σ T v v':=by
 cases op<;>simp only[gY,reduceCtorEq,VU]at h
 case add=>
  split at h
  ·rename_i hl;cases h;have hn:¬((a.size+b.size:Nat):Int) > IntKind.i64.max:=by
    have h1:a.data.toList.length=a.size:=V6;have h2:b.data.toList.length=b.size:=V6;rw[h1,h2]at hl;have:(IntKind.i64.max:Int)=9223372036854775807:=by decide
    rw[this];omega
   exact⟨_,by simp only[binOp,Op.stringOp];rw[if_neg hn];rfl,KQ Xu⟩
  ·cases h
 case eql=>subst h;exact⟨_,rfl,by rw[bytes_beq];exact .bool _⟩
 case neq=>subst h;exact⟨_,rfl,by rw[bytes_beq];exact .bool _⟩
 case lss=>subst h;exact⟨_,rfl,by rw[A3,ByteArray.toList_eq,ByteArray.toList_eq];exact .bool _⟩
theorem Pp{t:TypeId}{x' y':Value}{r:Bool}(h:(Op.equalIn 10000 t x' y').run P w=.ok r w)
  (hx:∀k n,x'≠.int k n) (hs:∀s,x'≠.string s) (hf:∀k n,x'≠.float k n) (hc:∀k a b,x'≠.complex k a b) :
  (binOp .eql t x' y').run P w=.ok (.bool r) w∧(binOp .neq t x' y').run P w=.ok (.bool !r) w:=by
 constructor
 ·cases x'<;>simp_all[binOp,Op.equal,Op.maxDepth]
 ·cases x'<;>simp_all[binOp,Op.equal,Op.maxDepth]
theorem zc{t:TypeId}{x y:AV}{x':Value}{r:Bool}(h:AZ P t x y=some r)(hx:aT w σ T x x')(h1:∀k n,x≠.int k n)(h2:∀s,x≠.str s):
  (∀k n,x'≠.int k n)∧(∀s,x'≠.string s)∧(∀k n,x'≠.float k n)∧(∀k a b,x'≠.complex k a b)∧(∀cs,x≠.agg cs)∧x≠.junk:=by
 have hj:x≠.junk∧∀cs,x≠.agg cs:=by
  constructor
  ·rintro rfl;unfold AZ at h;split at h<;>simp_all
  ·rintro cs rfl;unfold AZ at h;split at h<;>simp_all
 cases hx<;>simp_all
theorem CB{t:TypeId}{x y:AV}{r:Bool}(h:AZ P t x y=some r)(hy:y=.nilp∨y=.nils):(∀k n,x≠.int k n)∧(∀s,x≠.str s):=by
 rcases hy with rfl|rfl
 ·constructor
  ·rintro k n rfl;unfold AZ at h;split at h<;>simp_all
  ·rintro s rfl;unfold AZ at h;split at h<;>simp_all
 ·constructor
  ·rintro k n rfl;unfold AZ at h;split at h<;>simp_all
  ·rintro s rfl;unfold AZ at h;split at h<;>simp_all
theorem LP{F:TypeId→Option (List TypeId)}(hF:∀t ts,F t=some ts→MZ P t ts){op:BinOp}{t:TypeId}{ox oy:Operand}{x y v:AV}{x' y':Value}(hx:aT w σ T x x')(hy:aT w σ T y y')
  (h:gY P F op t x y=some v):∃v',(do eqGuard op t ox oy x' y';binOp op t x' y':Sem Value).run P w=.ok v' w∧aT w σ T v v':=by
 have other:(∀cs,x≠.agg cs)→x≠.junk→(∃v',(binOp op t x' y').run P w=.ok v' w∧aT w σ T v v')→∃v',(do eqGuard op t ox oy x' y';binOp op t x' y':Sem Value).run P w=.ok v' w∧aT w σ T v v':=by intro h1 h2 ⟨v',h3,h4⟩;obtain⟨h5,h6⟩:=hx.ne_agg h1 h2;exact⟨v',by simp only[Wh,Fb h5 h6,VX,h3],h4⟩
 have eqs:∀r,AZ P t x y=some r→(∀k n,x'≠.int k n)→(∀s,x'≠.string s)→(∀k n,x'≠.float k n)→(∀k a b,x'≠.complex k a b)→
   (binOp .eql t x' y').run P w=.ok (.bool r) w∧(binOp .neq t x' y').run P w=.ok (.bool !r) w:=λr hr=>Pp (zb hx hy hr)
 have h0:=h;unfold gY at h;split at h
 case h_1=>cases hx;cases hy;exact other Xu Xu (ms F h0)
 case h_2=>cases hx;cases hy;exact other Xu Xu (ms F h0)
 case h_3=>cases hx;cases hy;exact other Xu Xu (ms F h0)
 case h_4=>cases hx;cases hy;exact other Xu Xu (Gr F h0)
 case h_5 a b=>
  cases hf:F t with
  |none=>rw[hf]at h;cases h
  |some ts=>
   rw[hf]at h;simp only[Wy]at h;cases he:Gp P ts a b with
   |none=>rw[he]at h;cases h
   |some r=>
    rw[he]at h;cases h;cases hx with
    |agg _ xs hl1 hr1=>
    cases hy with
    |agg _ ys hl2 hr2=>
    have fl:=hF t ts hf;have:=sE (P:=P) (w:=w) (σ:=σ) (T:=T) (d:=9998) ⟨hl1,hr1⟩ ⟨hl2,hr2⟩ (P.fieldsOf t).toList 0 r (λi f hi=>by have:=fl.fields i f hi;simpa using this) (by rw[fl.types];simpa using he);refine⟨.bool r,?_,.bool r⟩;simp only[Wh,run_eqGuard_agg w _ t ox oy _ _ fl.guard,VX,run_eql_struct];rw[run_equalIn_agg w 9999 t _ _ fl.under fl.stood,this];rfl
 case h_6 a b=>
  cases hf:F t with
  |none=>rw[hf]at h;cases h
  |some ts=>
   rw[hf]at h;simp only[Wy]at h;cases he:Gp P ts a b with
   |none=>rw[he]at h;cases h
   |some r=>
    rw[he]at h;cases h;cases hx with
    |agg _ xs hl1 hr1=>
    cases hy with
    |agg _ ys hl2 hr2=>
    have fl:=hF t ts hf;have:=sE (P:=P) (w:=w) (σ:=σ) (T:=T) (d:=9998) ⟨hl1,hr1⟩ ⟨hl2,hr2⟩ (P.fieldsOf t).toList 0 r (λi f hi=>by have:=fl.fields i f hi;simpa using this) (by rw[fl.types];simpa using he);refine⟨.bool !r,?_,.bool !r⟩;simp only[Wh,run_eqGuard_agg w _ t ox oy _ _ fl.guard,VX,run_neq_struct];rw[run_equalIn_agg w 9999 t _ _ fl.under fl.stood,this];rfl
 case h_17=>cases h
 all_goals
  cases he:AZ P t _ _ with
  |none=>rw[he]at h;cases h
  |some r=>
   rw[he]at h;cases h
   first
    |(obtain⟨p1,p2,p3,p4,p5,p6⟩:=zc he hx (CB he (.inl rfl)).1 (CB he (.inl rfl)).2;obtain⟨e1,e2⟩:=eqs r he p1 p2 p3 p4;first|exact other p5 p6 ⟨_,e1,.bool _⟩|exact other p5 p6 ⟨_,e2,.bool _⟩)
    |(obtain⟨p1,p2,p3,p4,p5,p6⟩:=zc he hx (CB he (.inr rfl)).1 (CB he (.inr rfl)).2;obtain⟨e1,e2⟩:=eqs r he p1 p2 p3 p4;first|exact other p5 p6 ⟨_,e1,.bool _⟩|exact other p5 p6 ⟨_,e2,.bool _⟩)
    |(obtain⟨p1,p2,p3,p4,p5,p6⟩:=zc he hx Xu Xu;obtain⟨e1,e2⟩:=eqs r he p1 p2 p3 p4;first|exact other p5 p6 ⟨_,e1,.bool _⟩|exact other p5 p6 ⟨_,e2,.bool _⟩)
theorem lw{a:AV}{v:Value}{n y:Nat}{code:BoundsCode}(hr:aT w σ T a v)(h:m6 a=some n)(hn:n≤y):(Instr.sliceBound v y code).run P w=.ok n w:=by
 obtain⟨k,i,rfl,h0,rfl⟩:=oQ hr h;have:0≤i∧i≤(y:Int):=by omega
 simp only[Instr.sliceBound,asIntOf,Wh,Wu,VX,Sem.run_ite];rw[if_pos this]
def JH(w:World)(σ:bb)(T:Nat→Prop)(x:Option AV)(x':Option Value):Prop:=
 match x,x' with
 |none,none=>True
 |some a,some v=>aT w σ T a v
 |_,_=>False
theorem iN{lo hi mx:Option AV}{lo' hi' mx':Option Value}{n c l h m:Nat}{isS:Bool}(hlo:JH w σ T lo lo')(hhi:JH w σ T hi hi')(hmx:JH w σ T mx mx')(hmh:hi=none→mx=none)
  (h1:cD lo 0=some l) (h2:cD hi n=some h) (h3:cD mx n=some m) (hc:n≤c) (b1:l≤h) (b2:h≤m) (b3:m≤n) :
  ∃m',(Instr.sliceBounds isS n c lo' hi' mx').run P w=.ok (l,h,m') w∧h≤m'∧m'≤c∧(mx.isSome=true→m'=m):=by
 match mx,mx',hmx with
 |none,none,_=>
  cases h3;refine⟨c,?_,Xr,VL _,Xu⟩
  match hi,hi',hhi with
  |none,none,_=>
   cases h2
   match lo,lo',hlo with
   |none,none,_=>cases h1;simp[Instr.sliceBounds]
   |some a,some v,hr=>simp[Instr.sliceBounds,lw (P:=P) hr h1 b1]
  |some a,some v,hr=>
   have e:=lw (P:=P) (code:=if isS=true then .sliceAcap else .sliceAlen) hr h2 (show h≤c by omega)
   match lo,lo',hlo with
   |none,none,_=>cases h1;simp[Instr.sliceBounds,e]
   |some a,some v,hr=>simp[Instr.sliceBounds,e,lw (P:=P) hr h1 b1]
 |some a,some v,hr=>
  have e0:=lw (P:=P) (code:=if isS=true then .slice3Acap else .slice3Alen) hr h3 (show m≤c by omega);refine⟨m,?_,b2,Xr,λ_=>rfl⟩
  match hi,hi',hhi with
  |none,none,_=>exact absurd (hmh rfl) Xu
  |some a,some v,hr=>
   have e:=lw (P:=P) (code:=.slice3B) hr h2 b2
   match lo,lo',hlo with
   |none,none,_=>cases h1;simp[Instr.sliceBounds,e0,e]
   |some a,some v,hr=>simp[Instr.sliceBounds,e0,e,lw (P:=P) hr h1 b1]
theorem ey{t e:TypeId}{A:Option Addr}{n cap l h m sz:Nat}{lo hi mx:Option Value}(hu:P.underlying t=some (.slice e))(hsz:aQ P e=some sz)
  (h4:(Instr.sliceBounds true n cap lo hi mx).run P w=.ok (l,h,m) w) :
  (Instr.sliceAt t (.slice A n cap) lo hi mx).run P w=.ok (.slice (if m=l then A else A.map (·.add (l*sz))) (h-l) (m-l)) w:=by
 simp only[Instr.sliceAt,Instr.slice,Wh,run_underlying hu,VX,h4,cE hsz,Wu]
theorem HP{H:ac}(hW:aW w σ H){t:TypeId}{x v:AV}{lo hi mx:Option AV}{x':Value}{lo' hi' mx':Option Value}(hx:aT w σ (aH σ H) x x')
  (hlo:JH w σ (aH σ H) lo lo') (hhi:JH w σ (aH σ H) hi hi') (hmx:JH w σ (aH σ H) mx mx') (hmh:hi=none→mx=none)
  (h:kI P (mo H x) t x lo hi mx=some v):∃v',(Instr.sliceAt t x' lo' hi' mx').run P w=.ok v' w∧aT w σ (aH σ H) v v':=by
 unfold kI at h;split at h
 ·rename_i e n hu hlen;split at h
  ·rename_i l hh m h1 h2 h3;split at h
   ·rename_i hb;obtain⟨⟨b1,b2,b3⟩,hsome⟩:=hb;have hes:∃sz,aQ P e=some sz:=Option.isSome_iff_exists.1 hsome;split at h
    ·cases h;cases hx;cases hlen;obtain⟨m',h4,h5,h6,h7⟩:=iN (P:=P) (isS:=true) hlo hhi hmx hmh h1 h2 h3 (VL 0) b1 b2 b3;obtain rfl:m'=0:=by omega
     obtain rfl:hh=0:=by omega
     obtain rfl:l=0:=by omega
     obtain⟨sz,hsz⟩:∃sz,aQ P e=some sz:=hes;exact⟨_,ey hu hsz h4,by simpa using aT.nils⟩
    ·rename_i b i k;cases hlen;obtain⟨pl,a,cap,rfl,hs,hn,hm,ha⟩:=hx.sl_inv;obtain⟨m',h4,h5,h6,h7⟩:=iN (P:=P) (isS:=true) hlo hhi hmx hmh h1 h2 h3 hn b1 b2 b3;cases hy:H.get b with
     |none=>simp[mo,hy]at h
     |some y=>
      simp only[mo,hy,Wb,Option.isSome_some,true_and]at h;split at h
      ·rename_i hsz;cases h;obtain⟨pl',cs',e',g1,g2⟩:=hW.live b y hy;rw[hs]at g1;cases g1;have hp:=hx.sl_ok hs;replace g2:=g2.1 hp;by_cases hml:m'=l
       ·refine⟨.slice (some a) (hh-l) (m'-l),by rw[ey hu hsz h4,if_pos hml],?_⟩;exact .sl b (i+l) (hh-l) pl a (m'-l) hs hp Xr Xr Xr
       ·obtain⟨rfl,cs,ty,hc,hr⟩:=ha Xr;refine⟨.slice (some ⟨pl.block,pl.base+i*pl.size+l*y.size,none⟩) (hh-l) (m'-l),by rw[ey hu hsz h4,if_neg hml,Wb,eu],?_⟩;refine .sl b (i+l) (hh-l) pl _ (m'-l) hs hp Xr Xr λ_=>⟨?_,cs,ty,hc,?_⟩
        ·rw[←g2.size,Ws,WC]
        ·have:(i+l+(m'-l))*pl.size≤(i+cap)*pl.size:=V4 _ Xr;omega
      ·cases h
    ·rename_i rows;cases hlen;obtain⟨A,cap,rfl,hn,hm,ha⟩:=hx.lst_inv;obtain⟨m',h4,h5,h6,h7⟩:=iN (P:=P) (isS:=true) hlo hhi hmx hmh h1 h2 h3 hn b1 b2 b3;split at h
     ·rename_i hml;cases h;obtain⟨sz,hsz⟩:∃sz,aQ P e=some sz:=hes;have e1:=h7 hml.1;refine⟨.slice A (hh-l) (m'-l),by rw[ey hu hsz h4,if_pos Xr],?_⟩;rw[show hh-l=0 by omega,show m'-l=0 by omega];exact .emp _
     split at h
     ·cases h;obtain⟨sz,hsz⟩:∃sz,aQ P e=some sz:=hes;obtain rfl:hh=0:=by simp at b3;omega
      obtain rfl:l=0:=by omega
      exact⟨_,ey hu hsz h4,.lst0 _ _ Xr⟩
     ·rename_i r rs;split at h
      ·rename_i hsz;cases h;obtain⟨b,o,sz,rfl,hl,hrep⟩:=ha Xu;obtain rfl:r.length=sz:=hl.even 0 r rfl;by_cases hml:m'=l
       ·have:hh-l=0:=by omega
        rw[this,List.take_zero];exact⟨.slice (some ⟨b,o,none⟩) (hh-l) (m'-l),by rw[ey hu hsz h4,if_pos hml],by rw[this];exact .lst0 _ _ Xr⟩
       ·refine⟨.slice (some ⟨b,o+l*r.length,none⟩) (hh-l) (m'-l),by rw[ey hu hsz h4,if_neg hml,Wb,eu],?_⟩;by_cases hz:hh-l=0
        ·rw[hz,List.take_zero];exact .lst0 _ _ Xr
        ·have hlen:(((r::rs).drop l).take (hh-l)).length=hh-l:=by simp at b3 ⊢;omega
         have get:∀(i:Nat) (q:List AV),(((r::rs).drop l).take (hh-l))[i]? =some q→i<hh-l∧(r::rs)[l+i]? =some q:=λi q hq=>by have hi:=aA hq;rw[hlen]at hi;rw[Wj hi,WB]at hq;exact⟨hi,hq⟩
         have:=aT.lst (w:=w) (σ:=σ) (T:=aH σ H) (((r::rs).drop l).take (hh-l)) b (o+l*r.length) r.length (m'-l)
          ⟨hl.out,λi q hq=>hl.even _ q (get i q hq).2,λi j hi hj=>by
           rw[hlen]at hi;have:=hl.cell (l+i) j (by simp at b3 ⊢;omega) hj
           rwa [Ws,←WC]at this,hl.pos,Xr⟩ Xr Xr
          (λi q j a u hq hj hu=>hrep (l+i) q j a u (get i q hq).2 hj (by rw[Ws,←WC];exact hu))
         rwa [hlen]at this
      ·cases h
    ·cases h
   ·cases h
  ·cases h
 ·rename_i hu;split at h
  ·split at h
   ·rename_i l hh h1 h2;split at h
    ·rename_i hb;obtain⟨b1,b2⟩:=hb;cases h;cases hx with
     |str ba=>
     have hln:ba.data.toList.length=ba.size:=V6;have hmx2:mx'=none:=by
      match mx',hmx with
      |none,_=>rfl
     subst hmx2;obtain⟨m',h4,h5,h6,h7⟩:=iN (P:=P) (isS:=false) (n:=ba.size) (c:=ba.size) (m:=ba.size) (mx:=none) (mx':=none) hlo hhi trivial (λ_=>rfl) h1 (by rw[←hln];exact h2) rfl (VL _) b1 Xr (VL _);refine⟨.string (ba.extract l hh),by simp only[Instr.sliceAt,Instr.slice,Wh,run_underlying hu,VX,h4,Wu,Option.isSome_none,Wd,if_false],KQ ?_⟩;rw[Lib.extract_data]
    ·cases h
   ·cases h
  ·cases h
 ·cases h
end
end
section
section
variable {P:Program} {w:World} {σ:bb} {T:Nat→Prop}
theorem zd:∀(vs:List Value) (k off:Nat) (cs:Array Value),off+k+vs.length≤cs.size→
  ((vs.zipIdx k).foldl (λ(cs:Array Value) (p:Value×Nat)=>cs.setIfInBounds (off+p.2) p.1) cs).toList=cs.toList.take (off+k)++vs++cs.toList.drop (off+k+vs.length)
 |[],k,off,cs,_=>by simp
 | v::vs,k,off,cs,h=>by simp only[V8]at h;rw[List.zipIdx_cons,Xj,zd vs (k+1) off _ (by simp;omega)];have e:=list_seg_step cs.toList (off+k) v vs (by simp;omega);simpa[Array.toList_setIfInBounds,WC]using e
theorem eh.splice{cells cs:List AV}{vs us:List Value}{off:Nat}(h:eh w σ T cells vs)(k:eh w σ T cs us)(hl:off+cs.length≤cells.length):
  eh w σ T (bA cells off cs) (vs.take off++us++vs.drop (off+us.length)):=by
 refine⟨by simp[bA,h.1,k.1],λi a v h1 h2=>?_⟩;unfold bA at h1;have e1:=h.1;have e2:=k.1;rcases VO i off with hi|hi
 ·rw[Wq,V1 (by simp;omega),Wj hi]at h1 h2;exact h.2 i a v h1 h2
 ·rcases VO i (off+cs.length)with hj|hj
  ·rw[V1 (by simp;omega),VS (by simp;omega)]at h1 h2;simp only[We]at h1 h2;rw[Wz Xr]at h1 h2;exact k.2 _ a v h1 h2
  ·rw[VS (by simp;omega)]at h1 h2;simp only[VT,We,WB]at h1 h2;rw[Wz Xr]at h1 h2;rw[←e2]at h2;exact h.2 _ a v h1 h2
theorem sF{place:Nat→Option (Nat×Nat)}{ρ:Operand→AV}{ρ':Operand→Value}(hρ:∀x,aT w σ T (ρ x) (ρ' x)):∀(ps:List (Nat×Operand)) (cells r:List AV) (cells':Array Value),
  eh w σ T cells cells'.toList→vL place cells (ps.map λp=>(p.1,ρ p.2))=some r→∃r',Instr.fill place cells' (ps.map λp=>(p.1,ρ' p.2))=some r'∧eh w σ T r r'.toList
 |[],cells,r,cells',hc,h=>by cases h;exact⟨cells',rfl,hc⟩
 | (i,x)::ps,cells,r,cells',hc,h=>by
  simp only[VM,vL]at h;split at h
  ·rename_i off size cs hp hcs;split at h
   ·rename_i hl;obtain⟨hl1,hl2,_⟩:=hl;have hx:=(hρ x).cells hcs;have e1:(ρ' x).cells.size=size:=by rw[←V6,←hx.1,hl1]
    have e2:cells'.size=cells.length:=by rw[←V6,←hc.1]
    have hfold:((ρ' x).cells.zipIdx.foldl (λ(cs:Array Value) (p:Value×Nat)=>cs.setIfInBounds (off+p.2) p.1) cells').toList=cells'.toList.take off++(ρ' x).cells.toList++cells'.toList.drop (off+(ρ' x).cells.toList.length):=by have:=zd (ρ' x).cells.toList 0 off cells' (by simp;omega);rw[←Array.foldl_toList,Array.toList_zipIdx];simpa using this
    obtain⟨r',h1,h2⟩:=sF hρ ps (bA cells off cs) r _ (by rw[hfold];exact hc.splice hx Xr) h;refine⟨r',?_,h2⟩;have hcond:(decide ((ρ' x).cells.size≠size)||decide (off+(ρ' x).cells.size > cells'.size))=false:=by simp[e1,e2];omega
    simp only[VM,Instr.fill,hp,hcond,Wd,if_false];exact h1
   ·cases h
  ·cases h
theorem vQ{α β:Type}(f:α→Sem β)(g:α→β):∀(l:List α),(∀x∈l,(f x).run P w=.ok (g x) w)→(l.mapM f).run P w=.ok (l.map g) w
 |[],_=>by simp
 | x::l,h=>by rw[List.mapM_cons];simp only[Wh,h x Xu,VX,vQ f g l (λy hy=>h y (by simp[hy])),Wu,VM]
theorem Fc{α β:Type}(f:α→Sem β)(g:α→β)(l:Array α)(h:∀x∈l.toList,(f x).run P w=.ok (g x) w):(l.mapM f).run P w=.ok (l.toList.map g).toArray w:=by rw[Array.mapM_eq_mapM_toList];simp only[Sem.run_map,vQ f g l.toList h,VX]
structure Fit(P:Program)(F:TypeId→Option (List TypeId)):Prop where
 flat:∀t ts,F t=some ts→MZ P t ts
 names : ∀ (g : Nat) (fn : Func), P.funcs[g]? = some fn → fn.name ≠ "runtime.NumGoroutine"
 order:P.follows .mixedOrders=true
theorem HQ{t:TypeId}{ps:Array (Nat×Operand)}{v:AV}{ρ:Operand→AV}{ρ':Operand→Value}(hρ:∀x,aT w σ T (ρ x) (ρ' x))(h:CM P t (ps.toList.map λp=>(p.1,ρ p.2))=some v):
  ∃v',(Instr.build t (ps.map λ(i,x)=>(i,ρ' x))).run P w=.ok v' w∧aT w σ T v v':=by
 have hps:(ps.map λ(i,x)=>(i,ρ' x)).toList=ps.toList.map λp=>(p.1,ρ' p.2):=by simp
 unfold CM at h;split at h
 ·rename_i fs z hu hz;split at h
  ·rename_i hall;have hf:∀f∈fs.toList,∃n,aQ P f.type=some n:=λf hfm=>by rw[V0]at hall;exact Option.isSome_iff_exists.1 (hall f hfm)
   obtain⟨z',hz1,hz2⟩:=ew (P:=P) (w:=w) (σ:=σ) (T:=T) hz;cases hr:vL (mn P fs) z (ps.toList.map λp=>(p.1,ρ p.2))with
   |none=>rw[hr]at h;cases h
   |some r=>
    rw[hr]at h;cases h;have hcells:=hz2.cells (cs:=z) rfl;have hm:=Fc (P:=P) (w:=w) (λf:Field=>(do pure (f.offset,←sizeOf f.type):Sem (Nat×Nat))) (λf=>(f.offset,(aQ P f.type).getD 0)) fs (λf hfm=>by
     obtain⟨n,hn⟩:=hf f hfm;simp[cE hn,hn])
    have hpl:(λi=>((fs.toList.map λf:Field=>(f.offset,(aQ P f.type).getD 0)).toArray)[i]?)=mn P fs:=by
     funext i;unfold mn;rw[List.getElem?_toArray,VZ,V9];cases hfi:fs[i]? with
     |none=>rfl
     |some f=>obtain⟨n,hn⟩:=hf f (by rw[Array.mem_toList_iff];exact Array.mem_of_getElem? hfi);simp[hn]
    rw[←hpl]at hr;obtain⟨r',h1,h2⟩:=sF hρ ps.toList z r z'.cells hcells hr;refine⟨.agg r',?_,by have:=aT.agg (w:=w) (σ:=σ) (T:=T) r r'.toList h2.1 h2.2;simpa using this⟩;simp only[Instr.build,Wh,hz1,VX,run_underlying hu,hm,hps,h1,Wu]
  ·cases h
 ·rename_i n e z hu hz;obtain⟨z',hz1,hz2⟩:=ew (P:=P) (w:=w) (σ:=σ) (T:=T) hz;cases hn:aQ P e with
  |none=>rw[hn]at h;cases h
  |some sz=>
   rw[hn]at h;simp only[Wy]at h;cases hr:vL (λi=>some (i*sz,sz)) z (ps.toList.map λp=>(p.1,ρ p.2))with
   |none=>rw[hr]at h;cases h
   |some r=>rw[hr]at h;cases h;have hcells:=hz2.cells (cs:=z) rfl;obtain⟨r',h1,h2⟩:=sF hρ ps.toList z r z'.cells hcells hr;refine⟨.agg r',?_,by have:=aT.agg (w:=w) (σ:=σ) (T:=T) r r'.toList h2.1 h2.2;simpa using this⟩;simp only[Instr.build,Wh,hz1,VX,run_underlying hu,cE hn,hps,h1,Wu]
 ·cases h
end
end
section
def Fd(P:Program)(s:Sem Value)(w:World)(σ:bb)(H:ac)(b:Nat)(v:AV)(H':ac):Prop:=
 ∃v' w' σ',s.run P w=.ok v' w'∧aT w' σ' (aH σ' H') v v'∧aW w' σ' H'∧el w σ (aH σ H) w' σ' (aH σ' H')∧∀c pl,σ' c=some pl→σ c=some pl∨c=b
section
variable {P:Program} {w:World} {σ:bb} {T:Nat→Prop} {H:ac} {b:Nat}
structure Flat(w:World)(σ:bb)(T:Nat→Prop)(rows:List (List AV))(n:Nat)(l:List Value):Prop where
 len:l.length=rows.length*n
 even:∀(i:Nat) (r:List AV),rows[i]? =some r→r.length=n
 rep:∀(i:Nat) (r:List AV) (j:Nat) (a:AV) (u:Value),rows[i]? =some r→r[j]? =some a→l[i*n+j]? =some u→aT w σ T a u
theorem oR{i j m n:Nat}(hi:i<m)(hj:j<n):i*n+j<m*n:=by have:(i+1)*n≤m*n:=V4 _ hi;rw[Ws]at this;omega
theorem Flat.nil(n:Nat):Flat w σ T [] n []:=⟨Xu,Xu,Xu⟩
theorem Flat.append{rows rows':List (List AV)}{n:Nat}{l l':List Value}(h:Flat w σ T rows n l)(k:Flat w σ T rows' n l'):Flat w σ T (rows++rows') n (l++l'):=by
 refine⟨by simp[h.len,k.len,Ws],λi r hr=>?_,λi r j a u hr ha hu=>?_⟩
 ·rcases VO i rows.length with hi|hi
  ·rw[V1 hi]at hr;exact h.even i r hr
  ·rw[VS hi]at hr;exact k.even _ r hr
 ·rcases VO i rows.length with hi|hi
  ·rw[V1 hi]at hr;have hj:j<n:=by rw[←h.even i r hr];exact aA ha
   rw[V1 (by rw[h.len];exact oR hi hj)]at hu;exact h.rep i r j a u hr ha hu
  ·rw[VS hi]at hr;have hge:l.length≤i*n+j:=by rw[h.len];exact V2 (V4 _ hi) (Wk _ _)
   rw[VS hge]at hu;refine k.rep (i-rows.length) r j a u hr ha ?_;rw[←hu,h.len];congr 1;rw[Nat.sub_mul];have:rows.length*n≤i*n:=V4 _ hi;omega
theorem Flat.set{rows:List (List AV)}{n:Nat}{l:List Value}(h:Flat w σ T rows n l){i:Nat}{cs:List AV}{us:List Value}(hi:i<rows.length)(hc:cs.length=n)(k:eh w σ T cs us):
  Flat w σ T (rows.set i cs) n (l.take (i*n)++us++l.drop (i*n+us.length)):=by
 have hu:us.length=n:=by rw[←k.1,hc]
 have hin:i*n+n≤l.length:=by rw[h.len];have:(i+1)*n≤rows.length*n:=V4 _ hi;rw[Ws]at this;omega
 refine⟨by simp only[VT,We,Xg,Xk];rw[Wz Xr,hu,h.len];rw[h.len]at hin;omega,λq r hr=>?_,λq r j a u hr ha hv=>?_⟩
 ·rw[Wn]at hr;split at hr
  ·cases hr;exact hc
  ·exact h.even q r hr
 ·have hj:j<r.length:=aA ha;rw[Wn]at hr;split at hr
  ·rename_i e;subst e;cases hr;rw[V1 (by simp;omega),VS (by simp;omega)]at hv;simp only[We]at hv;rw[Wz Xr,Nat.add_sub_cancel_left]at hv;exact k.2 j a u ha hv
  ·rename_i hne;have hrn:=h.even q r hr;have hq:q<rows.length:=aA hr;refine h.rep q r j a u hr ha ?_;rw[←hv];rcases Nat.lt_or_gt_of_ne hne with hlt|hlt
   ·have:(i+1)*n≤q*n:=V4 _ hlt;rw[Ws]at this;rw[VS (by simp;omega)];simp only[VT,We,WB];rw[Wz Xr];congr 1;omega
   ·have:(q+1)*n≤i*n:=V4 _ hlt;rw[Ws]at this;rw[Wq,V1 (by simp;omega),Wj Xr]
theorem Flat.zeros{z:List AV}{zs:Array Value}{n:Nat}(hz:eh w σ T z zs.toList)(hn:z.length=n)(h0:0<n)(len k:Nat)(hk:len≤k):
  ∃l:List Value,(Array.range (k*n)).map (zs[· % zs.size]!)=l.toArray∧l.length=k*n∧Flat w σ T (List.replicate len z) n (l.take (len*n))∧(∀u∈l,∃a,aT w σ T a u∧a∈z):=by
 have hzs:zs.size=n:=by rw[←V6,←hz.1,hn]
 refine⟨(List.range (k*n)).map (zs[· % zs.size]!),?_,Xu,⟨?_,?_,?_⟩,?_⟩
 ·apply Array.ext';simp
 ·simp only[We,WX,List.length_range,List.length_replicate];exact Wz (V4 _ hk)
 ·intro i r hr;rw[W1]at hr;split at hr
  ·cases hr;exact hn
  ·cases hr
 ·intro i r j a u hr ha hu;rw[W1]at hr;split at hr
  ·rename_i hi;cases hr;have hj:j<n:=by rw[←hn];exact aA ha
   have hlt:=oR hi hj;have hlt':i*n+j<k*n:=V7 hlt (V4 _ hk);rw[Wj hlt,VZ,Xo hlt']at hu;simp only[Wb,VU]at hu;subst hu;have e:(i*n+j) % zs.size=j:=by rw[hzs,Nat.mul_comm,Nat.mul_add_mod,Nat.mod_eq_of_lt hj]
   rw[e];refine hz.2 j a _ ha ?_;rw[getElem!_pos zs j Xr,V9,Wc Xr]
  ·cases hr
 ·intro u hu;rw[Wm]at hu;obtain⟨q,_,rfl⟩:=hu;have hq:q % zs.size<zs.size:=Nat.mod_lt _ Xr;rw[getElem!_pos zs _ hq];have hq':q % zs.size<z.length:=by omega
  exact⟨z[q % zs.size],hz.2 (q % zs.size) _ _ (VK hq') (by rw[V9,Wc hq]),V3 hq'⟩
theorem CP(hW:aW w σ H)(hb:σ b=none)(hlt:b<H.next){x:Blk}{cs:Array Value}{e:TypeId}{s:Sem Value}{v:AV}{v':Value}{l:List Value}(hl:l=cs.toList.take (x.rows.length*x.size))
  (hf:Flat w σ (aH σ H) x.rows x.size l) (hs:s.run P w=.ok v' (World.push w (.cells cs e (0,0))))
  (hv:aT (World.push w (.cells cs e (0,0))) (σ.set b ⟨w.heap.size,0,x.size⟩) (aH (σ.set b ⟨w.heap.size,0,x.size⟩) (H.new b x)) v v'):Fd P s w σ H b v (H.new b x):=by
 have hlen:=hf.len;rw[hl]at hlen;simp only[We,V6]at hlen;obtain⟨h1,h2⟩:=hW.new hb hlt (x:=x) (cs:=cs) (e:=e) hf.even Xr (λi r j a u hr ha hu=>hf.rep i r j a u hr ha (by
  have hj:j<x.size:=by rw[←hf.even i r hr];exact aA ha
  rw[hl,Wj (oR (aA hr) hj),V9];exact hu))
 refine⟨v',_,_,hs,hv,h1,h2,λc pl hc=>?_⟩;by_cases hbc:b=c
 ·exact .inr hbc.symm
 ·rw[bb.set_ne _ _ hbc]at hc;exact .inl hc
theorem Flat.one{cs:List AV}{vs:List Value}(h:eh w σ T cs vs):Flat w σ T [cs] cs.length vs:=by
 refine⟨by simp[h.1],λi r hr=>?_,λi r j a u hr ha hu=>?_⟩
 ·match i with
  |0=>cases hr;rfl
  |i+1=>simp at hr
 ·match i with
  |0=>cases hr;exact h.2 j a u ha (by simpa using hu)
  |i+1=>simp at hr
theorem HR(hW:aW w σ H)(hb:σ b=none)(hlt:b<H.next){t:TypeId}{x:AV}{x':Value}{cs:List AV}(hx:aT w σ (aH σ H) x x')(hc:x.cells? =some cs):
  Fd P (Instr.box t x') w σ H b (.ptr b 0 0) (H.new b ⟨cs.length,[cs]⟩):=by
 have hr:=hx.cells hc;refine CP hW hb hlt (cs:=x'.cells) (e:=t) (v':=.pointer (some ⟨w.heap.size,0,none⟩)) (l:=x'.cells.toList) ?_ (Flat.one hr) rfl ?_
 ·have:=hr.1;simp only[List.length_singleton,Nat.one_mul];rw[Wx Xr]
 ·have:=aT.ptr (w:=World.push w (.cells x'.cells t (0,0))) (T:=aH (σ.set b ⟨w.heap.size,0,cs.length⟩) (H.new b ⟨cs.length,[cs]⟩)) b 0 0 _ (bb.set_eq σ b ⟨w.heap.size,0,cs.length⟩) (.inl rfl);simpa using this
theorem JI(hW:aW w σ H)(hb:σ b=none)(hlt:b<H.next){t:TypeId}{cs:List AV}(hc:(ea P t).bind AV.cells? =some cs):
  Fd P (Instr.alloc t true (.tuple #[])) w σ H b (.ptr b 0 0) (H.new b ⟨cs.length,[cs]⟩):=by
 cases hz:ea P t with
 |none=>rw[hz]at hc;cases hc
 |some z=>rw[hz]at hc;obtain⟨z',h1,h2⟩:=ew (P:=P) (w:=w) (σ:=σ) (T:=aH σ H) hz;obtain⟨v',w',σ',h3,h4⟩:=HR (P:=P) (t:=t) hW hb hlt h2 hc;refine⟨v',w',σ',?_,h4⟩;rw[←h3];simp only[Instr.alloc,Wh,h1,VX];rfl
theorem gE{α:Type}(l us:List α)(K p:Nat)(h:K+us.length≤l.length):
  (l.take K++us++l.drop (K+us.length))[p]? =if p<K then l[p]? else if p<K+us.length then us[p-K]? else l[p]? :=by
 rcases VO p K with h1|h1
 ·rw[if_pos h1,Wq,V1 (by simp;omega),Wj h1]
 ·rw[if_neg Xr];rcases VO p (K+us.length)with h2|h2
  ·rw[if_pos h2,V1 (by simp;omega),VS (by simp;omega)];simp only[We];rw[Wz Xr]
  ·rw[if_neg Xr,VS (by simp;omega)];simp only[VT,We,WB];rw[Wz Xr];congr 1;omega
theorem JK(hW:aW w σ H){t:TypeId}{a x:AV}{a' x':Value}{H':ac}(ha:aT w σ (aH σ H) a a')(hx:aT w σ (aH σ H) x x')(h:fN P H t a x=some H'):
  ∃w',(Instr.storeAt t a' x').run P w=.ok () w'∧aW w' σ H'∧el w σ (aH σ H) w' σ (aH σ H'):=by
 unfold fN at h;split at h
 ·rename_i c i off cs n hcs hn;split at h
  ·rename_i y hy;split at h
   ·rename_i r hr;split at h
    ·rename_i hl;obtain⟨hl1,hl2,hl3⟩:=hl;cases h;cases ha with
     |ptr _ _ _ pl hs hp=>
     obtain⟨pl',ds,e,g1,g2⟩:=hW.live c y hy;rw[hs]at g1;cases g1;replace g2:=g2.1 hp;have hreps:=hx.cells hcs;have hone:=hreps.one hl2;have hi:=aA hr;have hrl:=g2.even i r hr;have hroom:=g2.room;have hm:(i+1)*y.size≤y.rows.length*y.size:=V4 _ hi;rw[Ws]at hm;have hst:=run_storeCells_at (P:=P) pl.block (pl.base+i*pl.size+off) e x'.cells.toList 0 ds w g2.block (by rw[←hreps.1,g2.size];omega) hone;simp only[Xd]at hst;have hw:lu w (w.setRow pl.block (ds.toList.take (pl.base+i*pl.size+off)++x'.cells.toList++ds.toList.drop (pl.base+i*pl.size+off+x'.cells.toList.length)).toArray) pl.block ds _ e:=
      ⟨rfl,rfl,rfl,Xu,g2.block,setRow_heap w _ _ _ _ _ g2.block,by
       have:=hreps.1;have hsz:=g2.size;simp only[List.size_toArray,VT,We,Xg,V6];rw[hsz,Wz Xr];rw[←V6 (xs:=x'.cells)];omega,λd hd=>setRow_other w _ d _ hd⟩
     have hput:=hW.put hy hs hw (x':={y with rows:=y.rows.set i (bA r off cs)}) g2.size.symm ?_ ?_ ?_
     ·refine⟨_,?_,hput⟩;have:x'.cells.size=n:=by rw[←V6,←hreps.1,hl1]
      simp only[Instr.storeAt,Instr.sureAddr,storeVar,Wh,Wu,VX,cE hn,Sem.run_ite,this,ne_eq,not_true_eq_false,if_false,hst]
     ·intro q s hq;rw[Wn]at hq;split at hq
      ·cases hq;simp[bA];omega
      ·exact g2.even q s hq
     ·simpa using hroom
     ·intro q s j a u hq hj hu;have hsz:=g2.size;have hul:x'.cells.toList.length=cs.length:=hreps.1.symm;have hdl:ds.toList.length=ds.size:=V6;rw[List.getElem?_toArray,gE ds.toList x'.cells.toList (pl.base+i*pl.size+off) _ (by rw[hul,hsz];omega),hul,hsz]at hu;simp only[]at hu;rw[Wn]at hq;split at hq
      ·rename_i hqi;subst hqi;cases hq;have hjr:=aA hj;have hjl:j<r.length:=by simp[bA]at hjr;omega
       unfold bA at hj;rw[gE _ _ _ _ Xr]at hj;by_cases h1:j<off
       ·rw[if_pos h1]at hj;rw[if_pos Xr,V9]at hu;exact g2.rep i r j a u hr hj hu
       ·rw[if_neg h1]at hj;by_cases h2:j<off+cs.length
        ·rw[if_pos h2]at hj;rw[if_neg Xr,if_pos Xr]at hu;refine hreps.2 (j-off) a u hj ?_;rw[←hu];congr 1;omega
        ·rw[if_neg h2]at hj;rw[if_neg Xr,if_neg Xr,V9]at hu;exact g2.rep i r j a u hr hj hu
      ·rename_i hqi;have hjs:j<y.size:=by rw[←g2.even q s hq];exact aA hj
       refine g2.rep q s j a u hq hj ?_;rcases Nat.lt_or_gt_of_ne hqi with hlt|hlt
       ·have:(i+1)*y.size≤q*y.size:=V4 _ hlt;rw[Ws]at this;rw[if_neg Xr,if_neg Xr,V9]at hu;exact hu
       ·have:(q+1)*y.size≤i*y.size:=V4 _ hlt;rw[Ws]at this;rw[if_pos Xr,V9]at hu;exact hu
    ·cases h
   ·cases h
  ·cases h
 ·cases h
end
end
section
section
variable {P:Program} {w:World} {σ:bb} {T:Nat→Prop} {H:ac} {b:Nat}
theorem oS{n:Nat}{ρ:Operand→AV}{ρ':Operand→Value}(hρ:∀x,aT w σ T (ρ x) (ρ' x)):∀(ps:List (Nat×Operand)) (rows r:List (List AV)) (cells':Array Value),
  Flat w σ T rows n cells'.toList→dQ n rows (ps.map λp=>(p.1,ρ p.2))=some r→
  ∃r':Array Value,Instr.fill (λi=>some (i*n,n)) cells' (ps.map λp=>(p.1,ρ' p.2))=some r'∧Flat w σ T r n r'.toList∧r.length=rows.length
 |[],rows,r,cells',hc,h=>by cases h;exact⟨cells',rfl,hc,rfl⟩
 | (i,x)::ps,rows,r,cells',hc,h=>by
  simp only[VM,dQ]at h;split at h
  ·rename_i cs hcs;split at h
   ·rename_i hl;obtain⟨hl1,hl2,_⟩:=hl;have hx:=(hρ x).cells hcs;have e1:(ρ' x).cells.size=n:=by rw[←V6,←hx.1,hl1]
    have e2:cells'.size=rows.length*n:=by rw[←V6,hc.len]
    have hin:i*n+n≤rows.length*n:=by have:(i+1)*n≤rows.length*n:=V4 _ hl2;rw[Ws]at this;omega
    have hfold:((ρ' x).cells.zipIdx.foldl (λ(cs:Array Value) (p:Value×Nat)=>cs.setIfInBounds (i*n+p.2) p.1) cells').toList=cells'.toList.take (i*n)++(ρ' x).cells.toList++cells'.toList.drop (i*n+(ρ' x).cells.toList.length):=by have:=zd (ρ' x).cells.toList 0 (i*n) cells' (by simp;omega);rw[←Array.foldl_toList,Array.toList_zipIdx];simpa using this
    obtain⟨r',h1,h2,h3⟩:=oS hρ ps (rows.set i cs) r _ (by rw[hfold];exact hc.set hl2 hl1 hx) h;refine⟨r',?_,h2,by simpa using h3⟩;have hcond:(decide ((ρ' x).cells.size≠n)||decide (i*n+(ρ' x).cells.size > cells'.size))=false:=by simp[e1,e2];omega
    simp only[VM,Instr.fill,hcond,Wd,if_false];exact h1
   ·cases h
  ·cases h
theorem JL{x:Blk}{cs:Array Value}{e:TypeId}{k cap:Nat}(hk:k≤cap)(hcap:cap≤maxLen)(hs:cap*x.size≤cs.size):
  aT (World.push w (.cells cs e (0,0))) (σ.set b ⟨w.heap.size,0,x.size⟩) (aH (σ.set b ⟨w.heap.size,0,x.size⟩) (H.new b x)) (.sl b 0 k) (.slice (some ⟨w.heap.size,0,none⟩) k cap):=by
 refine aT.sl b 0 k ⟨w.heap.size,0,x.size⟩ _ cap (bb.set_eq _ _ _) (.inl rfl) hk hcap λ_=>⟨Xu,cs,e,?_,by simpa using hs⟩
 show(w.heap.push _)[w.heap.size]? =_;simp
theorem Bo(hW:aW w σ H)(hb:σ b=none)(hlt:b<H.next){t e:TypeId}{len n:Nat}{ps:Array (Nat×Operand)}{ρ:Operand→AV}{ρ':Operand→Value}(hρ:∀x,aT w σ (aH σ H) (ρ x) (ρ' x))
  {z:List AV} {rows:List (List AV)} (hu:P.underlying t=some (.slice e)) (hn:aQ P e=some n) (hz:(ea P e).bind AV.cells? =some z) (hzn:z.length=n) (h0:0<n) (hl:len*n≤2^24)
  (h:dQ n (List.replicate len z) (ps.toList.map λp=>(p.1,ρ p.2))=some rows) :
  Fd P (Instr.buildSlice t len (ps.map λ(i,x)=>(i,ρ' x))) w σ H b (.sl b 0 len) (H.new b ⟨n,rows⟩):=by
 have hps:(ps.map λ(i,x)=>(i,ρ' x)).toList=ps.toList.map λp=>(p.1,ρ' p.2):=by simp
 cases hza:ea P e with
 |none=>rw[hza]at hz;cases hz
 |some za=>
  rw[hza]at hz;simp only[Wy]at hz;obtain⟨z',hz1,hz2⟩:=ew (P:=P) (w:=w) (σ:=σ) (T:=aH σ H) hza;have hzr:=hz2.cells hz;have hlen:len≤2^24:=V2 (Nat.le_mul_of_pos_right len h0) hl;obtain⟨l,e1,e2,e3,_⟩:=Flat.zeros hzr hzn h0 len len (VL _);have hfl:Flat w σ (aH σ H) (List.replicate len z) n (l.toArray).toList:=by rw[Wx Xr]at e3;exact e3
  obtain⟨r',f1,f2,f3⟩:=oS hρ ps.toList _ rows l.toArray hfl h;have hr':r'.size=len*n:=by rw[←V6,f2.len,f3];simp
  have hrl:rows.length=len:=by simpa using f3
  refine CP hW hb hlt (cs:=r') (e:=e) (v':=.slice (some ⟨w.heap.size,0,none⟩) len len) (l:=r'.toList) ?_ f2 ?_ ?_
  ·simp only[];rw[Wx (by rw[V6,hr',hrl];exact VL _)]
  ·have hgt:¬len*n > 2^24:=by omega
   simp only[Instr.buildSlice,Wh,run_underlying hu,VX,cE hn];rw[if_neg hgt];by_cases hz0:len*n=0
   ·have hl0:len=0:=by
     rcases Nat.mul_eq_zero.1 hz0 with h1|h1
     ·exact h1
     ·omega
    subst hl0;rw[if_pos hz0];have:l=[]:=by cases l with
     |nil=>rfl
     |cons a l=>simp at e2
    subst this;simp only[Wh,Wu,VX,hz0,hps];have he:(Array.range 0).map (λx=>(#[]:Array Value)[x % (#[]:Array Value).size]!)=([]:List Value).toArray:=by simp
    rw[he,f1];rfl
   ·rw[if_neg hz0];simp only[Wh,hz1,Wu,VX,hps];rw[e1,f1];rfl
  ·exact JL (x:=⟨n,rows⟩) (VL _) (by unfold maxLen;omega) (by rw[hr'];exact VL _)
theorem CQ(hW:aW w σ H)(hb:σ b=none)(hlt:b<H.next){t e:TypeId}{n by_ l c:Nat}{x y:AV}{x' y':Value}(hx:aT w σ (aH σ H) x x')(hy:aT w σ (aH σ H) y y')
  {z:List AV} (hu:P.underlying t=some (.slice e)) (hn:aQ P e=some n) (hby:iZ P e=some by_) (hz:(ea P e).bind AV.cells? =some z) (hl:m6 x=some l) (hc:m6 y=some c)
  (hzn:z.length=n) (h0:0<n) (hlc:l≤c) (hcm:c≤2^62) (hcb:c*by_≤2^48) :
  Fd P (Instr.makeSlice t x' y') w σ H b (.sl b 0 l) (H.new b ⟨n,List.replicate l z⟩):=by
 obtain⟨kl,li,rfl,hl0,rfl⟩:=oQ hx hl;obtain⟨kc,ci,rfl,hc0,rfl⟩:=oQ hy hc;cases hza:ea P e with
 |none=>rw[hza]at hz;cases hz
 |some za=>
  rw[hza]at hz;simp only[Wy]at hz;cases hi:P.info? e with
  |none=>simp[iZ,hi]at hby
  |some i=>
  have hib:i.bytes=by_:=by simpa[iZ,hi]using hby
  obtain⟨z',hz1,hz2⟩:=ew (P:=P) (w:=w) (σ:=σ) (T:=aH σ H) hza;have hzr:=hz2.cells hz;obtain⟨l,e1,e2,e3,_⟩:=Flat.zeros hzr hzn h0 li.toNat ci.toNat hlc;have wl:IntKind.i64.wrap li=li:=WA _ Xr;have wc:IntKind.i64.wrap ci=ci:=WA _ Xr;have hbig:((decide (ci<0)||decide ((i.bytes:Int)*ci > 2^48))||decide (li<0)||decide (li > ci))=false:=by
   rw[hib];have:((by_:Int)*ci)=((ci.toNat*by_:Nat):Int):=by rw[Int.natCast_mul,Int.toNat_of_nonneg hc0,Int.mul_comm]
   have h2:((ci.toNat*by_:Nat):Int)≤2^48:=by exact_mod_cast hcb
   simp only[Bool.or_eq_false_iff,decide_eq_false_iff_not];refine⟨⟨⟨Xr,by rw[this];omega⟩,Xr⟩,Xr⟩
  refine CP hW hb hlt (x:=⟨n,List.replicate li.toNat z⟩) (cs:=l.toArray) (e:=e) (v':=.slice (some ⟨w.heap.size,0,none⟩) li.toNat ci.toNat) (l:=l.take (li.toNat*n)) ?_ e3 ?_ ?_
  ·simp
  ·simp only[Instr.makeSlice,asInt,asIntOf,Wh,run_underlying hu,Wu,VX,vP hi,wl,wc,hbig,Wd,if_false,run_askRoom,cE hn];by_cases hz0:ci.toNat*n=0
   ·rw[if_pos hz0];have hnil:l=[]:=by cases l with
     |nil=>rfl
     |cons a l=>simp at e2;omega
    subst hnil;simp only[Wh,Wu,VX,hz0];have he:(Array.range 0).map (λx=>(#[]:Array Value)[x % (#[]:Array Value).size]!)=([]:List Value).toArray:=by simp
    rw[he];rfl
   ·rw[if_neg hz0];simp only[Wh,hz1,Wu,VX];rw[e1];rfl
  ·exact JL (x:=⟨n,List.replicate li.toNat z⟩) hlc (by unfold maxLen;omega) (by simp[e2])
theorem CR{m:List (List AV)}{n c o:Nat}(he:∀(i:Nat) (r:List AV),m[i]? =some r→r.length=n)(hc:∀(i:Nat) (r:List AV),m[i]? =some r→HK w σ T r c (o+i*n)):
  ∃l:List Value,(∀w2:World,w2.heap=w.heap→(loadCells ⟨c,o,none⟩ (m.length*n)).run P w2=.ok l.toArray w2)∧Flat w σ T m n l:=by
 have key:∀p,∃u,p<m.length*n→w.cell? ⟨c,o+p,none⟩=some u:=λp=>by
  by_cases hp:p<m.length*n
  ·have hn:0<n:=by
    rcases WE n with h0|h0
    ·subst h0;simp at hp
    ·exact h0
   have hi:p / n<m.length:=by rw[Nat.div_lt_iff_lt_mul hn];exact hp
   have hr:m[p / n]? =some m[p / n]:=VK hi;have hj:p % n<m[p / n].length:=by rw[he _ _ hr];exact Nat.mod_lt _ hn
   obtain⟨u,h1,_⟩:=hc _ _ hr (p % n) _ (VK hj);refine⟨u,λ_=>?_⟩;rw[WC,Nat.mul_comm,Nat.div_add_mod]at h1;exact h1
  ·exact⟨undef,λh=>absurd h hp⟩
 let f:=λp=>Classical.choose (key p)
 have hf:∀p,p<m.length*n→w.cell? ⟨c,o+p,none⟩=some (f p):=λp=>Classical.choose_spec (key p)
 refine⟨(List.range (m.length*n)).map f,λw2 hw2=>run_loadCells w2 _ _ f (λj hj=>by rw[eu];rw[←hf j hj];unfold World.cell?;rw[hw2]),⟨Xu,he,?_⟩⟩;intro i r j a u hr ha hu;have hj:j<n:=by rw[←he i r hr];exact aA ha
 have hp:=oR (aA hr) hj;rw[VZ,Xo hp]at hu;cases hu;obtain⟨u,h1,h2⟩:=hc i r hr j a ha;rw[WC,hf _ hp]at h1;cases h1;exact h2
theorem FK(hW:aW w σ H){n:Nat}{x:AV}{x':Value}{m:List (List AV)}(hx:aT w σ (aH σ H) x x')(h:fq H n x=some m):
  ∃(A:Option Addr) (cap:Nat) (l:List Value),x'=.slice A m.length cap∧(∀w2:World,w2.heap=w.heap→(Builtin.firstCells n m.length x').run P w2=.ok l.toArray w2)∧Flat w σ (aH σ H) m n l:=by
 unfold fq at h;split at h
 ·cases h;cases hx;exact⟨none,0,[],rfl,λ_ _=>rfl,Flat.nil n⟩
 ·cases h;cases hx with
  |emp A=>exact⟨A,0,[],rfl,λw2 _=>by cases A<;>simp[Builtin.firstCells,loadCells,loadCellsFrom],Flat.nil n⟩
 ·rename_i rows;split at h
  ·cases h;obtain⟨A,cap,rfl,_,_,_⟩:=hx.lst_inv;refine⟨A,cap,[],rfl,?_,Flat.nil n⟩;intro w2 _;cases A<;>simp[Builtin.firstCells,loadCells,loadCellsFrom]
  ·rename_i r rs;split at h
   ·rename_i hr;cases h;obtain⟨A,cap,rfl,hn,hm,ha⟩:=hx.lst_inv;obtain⟨b,o,sz,rfl,hl,hrep⟩:=ha Xu;obtain rfl:r.length=sz:=hl.even 0 r rfl;subst hr;obtain⟨l,h1,h2⟩:=CR (P:=P) (o:=o) (c:=b) hl.even (λi q hq=>hl.row hrep hq);exact⟨_,cap,l,rfl,λw2 hw2=>by simp only[Builtin.firstCells];exact h1 w2 hw2,h2⟩
   ·cases h
 ·rename_i b' i k;split at h
  ·rename_i y hy;split at h
   ·rename_i hcond;obtain⟨hsz,hik⟩:=hcond;cases h;obtain⟨pl,a,cap,rfl,hs,hn,hm,ha⟩:=hx.sl_inv;obtain⟨pl',cs',e',g1,g2⟩:=hW.live b' y hy;rw[hs]at g1;cases g1;replace g2:=g2.1 (hx.sl_ok hs);have hlen:((y.rows.drop i).take k).length=k:=by simp;omega
    rw[hlen];have get:∀(q:Nat) (r:List AV),((y.rows.drop i).take k)[q]? =some r→y.rows[i+q]? =some r:=λq r hq=>by
     have hi:=aA hq;rw[hlen]at hi
     rwa [Wj hi,WB]at hq
    rcases WE k with hk|hk
    ·subst hk;exact⟨_,cap,[],rfl,λw2 _=>by simp[Builtin.firstCells,loadCells,loadCellsFrom],by simpa using Flat.nil n⟩
    ·obtain⟨rfl,cs,ty,hc,hr⟩:=ha Xr;obtain⟨l,h1,h2⟩:=CR (P:=P) (w:=w) (σ:=σ) (T:=aH σ H) (m:=(y.rows.drop i).take k) (n:=n) (c:=pl.block) (o:=pl.base+i*pl.size) (λq r hq=>by rw[←hsz];exact g2.even _ r (get q r hq)) (λq r hq=>by
      have:=g2.row (get q r hq);rw[Ws,←WC]at this
      rwa [g2.size,hsz]at this ⊢)
     rw[hlen]at h1;exact⟨_,cap,l,rfl,λw2 hw2=>by simp only[Builtin.firstCells];exact h1 w2 hw2,h2⟩
   ·cases h
  ·cases h
 ·cases h
theorem Flat.ones{rows:List (List AV)}{n:Nat}{l:List Value}(h:Flat w σ T rows n l)(ho:(rows.all λr=>r.all AV.one)=true):∀u∈l,u.oneCell'=true:=by
 intro u hu;obtain⟨p,hp,rfl⟩:=WO hu;have hlen:=h.len;have hn:0<n:=by
  rcases WE n with h0|h0
  ·subst h0;rw[Nat.mul_zero]at hlen;omega
  ·exact h0
 have hi:p / n<rows.length:=by rw[Nat.div_lt_iff_lt_mul hn];omega
 have hr:rows[p / n]? =some rows[p / n]:=VK hi;have hj:p % n<rows[p / n].length:=by rw[h.even _ _ hr];exact Nat.mod_lt _ hn
 have hrep:=h.rep (p / n) _ (p % n) _ l[p] hr (VK hj) (by rw[Nat.mul_comm,Nat.div_add_mod];exact VK hp);refine hrep.one ?_;rw[V0]at ho;have:=ho _ (V3 hi);rw[V0]at this;exact this _ (V3 hj)
theorem fO{t tx ty e e':TypeId}{n sLen sCap k capx:Nat}{A B:Option Addr}{news:List Value}(ht:P.underlying t=some (.slice e))(htx:P.underlying tx=some (.slice e'))(hn:aQ P e=some n)
  (hroom:sLen+k≤sCap) (hc:(Builtin.firstCells n k (.slice B k capx)).run P w=.ok news.toArray w) {w':World} (hst:(match A with|some a=>storeCells (a.add (sLen*n)) news|none=>Pure.pure ()).run P w=.ok () w') :
  (Builtin.append_ #[t,tx] ty #[.slice A sLen sCap,.slice B k capx]).run P w=.ok (.slice A (sLen+k) sCap) w':=by
 cases A with
 |none=>simp only[Wu]at hst;cases hst;simp[Builtin.append_,run_underlying ht,run_underlying htx,cE hn,Builtin.lenOf,hroom,hc]
 |some a=>simp only[]at hst;simp[Builtin.append_,run_underlying ht,run_underlying htx,cE hn,Builtin.lenOf,hroom,hc,hst]
theorem HS(hW:aW w σ H)(hb:σ b=none)(hlt:b<H.next){t tx ty e':TypeId}{s x v:AV}{s' x':Value}{H':ac}(hx:aT w σ (aH σ H) x x')(hs:aT w σ (aH σ H) s s')
  (htx:P.underlying tx=some (.slice e')) (h:cO P H b t s x=some (v,H')):Fd P (Builtin.append_ #[t,tx] ty #[s',x']) w σ H b v H':=by
 unfold cO at h;split at h
 ·rename_i e hu;split at h
  ·rename_i n by_ z hn hby hz;split at h
   ·rename_i l m hl hm;split at h
    ·rename_i hc;obtain⟨c1,c2,h0,hzn,hone⟩:=hc;cases hi:P.info? e with
     |none=>simp[iZ,hi]at hby
     |some i=>
     have hib:i.bytes=by_:=by simpa[iZ,hi]using hby
     have hin:i.size=n:=by simpa[aQ,hi]using hn
     cases hza:ea P e with
     |none=>rw[hza]at hz;cases hz
     |some za=>
     rw[hza]at hz;simp only[Wy]at hz;obtain⟨z',hz1,hz2⟩:=ew (P:=P) (w:=w) (σ:=σ) (T:=aH σ H) hza;have hiz:i.zero=some z':=by
      simp only[zeroValue,Wh,vP hi,VX]at hz1;split at hz1
      ·rename_i q hq;cases hz1;exact hq
      ·cases hz1
     have hzr:=hz2.cells hz;obtain⟨A,cap,olds,rfl,ho1,ho2⟩:=FK (P:=P) hW hs hl;obtain⟨B,capx,news,rfl,hn1,hn2⟩:=FK (P:=P) hW hx hm;have grow:∀{K:ac},(hWK:aW w σ K)→(hext:el w σ (aH σ H) w σ (aH σ K))→b<K.next→cap<l.length+m.length→
       Fd P (Builtin.append_ #[t,tx] ty #[.slice A l.length cap,.slice B m.length capx]) w σ H b (.sl b 0 (l.length+m.length)) (K.new b ⟨n,l++m⟩):=by
      intro K hWK hext hltK hcap;have hrun:=run_append_grow_src (P:=P) w t tx ty e i z' hu hi hiz A l.length cap olds (by rw[hin];exact ho1 _ rfl) (.slice B m.length capx) m.length news
       ⟨.inl ⟨e',htx⟩,λ_=>rfl,by rw[hin];exact hn1 w rfl,by rw[hin];exact hn1 _ rfl,by rw[hin];exact hn2.len,hn2.ones hone⟩ hcap Xr
       (by rw[hib];have:=V4 by_ (nextslicecap_le hcap);omega)
      generalize hgc:grownCap w (l.length+m.length) cap e=gc at hrun;have hgc1:l.length+m.length≤gc∧gc≤maxLen:=by rw[←hgc];have hcut:grownCap w (l.length+m.length) cap e=(l.length+m.length)+w.tape w.drawn (.appendCap (l.length+m.length) cap e) % (2^63-(l.length+m.length)):=rfl;rw[hcut];unfold maxLen;have:w.tape w.drawn (.appendCap (l.length+m.length) cap e) % (2^63-(l.length+m.length))<2^63-(l.length+m.length):=Nat.mod_lt _ Xr;omega
      have hE:el w σ (aH σ H) w.drew σ (aH σ K):=hext.trans (el.same σ _ rfl rfl rfl rfl);have hzs:z'.cells.size=n:=by rw[←V6,←hzr.1,hzn]
      have hfl:Flat w σ (aH σ H) (l++m) n (olds++news):=ho2.append hn2;generalize hcs:((olds++news).toArray++Builtin.zeroCells z'.cells (gc-(l.length+m.length)):Array Value)=cs at hrun;have hcl:cs.size=gc*n:=by rw[←hcs];have h1:=hfl.len;simp only[VT]at h1;simp only[Array.size_append,List.size_toArray,VT,h1,Builtin.zeroCells,Array.size_map,Array.size_range,hzs];rw[←Ws];congr 1;omega
      have hcget:∀p u,p<(l++m).length*n→cs[p]? =some u→(olds++news)[p]? =some u:=λp u hp hu=>by rw[←hcs,Array.getElem?_append_left (by simp only[List.size_toArray];rw[hfl.len];exact hp)]at hu;simpa using hu
      obtain⟨g1,g2⟩:=(hWK.same (w':=w.drew) rfl rfl rfl rfl).new hb hltK (x:=⟨n,l++m⟩) (cs:=cs) (e:=e) hfl.even (by rw[hcl];simp only[VT];exact V4 _ hgc1.1) (λi r j a u hr ha hu=>by
       have hj:j<n:=by rw[←hfl.even i r hr];exact aA ha
       exact(hfl.rep i r j a u hr ha (hcget _ u (oR (aA hr) hj) hu)).mono hE)
      refine⟨_,_,_,hrun,?_,g1,hE.trans g2,λc pl hc=>?_⟩
      ·exact JL (w:=w.drew) (x:=⟨n,l++m⟩) hgc1.1 hgc1.2 (by rw[hcl];exact VL _)
      ·by_cases hbc:b=c
       ·exact .inr hbc.symm
       ·rw[bb.set_ne _ _ hbc]at hc;exact .inl hc
     split at h
     ·
      cases hl;simp only[Wg]at hs;cases hs;split at h
      ·rename_i hm0;cases h;refine⟨.slice none 0 0,w,σ,?_,.nils,hW,el.refl _ _ _,λc pl hc=>.inl hc⟩;have:=fO (P:=P) (ty:=ty) (A:=none) (sLen:=0) (sCap:=0) (k:=m.length) hu htx hn Xr (hn1 w rfl) (w':=w) rfl;rw[hm0]at this;simpa[hm0]using this
      ·rename_i hm0;cases h;have:=grow hW (el.refl _ _ _) hlt (by simp;omega);simpa using this
     ·
      cases hl;simp only[Wg]at hs;cases hs;split at h
      ·rename_i hm0;cases h;refine⟨.slice A 0 0,w,σ,?_,.emp A,hW,el.refl _ _ _,λc pl hc=>.inl hc⟩;have hm':m=[]:=by cases m with
        |nil=>rfl
        |cons x m=>simp at hm0
       have hnews:news=[]:=by have:=hn2.len;rw[hm']at this;simpa using this
       have:=fO (P:=P) (ty:=ty) (A:=A) (sLen:=0) (sCap:=0) (k:=m.length) hu htx hn Xr (hn1 w rfl) (w':=w) (by rw[hnews];cases A<;>rfl);rw[hm0]at this;simpa[hm0]using this
      ·rename_i hm0;cases h;have:=grow hW (el.refl _ _ _) hlt (by simp;omega);simpa using this
     ·rename_i b' i k;cases h;obtain⟨pl,a,cap',heq,hsig,hk,hcm,ha⟩:=hs.sl_inv;simp only[Value.slice.injEq]at heq;obtain⟨rfl,hkl,rfl⟩:=heq;simp only[fq]at hl;split at hl
      ·rename_i y hy;split at hl
       ·rename_i hcond;obtain⟨hyn,hik⟩:=hcond;cases hl;have hlen:((y.rows.drop i).take k).length=k:=by simp;omega
        obtain⟨pl',ds,e0,q1,q2⟩:=hW.live b' y hy;rw[hsig]at q1;cases q1;have hpk:=hs.sl_ok hsig;replace q2:=q2.1 hpk;have hps:pl.size=n:=q2.size.trans hyn;have hget:∀(q:Nat) (r:List AV),((y.rows.drop i).take k)[q]? =some r→q<k∧y.rows[i+q]? =some r:=λq r hq=>by have hi:=aA hq;rw[hlen]at hi;rw[Wj hi,WB]at hq;exact⟨hi,hq⟩
        have hfl:Flat w σ (aH σ H) ((y.rows.drop i).take k++m) n (olds++news):=ho2.append hn2;by_cases hroom:((y.rows.drop i).take k).length+m.length≤cap
        ·
         by_cases hc0:cap=0
         ·subst hc0;have hm0:m.length=0:=by omega
          have hk0:k=0:=by omega
          have hlk:((y.rows.drop i).take k)=[]:=by rw[hk0];simp
          have hm':m=[]:=by cases m with
           |nil=>rfl
           |cons x m=>simp at hm0
          have hnews:news=[]:=by have:=hn2.len;rw[hm']at this;simpa using this
          have hrun:=fO (P:=P) (ty:=ty) (A:=some a) hu htx hn hroom (hn1 w rfl) (w':=w) (by rw[hnews];rfl);obtain⟨o1,o2⟩:=hW.over (k:=0) hy hsig hb hlt (lu.refl q2.block) (x':=⟨n,(y.rows.drop i).take k++m⟩) hps.symm hfl.even (by rw[hlk,hm'];have:=q2.room;simp;omega) (by rw[hlk,hm'];intro i r j a u hr;simp at hr);refine⟨_,_,_,hrun,?_,o1,o2,λc pl hc=>?_⟩
          ·exact aT.sl b 0 _ _ a 0 (bb.set_eq _ _ _) (cl.ok_over hpk _ _) hroom Xr Xr
          ·by_cases hbc:b=c
           ·exact .inr hbc.symm
           ·rw[bb.set_ne _ _ hbc]at hc;exact .inl hc
         ·obtain⟨rfl,cs,ty',hcb,hcr⟩:=ha Xr;rw[q2.block]at hcb;cases hcb;have hnl:news.length=m.length*n:=hn2.len;have hcap:(k+m.length)*n≤cap*n:=V4 _ Xr;have hbound:pl.base+i*pl.size+k*n+news.length≤ds.size:=by rw[hnl,hps];rw[hps,Ws]at hcr;rw[Ws]at hcap;omega
          have hst:=run_storeCells_at (P:=P) pl.block (pl.base+i*pl.size+k*n) e0 news 0 ds w q2.block (by simpa using hbound) (hn2.ones hone);simp only[Xd]at hst;have hw:lu w (w.setRow pl.block (ds.toList.take (pl.base+i*pl.size+k*n)++news++ds.toList.drop (pl.base+i*pl.size+k*n+news.length)).toArray) pl.block ds _ e0:=
           ⟨rfl,rfl,rfl,Xu,q2.block,setRow_heap w _ _ _ _ _ q2.block,by
            simp only[List.size_toArray,VT,We,Xg,V6];rw[Wz Xr];omega,λd hd=>setRow_other w _ d _ hd⟩
          have hrun:=fO (P:=P) (ty:=ty) (A:=some ⟨pl.block,pl.base+i*pl.size,none⟩) hu htx hn hroom (hn1 w rfl) (by simp only[eu];rw[hlen];exact hst);have hdl:ds.toList.length=ds.size:=V6;obtain⟨o1,o2⟩:=hW.over (k:=i) hy hsig hb hlt hw (x':=⟨n,(y.rows.drop i).take k++m⟩) hps.symm hfl.even (by
           simp only[VT,hlen];rw[Ws];omega) (λq r j a u hr hj hu=>by
           simp only[]at hr hu;have hjn:j<n:=by rw[←hfl.even q r hr];exact aA hj
           rw[List.getElem?_toArray,gE ds.toList news _ _ Xr]at hu;rcases VO q k with hq|hq
           ·rw[V1 Xr]at hr;have:=oR hq hjn;rw[if_pos Xr,V9]at hu;refine q2.rep (i+q) r j a u (hget q r hr).2 hj ?_;rw[hyn,←hu,hps];congr 1;rw[Ws];omega
           ·rw[VS Xr,hlen]at hr;have hqm:q-k<m.length:=aA hr;have h1:=oR hqm hjn;have h2:(q-k)*n+k*n=q*n:=by rw[←Ws,Nat.sub_add_cancel hq]
            rw[if_neg Xr,if_pos Xr]at hu;refine hn2.rep (q-k) r j a u hr hj ?_;rw[←hu];congr 1;omega)
          refine⟨_,_,_,hrun,?_,o1,o2,λc pl hc=>?_⟩
          ·refine aT.sl b 0 _ _ _ cap (bb.set_eq _ _ _) (cl.ok_over hpk _ _) hroom hcm λ_=>⟨Xu,_,e0,hw.new,?_⟩
           rw[hw.len];simp only[WG];rw[Ws]at hcr;omega
          ·by_cases hbc:b=c
           ·exact .inr hbc.symm
           ·rw[bb.set_ne _ _ hbc]at hc;exact .inl hc
        ·
         have hsub:∀c x,(H.put b' none).get c=some x→H.get c=some x:=λc x hx=>by
          rw[ac.get_put]at hx;split at hx
          ·cases hx
          ·exact hx
         exact grow (hW.sub hsub (VL _)) (el.sub hsub) hlt Xr
       ·cases hl
      ·cases hl
     ·cases h
    ·cases h
   ·cases h
  ·cases h
 ·cases h
theorem Flat.sub{rows:List (List AV)}{n:Nat}{l:List Value}(h:Flat w σ T rows n l):∀(i:Nat) (r:List AV) (j:Nat) (a:AV) (u:Value),rows[i]? =some r→r[j]? =some a→l[i*n+j]? =some u→aT w σ T a u:=h.rep
theorem HT(hW:aW w σ H){c:Nat}{y:Blk}{pl:cl}(hy:H.get c=some y)(hs:σ c=some pl)(hpk:pl.ok){i:Nat}{rows:List (List AV)}{us:List Value}(hf:Flat w σ (aH σ H) rows y.size us)(hin:i+rows.length≤y.rows.length)(hone:∀u∈us,u.oneCell'=true):
  ∃w',(storeCells ⟨pl.block,pl.base+i*pl.size,none⟩ us).run P w=.ok () w'∧aW w' σ (H.put c (some {y with rows:=y.rows.take i++rows++y.rows.drop (i+rows.length)}))∧el w σ (aH σ H) w' σ (aH σ (H.put c (some {y with rows:=y.rows.take i++rows++y.rows.drop (i+rows.length)}))):=by
 obtain⟨pl',ds,e,g1,g2⟩:=hW.live c y hy;rw[hs]at g1;cases g1;replace g2:=g2.1 hpk;have hsz:=g2.size;have hroom:=g2.room;have hm:(i+rows.length)*y.size≤y.rows.length*y.size:=V4 _ hin;have hul:us.length=rows.length*y.size:=hf.len;rw[Ws]at hm;have hdl:ds.toList.length=ds.size:=V6;have hst:=run_storeCells_at (P:=P) pl.block (pl.base+i*pl.size) e us 0 ds w g2.block (by rw[hul,hsz];omega) hone;simp only[Xd]at hst;have hw:lu w (w.setRow pl.block (ds.toList.take (pl.base+i*pl.size)++us++ds.toList.drop (pl.base+i*pl.size+us.length)).toArray) pl.block ds _ e:=
  ⟨rfl,rfl,rfl,Xu,g2.block,setRow_heap w _ _ _ _ _ g2.block,by
   simp only[List.size_toArray,VT,We,Xg,V6];rw[hsz,Wz Xr];omega,λd hd=>setRow_other w _ d _ hd⟩
 have hlen:(y.rows.take i++rows++y.rows.drop (i+rows.length)).length=y.rows.length:=by simp only[VT,We,Xg];omega
 refine⟨_,hst,hW.put hy hs hw (x':={y with rows:=y.rows.take i++rows++y.rows.drop (i+rows.length)}) hsz.symm ?_ ?_ ?_⟩
 ·intro q s hq;simp only[]at hq;rw[gE _ _ _ _ hin]at hq;split at hq
  ·exact g2.even q s hq
  ·split at hq
   ·exact hf.even _ s hq
   ·exact g2.even q s hq
 ·simp only[hlen];exact hroom
 ·intro q s j a u hq hj hu;simp only[]at hq hu;rw[gE _ _ _ _ hin]at hq;rw[List.getElem?_toArray,gE ds.toList us (pl.base+i*pl.size) _ (by rw[hul,hsz];omega),hul,hsz]at hu;by_cases h1:q<i
  ·rw[if_pos h1]at hq;have hjs:j<y.size:=by rw[←g2.even q s hq];exact aA hj
   have:(q+1)*y.size≤i*y.size:=V4 _ h1;rw[Ws]at this;rw[if_pos Xr,V9]at hu;exact g2.rep q s j a u hq hj hu
  ·rw[if_neg h1]at hq;have h1':i*y.size≤q*y.size:=V4 _ Xr;by_cases h2:q<i+rows.length
   ·rw[if_pos h2]at hq;have hjs:j<y.size:=by rw[←hf.even _ s hq];exact aA hj
    have:(q+1)*y.size≤(i+rows.length)*y.size:=V4 _ h2;rw[Ws,Ws]at this;rw[if_neg Xr,if_pos Xr]at hu;refine hf.rep (q-i) s j a u hq hj ?_;rw[←hu];congr 1;rw[Nat.sub_mul];omega
   ·rw[if_neg h2]at hq;have:(i+rows.length)*y.size≤q*y.size:=V4 _ Xr;rw[Ws]at this;rw[if_neg Xr,if_neg Xr,V9]at hu;exact g2.rep q s j a u hq hj hu
theorem JM{b:Nat}(hW:aW w σ H){t ty:TypeId}{x:AV}{x':Value}{H':ac}(hx:aT w σ (aH σ H) x x')(h:eT P H t x=some H'):
  Fd P (Builtin.clear_ #[t] ty #[x']) w σ H b (.tup []) H':=by
 unfold eT at h;split at h
 ·rename_i e hu;split at h
  ·rename_i n z hn hz;split at h
   ·cases h;cases hx;exact⟨.tuple #[],w,σ,by simp[Builtin.clear_,run_underlying hu],.tup [] [] rfl Xu,hW,el.refl _ _ _,λc pl hc=>.inl hc⟩
   ·rename_i c i k;split at h
    ·rename_i y hy;split at h
     ·rename_i hcond;obtain⟨⟨q1,q2⟩,⟨q3,q4⟩,q5⟩:=hcond;cases h;obtain⟨pl,ad,cap,rfl,hsg,hnc,hmx,ha⟩:=hx.sl_inv;rcases WE k with rfl|hk
      ·have e0:y.rows.take i++List.replicate 0 z++y.rows.drop (i+0)=y.rows:=by simp
       obtain⟨pl',ds,e',g1,g2⟩:=hW.live c y hy;rw[hsg]at g1;cases g1;replace g2:=g2.1 (hx.sl_ok hsg);have hput:=hW.put hy hsg (lu.refl g2.block) (x':={y with rows:=y.rows.take i++List.replicate 0 z++y.rows.drop (i+0)}) g2.size.symm (by simp only[e0];exact g2.even) (by simp only[e0];exact g2.room) (by simp only[e0];exact g2.rep);exact⟨.tuple #[],w,σ,by simp[Builtin.clear_,run_underlying hu],.tup [] [] rfl Xu,hput.1,hput.2,λc pl hc=>.inl hc⟩
      ·obtain⟨rfl,cs,te,hcs,hroom⟩:=ha Xr;cases hz0:ea P e with
       |none=>rw[hz0]at hz;cases hz
       |some z0=>
        rw[hz0]at hz;obtain⟨z',h1,h2⟩:=ew (P:=P) (w:=w) (σ:=σ) (T:=aH σ H) hz0;have hr:=h2.cells hz;obtain⟨l,hl1,hl2,hl3,hl4⟩:=Flat.zeros (zs:=z'.cells) hr q2 q3 k k (VL _);rw[Wx Xr]at hl3;have hlz:(Builtin.zeroCells z'.cells k).toList=l:=by
         have hzs:z'.cells.size=n:=by rw[←V6,←hr.1,q2]
         have:Builtin.zeroCells z'.cells k=l.toArray:=by rw[←hl1,←hzs];rfl
         rw[this]
        subst q1;have hfl:Flat w σ (aH σ H) (List.replicate k z) y.size l:=hl3;have hones:∀u∈l,u.oneCell'=true:=λu hu'=>by obtain⟨a,ha1,ha2⟩:=hl4 u hu';exact ha1.one (V0.1 q5 a ha2)
        obtain⟨w',g1,g2,g3⟩:=HT (P:=P) hW hy hsg (hx.sl_ok hsg) hfl (by simpa using q4) hones;simp only[List.length_replicate]at g2 g3;refine⟨.tuple #[],w',σ,?_,.tup [] [] rfl Xu,g2,g3,λc pl hc=>.inl hc⟩;have hk0:k≠0:=by omega
        obtain⟨k',rfl⟩:∃k',k=k'+1:=⟨k-1,Xr⟩;simp[Builtin.clear_,run_underlying hu,h1,hlz,g1]
     ·cases h
    ·cases h
   ·cases h
  ·cases h
 ·cases h
end
end
section
open Go.RowKit
section
variable {P:Program} {F:TypeId→Option (List TypeId)} {w:World} {σ:bb} {H:ac} {b:Nat}
theorem FL(hW:aW w σ H)(hb:σ b=none)(hlt:b<H.next){x:Blk}{o:Obj}{k:Nat}(ho:∀cs e,o≠.cells cs e (0,0))(hh:vO (World.push w o) x ⟨w.heap.size,k,0⟩)(hk:0<k){s:Sem Value}{v:AV}{v':Value}
  (hs:s.run P w=.ok v' (World.push w o)) (hv:∀w2 T,aT w2 (σ.set b ⟨w.heap.size,k,0⟩) T v v'):Fd P s w σ H b v (H.new b x):=by
 have hnone:H.get b=none:=by
  cases hg:H.get b with
  |none=>rfl
  |some y=>obtain⟨pl,_,_,h1,_⟩:=hW.live b y hg;rw[hb]at h1;cases h1
 have hold:∀c,c<w.heap.size→(World.push w o).heap[c]? =w.heap[c]? :=λc hc=>by show(w.heap.push _)[c]? =_;rw[Array.getElem?_push,if_neg (Nat.ne_of_lt hc)]
 have hnok:¬cl.ok ⟨w.heap.size,k,0⟩:=by rintro(h|h)<;>simp only[]at h<;>omega
 have ext:el w σ (aH σ H) (World.push w o) (σ.set b ⟨w.heap.size,k,0⟩) (aH (σ.set b ⟨w.heap.size,k,0⟩) (H.new b x)):=by
  refine⟨rfl,rfl,rfl,by simp[World.push],λc hc _=>hold c hc,λc cs' e' hc=>⟨cs',?_,rfl⟩,λc q hq=>bb.set_old hb hq,rfl,λc hc=>hold c (hW.apart c hc).1,?_⟩
  ·rcases VO c w.heap.size with hlt|hge
   ·rw[hold c hlt];exact hc
   ·rw[Array.getElem?_eq_none hge]at hc;cases hc
  ·rintro c (hfr|⟨b',y,pl,h1,h2,h3⟩)
   ·exact .inl (.inl hfr)
   rw[ac.get_new]at h1;by_cases hbb:b=b'
   ·subst hbb;rw[bb.set_eq]at h2;cases h2;exact .inr (by simp only[]at h3;omega)
   ·rw[if_neg hbb]at h1;rw[bb.set_ne _ _ hbb]at h2;exact .inl (.inr ⟨b',y,pl,h1,h2,h3⟩)
 refine⟨v',_,_,hs,hv _ _,⟨?_,?_,?_,λc hc=>?_,?_,hW.glob.mono ext⟩,ext,λc pl hc=>?_⟩
 ·intro c pl hc;by_cases hbc:b=c
  ·subst hbc;exact hlt
  ·rw[bb.set_ne _ _ hbc]at hc;exact hW.named c pl hc
 ·intro c pl hc;by_cases hbc:b=c
  ·subst hbc;rw[bb.set_eq]at hc;cases hc;simp[World.push]
  ·rw[bb.set_ne _ _ hbc]at hc;have:=hW.lt c pl hc;simp[World.push];omega
 ·intro c y hy;rw[ac.get_new]at hy;by_cases hbc:b=c
  ·subst hbc;rw[if_pos rfl]at hy;cases hy;exact⟨_,#[],0,bb.set_eq _ _ _,λhp=>absurd hp hnok,λ_=>hh⟩
  ·rw[if_neg hbc]at hy;obtain⟨pl,cs',e',h1,h2⟩:=hW.live c y hy;exact⟨pl,cs',e',by rw[bb.set_ne _ _ hbc];exact h1,h2.mono ext (hold _ (hW.lt c pl h1))⟩
 ·have hlt':=(hW.apart c hc).1;refine⟨by simp[World.push];omega,?_⟩;rintro⟨b',y,pl,h1,h2,h3⟩;rw[ac.get_new]at h1;by_cases hbb:b=b'
  ·subst hbb;rw[bb.set_eq]at h2;cases h2;simp only[]at h3;omega
  ·rw[if_neg hbb]at h1;rw[bb.set_ne _ _ hbb]at h2;exact(hW.apart c hc).2 ⟨b',y,pl,h1,h2,h3⟩
 ·intro c c' y y' pl pl' h1 h2 h3 h4 h5;rw[ac.get_new]at h1 h2;by_cases hbc:b=c
  ·by_cases hbc':b=c'
   ·exact hbc.symm.trans hbc'
   ·subst hbc;rw[bb.set_eq]at h3;cases h3;rw[bb.set_ne _ _ hbc']at h4;have:=hW.lt c' pl' h4;simp only[]at h5;omega
  ·by_cases hbc':b=c'
   ·subst hbc';rw[bb.set_eq]at h4;cases h4;rw[bb.set_ne _ _ hbc]at h3;have:=hW.lt c pl h3;simp only[]at h5;omega
   ·rw[if_neg hbc]at h1;rw[if_neg hbc']at h2;rw[bb.set_ne _ _ hbc]at h3;rw[bb.set_ne _ _ hbc']at h4;exact hW.inj c c' y y' pl pl' h1 h2 h3 h4 h5
 ·by_cases hbc:b=c
  ·exact .inr hbc.symm
  ·rw[bb.set_ne _ _ hbc]at hc;exact .inl hc
theorem Ro(hW:aW w σ H){c:Nat}{x x':Blk}{pl:cl}(hg:H.get c=some x)(hs:σ c=some pl){o o':Obj}(hold:w.heap[pl.block]? =some o)(ho:∀cs e,o≠.cells cs e (0,0))(hn:¬pl.ok)
  (hh:vO {w with heap:=w.heap.setIfInBounds pl.block o'} x' pl) :
  aW {w with heap:=w.heap.setIfInBounds pl.block o'} σ (H.put c (some x'))∧el w σ (aH σ H) {w with heap:=w.heap.setIfInBounds pl.block o'} σ (aH σ (H.put c (some x'))):=by
 have rest:∀d,d≠pl.block→(w.heap.setIfInBounds pl.block o')[d]? =w.heap[d]? :=(MapKept.heap_set hold).2;have htok:E9 σ (H.put c (some x'))=E9 σ H:=by
  funext d;apply propext;constructor
  ·rintro⟨b',y,q,h1,h2,h3⟩;rw[ac.get_put]at h1;by_cases hbb:c=b'
   ·subst hbb;exact⟨c,x,q,hg,h2,h3⟩
   ·rw[if_neg hbb]at h1;exact⟨b',y,q,h1,h2,h3⟩
  ·rintro⟨b',y,q,h1,h2,h3⟩;by_cases hbb:c=b'
   ·subst hbb;exact⟨c,x',q,by rw[ac.get_put,if_pos rfl],h2,h3⟩
   ·exact⟨b',y,q,by rw[ac.get_put,if_neg hbb];exact h1,h2,h3⟩
 have hown:aH σ (H.put c (some x'))=aH σ H:=by funext d;simp[aH,htok]
 have hT:E9 σ H pl.block:=⟨c,x,pl,hg,hs,rfl⟩;have ext:el w σ (aH σ H) {w with heap:=w.heap.setIfInBounds pl.block o'} σ (aH σ (H.put c (some x'))):=by rw[hown];refine⟨rfl,rfl,rfl,Xu,λd _ hd=>rest d (by rintro rfl;exact hd (.inr hT)),λd ds e hd=>⟨ds,?_,rfl⟩,λ_ _ h=>h,rfl,λd hd=>rest d (by rintro rfl;exact(hW.apart _ hd).2 hT),λ_ h=>.inl h⟩;rw[rest d (by rintro rfl;rw[hold]at hd;cases hd;exact ho _ _ rfl)];exact hd
 refine⟨⟨hW.named,λd q hd=>by simpa using hW.lt d q hd,?_,λd hd=>by rw[htok];simpa using hW.apart d hd,?_,hW.glob.mono ext⟩,ext⟩
 ·intro d y hy;rw[ac.get_put]at hy;by_cases hbc:c=d
  ·subst hbc;rw[if_pos rfl]at hy;cases hy;exact⟨pl,#[],0,hs,λhp=>absurd hp hn,λ_=>hh⟩
  ·rw[if_neg hbc]at hy;obtain⟨q,ds,e',h1,h2⟩:=hW.live d y hy;exact⟨q,ds,e',h1,h2.mono ext (rest _ λhe=>hbc (hW.inj c d x y pl q hg hy hs h1 he.symm))⟩
 ·intro d d' y y' q q' h1 h2;have aux:∀d y,(H.put c (some x')).get d=some y→∃z,H.get d=some z:=λd y hy=>by
   rw[ac.get_put]at hy;by_cases hbc:c=d
   ·subst hbc;exact⟨x,hg⟩
   ·rw[if_neg hbc]at hy;exact⟨y,hy⟩
  obtain⟨z,hz⟩:=aux d y h1;obtain⟨z',hz'⟩:=aux d' y' h2;exact hW.inj d d' z z' q q' hz hz'
theorem aT.mp_inv{T:Nat→Prop}{c:Nat}{v:Value}(hW:aW w σ H)(h:aT w σ T (.mp c) v){x:Blk}(hx:H.get c=some x):
  ∃pl es clk,v=.map (some pl.block)∧σ c=some pl∧pl.base=1∧pl.size=0∧x.size=0∧¬pl.ok∧w.heap[pl.block]? =some (.map es clk)∧es.toList.map HJ=x.rows.map some:=by
 cases h with
 |mp _ pl hs h1 h2=>
 obtain⟨pl',cs,e,g1,g2⟩:=hW.live c x hx;rw[hs]at g1;cases g1;have hn:¬pl.ok:=by rintro(h|h)<;>omega
 have hh:=g2.2 hn;rcases hh.obj with⟨_,es,clk,k1,k2⟩|⟨k0,_⟩
 ·exact⟨pl,es,clk,rfl,hs,h2,h1,hh.size,hn,k1,k2⟩
 ·omega
theorem aT.it_inv{T:Nat→Prop}{c:Nat}{v:Value}(hW:aW w σ H)(h:aT w σ T (.it c) v){x:Blk}(hx:H.get c=some x):
  ∃(pl:cl) (s:ByteArray) (pos:Nat),v=.pointer (some ⟨pl.block,0,none⟩)∧σ c=some pl∧pl.base=2∧pl.size=0∧x.size=0∧¬pl.ok∧w.heap[pl.block]? =some (.stringIter s pos)∧x.rows=[[.str s.data.toList,.int .i64 pos]]:=by
 cases h with
 |it _ pl hs h1 h2=>
 obtain⟨pl',cs,e,g1,g2⟩:=hW.live c x hx;rw[hs]at g1;cases g1;have hn:¬pl.ok:=by rintro(h|h)<;>omega
 have hh:=g2.2 hn;rcases hh.obj with⟨k0,_⟩|⟨_,s,pos,k1,k2⟩
 ·omega
 ·exact⟨pl,s,pos,rfl,hs,h2,h1,hh.size,hn,k1,k2⟩
theorem Pq{v:Value}{s:List UInt8}(h:HI v=some (.str s)):∃ba:ByteArray,v=.string ba∧ba.data.toList=s:=by cases v<;>simp[HI]at h;exact⟨_,rfl,h⟩
theorem KR{T:Nat→Prop}{v:Value}{a:AV}(h:HI v=some a):aT w σ T a v:=by
 cases v<;>simp only[HI,VU,reduceCtorEq]at h<;>subst h
 ·exact .bool _
 ·exact .int _ _
 ·exact .str _
theorem LQ{T:Nat→Prop}{v:Value}{a:AV}(h:aT w σ T a v)(hk:a.konst=true):HI v=some a:=by cases h<;>first|rfl|(simp[AV.konst]at hk)
theorem Gs{T:Nat→Prop}{v:Value}{s:List UInt8}(h:aT w σ T (.str s) v):∃ba:ByteArray,v=.string ba∧ba.data.toList=s:=by
 cases h with
 |str ba=>exact⟨ba,rfl,rfl⟩
theorem mt{ba:ByteArray}:∀(l:List MapEntry) (rows:List (List AV)) (i:Nat),l.map HJ=rows.map some→rows.all vN=true→
  (Instr.findNow .string (.string ba) l i=some none∧gv ba.data.toList rows i=none) ∨
  ∃j e v,Instr.findNow .string (.string ba) l i=some (some (i+j,e.val))∧gv ba.data.toList rows i=some (i+j,v)∧l[j]? =some e∧HI e.val=some v∧e.key=.string ba
 |[],[],i,_,_=>.inl ⟨rfl,rfl⟩
 |[],r::rows,i,h,_=>by simp at h
 |e::l,[],i,h,_=>by simp at h
 | e::l,r::rows,i,h,hk=>by
  simp only[VM,List.cons.injEq]at h;simp only[List.all_cons,V5]at hk;have h1:=h.1;unfold HJ at h1;split at h1
  ·rename_i k v hkk hv;cases h1;have h2:=hk.1;unfold vN at h2;split at h2
   ·rename_i s v' heq;cases heq;obtain⟨kb,hkb,rfl⟩:=Pq hkk;have hsn:Instr.sameNow .string (.string ba) e.key=some (ba==kb):=by rw[hkb];rfl
    have hbb:(ba.data.toList==kb.data.toList)=(ba==kb):=by
     rw[Bool.eq_iff_iff,MapKept.bytes_beq];constructor
     ·intro hh;have:ba.data.toList=kb.data.toList:=by simpa using hh
      obtain⟨x⟩:=ba;obtain⟨y⟩:=kb;simp only[]at this;congr 1;exact Array.toList_inj.1 this
     ·rintro rfl;simp
    cases hr:(ba==kb)with
    |true=>have he:ba=kb:=(MapKept.bytes_beq _ _).1 hr;rw[hr]at hsn hbb;exact .inr ⟨0,e,v,by simp[Instr.findNow,hsn],by simp[gv,hbb],rfl,hv,by rw[hkb,he]⟩
    |false=>
     rw[hr]at hsn hbb;rcases mt (ba:=ba) l rows (i+1) h.2 hk.2 with⟨g1,g2⟩|⟨j,e',v',g1,g2,g3,g4,g5⟩
     ·exact .inl ⟨by simp[Instr.findNow,hsn,g1],by simp[gv,hbb,g2]⟩
     ·exact .inr ⟨j+1,e',v',by simp[Instr.findNow,hsn,g1];omega,by simp[gv,hbb,g2];omega,by simpa using g3,g4,g5⟩
   ·cases h2
  ·cases h1
theorem Vh{T:Nat→Prop}{a:AV}{x:Value}(h:aT w σ T a x):aT w σ T (.tup [a]) (.tuple #[x]):=.tup [a] [x] rfl λi a' x' h1 h2=>by
 match i with
 |0=>cases h1;cases h2;exact h
 |i+1=>simp at h1
theorem Tp{T:Nat→Prop}{a b:AV}{x y:Value}(h:aT w σ T a x)(h':aT w σ T b y):aT w σ T (.tup [a,b]) (.tuple #[x,y]):=.tup [a,b] [x,y] rfl λi a' x' h1 h2=>by
 match i with
 |0=>cases h1;cases h2;exact h
 |1=>cases h1;cases h2;exact h'
 |i+2=>simp at h1
theorem Vi{T:Nat→Prop}{a b c:AV}{x y z:Value}(h:aT w σ T a x)(h':aT w σ T b y)(h3:aT w σ T c z):aT w σ T (.tup [a,b,c]) (.tuple #[x,y,z]):=.tup [a,b,c] [x,y,z] rfl λi a' x' h1 h2=>by
 match i with
 |0=>cases h1;cases h2;exact h
 |1=>cases h1;cases h2;exact h'
 |2=>cases h1;cases h2;exact h3
 |i+3=>simp at h1
theorem KT{e:MapEntry}{k v:AV}(h1:HI e.key=some k)(h2:HI e.val=some v):HJ e=some [k,v]:=by unfold HJ;rw[h1,h2]
theorem mu{t:TypeId}{m k v:AV}{H':ac}(h:eJ P H t m k v=some H'):∃c x x',m=.mp c∧H.get c=some x∧H'=H.put c (some x')∧∀K:ac,K.get c=some x→eJ P K t m k v=some (K.put c (some x')):=by
 unfold eJ at h;split at h
 ·rename_i kt et c s hu;split at h
  ·rename_i x hku hx;split at h
   ·rename_i hc;cases h;exact⟨c,x,_,rfl,hx,rfl,λK hK=>by simp only[eJ,hu,hku,hK];rw[if_pos hc]⟩
   ·cases h
  ·cases h
 ·cases h
theorem vR{it v:AV}{H':ac}(h:iz H it=some (v,H')):∃c x,it=.it c∧H.get c=some x∧((H'=H∧∀K:ac,K.get c=some x→iz K it=some (v,K))∨∃x',H'=H.put c (some x')∧∀K:ac,K.get c=some x→iz K it=some (v,K.put c (some x'))):=by
 unfold iz at h;split at h
 ·rename_i c;split at h
  ·rename_i x hx;split at h
   ·rename_i s k pos hr;split at h
    ·rename_i hp;cases h;exact⟨c,x,rfl,hx,.inr ⟨_,rfl,λK hK=>by simp only[iz,hK,hr];rw[if_pos hp]⟩⟩
    ·rename_i hp;cases h;exact⟨c,x,rfl,hx,.inl ⟨rfl,λK hK=>by simp only[iz,hK,hr];rw[if_neg hp]⟩⟩
   ·cases h
  ·cases h
 ·cases h
theorem CS{t:TypeId}{m k v:AV}{ok:Bool}(h:j0 P H t m k ok=some v):∃c x,m=.mp c∧H.get c=some x∧∀K:ac,K.get c=some x→j0 P K t m k ok=some v:=by
 unfold j0 at h;split at h
 ·rename_i kt et c s hu;split at h
  ·rename_i z x hku hz hx;split at h
   ·rename_i hkeys;exact⟨c,x,rfl,hx,λK hK=>by simp only[j0,hu,hku,hz,hK];rw[if_pos hkeys];exact h⟩
   ·cases h
  ·cases h
 ·cases h
theorem Gt(hW:aW w σ H){t:TypeId}{m k v:AV}{m' k':Value}{ok:Bool}(hm:aT w σ (aH σ H) m m')(hk:aT w σ (aH σ H) k k')(h:j0 P H t m k ok=some v):
  ∃v',(Instr.lookup t m' k' ok).run P w=.ok v' w∧aT w σ (aH σ H) v v':=by
 unfold j0 at h;split at h
 ·rename_i kt et c s hu;split at h
  ·rename_i z x hku hz hx;split at h
   ·rename_i hkeys;cases h;obtain⟨pl,es,clk,rfl,hs,_,_,_,_,hb,hrows⟩:=hm.mp_inv hW hx;obtain⟨ba,rfl,rfl⟩:=Gs hk;obtain⟨z',hz1,hz2⟩:=ew (P:=P) (w:=w) (σ:=σ) (T:=aH σ H) hz;have hck:=λe=>MapKept.run_checkKey (P:=P) (w:=w) (k:=.string ba) hku trivial e 9999
    rcases mt es.toList x.rows 0 hrows hkeys with⟨g1,g2⟩|⟨j,e,v,g1,g2,g3,g4,g5⟩
    ·rw[g2];refine⟨if ok then .tuple #[z',.bool false]else z',?_,?_⟩
     ·simp only[Instr.lookup,Wh,run_underlying hu,VX,MapKept.run_getObj_map hb,Wu,hck,MapKept.run_findKey hku g1,hz1]
     ·cases ok
      ·exact hz2
      ·exact Tp hz2 (.bool false)
    ·rw[g2];refine⟨if ok then .tuple #[e.val,.bool true]else e.val,?_,?_⟩
     ·simp only[Instr.lookup,Wh,run_underlying hu,VX,MapKept.run_getObj_map hb,Wu,hck,MapKept.run_findKey hku g1]
     ·cases ok
      ·exact KR g4
      ·exact Tp (KR g4) (.bool true)
   ·cases h
  ·cases h
 ·cases h
theorem HU(hW:aW w σ H){t:TypeId}{m k v:AV}{m' k' v':Value}(hm:aT w σ (aH σ H) m m')(hk:aT w σ (aH σ H) k k')(hv:aT w σ (aH σ H) v v'){H':ac}(h:eJ P H t m k v=some H'):
  ∃w',(Instr.mapUpdate t m' k' v').run P w=.ok () w'∧aW w' σ H'∧el w σ (aH σ H) w' σ (aH σ H'):=by
 unfold eJ at h;split at h
 ·rename_i kt et c s hu;split at h
  ·rename_i x hku hx;split at h
   ·rename_i hc;cases h;obtain⟨hkeys,hkon⟩:=hc;obtain⟨pl,es,clk,rfl,hs,hb1,hps,hxs,hn,hb,hrows⟩:=hm.mp_inv hW hx;obtain⟨ba,rfl,rfl⟩:=Gs hk;have hkv:=LQ hv hkon;have hck:=λe=>MapKept.run_checkKey (P:=P) (w:=w) (k:=.string ba) hku trivial e 9999
    rcases mt es.toList x.rows 0 hrows hkeys with⟨g1,g2⟩|⟨j,e,v0,g1,g2,g3,g4,g5⟩
    ·rw[g2];refine⟨_,by simp[Instr.mapUpdate,run_underlying hu,MapKept.run_getObj_map hb,hck,MapKept.run_findKey hku g1,MapKept.run_setObj_map _ hb,Result.andThen];rfl,Ro hW hx hs hb (by intros;simp) hn ⟨hxs,hps,.inl ⟨hb1,_,_,(MapKept.heap_set hb).1,?_⟩⟩⟩;simp only[Array.toList_push,VQ,VM,Wv,hrows];rw[KT (k:=.str ba.data.toList) (v:=v) rfl hkv]
    ·have hj:es[j]? =some e:=by simpa using g3
     simp only[WG]at g1 g2;rw[g2];refine⟨_,by simp[Instr.mapUpdate,run_underlying hu,MapKept.run_getObj_map hb,hck,MapKept.run_findKey hku g1,hj,g5,MapKept.run_keyThatStays (d:=.string) (k:=.string ba) trivial,MapKept.run_setObj_map _ hb,Result.andThen];rfl,Ro hW hx hs hb (by intros;simp) hn ⟨hxs,hps,.inl ⟨hb1,_,_,(MapKept.heap_set hb).1,?_⟩⟩⟩;simp only[Array.toList_modify];refine WU λi=>?_
     have hi:=congrArg (λl=>l[i]?) hrows;simp only[VZ]at hi;rw[VZ,VZ,List.getElem?_modify,Wn];by_cases hij:j=i
     ·subst hij;have hl:j<x.rows.length:=by have:=(Wt.1 g3).1;have h2:=congrArg List.length hrows;simp at h2 this;omega
      rw[if_pos rfl,if_pos hl,g3];simp only[Wb,Option.map_eq_map];rw[KT (k:=.str ba.data.toList) (v:=v) rfl hkv]
     ·simp only[if_neg hij];rw[show((λa=>a) <$> es.toList[i]?)=es.toList[i]? from by cases es.toList[i]?<;>rfl];exact hi
   ·cases h
  ·cases h
 ·cases h
theorem LR(hW:aW w σ H){it v:AV}{it':Value}(ty:TypeId)(hi:aT w σ (aH σ H) it it'){H':ac}(h:iz H it=some (v,H')):
  ∃v' w',(Instr.next it' true ty).run P w=.ok v' w'∧aT w' σ (aH σ H') v v'∧aW w' σ H'∧el w σ (aH σ H) w' σ (aH σ H'):=by
 unfold iz at h;split at h
 ·rename_i c;split at h
  ·rename_i x hx;obtain⟨pl,s,pos,rfl,hs,hb2,hps,hxs,hn,hb,hrows⟩:=hi.it_inv hW hx;rw[hrows]at h;simp only[]at h;have hlen:s.data.toList.length=s.size:=V6;have hsz:(⟨s.data.toList.toArray⟩:ByteArray)=s:=by obtain⟨d⟩:=s;simp
   split at h
   ·rename_i hp;cases h;have hp':pos<s.size:=by omega
    rw[hsz,WP];refine⟨_,_,Lib.run_next_any_at w pl.block s pos ty hb hp',Vi (.bool true) (.int _ _) (.int _ _),Ro hW hx hs hb (by intros;simp) hn ⟨hxs,hps,.inr ⟨hb2,s,_,(MapKept.heap_set hb).1,rfl⟩⟩⟩
   ·rename_i hp;cases h;exact⟨_,w,Lib.run_next_end_at w pl.block s pos ty hb Xr,Vh (.bool false),hW,el.refl _ _ _⟩
  ·cases h
 ·cases h
end
end
section
section
variable {P:Program} {F:TypeId→Option (List TypeId)} {w:World} {σ:bb} {H:ac} {b:Nat}
def bG(P:Program)(s:Sem Next)(w:World)(σ:bb)(H:ac)(b:Nat)(v:AV)(H':ac):Prop:=
 ∃v' w' σ',(s.run P w=.ok (.value v') w'∨(s.run P w=.ok .skip w'∧v'=undef))∧aT w' σ' (aH σ' H') v v'∧aW w' σ' H'∧el w σ (aH σ H) w' σ' (aH σ' H')∧∀c pl,σ' c=some pl→σ c=some pl∨c=b
theorem bG.of_done{s:Sem Value}{v:AV}{H':ac}(h:Fd P s w σ H b v H'):bG P (do pure (.value (←s))) w σ H b v H':=by obtain⟨v',w',σ',h1,h2⟩:=h;exact⟨v',w',σ',.inl (by simp[h1]),h2⟩
theorem bG.of_val{s:Sem Value}{v:AV}(hW:aW w σ H)(h:∃v',s.run P w=.ok v' w∧aT w σ (aH σ H) v v'):bG P (do pure (.value (←s))) w σ H b v H:=by obtain⟨v',h1,h2⟩:=h;exact⟨v',w,σ,.inl (by simp[h1]),h2,hW,el.refl _ _ _,λc pl hc=>.inl hc⟩
theorem bG.pure{s:Sem Next}{v:AV}{v':Value}(hW:aW w σ H)(h:s.run P w=.ok (.value v') w)(hr:aT w σ (aH σ H) v v'):bG P s w σ H b v H:=
 ⟨v',w,σ,.inl h,hr,hW,el.refl _ _ _,λc pl hc=>.inl hc⟩
theorem fh{r:Option AV}{v:AV}{H H':ac}(h:(r.map λx=>fD.val x H)=some (.val v H')):r=some v∧H'=H:=by
 cases r with
 |none=>cases h
 |some x=>simp only[Wb,VU,fD.val.injEq]at h;exact⟨by rw[h.1],h.2.symm⟩
theorem Rp{ρ:Operand→AV}{ρ':Operand→Value}(hρ:∀x,aT w σ (aH σ H) (ρ x) (ρ' x))(x:Option Operand):JH w σ (aH σ H) (x.map ρ) (x.map ρ'):=by
 cases x with
 |none=>trivial
 |some a=>exact hρ a
theorem qf{α β:Type}{f:α→β}{l:List α}{x:β}(h:l.map f=[x]):∃a,l=[a]∧f a=x:=by
 match l,h with
 |[a],h=>exact⟨a,rfl,by simpa using h⟩
 |[],h=>simp at h
 |_::_::_,h=>simp at h
theorem qg{α β:Type}{f:α→β}{l:List α}{x y:β}(h:l.map f=[x,y]):∃a b,l=[a,b]∧f a=x∧f b=y:=by
 match l,h with
 |[a,b],h=>exact⟨a,b,rfl,by simpa using h⟩
 |[],h=>simp at h
 |[_],h=>simp at h
 |_::_::_::_,h=>simp at h
theorem Fe(hW:aW w σ H)(hb:σ b=none)(hlt:b<H.next){ρ:Operand→AV}{ρ':Operand→Value}(hρ:∀x,aT w σ (aH σ H) (ρ x) (ρ' x)){op:Builtin}{args:List Operand}{types:List TypeId}{ty:TypeId}{cn:Array Bool}{v:AV}{H':ac}
  (h:aS P H b op types.toArray (args.map ρ)=some (v,H')):bG P (builtin op types.toArray ty cn (args.toArray.map ρ')) w σ H b v H':=by
 unfold aS at h;split at h
 ·rename_i s heq;obtain⟨a0,rfl,h0⟩:=qf heq;split at h
  ·rename_i hty;cases h;have hr:=hρ a0;rw[h0]at hr;generalize he:ρ' a0=x' at hr;cases hr with
   |str ba=>
   have hlen:ba.data.toList.length=ba.size:=V6;cases htt:types[0]? with
   |none=>simp[htt]at hty
   |some t=>
   have hu:P.underlying t=some .string:=by simpa[htt]using hty
   refine bG.pure hW (v':=.int .i64 ba.size) ?_ (by rw[hlen];exact .int _ _);simp[builtin,Builtin.len_,htt,he,run_underlying hu,goInt]
  ·cases h
 ·rename_i x hne heq;obtain⟨a0,rfl,h0⟩:=qf heq;have hr:=hρ a0;rw[h0]at hr;cases htt:types[0]? with
  |none=>simp[htt]at h
  |some t=>
   simp only[List.getElem?_toArray,htt,Wy]at h;split at h
   ·rename_i e hu;cases hl:JF x with
    |none=>rw[hl]at h;cases h
    |some n=>
     rw[hl]at h;cases h;have hv:∃A c,ρ' a0=.slice A n c:=by
      unfold JF at hl;split at hl
      ·cases hl;generalize ρ' a0=y at hr;cases hr;exact⟨_,_,rfl⟩
      ·cases hl;generalize ρ' a0=y at hr;cases hr;exact⟨_,_,rfl⟩
      ·cases hl;obtain⟨A,c,h1,_⟩:=hr.lst_inv;exact⟨A,c,h1⟩
      ·cases hl;obtain⟨_,a,c,h1,_⟩:=hr.sl_inv;exact⟨_,c,h1⟩
      ·cases hl
     obtain⟨A,c,hv⟩:=hv;refine bG.pure hW (v':=.int .i64 n) ?_ (.int _ _);simp[builtin,Builtin.len_,htt,hv,run_underlying hu,goInt]
   ·rename_i n e hu;cases h;refine bG.pure hW (v':=.int .i64 n) ?_ (.int _ _);simp[builtin,Builtin.len_,htt,run_underlying hu,goInt]
   ·cases h
 ·rename_i s x heq;obtain⟨a0,a1,rfl,h0,h1⟩:=qg heq;split at h
  ·rename_i t tx htt;split at h
   ·rename_i e' hu;simp only[]at htt;subst htt;have hs:=hρ a0;have hx:=hρ a1;rw[h0]at hs;rw[h1]at hx;have:=bG.of_done (HS (ty:=ty) hW hb hlt hx hs hu h);simpa[builtin]using this
   ·cases h
  ·cases h
 ·rename_i k a k' c heq;obtain⟨a0,a1,rfl,h0,h1⟩:=qg heq;split at h
  ·rename_i hk;subst hk;cases h;have hs:=hρ a0;have hx:=hρ a1;rw[h0]at hs;rw[h1]at hx;generalize e0:ρ' a0=y0 at hs;generalize e1:ρ' a1=y1 at hx;cases hs;cases hx;exact bG.pure hW (v':=.int k (if c<a then c else a)) (by simp[builtin,Builtin.min_,Builtin.min2,e0,e1]) (.int _ _)
  ·cases h
 ·rename_i k a k' c heq;obtain⟨a0,a1,rfl,h0,h1⟩:=qg heq;split at h
  ·rename_i hk;subst hk;cases h;have hs:=hρ a0;have hx:=hρ a1;rw[h0]at hs;rw[h1]at hx;generalize e0:ρ' a0=y0 at hs;generalize e1:ρ' a1=y1 at hx;cases hs;cases hx;exact bG.pure hW (v':=.int k (if c > a then c else a)) (by simp[builtin,Builtin.max_,Builtin.max2,e0,e1]) (.int _ _)
  ·cases h
 ·rename_i x heq;obtain⟨a0,rfl,h0⟩:=qf heq;split at h
  ·rename_i t htt;simp only[]at htt;subst htt;cases hc:eT P H t x with
   |none=>rw[hc]at h;cases h
   |some K=>rw[hc]at h;cases h;have hx:=hρ a0;rw[h0]at hx;have:=bG.of_done (JM (ty:=ty) (b:=b) hW hx hc);simpa[builtin]using this
  ·cases h
 ·cases h
theorem FM(fit:Fit P F)(hW:aW w σ H)(hb:σ b=none)(hlt:b<H.next){o:Oper}{ρ:Operand→AV}{ρ':Operand→Value}(hρ:∀x,aT w σ (aH σ H) (ρ x) (ρ' x)){v:AV}{H':ac}
  (h:aK P F o.op ρ b H=some (.val v H')):bG P (execOp ρ' o) w σ H b v H':=by
 obtain⟨dst,op,ty,pos,after,guard⟩:=o;simp only[]at h;cases op with
 |move x=>simp only[aK,VU,fD.val.injEq]at h;obtain⟨rfl,rfl⟩:=h;exact bG.pure hW rfl (hρ x)
 |assign x=>simp only[aK,VU,fD.val.injEq]at h;obtain⟨rfl,rfl⟩:=h;exact bG.pure hW rfl (hρ x)
 |pick c x y=>
  simp only[aK]at h;split at h
  ·rename_i t hc;simp only[VU,fD.val.injEq]at h;obtain⟨rfl,rfl⟩:=h;have:=hρ c;rw[hc]at this;generalize hc':ρ' c=c' at this;cases this;refine bG.pure hW (v':=if t then ρ' x else ρ' y) (by simp[execOp,hc',asBool]) ?_;cases t
   ·exact hρ y
   ·exact hρ x
  ·cases h
 |alloc t=>
  simp only[aK]at h;split at h
  ·rename_i cs hcs;simp only[VU,fD.val.injEq]at h;obtain⟨rfl,rfl⟩:=h;exact bG.of_done (JI hW hb hlt hcs)
  ·cases h
 |box t x=>
  simp only[aK]at h;split at h
  ·rename_i cs hcs;split at h
   ·simp only[VU,fD.val.injEq]at h;obtain⟨rfl,rfl⟩:=h;exact bG.of_done (HR hW hb hlt (hρ x) hcs)
   ·cases h
  ·cases h
 |build t parts=>simp only[aK]at h;obtain⟨h1,rfl⟩:=fh h;exact bG.of_val hW (HQ hρ h1)
 |buildSlice t len parts=>
  simp only[aK]at h;split at h
  ·rename_i e hu;split at h
   ·rename_i n z hn hz;split at h
    ·rename_i hc;obtain⟨c1,c2,c3⟩:=hc;cases hf:dQ n (List.replicate len z) (parts.toList.map λp=>(p.1,ρ p.2))with
     |none=>rw[hf]at h;cases h
     |some rows=>rw[hf]at h;simp only[Wb,VU,fD.val.injEq]at h;obtain⟨rfl,rfl⟩:=h;exact bG.of_done (Bo hW hb hlt hρ hu hn hz c1 c2 c3 hf)
    ·cases h
   ·cases h
  ·cases h
 |load t a=>simp only[aK]at h;obtain⟨h1,rfl⟩:=fh h;exact bG.of_val hW (CO hW (hρ a) h1)
 |store t a x=>
  simp only[aK]at h;cases hs:fN P H t (ρ a) (ρ x)with
  |none=>rw[hs]at h;cases h
  |some K=>rw[hs]at h;simp only[Wb,VU,fD.val.injEq]at h;obtain⟨rfl,rfl⟩:=h;obtain⟨w',h1,h2,h3⟩:=JK hW (hρ a) (hρ x) hs;exact⟨undef,w',σ,.inr ⟨by simp[execOp,h1],rfl⟩,.tup [] [] rfl Xu,h2,h3,λc pl hc=>.inl hc⟩
 |nilCheck x=>simp only[aK]at h;have hx:=hρ x;split at h<;>(try (cases h;done))<;>(rename_i heq;simp only[VU,fD.val.injEq]at h;obtain⟨rfl,rfl⟩:=h;rw[heq]at hx;generalize he:ρ' x=x' at hx;have hx2:=hx;cases hx2;exact bG.pure hW (by simp only[execOp,he];rfl) hx)
 |binOp op t x y yt=>simp only[aK]at h;obtain⟨h1,rfl⟩:=fh h;exact bG.of_val hW (LP fit.flat (hρ x) (hρ y) h1)
 |unOp op t x=>simp only[aK]at h;obtain⟨h1,rfl⟩:=fh h;exact bG.of_val hW (M1 (hρ x) h1)
 |convert s d x=>simp only[aK]at h;obtain⟨h1,rfl⟩:=fh h;exact bG.of_val hW (JG (hρ x) h1)
 |makeFunc fn first cap=>
  cases fn with
  |func f=>
   simp only[aK]at h;split at h
   ·rename_i hf;simp only[VU,fD.val.injEq]at h;obtain⟨rfl,rfl⟩:=h;have e:first=#[]:=Array.eq_empty_of_size_eq_zero hf
    subst e;refine bG.pure hW (v':=.func (.func f) #[] (cap.toList.map ρ').toArray) (by simp[execOp,Instr.makeFunc];apply Array.ext';simp) (.fn f _ _ Xu λi a v h1 h2=>?_);rw[VZ]at h1 h2;cases hc:cap.toList[i]? with
    |none=>rw[hc]at h1;cases h1
    |some q=>rw[hc]at h1 h2;cases h1;cases h2;exact hρ q
   ·cases h
  |_=>simp[aK]at h
 |makeSlice t l c=>
  simp only[aK]at h;split at h
  ·rename_i e hu;split at h
   ·rename_i n by_ z l' c' hn hby hz hl hc;split at h
    ·rename_i hcond;obtain⟨c1,c2,c3,c4,c5⟩:=hcond;simp only[VU,fD.val.injEq]at h;obtain⟨rfl,rfl⟩:=h;exact bG.of_done (CQ hW hb hlt (hρ l) (hρ c) hu hn hby hz hl hc c1 c2 c3 c4 c5)
    ·cases h
   ·cases h
  ·cases h
 |slice t x lo hi mx=>
  simp only[aK]at h;split at h
  ·cases h
  ·rename_i hcond;obtain⟨h1,rfl⟩:=fh h;refine bG.of_val hW (HP hW (hρ x) (Rp hρ lo) (Rp hρ hi) (Rp hρ mx) (λhh=>?_) h1);cases hi with
   | none=>cases mx with
    |none=>rfl
    |some m=>simp at hcond
   |some q=>simp at hh
 |fieldAddr s x f=>simp only[aK]at h;obtain⟨h1,rfl⟩:=fh h;exact bG.of_val hW (Bm (hρ x) h1)
 |field s x f=>simp only[aK]at h;obtain⟨h1,rfl⟩:=fh h;exact bG.of_val hW (HM (hρ x) h1)
 |indexAddr t x ix=>simp only[aK]at h;obtain⟨h1,rfl⟩:=fh h;exact bG.of_val hW (Bn hW (hρ x) (hρ ix) h1)
 |index t x ix=>simp only[aK]at h;obtain⟨h1,rfl⟩:=fh h;exact bG.of_val hW (HN (hρ x) (hρ ix) h1)
 |extract x i=>
  simp only[aK]at h;split at h
  ·rename_i vs hx;obtain⟨h1,rfl⟩:=fh h;have:=hρ x;rw[hx]at this;generalize he:ρ' x=x' at this;cases this with
   |tup _ us hl hr=>
   have hi:=aA h1;have hi':i<us.length:=by omega
   exact bG.pure hW (v':=us[i]) (by simp[execOp,he,Instr.extract,hi']) (hr i v _ h1 (VK hi'))
  ·cases h
 |makeMap t r=>
  cases r with
  |some r=>simp[aK]at h
  |none=>simp only[aK,VU,fD.val.injEq]at h;obtain⟨rfl,rfl⟩:=h;refine bG.of_done (FL hW hb hlt (k:=1) (o:=.map #[] 0) (by intros;simp) ⟨rfl,rfl,.inl ⟨rfl,#[],0,by show(w.heap.push _)[w.heap.size]? =_;simp,rfl⟩⟩ Xv rfl λw2 T=>.mp b _ (bb.set_eq _ _ _) rfl rfl)
 |lookup t m k ok=>simp only[aK]at h;obtain⟨h1,rfl⟩:=fh h;exact bG.of_val hW (Gt hW (hρ m) (hρ k) h1)
 |mapUpdate t m k x=>
  simp only[aK]at h;cases hs:eJ P H t (ρ m) (ρ k) (ρ x)with
  |none=>rw[hs]at h;cases h
  |some K=>rw[hs]at h;simp only[Wb,VU,fD.val.injEq]at h;obtain⟨rfl,rfl⟩:=h;obtain⟨w',h1,h2,h3⟩:=HU hW (hρ m) (hρ k) (hρ x) hs;exact⟨undef,w',σ,.inr ⟨by simp[execOp,h1],rfl⟩,.tup [] [] rfl Xu,h2,h3,λc pl hc=>.inl hc⟩
 |range t x=>
  simp only[aK]at h;split at h
  ·rename_i s hu hx;simp only[VU,fD.val.injEq]at h;obtain⟨rfl,rfl⟩:=h;have:=hρ x;rw[hx]at this;obtain⟨ba,he,rfl⟩:=Gs this;refine bG.of_done (s:=Instr.range t (ρ' x)) (FL hW hb hlt (k:=2) (o:=.stringIter ba 0) (by intros;simp) ⟨rfl,rfl,.inr ⟨rfl,ba,0,by show(w.heap.push _)[w.heap.size]? =_;simp,rfl⟩⟩ Xv (by rw[he];exact run_range_string w t ba hu) λw2 T=>.it b _ (bb.set_eq _ _ _) rfl rfl)
  ·cases h
 |next it s=>
  cases s with
  |false=>simp[aK]at h
  |true=>
   simp only[aK]at h;cases hs:iz H (ρ it)with
   |none=>rw[hs]at h;cases h
   |some r=>obtain⟨v0,K⟩:=r;rw[hs]at h;simp only[Wb,VU,fD.val.injEq]at h;obtain⟨rfl,rfl⟩:=h;obtain⟨v',w',h1,h2,h3,h4⟩:=LR (P:=P) hW ty (hρ it) hs;exact⟨v',w',σ,.inl (by simp[execOp,h1]),h2,h3,h4,λc pl hc=>.inl hc⟩
 |call c=>
  simp only[aK]at h;obtain⟨callee,args,types⟩:=c;obtain⟨args⟩:=args;obtain⟨types⟩:=types;simp only[]at h;split at h
  ·rename_i bi;cases hbi:aS P H b bi types.toArray (args.map ρ)with
   |none=>rw[hbi]at h;cases h
   |some r=>
    obtain⟨v0,K⟩:=r;rw[hbi]at h;simp only[Wb,VU,fD.val.injEq]at h;obtain⟨rfl,rfl⟩:=h;have key:∀cn,bG P (builtin bi ⟨types⟩ ty cn ((⟨args⟩:Array Operand).map ρ')) w σ H b v0 K:=λcn=>Fe hW hb hlt hρ hbi
    exact key _
  ·rename_i f;split at h<;>simp at h
  ·cases h
 |_=>simp[aK]at h
theorem HV(fit:Fit P F){o:Oper}{ρ:Operand→AV}{ρ':Operand→Value}(hρ:∀x,aT w σ (aH σ H) (ρ x) (ρ' x)){g:FuncId}{args:List AV}{fn:Func}{c:Code}
  (h:aK P F o.op ρ b H=some (.call g args)) (hg:P.funcs[g]? =some fn) (hc:fn.body=some c) :
  ∃vs:List Value,(execOp ρ' o).run P w=.ok (.enter g vs.toArray) w∧eh w σ (aH σ H) args vs:=by
 obtain⟨dst,op,ty,pos,after,guard⟩:=o;simp only[]at h;cases op with
 |call c=>
  simp only[aK]at h;obtain⟨callee,qs,types⟩:=c;obtain⟨qs⟩:=qs;simp only[]at h;split at h
  ·rename_i bi;cases hbi:aS P H b bi types (qs.map ρ)with
   |none=>rw[hbi]at h;cases h
   |some r=>rw[hbi]at h;cases h
  ·rename_i f;split at h
   ·rename_i g' cs hf;simp only[VU,fD.call.injEq]at h;obtain⟨rfl,rfl⟩:=h;have:=hρ f;rw[hf]at this;generalize he:ρ' f=f' at this;cases this with
    |fn _ _ us hl hr=>
    have hnm : ¬ fn.name = "runtime.NumGoroutine" := fit.names _ _ hg
    refine⟨qs.map ρ'++us,?_,by simp[hl],λi a v h1 h2=>?_⟩
    ·simp[execOp,resolve,he,Deferred.ofValue,invoke,callFunc,hg,hnm,hc]
    ·rcases VO i qs.length with hi|hi
     ·rw[V1 (by simpa using hi),VZ]at h1 h2;rw[VK hi]at h1 h2;cases h1;cases h2;exact hρ _
     ·rw[VS (by simpa using hi)]at h1 h2;simp only[WX]at h1 h2;exact hr _ a v h1 h2
   ·cases h
  ·cases h
 |makeFunc fn first cap=>cases fn<;>simp only[aK]at h<;>(try split at h)<;>simp at h
 |makeMap t r=>cases r<;>simp[aK]at h
 |next it s=>cases s<;>simp[aK]at h
 |_=>
  exfalso;simp only[aK]at h
  repeat' (first|(cases h;done)|(simp at h;done)|split at h)
end
end
end Go.Proofs.YtdnpdghlggbklaaGreatDoor.Am
