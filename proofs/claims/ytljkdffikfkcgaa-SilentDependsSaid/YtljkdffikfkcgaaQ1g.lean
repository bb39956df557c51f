/- A part of the proof; the statement is proved in the last part. -/
import Derived.Test.YtljkdffikfkcgaaQ1f
import Derived.WalkSpells
import Derived.Deep.DeepMust
set_option linter.unusedSimpArgs false
set_option linter.unusedVariables false
section
namespace Go.Proofs.Ytljkdffikfkcgaa.Am
set_option linter.unusedVariables false
def ir(b:Bool):Int:=if b then 1 else 0
def BN(op a:Int):Int×Bool:=if op=4 then(IntKind.i64.wrap (0-a),true)else if op=5 then(ir (decide (a=0)),true)else(0,false)
def rS(op a b:Int):Int×Bool:=
 if op=6 then(IntKind.i64.wrap (a+b),true)else
 if op=7 then(IntKind.i64.wrap (a-b),true)else
 if op=8 then(IntKind.i64.wrap (a*b),true)else
 if op=9 then(if b=0 then 0 else IntKind.i64.wrap (a.tdiv b),true)else
 if op=10 then(if b=0 then 0 else a.tmod b,true)else
 if op=11 then(ir (decide (a=b)),true)else
 if op=12 then(ir (decide (a≠b)),true)else
 if op=13 then(ir (decide (a<b)),true)else
 if op=14 then(ir (decide (a≤b)),true)else
 if op=15 then(ir (decide (b<a)),true)else
 if op=16 then(ir (decide (b≤a)),true)else
 if op=17 then(ir (decide (a≠0)&&decide (b≠0)),true)else
 if op=18 then(ir (decide (a≠0)||decide (b≠0)),true)else(0,false)
structure bK where
 pc:Int
 regs:List Int
 taint:List (List Int)
 ev:Int
def cC(l:List Int):List AV:=[.lst (l.map aJ)]
def bK.enc(s:bK):List AV:=[.int .i64 s.pc,.lst (s.regs.map aJ),.lst (s.taint.map cC),.int .i64 s.ev]
def bK.zero:bK:=⟨0,[],[],0⟩
def bK.has(s:bK)(r:Int):Bool:=inB r s.regs.length
def bK.reg(s:bK)(r:Int):Int:=s.regs.getD r.toNat 0
def bK.tnt(s:bK)(r:Int):List Int:=s.taint.getD r.toNat []
def bK.put(s:bK)(a v:Int)(t:List Int):bK:=⟨IntKind.i64.wrap (s.pc+1),s.regs.set a.toNat v,s.taint.set a.toNat t,s.ev⟩
def bu(i:aw)(s:bK):Option bK:=
 if i.op=1 then(if s.has i.a then some (s.put i.a i.n [])else none)else
 if i.op=2 then(if s.has i.a&&s.has i.b then some (s.put i.a (s.reg i.b) (s.tnt i.b))else none)else
 if i.op=3 then(if s.has i.a&&s.has i.b&&(BN i.n (s.reg i.b)).2 then some (s.put i.a (BN i.n (s.reg i.b)).1 (s.tnt i.b))else none)else
 if i.op=4 then(if s.has i.a&&s.has i.b&&s.has i.c&&(rS i.n (s.reg i.b) (s.reg i.c)).2 then some (s.put i.a (rS i.n (s.reg i.b) (s.reg i.c)).1 (zQ (s.tnt i.b++s.tnt i.c)))else none)else
 some {s with pc:=i.a}
def dz(ins:List aw):Nat→bK→bK×Bool
 | 0,s=>if inB s.pc ins.length then(if(ins.getD s.pc.toNat default).op<1∨5<(ins.getD s.pc.toNat default).op then(s,true)else(bK.zero,false))else(bK.zero,false)
 | k+1,s=>if inB s.pc ins.length then(if(ins.getD s.pc.toNat default).op<1∨5<(ins.getD s.pc.toNat default).op then(s,true)else
   match bu (ins.getD s.pc.toNat default) s with
   | none=>(bK.zero,false)
   | some s2=>dz ins k s2)else(bK.zero,false)
def cg(c:lf)(s:bK):bK×Bool:=
 if(s.regs.length:Int)=c.regs∧(s.taint.length:Int)=c.regs then dz c.ins c.ins.length s else(bK.zero,false)
def C9(p:bK×Bool):AV:=.tup [.agg p.1.enc,.bool p.2]
structure kj(U:List Int)(s:bK):Prop where
 len:s.taint.length=s.regs.length
 small:s.regs.length<2^40
 short:∀l∈s.taint,l.length≤2^30
 sub:∀l∈s.taint,∀x∈l,x∈U
theorem xc:∀{l U:List Int},l.Nodup→(∀x∈l,x∈U)→l.length≤U.length
 | [],U,_,_=>by simp
 | x::l,U,hn,hs=>by
  have hx:x∈U:=hs x (by simp)
  have h1:=List.nodup_cons.1 hn
  have:=xc (l:=l) (U:=U.erase x) h1.2 fun y hy=>(List.mem_erase_of_ne (by rintro rfl;exact h1.1 hy)).2 (hs y (by simp[hy]))
  rw[List.length_erase_of_mem hx]at this
  have:=List.length_pos_of_mem hx
  simp only[List.length_cons]
  omega
theorem BO{U l:List Int}(h:∀x∈l,x∈U):(zQ l).length≤U.length:=by
 have hnd:(zQ l).Nodup:=(EP l).imp (fun {a b} (h:a<b)=>by omega)
 exact xc hnd fun x hx=>h x ((xL l x).1 hx)
theorem kj.tnt{U:List Int}{s:bK}(h:kj U s)(r:Int):(s.tnt r).length≤2^30∧∀x∈s.tnt r,x∈U:=by
 unfold bK.tnt
 rw[List.getD_eq_getElem?_getD]
 cases he:s.taint[r.toNat]? with
 | none=>simp
 | some l=>exact⟨h.short l (List.mem_of_getElem? he),h.sub l (List.mem_of_getElem? he)⟩
theorem kj.put{U:List Int}{s:bK}(h:kj U s)(a v:Int){t:List Int}(h1:t.length≤2^30)(h2:∀x∈t,x∈U):kj U (s.put a v t):=by
 refine⟨by simp[bK.put,h.len],by simpa[bK.put]using h.small,fun l hl=>?_,fun l hl=>?_⟩
 ·rcases List.mem_or_eq_of_mem_set hl with g | g
  ·exact h.short l g
  ·rw[g];exact h1
 ·rcases List.mem_or_eq_of_mem_set hl with g | g
  ·exact h.sub l g
  ·rw[g];exact h2
theorem kj.step{U:List Int}(hU:U.length≤2^30){s s2:bK}{i:aw}(h:kj U s)(he:bu i s=some s2):kj U s2:=by
 unfold bu at he
 split at he
 ·split at he
  ·cases he;exact h.put _ _ (by simp) (by simp)
  ·cases he
 ·split at he
  ·split at he
   ·cases he;exact h.put _ _ (h.tnt _).1 (h.tnt _).2
   ·cases he
  ·split at he
   ·split at he
    ·cases he;exact h.put _ _ (h.tnt _).1 (h.tnt _).2
    ·cases he
   ·split at he
    ·split at he
     ·cases he
      have hs:∀x∈s.tnt i.b++s.tnt i.c,x∈U:=fun x hx=>by
       rcases List.mem_append.1 hx with g | g
       ·exact(h.tnt _).2 x g
       ·exact(h.tnt _).2 x g
      exact h.put _ _ (Nat.le_trans (BO hs) hU) fun x hx=>hs x ((xL _ _).1 hx)
     ·cases he
    ·cases he
     exact⟨h.len,h.small,h.short,h.sub⟩
end Go.Proofs.Ytljkdffikfkcgaa.Am
end
section
namespace Go.Proofs.Ytljkdffikfkcgaa
open Go.ChangeShapes Go.WideShapes Go.ChangeAt Go.RowKit
set_option linter.unusedVariables false
theorem elemJ:Elem Try.prog 23 2 (.int .i64 0) 1 8:=elem_mk Try.underlying23 (by kernel_rfl) rfl (by decide)
set_option maxHeartbeats 1000000 in
set_option maxRecDepth 100000 in
theorem cloneJ_any(A:Option Addr)(n c:Nat)(xs:List Value)(w:World)(hf:Flat w 1 A n xs)(h1:∀x∈xs,x.oneCell'=true)(hn:n*8≤140737488355328)(hA:A=none→n=0):
  Calls Try.prog 22 #[.slice A n c] w fun e w'=>∃v,e=.returned v∧w'.ownsRow w.heap.size 2 1 v n xs∧Below w.heap.size w w':=by
 have HF:=Lib.hid hf
 have H1:=Lib.hid h1
 clear hf h1
 have heq:=fun(W:World) (a:Option Addr) (l c:Nat)=>Lib.run_eql_slice_nil (P:=Try.prog) W 23 2 a l c 0 0 Try.underlying23
 cases A with
 | none=>
  obtain rfl:n=0:=hA rfl
  have hx:xs=[]:=List.eq_nil_of_length_eq_zero (by have:=HF.out.1;simpa using this)
  have Hx:=Lib.hid hx
  clear hx HF H1
  go_enter Try.func22,Try.ntmps22
  go_wp2_with fail
  go_ret
  exact⟨_,rfl,by rw[Hx.out];exact World.ownsRow_nil _ _ _ _,Below.refl _ _⟩
 | some a=>
  clear hA
  have M0:Hid ((w.alloc (.cells #[] 2)).ownsRow w.heap.size 2 1 (.slice (some ⟨w.heap.size,0,none⟩) 0 0) 0 []):=Lib.hid (World.ownsRow_made w #[] 0 (Nat.le_refl _) (by simp[maxLen]) (by simp))
  go_enter Try.func22,Try.ntmps22
  go_wp2_with (at_builtin;go_must (refine wpList_app rfl (.tmp 5) (.tmp 6) rfl elemJ w.heap.size _ 0 [] rfl M0.out (some a) n c xs rfl (HF.out.kept ((Below.refl _ _).alloc (Nat.le_refl _) _)) H1.out (by simp only[maxLen];omega) (by omega) (by simp) ?_);intro v1 w1 hown1 hg1)
  have hb1:=((Below.refl w.heap.size w).alloc (Nat.le_refl _) _).grown hg1 (by simp) (own_from M0.out)
  go_wp2_with fail
  go_ret
  exact⟨_,rfl,by simpa using hown1,hb1⟩
end Go.Proofs.Ytljkdffikfkcgaa
end
section
namespace Go.Proofs.Ytljkdffikfkcgaa.Am
set_option linter.unusedVariables false
theorem Iu{o:Nat}{x:AV}{L:SH}{K:AV→Prop}(h:bo o x L K):bo o x L K:=h
theorem GI{o:Nat}{x:AV}{L:SH}{K:AV→Prop}(h:c8 o x L K):c8 o x L K:=h
theorem Jb{x:AV}{L:SH}{K:AV→Prop}(h:wl x L K):wl x L K:=h
theorem Iv{n:Nat}{x i:AV}{L:SH}{K:AV→Prop}(h:Ba n x i L K):Ba n x i L K:=h
theorem Iw{n:Nat}{x i:AV}{L:SH}{K:AV→Prop}(h:ug n x i L K):ug n x i L K:=h
theorem GJ{n o:Nat}{x i:AV}{L:SH}{K:AV→Prop}(h:gQ n o x i L K):gQ n o x i L K:=h
theorem Jc{us:List W.WR}{i:Nat}{x:AV}{L:SH}{K:AV→Fp→Prop}(h:dl us i x L K):dl us i x L K:=h
theorem Ix{o:Nat}{x:AV}{us:List W.WR}{i:Nat}{L:SH}{K:AV→Fp→Prop}(h:bx o x us i L K):bx o x us i L K:=h
theorem Jd{us:List W.WR}{i n:Nat}{x:AV}{L:SH}{K:AV→Fp→Prop}(h:dr us i n x L K):dr us i n x L K:=h
theorem Je{us:List W.WR}{i n:Nat}{x ix:AV}{L:SH}{K:AV→Fp→Prop}(h:di us i n x ix L K):di us i n x ix L K:=h
theorem st{P Q:Prop}(k:Q)(h:Q→P:=by
 intro k
 first
 | (refine Iu ?_;first | exact FQ k | exact FR k | exact C4 k)
 | (refine dm ?_;first | exact FC k | exact Fx k | exact FD k | exact FB k | exact FA k | exact Fy k | exact b9 k | exact CG k | exact ge k | exact CH k | exact FE k | exact FG k | exact FH k | exact b_eqB k | exact FS k | exact FK k | exact FL k)
 | (refine Ij ?_;first | exact yY k | exact yZ k)
 | (refine Ik ?_;first | exact xF k | exact xG k | exact xz k)
 | (refine Jb ?_;first | exact EJ k | exact Io k | exact Gq k)
 | (refine FO ?_;first | exact xF k | exact xG k | exact xz k)
 | (refine Gn ?_;first | exact CX k | exact CY k)
 | (refine GI ?_;first | exact wnfl_q k | exact Gs k | exact C5 k)
 | (refine Ie ?_;first | exact EB k | exact EA k | exact AY k | exact a_len_n k | exact A0 k)
 | (refine GJ ?_;first | exact Gt k | exact C6 k)
 | (refine Iw ?_;first | exact Iq k | exact FN k)
 | (refine Iv ?_;first | exact Ip k | exact FM k)
 | (refine ED ?_;first | exact rP k | exact rO k)
 | (refine C3 ?_;first | exact uf k | exact b_row_i k | exact A9 k | exact zd k | exact ze k)
 | (refine Ix ?_;first | exact Is k | exact FP k)
 | (refine Jc ?_;first | exact Ir k | exact Il k)
 | (refine Jd ?_;first | exact I9 k | exact Im k)
 | (refine Je ?_;first | exact Ja k | exact Gr k)
 | (refine FJ ?_;first | exact xF k | exact xG k | exact xz k)
 | (refine CT ?_;first | exact CZ k | exact C0 k | exact CA k)
 | (refine h_load1 ?_;first | exact yW k | exact b_load_i k | exact yX k)
 | (refine Ic ?_;first | exact pW k | exact EF k | exact b_idx_i k | exact cR k | exact EG k)
 | (refine Ib ?_;first | exact uf k | exact b_row_i k | exact A9 k | exact zd k | exact ze k)
 | (refine If ?_;exact Ih k)
 | (refine Gl ?_;exact xI k)
 | exact I8 (mX k)
 | (refine Gm ?_;exact mX k)
 | (refine CW ?_;first | exact AW k | exact a_nil_q k | exact a_nil_f k)
 | (refine I6 ?_;first | exact H7 k | exact H8 k)
 | (refine Gp ?_;first | exact EH k | exact b_frz_s k)
 | (refine EE ?_;first | exact zb k | exact s8 k | exact zc k)
 | (refine h_idxP ?_;first | exact b_idxP_p k | exact b_idxP_q k)
 | (refine h_bin ?_;first | exact FC k | exact Fx k | exact FD k | exact FB k | exact FA k | exact Fy k | exact b9 k | exact CG k | exact ge k | exact CH k | exact FE k | exact FG k | exact FH k | exact b_eqB k | exact FS k | exact FK k | exact FL k)
 | (refine h_cond ?_;first | exact yY k | exact yZ k)
 | exact Gu k
 | exact C7 k
 | exact rQ (CQ k)
 | exact I7 (A8 k)
 | exact In k
 | exact I5 k
 | exact Gi k
 | exact EI k
 | (first | exact Gv k | exact Gw k | exact Gx k | exact Gy k | exact Gz k | exact GB k | exact GD k | exact GE k | exact GG k | exact EM k | exact wo11_ok k | exact wo12_ok k | exact wo13_ok k | exact wo14_ok k | exact wo15_ok k | exact wo16_ok k)
 | exact CI k
 | exact a_convS k
 | exact b_fld k
 | exact Gh k
 | exact CQ k
 | exact A8 k
 | fail):P:=h k
theorem sb{P:Prop}{Q:Nat→Prop}{N:Nat→Prop}(k:∀b,N b→Q b)(h:(∀b,N b→Q b)→P:=by
 intro k
 first
 | (refine Ig ?_;exact Ii k)
 | (refine CV ?_;exact C1 k)
 | (refine CU ?_;exact C2 k)
 | (exact AX k)
 | fail):P:=h k
theorem s2{P Q1 Q2 A1 A2:Prop}(k1:A1→Q1)(k2:A2→Q2)(h:(A1→Q1)→(A2→Q2)→P:=by
 intro k1 k2
 first
 | (refine Ij ?_;exact CF k1 k2)
 | (refine Ik ?_;first | exact xA k1 k2 | exact xB k1 k2)
 | (refine FO ?_;first | exact xA k1 k2 | exact xB k1 k2)
 | (refine FJ ?_;first | exact xA k1 k2 | exact xB k1 k2)
 | (refine CT ?_;first | exact CB k1 k2 | exact CC k1 k2)
 | (refine h_cond ?_;exact CF k1 k2)
 | fail):P:=h k1 k2
theorem mm{α:Type}{a:α}{l:List α}(h:a∈l:=by first | exact .head _ | exact .tail _ (.head _) | exact .tail _ (.tail _ (.head _)) | exact .tail _ (.tail _ (.tail _ (.head _))) | exact .tail _ (.tail _ (.tail _ (.tail _ (.head _)))) | exact .tail _ (.tail _ (.tail _ (.tail _ (.tail _ (.head _))))) | exact .tail _ (.tail _ (.tail _ (.tail _ (.tail _ (.tail _ (.head _)))))) | exact .tail _ (.tail _ (.tail _ (.tail _ (.tail _ (.tail _ (.tail _ (.head _))))))) | exact .tail _ (.tail _ (.tail _ (.tail _ (.tail _ (.tail _ (.tail _ (.tail _ (.head _)))))))) | exact .tail _ (.tail _ (.tail _ (.tail _ (.tail _ (.tail _ (.tail _ (.tail _ (.tail _ (.head _))))))))) | exact .tail _ (.tail _ (.tail _ (.tail _ (.tail _ (.tail _ (.tail _ (.tail _ (.tail _ (.tail _ (.head _)))))))))) | exact .tail _ (.tail _ (.tail _ (.tail _ (.tail _ (.tail _ (.tail _ (.tail _ (.tail _ (.tail _ (.tail _ (.head _))))))))))) | exact .tail _ (.tail _ (.tail _ (.tail _ (.tail _ (.tail _ (.tail _ (.tail _ (.tail _ (.tail _ (.tail _ (.tail _ (.head _))))))))))))):a∈l:=h
theorem rp{P:Prop}(h:P:=by repeat constructor):P:=h
end Go.Proofs.Ytljkdffikfkcgaa.Am
end
section
namespace Go.Proofs.Ytljkdffikfkcgaa.Am
set_option linter.unusedVariables false
inductive ac where
 | mk (op n:Int) (name:aL) (l:List ac)
def ac.op:ac→Int | .mk a _ _ _=>a
def ac.n:ac→Int | .mk _ a _ _=>a
def ac.name:ac→aL | .mk _ _ a _=>a
def ac.l:ac→List ac | .mk _ _ _ a=>a
mutual
def ac.enc:ac→List AV
 | .mk op n name l=>[.int .i64 op,.int .i64 n,.str name,.lst (ac.encs l)]
def ac.encs:List ac→List (List AV)
 | []=>[]
 | x::l=>x.enc::ac.encs l
end
theorem ac.encs_eq:∀l:List ac,ac.encs l=l.map ac.enc
 | []=>rfl
 | x::l=>by rw[ac.encs,ac.encs_eq l];rfl
def ac.row(x:ac):List AV:=[.int .i64 x.op,.int .i64 x.n,.str x.name,.lst (x.l.map ac.enc)]
theorem ac.enc_row(x:ac):x.enc=x.row:=by cases x;rw[ac.enc,ac.encs_eq];rfl
theorem zh{l:List ac}{i:Nat}(h:i<l.length):(l.map ac.enc)[i]? =some [.int .i64 l[i].op,.int .i64 l[i].n,.str l[i].name,.lst (l[i].l.map ac.enc)]:=by rw[aC h,ac.enc_row];rfl
mutual
def ac.wt:ac→Nat
 | .mk _ _ name l=>1+name.length+ac.wts l
def ac.wts:List ac→Nat
 | []=>0
 | x::l=>x.wt+ac.wts l
end
theorem ac.wt_eq(x:ac):x.wt=1+x.name.length+ac.wts x.l:=by cases x;rfl
theorem ac.wts_get:∀(l:List ac) (i:Nat) (h:i<l.length),l[i].wt≤ac.wts l
 | x::l,0,_=>by simp[ac.wts]
 | x::l,i+1,h=>by have:=ac.wts_get l i (by simpa using h);simp only[List.getElem_cons_succ,ac.wts];omega
theorem ac.wts_len:∀l:List ac,l.length≤ac.wts l
 | []=>Nat.le_refl _
 | x::l=>by have:=ac.wts_len l;have:=x.wt_eq;simp only[List.length_cons,ac.wts];omega
theorem ac.kid(x:ac){i:Nat}(h:i<x.l.length):x.l[i].wt<x.wt:=by have:=ac.wts_get x.l i h;have:=x.wt_eq;omega
theorem ac.len(x:ac):x.l.length<x.wt:=by have:=ac.wts_len x.l;have:=x.wt_eq;omega
inductive aa where
 | mk (op line:Int) (name arg:aL) (index:List ac) (expr:ac) (body els:List aa)
def aa.op:aa→Int | .mk a _ _ _ _ _ _ _=>a
def aa.line:aa→Int | .mk _ a _ _ _ _ _ _=>a
def aa.name:aa→aL | .mk _ _ a _ _ _ _ _=>a
def aa.arg:aa→aL | .mk _ _ _ a _ _ _ _=>a
def aa.index:aa→List ac | .mk _ _ _ _ a _ _ _=>a
def aa.expr:aa→ac | .mk _ _ _ _ _ a _ _=>a
def aa.body:aa→List aa | .mk _ _ _ _ _ _ a _=>a
def aa.els:aa→List aa | .mk _ _ _ _ _ _ _ a=>a
mutual
def aa.enc:aa→List AV
 | .mk op line name arg index e body els=>[.int .i64 op,.int .i64 line,.str name,.str arg,.lst (index.map ac.enc),.int .i64 e.op,.int .i64 e.n,.str e.name,.lst (e.l.map ac.enc),.lst (aa.encs body),.lst (aa.encs els)]
def aa.encs:List aa→List (List AV)
 | []=>[]
 | x::l=>x.enc::aa.encs l
end
theorem aa.encs_eq:∀l:List aa,aa.encs l=l.map aa.enc
 | []=>rfl
 | x::l=>by rw[aa.encs,aa.encs_eq l];rfl
def aa.row(x:aa):List AV:=[.int .i64 x.op,.int .i64 x.line,.str x.name,.str x.arg,.lst (x.index.map ac.enc),.int .i64 x.expr.op,.int .i64 x.expr.n,.str x.expr.name,.lst (x.expr.l.map ac.enc),.lst (x.body.map aa.enc),.lst (x.els.map aa.enc)]
theorem aa.enc_row(x:aa):x.enc=x.row:=by cases x;rw[aa.enc,aa.encs_eq,aa.encs_eq];rfl
theorem xd{l:List aa}{i:Nat}(h:i<l.length):(l.map aa.enc)[i]? =some [.int .i64 l[i].op,.int .i64 l[i].line,.str l[i].name,.str l[i].arg,.lst (l[i].index.map ac.enc),.int .i64 l[i].expr.op,.int .i64 l[i].expr.n,.str l[i].expr.name,.lst (l[i].expr.l.map ac.enc),.lst (l[i].body.map aa.enc),.lst (l[i].els.map aa.enc)]:=by rw[aC h,aa.enc_row];rfl
mutual
def aa.wt:aa→Nat
 | .mk _ _ name arg index e body els=>1+name.length+arg.length+ac.wts index+e.wt+aa.wts body+aa.wts els
def aa.wts:List aa→Nat
 | []=>0
 | x::l=>x.wt+aa.wts l
end
theorem aa.wt_eq(x:aa):x.wt=1+x.name.length+x.arg.length+ac.wts x.index+x.expr.wt+aa.wts x.body+aa.wts x.els:=by cases x;rfl
theorem aa.wts_get:∀(l:List aa) (i:Nat) (h:i<l.length),l[i].wt≤aa.wts l
 | x::l,0,_=>by simp[aa.wts]
 | x::l,i+1,h=>by have:=aa.wts_get l i (by simpa using h);simp only[List.getElem_cons_succ,aa.wts];omega
theorem aa.wts_len:∀l:List aa,l.length≤aa.wts l
 | []=>Nat.le_refl _
 | x::l=>by have:=aa.wts_len l;have:=x.wt_eq;simp only[List.length_cons,aa.wts];omega
structure av where
 kind:Int
 line:Int
 name:aL
 size:Int
 init:Int
 on:aL
 deriving Inhabited
def av.enc(d:av):List AV:=[.int .i64 d.kind,.int .i64 d.line,.str d.name,.int .i64 d.size,.int .i64 d.init,.str d.on]
structure ai where
 name:aL
 line:Int
 locals:List aL
 body:List aa
def ai.enc(t:ai):List AV:=[.str t.name,.int .i64 t.line,.lst (t.locals.map az),.lst (t.body.map aa.enc)]
structure aK where
 decls:List av
 threads:List ai
def aK.enc(p:aK):List AV:=[.lst (p.decls.map av.enc),.lst (p.threads.map ai.enc)]
def av.wt(d:av):Nat:=1+d.name.length+d.on.length
def ai.wt(t:ai):Nat:=1+t.name.length+t.locals.length+(t.locals.map List.length).sum+aa.wts t.body
def aK.wt(p:aK):Nat:=(p.decls.map av.wt).sum+(p.threads.map ai.wt).sum
theorem uh{α:Type}{f:α→Nat}:∀(l:List α) (i:Nat) (h:i<l.length),f l[i]≤(l.map f).sum
 | x::l,0,_=>by simp
 | x::l,i+1,h=>by have:=uh (f:=f) l i (by simpa using h);simp only[List.getElem_cons_succ,List.map_cons,List.sum_cons];omega
theorem xM{α:Type}{f:α→Nat}(hf:∀x,1≤f x):∀l:List α,l.length≤(l.map f).sum
 | []=>Nat.le_refl _
 | x::l=>by have:=xM hf l;have:=hf x;simp only[List.length_cons,List.map_cons,List.sum_cons];omega
theorem Da{α:Type}{p:α→Prop}{l:List α}{i:Nat}(h:i<l.length)(h1:∀x∈l.take i,p x)(h2:p l[i]):∀x∈l.take (i+1),p x:=by
 rw[List.take_succ_eq_append_getElem h]
 intro x hx
 rcases List.mem_append.1 hx with hx | hx
 ·exact h1 x hx
 ·simp at hx;subst hx;exact h2
theorem FT(n:Nat)(G:Nat→Prop)(S:Nat→List AV×SH){B:List AV→SH→W.Kn→Prop}{vs:List AV}{L:SH}(hl:n<2^62)(h0:G 0)(hv:vs=(S 0).1)(hL:L=(S 0).2)
  (h1:∀i,i<n→decide ((i:Int)<(n:Int))=true→IntKind.i64.wrap ((i:Int)+1)=((i+1:Nat):Int)→G i→∀nx:W.Kn,(G (i+1)→∀vs' L',aV vs' L' (S (i+1)).1 (S (i+1)).2→nx vs' L')→B (S i).1 (S i).2 nx)
  (h2:∀i,i=n→decide ((i:Int)<(n:Int))=false→G i→∀nx:W.Kn,B (S i).1 (S i).2 nx):W.loop B vs L:=by
 refine Gj n S G h0 hv hL fun i hi hG=>?_
 rcases Nat.lt_or_ge i n with h | h
 ·exact h1 i h (ct h) (bH h hl) hG _ fun hg vs' L' hz=>⟨i+1,by omega,by omega,hg,hz⟩
 ·exact h2 i (by omega) (ee h) hG _
theorem eJ(n:Nat)(G:Nat→Prop)(S:Nat→List AV){B:List AV→SH→W.Kn→Prop}{vs:List AV}{L:SH}(hl:n<2^62)(h0:G 0)(hv:vs=S 0)
  (h1:∀i,i<n→decide ((i:Int)<(n:Int))=true→IntKind.i64.wrap ((i:Int)+1)=((i+1:Nat):Int)→G i→∀nx:W.Kn,(G (i+1)→nx (S (i+1)) L)→B (S i) L nx)
  (h2:∀i,i=n→decide ((i:Int)<(n:Int))=false→G i→∀nx:W.Kn,B (S i) L nx):W.loop B vs L:=
 FT n G (fun i=>(S i,L)) hl h0 hv rfl (fun i h hd hi hG nx hn=>h1 i h hd hi hG nx fun hg=>hn hg _ _ (.refl _ _)) h2
theorem cJ{α:Type}(l:List α)(p:α→Bool)(S:Nat→List AV){B:List AV→SH→W.Kn→Prop}{vs:List AV}{L:SH}(hl:l.length<2^62)(hv:vs=S 0)
  (h1:∀i (h:i<l.length),decide ((i:Int)<(l.length:Int))=true→IntKind.i64.wrap ((i:Int)+1)=((i+1:Nat):Int)→(∀x∈l.take i,p x=false)→∀nx:W.Kn,(p l[i]=false→nx (S (i+1)) L)→B (S i) L nx)
  (h2:∀i,i=l.length→decide ((i:Int)<(l.length:Int))=false→(∀x∈l,p x=false)→∀nx:W.Kn,B (S i) L nx):W.loop B vs L:=
 eJ l.length (fun i=>∀x∈l.take i,p x=false) S hl (by simp) hv (fun i h hd hi hG nx hn=>h1 i h hd hi hG nx fun hp=>hn (Da h hG hp))
  fun i e hd hG nx=>h2 i e hd (by rw[List.take_of_length_le (by omega)]at hG;exact hG) nx
theorem GK{α:Type}{p:α→Bool}{l:List α}(h:∀x∈l,p x=false):l.any p=false:=by simpa using h
theorem EQ{α:Type}{p:α→Bool}{l:List α}{i:Nat}(h:i<l.length)(hp:p l[i]=true):l.any p=true:=List.any_eq_true.2 ⟨_,List.getElem_mem h,hp⟩
theorem rT{α:Type}{p:α→Bool}{l:List α}{i:Nat}(h:i<l.length)(hp:p l[i]=false):l.all p=false:=List.all_eq_false.2 ⟨_,List.getElem_mem h,by simp[hp]⟩
theorem FU{s:aL}{k:IntKind}{i:Nat}{K:AV→Prop}(h:K (.int .u8 (s.getD i 0).toNat))(hi:i<s.length:=by assumption):W.ixS (.str s) (.int k (i:Int)) K:=⟨s,k,i,s[i],rfl,rfl,by omega,by simp[hi],by simpa[List.getD,hi]using h⟩
def gg{α:Type}(p:α→Bool):List α→Nat→Int
 | [],_=>-1
 | x::l,i=>if p x then(i:Int)else gg p l (i+1)
theorem eq{α:Type}{p:α→Bool}:∀{l:List α} {i:Nat},(∀x∈l,p x=false)→gg p l i=-1
 | [],_,_=>rfl
 | x::l,i,h=>by rw[gg,h x (by simp)];exact eq fun y hy=>h y (by simp[hy])
theorem Bc{α:Type}{p:α→Bool}:∀{l:List α} {j k:Nat} (hk:k<l.length),(∀x∈l.take k,p x=false)→p l[k]=true→gg p l j=(j+k:Nat)
 | x::l,j,0,hk,h,hp=>by simp at hp;simp[gg,hp]
 | x::l,j,k+1,hk,h,hp=>by
  rw[gg,h x (by simp)]
  have:=Bc (p:=p) (l:=l) (j:=j+1) (k:=k) (by simpa using hk) (fun y hy=>h y (by simp[hy])) (by simpa using hp)
  simp only[Bool.false_eq_true,if_false,this];congr 1;omega
theorem gh{α:Type}{p:α→Bool}{l:List α}{k:Nat}(hk:k<l.length)(h:∀x∈l.take k,p x=false)(hp:p l[k]=true):gg p l 0=k:=by rw[Bc hk h hp];simp
end Go.Proofs.Ytljkdffikfkcgaa.Am
end
section
namespace Go.Proofs.Ytljkdffikfkcgaa.Am
set_option linter.unusedVariables false
set_option maxRecDepth 100000
def pX(t0:AV)(L:SH)(Q:R):Prop:=
 wk t0 (
 Q (.int .i64 1) L) (
 Q (.int .i64 0) L)
theorem wE(t0:AV)(L:SH)(Q:R)(h:pX t0 L Q):am Try.prog 37 [t0] L Q:=
 bC ⟨fun _=>none,fun _=>[],fun _=>[],fun _=>[]⟩ Try.func37 (by kernel_rfl) (by kernel_rfl) h
def wF(Q:R)(L:SH)(t0 t1:AV):Prop:=
 wb .eql 3 t0 (.int .i64 5) fun x2=>
 wk x2 (
 wb .eql 2 t1 (.int .i64 0) fun x3=>
 wc (.fn 37 []) [x3] L fun x4 L5=>
 Q (.tup [x4,(.bool true)]) L5) (
 Q (.tup [(.int .i64 0),(.bool false)]) L)
def pY(t0 t1:AV)(L:SH)(Q:R):Prop:=
 wb .eql 3 t0 (.int .i64 4) fun x0=>
 wk x0 (
 W.un .neg t1 fun x1=>
 Q (.tup [x1,(.bool true)]) L) (
 (wF Q L t0 t1))
theorem wG(t0 t1:AV)(L:SH)(Q:R)(h:pY t0 t1 L Q):am Try.prog 25 [t0,t1] L Q:=
 bC ⟨fun _=>none,fun _=>[],fun _=>[],fun _=>[]⟩ Try.func25 (by kernel_rfl) (by kernel_rfl) h
def u1(Q:R)(L:SH)(t1 t2:AV):Prop:=
 wb .neq 2 t1 (.int .i64 0) fun x37=>
 cj x37 true t2 L fun x38 L40=>
 wg x37 true (wb .neq 2 x38 (.int .i64 0)) L40 fun x41 L43=>
 W.pick x37 x41 (.bool false) fun x45=>
 wc (.fn 37 []) [x45] L43 fun x46 L47=>
 Q (.tup [x46,(.bool true)]) L47
def u2(Q:R)(L:SH)(t1 t2:AV):Prop:=
 wb .neq 2 t1 (.int .i64 0) fun x49=>
 cj x49 false t2 L fun x50 L52=>
 wg x49 false (wb .neq 2 x50 (.int .i64 0)) L52 fun x53 L55=>
 W.pick x49 (.bool true) x53 fun x57=>
 wc (.fn 37 []) [x57] L55 fun x58 L59=>
 Q (.tup [x58,(.bool true)]) L59
def u3(Q:R)(L:SH)(t0 t1 t2:AV):Prop:=
 wb .eql 3 t0 (.int .i64 17) fun x36=>
 wk x36 (
 (u1 Q L t1 t2)) (
 wb .eql 3 t0 (.int .i64 18) fun x48=>
 wk x48 (
 (u2 Q L t1 t2)) (
 Q (.tup [(.int .i64 0),(.bool false)]) L))
def u4(Q:R)(L:SH)(t0 t1 t2:AV):Prop:=
 wb .eql 3 t0 (.int .i64 16) fun x32=>
 wk x32 (
 wb .geq 2 t1 t2 fun x33=>
 wc (.fn 37 []) [x33] L fun x34 L35=>
 Q (.tup [x34,(.bool true)]) L35) (
 (u3 Q L t0 t1 t2))
def u5(Q:R)(L:SH)(t0 t1 t2:AV):Prop:=
 wb .eql 3 t0 (.int .i64 15) fun x28=>
 wk x28 (
 wb .gtr 2 t1 t2 fun x29=>
 wc (.fn 37 []) [x29] L fun x30 L31=>
 Q (.tup [x30,(.bool true)]) L31) (
 (u4 Q L t0 t1 t2))
def u6(Q:R)(L:SH)(t0 t1 t2:AV):Prop:=
 wb .eql 3 t0 (.int .i64 14) fun x24=>
 wk x24 (
 wb .leq 2 t1 t2 fun x25=>
 wc (.fn 37 []) [x25] L fun x26 L27=>
 Q (.tup [x26,(.bool true)]) L27) (
 (u5 Q L t0 t1 t2))
def u7(Q:R)(L:SH)(t0 t1 t2:AV):Prop:=
 wb .eql 3 t0 (.int .i64 13) fun x20=>
 wk x20 (
 wb .lss 2 t1 t2 fun x21=>
 wc (.fn 37 []) [x21] L fun x22 L23=>
 Q (.tup [x22,(.bool true)]) L23) (
 (u6 Q L t0 t1 t2))
def u9(Q:R)(L:SH)(t0 t1 t2:AV):Prop:=
 wb .eql 3 t0 (.int .i64 12) fun x16=>
 wk x16 (
 wb .neq 2 t1 t2 fun x17=>
 wc (.fn 37 []) [x17] L fun x18 L19=>
 Q (.tup [x18,(.bool true)]) L19) (
 (u7 Q L t0 t1 t2))
def va(Q:R)(L:SH)(t0 t1 t2:AV):Prop:=
 wb .eql 3 t0 (.int .i64 11) fun x12=>
 wk x12 (
 wb .eql 2 t1 t2 fun x13=>
 wc (.fn 37 []) [x13] L fun x14 L15=>
 Q (.tup [x14,(.bool true)]) L15) (
 (u9 Q L t0 t1 t2))
def vb(Q:R)(L:SH)(t0 t2 t1:AV):Prop:=
 wb .eql 3 t0 (.int .i64 10) fun x9=>
 wk x9 (
 wb .eql 2 t2 (.int .i64 0) fun x10=>
 wk x10 (
 Q (.tup [(.int .i64 0),(.bool true)]) L) (
 wb .rem 2 t1 t2 fun x11=>
 Q (.tup [x11,(.bool true)]) L)) (
 (va Q L t0 t1 t2))
def tq(Q:R)(L:SH)(t0 t2 t1:AV):Prop:=
 wb .eql 3 t0 (.int .i64 9) fun x6=>
 wk x6 (
 wb .eql 2 t2 (.int .i64 0) fun x7=>
 wk x7 (
 Q (.tup [(.int .i64 0),(.bool true)]) L) (
 wb .quo 2 t1 t2 fun x8=>
 Q (.tup [x8,(.bool true)]) L)) (
 (vb Q L t0 t2 t1))
def tt(Q:R)(L:SH)(t0 t1 t2:AV):Prop:=
 wb .eql 3 t0 (.int .i64 7) fun x2=>
 wk x2 (
 wb .sub 2 t1 t2 fun x3=>
 Q (.tup [x3,(.bool true)]) L) (
 wb .eql 3 t0 (.int .i64 8) fun x4=>
 wk x4 (
 wb .mul 2 t1 t2 fun x5=>
 Q (.tup [x5,(.bool true)]) L) (
 (tq Q L t0 t2 t1)))
def mC(t0 t1 t2:AV)(L:SH)(Q:R):Prop:=
 wb .eql 3 t0 (.int .i64 6) fun x0=>
 wk x0 (
 wb .add 2 t1 t2 fun x1=>
 Q (.tup [x1,(.bool true)]) L) (
 (tt Q L t0 t1 t2))
theorem vc(t0 t1 t2:AV)(L:SH)(Q:R)(h:mC t0 t1 t2 L Q):am Try.prog 26 [t0,t1,t2] L Q:=
 bC ⟨fun _=>none,fun _=>[],fun _=>[],fun _=>[]⟩ Try.func26 (by kernel_rfl) (by kernel_rfl) h
def km(t0 t1:AV)(L:SH)(Q:R):Prop:=
 W.len t0 fun x0=>
 W.len t1 fun x1=>
 wb .add 3 x0 x1 fun x2=>
 W.mslice 1 8 [(.int .i64 0)] (.int .i64 0) x2 L fun x3 L4=>
 W.append 1 8 x3 t0 L4 fun x5 L6=>
 W.append 1 8 x5 t1 L6 fun x7 L8=>
 wc (.fn 38 []) [x7] L8 fun x9 L10=>
 wc (.fn 39 []) [x7] L10 fun x11 L12=>
 Q x11 L12
theorem tu(t0 t1:AV)(L:SH)(Q:R)(h:km t0 t1 L Q):am Try.prog 27 [t0,t1] L Q:=
 bC ⟨fun _=>none,fun _=>[],fun _=>[],fun _=>[]⟩ Try.func27 (by kernel_rfl) (by kernel_rfl) h
def fy(n19:Kn)(x23 x26 x21 x22 x24 x25 x30:AV)(L31:SH):Prop:=
 W.idx 1 x23 x26 L31 fun x32=>
 W.store 1 x32 x30 L31 fun L33=>
 wb .add 3 x26 (.int .i64 1) fun x34=>
 n19 [x21,x22,x23,x24,x25,x34] L33
def fB(Q:R)(v18:Vs)(L20:SH)(n19:Kn):Prop:=
 GA 1 2 3 15 16 17 v18 fun x21 x22 x23 x24 x25 x26=>
 wb .lss 3 x26 x25 fun x27=>
 wk x27 (
 Ba 1 x24 x26 L20 fun x29=>
 wc (.fn 23 []) [x29] L20 (fy n19 x23 x26 x21 x22 x24 x25)) (
 W.faddr 2 x21 fun x35=>
 W.store 1 x35 x23 L20 fun L36=>
 dy 4 x21 L36 fun x37=>
 W.store 4 x22 x37 L36 fun L38=>
 W.load true 4 x22 L38 fun x39=>
 Q x39 L38)
def jB(Q:R)(x0 x2 x6:AV)(L7:SH):Prop:=
 W.faddr 1 x0 fun x8=>
 W.store 1 x8 x6 L7 fun L9=>
 bo 2 x0 L9 fun x11=>
 W.len x11 fun x12=>
 W.mslice 1 24 [.nils] x12 x12 L9 fun x13 L14=>
 bo 2 x0 L14 fun x16=>
 W.len x16 fun x17=>
 W.loop (fB Q) [x0,x2,x13,x16,x17,(.int .i64 0)] L14
def ko(t0:AV)(L:SH)(Q:R):Prop:=
 W.box t0 L fun x0 L1=>
 W.alloc [(.int .i64 0),.nils,.nils,(.int .i64 0)] L1 fun x2 L3=>
 bo 1 x0 L3 fun x5=>
 wc (.fn 22 []) [x5] L3 (jB Q x0 x2)
theorem tv(t0:AV)(L:SH)(Q:R)(h:ko t0 L Q):am Try.prog 10 [t0] L Q:=
 bC ⟨fun _=>none,fun k=>if k=4 then [1,2,3,15,16,17]else [],fun _=>[],fun _=>[]⟩ Try.func10 (by kernel_rfl) (by kernel_rfl) h
def gj(t0 t1:AV)(L:SH)(Q:R):Prop:=
 wb .geq 3 t0 (.int .i64 0) fun x0=>
 cj x0 true t0 L fun x1 L3=>
 wg x0 true (wl t1 L3) L3 fun x4 L6=>
 wg x0 true (W.nilchk x4) L6 fun x8 L10=>
 wg x0 true (W.faddr 1 x8) L10 fun x12 L14=>
 wg x0 true (wl x12 L14) L14 fun x16 L18=>
 wg x0 true (W.len x16) L18 fun x20 L22=>
 wg x0 true (wb .lss 3 x1 x20) L22 fun x24 L26=>
 W.pick x0 x24 (.bool false) fun x28=>
 Q x28 L26
theorem lg(t0 t1:AV)(L:SH)(Q:R)(h:gj t0 t1 L Q):am Try.prog 24 [t0,t1] L Q:=
 bC ⟨fun _=>none,fun _=>[],fun _=>[],fun _=>[]⟩ Try.func24 (by kernel_rfl) (by kernel_rfl) h
def pZ(Q:R)(v8:Vs)(L10:SH):Prop:=
 wu 2 4 6 v8 fun x11 x12 x13=>
 wl x11 L10 fun x14=>
 c8 0 x14 L10 fun x17=>
 wb .add 3 x17 (.int .i64 1) fun x18=>
 W.nilchk x14 fun x19=>
 W.faddr 0 x19 fun x20=>
 W.store 1 x20 x18 L10 fun L21=>
 Q x13 L21
def p7(j9:Kn)(L28:SH)(x4 x6:AV):Prop:=
 (true=true)∧(
 dl [] 0 x4 L28 fun x30 r31=>
 W.nilchk x30 fun x32=>
 bx 1 x32 [] 3 L28 fun x34 r35=>
 bx 1 x6 [rm 3 r35,rm 0 r31] 5 L28 fun x37 r38=>
 dl [rm 5 r38,rm 3 r35,rm 0 r31] 6 x4 L28 fun x39 r40=>
 W.nilchk x39 fun x41=>
 bx 2 x41 [rm 5 r38,rm 3 r35,rm 0 r31] 9 L28 fun x43 r44=>
 bx 1 x6 [rm 9 r44,rm 6 r40,rm 5 r38,rm 3 r35,rm 0 r31] 11 L28 fun x46 r47=>
 bx 4 x6 [rm 11 r47,rm 9 r44,rm 6 r40,rm 5 r38,rm 3 r35,rm 0 r31] 13 L28 fun x49 r50=>
 di [rm 11 r47] 14 1 x34 x37 L28 fun x51 r52=>
 ds [rm 11 r47] 15 1 x51 x49 L28 fun L53 r54=>
 di [] 16 1 x43 x46 L53 fun x55 r56=>
 ds [] 17 1 x55 .nils L53 fun L57 r58=>
 j9 [x4,(.bool false),(.bool true)] L57)
def p8(Q:R)(j9:Kn)(x4 x6 x27:AV)(L28:SH):Prop:=
 W.un .not x27 fun x29=>
 wk x29 (
 Q (.bool false) L28) (
 (p7 j9 L28 x4 x6))
def p9(j9:Kn)(L83:SH)(x90 x93 x115 x99 x102 x4:AV)(r103:Fp)(x130:AV)(L132:SH)(q131:Ns):Prop:=
 wn [] q131 [] L83.names fun r133=>
 di [rm 11 r103] 29 1 x90 x93 L132 fun x134 r135=>
 ds [rm 11 r103] 30 1 x134 x115 L132 fun L136 r137=>
 di [] 31 1 x99 x102 L136 fun x138 r139=>
 ds [] 32 1 x138 x130 L136 fun L140 r141=>
 j9 [x4,(.bool false),(.bool true)] L140
def qa(j9:Kn)(L83:SH)(x4 x6:AV):Prop:=
 (true=true)∧(
 dl [] 0 x4 L83 fun x86 r87=>
 W.nilchk x86 fun x88=>
 bx 1 x88 [] 3 L83 fun x90 r91=>
 bx 1 x6 [rm 3 r91,rm 0 r87] 5 L83 fun x93 r94=>
 dl [rm 5 r94,rm 3 r91,rm 0 r87] 6 x4 L83 fun x95 r96=>
 W.nilchk x95 fun x97=>
 bx 2 x97 [rm 5 r94,rm 3 r91,rm 0 r87] 9 L83 fun x99 r100=>
 bx 1 x6 [rm 9 r100,rm 6 r96,rm 5 r94,rm 3 r91,rm 0 r87] 11 L83 fun x102 r103=>
 dl [rm 11 r103,rm 9 r100,rm 6 r96,rm 5 r94,rm 3 r91,rm 0 r87] 12 x4 L83 fun x104 r105=>
 W.nilchk x104 fun x106=>
 bx 1 x106 [rm 11 r103,rm 9 r100,rm 6 r96,rm 5 r94,rm 3 r91,rm 0 r87] 15 L83 fun x108 r109=>
 bx 2 x6 [rm 15 r109,rm 12 r105,rm 11 r103,rm 9 r100,rm 6 r96,rm 5 r94,rm 3 r91,rm 0 r87] 17 L83 fun x111 r112=>
 di [rm 11 r103,rm 9 r100,rm 6 r96,rm 5 r94,rm 3 r91,rm 0 r87] 18 1 x108 x111 L83 fun x113 r114=>
 dl [rm 11 r103,rm 9 r100,rm 6 r96,rm 5 r94,rm 3 r91,rm 0 r87] 19 x113 L83 fun x115 r116=>
 dl [rm 19 r116,rm 18 r114,rm 17 r112,rm 15 r109,rm 12 r105,rm 11 r103,rm 9 r100,rm 6 r96,rm 5 r94,rm 3 r91,rm 0 r87] 20 x4 L83 fun x117 r118=>
 W.nilchk x117 fun x119=>
 bx 2 x119 [rm 19 r116,rm 18 r114,rm 17 r112,rm 15 r109,rm 12 r105,rm 11 r103,rm 9 r100,rm 6 r96,rm 5 r94,rm 3 r91,rm 0 r87] 23 L83 fun x121 r122=>
 bx 2 x6 [rm 23 r122,rm 20 r118,rm 19 r116,rm 18 r114,rm 17 r112,rm 15 r109,rm 12 r105,rm 11 r103,rm 9 r100,rm 6 r96,rm 5 r94,rm 3 r91,rm 0 r87] 25 L83 fun x124 r125=>
 di [rm 19 r116,rm 18 r114,rm 17 r112,rm 15 r109,rm 12 r105,rm 11 r103,rm 9 r100,rm 6 r96,rm 5 r94,rm 3 r91,rm 0 r87] 26 1 x121 x124 L83 fun x126 r127=>
 dl [rm 19 r116,rm 18 r114,rm 17 r112,rm 15 r109,rm 12 r105,rm 11 r103,rm 9 r100,rm 6 r96,rm 5 r94,rm 3 r91,rm 0 r87] 27 x126 L83 fun x128 r129=>
 wd [rm 19 r116,rm 18 r114,rm 17 r112,rm 15 r109,rm 12 r105,rm 11 r103,rm 9 r100,rm 6 r96,rm 5 r94,rm 3 r91,rm 0 r87] 28 (.fn 23 []) [x128] L83 (p9 j9 L83 x90 x93 x115 x99 x102 x4 r103))
def qb(Q:R)(j9:Kn)(x4 x6 x62:AV)(L63:SH):Prop:=
 W.un .not x62 fun x64=>
 cj x64 false (.fn 24 [x4]) L63 fun x65 L67=>
 wg x64 false (W.faddr 2 x6) L67 fun x68 L70=>
 wg x64 false (wl x68 L70) L70 fun x72 L74=>
 W.grd x64 false (fun k77=>wc x65 [x72] L74 fun x79 L80=>
 k77 x79 L80) L74 fun x76 L78=>
 wg x64 false (W.un .not x76) L78 fun x81 L83=>
 W.pick x64 (.bool true) x81 fun x85=>
 wk x85 (
 Q (.bool false) L83) (
 (qa j9 L83 x4 x6))
def qc(j9:Kn)(L202:SH)(x208 x211 x4 x199 x226:AV)(L228:SH)(q227:Ns):Prop:=
 wn [] q227 [] L202.names fun r229=>
 di [] 15 1 x208 x211 L228 fun x230 r231=>
 ds [] 16 1 x230 x226 L228 fun L232 r233=>
 j9 [x4,(.bool false),x199] L232
def qd(j9:Kn)(L166:SH)(x173 x176 x4 x6 x194:AV)(L196:SH)(q195:Ns):Prop:=
 wn [] q195 [] L166.names fun r197=>
 W.ext 0 x194 fun x198=>
 W.ext 1 x194 fun x199=>
 di [] 20 1 x173 x176 L196 fun x200 r201=>
 ds [] 21 1 x200 x198 L196 fun L202 r203=>
 (true=true)∧(
 dl [] 0 x4 L202 fun x204 r205=>
 W.nilchk x204 fun x206=>
 bx 2 x206 [] 3 L202 fun x208 r209=>
 bx 1 x6 [rm 3 r209,rm 0 r205] 5 L202 fun x211 r212=>
 dl [rm 5 r212,rm 3 r209,rm 0 r205] 6 x4 L202 fun x213 r214=>
 W.nilchk x213 fun x215=>
 bx 2 x215 [rm 5 r212,rm 3 r209,rm 0 r205] 9 L202 fun x217 r218=>
 bx 2 x6 [rm 9 r218,rm 6 r214,rm 5 r212,rm 3 r209,rm 0 r205] 11 L202 fun x220 r221=>
 di [rm 5 r212,rm 3 r209,rm 0 r205] 12 1 x217 x220 L202 fun x222 r223=>
 dl [rm 5 r212,rm 3 r209,rm 0 r205] 13 x222 L202 fun x224 r225=>
 wd [rm 5 r212,rm 3 r209,rm 0 r205] 14 (.fn 23 []) [x224] L202 (qc j9 L202 x208 x211 x4 x199))
def qe(j9:Kn)(L166:SH)(x4 x6:AV):Prop:=
 (true=true)∧(
 dl [] 0 x4 L166 fun x169 r170=>
 W.nilchk x169 fun x171=>
 bx 1 x171 [] 3 L166 fun x173 r174=>
 bx 1 x6 [rm 3 r174,rm 0 r170] 5 L166 fun x176 r177=>
 bx 4 x6 [rm 5 r177,rm 3 r174,rm 0 r170] 7 L166 fun x179 r180=>
 dl [rm 7 r180,rm 5 r177,rm 3 r174,rm 0 r170] 8 x4 L166 fun x181 r182=>
 W.nilchk x181 fun x183=>
 bx 1 x183 [rm 7 r180,rm 5 r177,rm 3 r174,rm 0 r170] 11 L166 fun x185 r186=>
 bx 2 x6 [rm 11 r186,rm 8 r182,rm 7 r180,rm 5 r177,rm 3 r174,rm 0 r170] 13 L166 fun x188 r189=>
 di [rm 7 r180,rm 5 r177,rm 3 r174,rm 0 r170] 14 1 x185 x188 L166 fun x190 r191=>
 dl [rm 7 r180,rm 5 r177,rm 3 r174,rm 0 r170] 15 x190 L166 fun x192 r193=>
 wd [rm 5 r177,rm 3 r174,rm 0 r170] 16 (.fn 25 []) [x179,x192] L166 (qd j9 L166 x173 x176 x4 x6))
def qf(Q:R)(j9:Kn)(x4 x6 x145:AV)(L146:SH):Prop:=
 W.un .not x145 fun x147=>
 cj x147 false (.fn 24 [x4]) L146 fun x148 L150=>
 wg x147 false (W.faddr 2 x6) L150 fun x151 L153=>
 wg x147 false (wl x151 L153) L153 fun x155 L157=>
 W.grd x147 false (fun k160=>wc x148 [x155] L157 fun x162 L163=>
 k160 x162 L163) L157 fun x159 L161=>
 wg x147 false (W.un .not x159) L161 fun x164 L166=>
 W.pick x147 (.bool true) x164 fun x168=>
 wk x168 (
 Q (.bool false) L166) (
 (qe j9 L166 x4 x6))
def qg(j9:Kn)(L328:SH)(x334 x337 x4 x325 x365:AV)(L367:SH)(q366:Ns):Prop:=
 wn [] q366 [] L328.names fun r368=>
 di [] 23 1 x334 x337 L367 fun x369 r370=>
 ds [] 24 1 x369 x365 L367 fun L371 r372=>
 j9 [x4,(.bool false),x325] L371
def qh(j9:Kn)(L279:SH)(x286 x289 x4 x6 x320:AV)(L322:SH)(q321:Ns):Prop:=
 wn [] q321 [] L279.names fun r323=>
 W.ext 0 x320 fun x324=>
 W.ext 1 x320 fun x325=>
 di [] 28 1 x286 x289 L322 fun x326 r327=>
 ds [] 29 1 x326 x324 L322 fun L328 r329=>
 (true=true)∧(
 dl [] 0 x4 L328 fun x330 r331=>
 W.nilchk x330 fun x332=>
 bx 2 x332 [] 3 L328 fun x334 r335=>
 bx 1 x6 [rm 3 r335,rm 0 r331] 5 L328 fun x337 r338=>
 dl [rm 5 r338,rm 3 r335,rm 0 r331] 6 x4 L328 fun x339 r340=>
 W.nilchk x339 fun x341=>
 bx 2 x341 [rm 5 r338,rm 3 r335,rm 0 r331] 9 L328 fun x343 r344=>
 bx 2 x6 [rm 9 r344,rm 6 r340,rm 5 r338,rm 3 r335,rm 0 r331] 11 L328 fun x346 r347=>
 di [rm 5 r338,rm 3 r335,rm 0 r331] 12 1 x343 x346 L328 fun x348 r349=>
 dl [rm 5 r338,rm 3 r335,rm 0 r331] 13 x348 L328 fun x350 r351=>
 dl [rm 13 r351,rm 12 r349,rm 11 r347,rm 9 r344,rm 6 r340,rm 5 r338,rm 3 r335,rm 0 r331] 14 x4 L328 fun x352 r353=>
 W.nilchk x352 fun x354=>
 bx 2 x354 [rm 13 r351,rm 12 r349,rm 11 r347,rm 9 r344,rm 6 r340,rm 5 r338,rm 3 r335,rm 0 r331] 17 L328 fun x356 r357=>
 bx 3 x6 [rm 17 r357,rm 14 r353,rm 13 r351,rm 12 r349,rm 11 r347,rm 9 r344,rm 6 r340,rm 5 r338,rm 3 r335,rm 0 r331] 19 L328 fun x359 r360=>
 di [rm 13 r351,rm 12 r349,rm 11 r347,rm 9 r344,rm 6 r340,rm 5 r338,rm 3 r335,rm 0 r331] 20 1 x356 x359 L328 fun x361 r362=>
 dl [rm 13 r351,rm 12 r349,rm 11 r347,rm 9 r344,rm 6 r340,rm 5 r338,rm 3 r335,rm 0 r331] 21 x361 L328 fun x363 r364=>
 wd [rm 5 r338,rm 3 r335,rm 0 r331] 22 (.fn 27 []) [x350,x363] L328 (qg j9 L328 x334 x337 x4 x325))
def qi(j9:Kn)(L279:SH)(x4 x6:AV):Prop:=
 (true=true)∧(
 dl [] 0 x4 L279 fun x282 r283=>
 W.nilchk x282 fun x284=>
 bx 1 x284 [] 3 L279 fun x286 r287=>
 bx 1 x6 [rm 3 r287,rm 0 r283] 5 L279 fun x289 r290=>
 bx 4 x6 [rm 5 r290,rm 3 r287,rm 0 r283] 7 L279 fun x292 r293=>
 dl [rm 7 r293,rm 5 r290,rm 3 r287,rm 0 r283] 8 x4 L279 fun x294 r295=>
 W.nilchk x294 fun x296=>
 bx 1 x296 [rm 7 r293,rm 5 r290,rm 3 r287,rm 0 r283] 11 L279 fun x298 r299=>
 bx 2 x6 [rm 11 r299,rm 8 r295,rm 7 r293,rm 5 r290,rm 3 r287,rm 0 r283] 13 L279 fun x301 r302=>
 di [rm 7 r293,rm 5 r290,rm 3 r287,rm 0 r283] 14 1 x298 x301 L279 fun x303 r304=>
 dl [rm 7 r293,rm 5 r290,rm 3 r287,rm 0 r283] 15 x303 L279 fun x305 r306=>
 dl [rm 15 r306,rm 14 r304,rm 13 r302,rm 11 r299,rm 8 r295,rm 7 r293,rm 5 r290,rm 3 r287,rm 0 r283] 16 x4 L279 fun x307 r308=>
 W.nilchk x307 fun x309=>
 bx 1 x309 [rm 15 r306,rm 14 r304,rm 13 r302,rm 11 r299,rm 8 r295,rm 7 r293,rm 5 r290,rm 3 r287,rm 0 r283] 19 L279 fun x311 r312=>
 bx 3 x6 [rm 19 r312,rm 16 r308,rm 15 r306,rm 14 r304,rm 13 r302,rm 11 r299,rm 8 r295,rm 7 r293,rm 5 r290,rm 3 r287,rm 0 r283] 21 L279 fun x314 r315=>
 di [rm 15 r306,rm 14 r304,rm 13 r302,rm 11 r299,rm 8 r295,rm 7 r293,rm 5 r290,rm 3 r287,rm 0 r283] 22 1 x311 x314 L279 fun x316 r317=>
 dl [rm 15 r306,rm 14 r304,rm 13 r302,rm 11 r299,rm 8 r295,rm 7 r293,rm 5 r290,rm 3 r287,rm 0 r283] 23 x316 L279 fun x318 r319=>
 wd [rm 5 r290,rm 3 r287,rm 0 r283] 24 (.fn 26 []) [x292,x305,x318] L279 (qh j9 L279 x286 x289 x4 x6))
def qj(Q:R)(j9:Kn)(x4 x6 x237:AV)(L238:SH):Prop:=
 W.un .not x237 fun x239=>
 cj x239 false (.fn 24 [x4]) L238 fun x240 L242=>
 wg x239 false (W.faddr 2 x6) L242 fun x243 L245=>
 wg x239 false (wl x243 L245) L245 fun x247 L249=>
 W.grd x239 false (fun k252=>wc x240 [x247] L249 fun x254 L255=>
 k252 x254 L255) L249 fun x251 L253=>
 wg x239 false (W.un .not x251) L253 fun x256 L258=>
 W.pick x239 (.bool true) x256 fun x260=>
 cj x260 false (.fn 24 [x4]) L258 fun x261 L263=>
 wg x260 false (W.faddr 3 x6) L263 fun x264 L266=>
 wg x260 false (wl x264 L266) L266 fun x268 L270=>
 W.grd x260 false (fun k273=>wc x261 [x268] L270 fun x275 L276=>
 k273 x275 L276) L270 fun x272 L274=>
 wg x260 false (W.un .not x272) L274 fun x277 L279=>
 W.pick x260 (.bool true) x277 fun x281=>
 wk x281 (
 Q (.bool false) L279) (
 (qi j9 L279 x4 x6))
def mY(Q:R)(v380:Vs)(L382:SH):Prop:=
 wu 2 4 6 v380 fun x383 x384 x385=>
 Q x384 L382
def qk(Q:R)(L7:SH)(x4 x6:AV):Prop:=
 wl x4 L7 fun x374=>
 bo 1 x6 L7 fun x376=>
 W.nilchk x374 fun x377=>
 W.faddr 0 x377 fun x378=>
 W.store 1 x378 x376 L7 fun L379=>
 W.join (mY Q) fun j381=>
 j381 [x4,(.bool true),(.bool true)] L379
def ql(Q:R)(j9:Kn)(L7:SH)(x23 x6 x4:AV):Prop:=
 wb .eql 3 x23 (.int .i64 4) fun x234=>
 wk x234 (
 bo 1 x6 L7 fun x236=>
 wc (.fn 24 [x4]) [x236] L7 (qj Q j9 x4 x6)) (
 wb .eql 3 x23 (.int .i64 5) fun x373=>
 wk x373 (
 (qk Q L7 x4 x6)) (
 j9 [x4,(.bool false),(.bool true)] L7))
def qm(Q:R)(j9:Kn)(L7:SH)(x23 x6 x4:AV):Prop:=
 wb .eql 3 x23 (.int .i64 3) fun x142=>
 wk x142 (
 bo 1 x6 L7 fun x144=>
 wc (.fn 24 [x4]) [x144] L7 (qf Q j9 x4 x6)) (
 (ql Q j9 L7 x23 x6 x4))
def qn(Q:R)(j9:Kn)(L7:SH)(x23 x6 x4:AV):Prop:=
 wb .eql 3 x23 (.int .i64 2) fun x59=>
 wk x59 (
 bo 1 x6 L7 fun x61=>
 wc (.fn 24 [x4]) [x61] L7 (qb Q j9 x4 x6)) (
 (qm Q j9 L7 x23 x6 x4))
def cv(t0 t1:AV)(L:SH)(Q:R):Prop:=
 W.box t0 L fun x0 L1=>
 W.box t1 L1 fun x2 L3=>
 W.frz1 x0 L3 fun x4 L5=>
 W.frz1 x2 L5 fun x6 L7=>
 W.join (pZ Q) fun j9=>
 bo 0 x6 L7 fun x23=>
 wb .eql 3 x23 (.int .i64 1) fun x24=>
 wk x24 (
 bo 1 x6 L7 fun x26=>
 wc (.fn 24 [x4]) [x26] L7 (p8 Q j9 x4 x6)) (
 (qn Q j9 L7 x23 x6 x4))
theorem cK(t0 t1:AV)(L:SH)(Q:R)(h:cv t0 t1 L Q):am Try.prog 11 [t0,t1] L Q:=
 bC ⟨fun k=>if k=24 then some [2,4,6]else none,fun _=>[],fun k=>if k=0 then [2,3]else [],fun k=>if k=7 then [0,1,3,7,0,16,0,64,192,448,0,1024,0,4096,13311,29695,65535,131071]else if k=11 then [0,1,3,7,0,16,0,64,192,448,0,1024,0,4096,12288,28672,0,65536,258048,520192,0,1048576,3145728,7340032,0,16777216,66060288,133169152,267386880,536867839,1073738751,2147483647,4294967295]else if k=15 then [0,1,3,7,0,16,0,64,0,256,768,1792,0,4096,16128,32512,65472,131008,262080,262080,524287,1572863,4194303]else if k=16 then [0,1,3,7,0,16,0,64,192,448,0,1024,4032,8128,16320,32767,65535]else if k=20 then [0,1,3,7,0,16,0,64,0,256,768,1792,0,4096,16128,32512,0,65536,196608,458752,0,1048576,4128768,8323072,16777152,33554368,67108800,67108800,134217727,402653183,1073741823]else if k=21 then [0,1,3,7,0,16,0,64,192,448,0,1024,4032,8128,0,16384,49152,114688,0,262144,1032192,2080768,4194240,8388607,16777215]else []⟩ Try.func11 (by kernel_rfl) (by kernel_rfl) h
def rU(Q:R)(L36:SH)(x4:AV):Prop:=
 W.build [(.int .i64 0),.nils,.nils,(.int .i64 0)] [] fun x39=>
 W.store 4 x4 x39 L36 fun L40=>
 W.load true 4 x4 L40 fun x41=>
 Q (.tup [x41,(.bool false)]) L40
def rV(Q:R)(L78:SH)(x51:AV):Prop:=
 W.build [(.int .i64 0),.nils,.nils,(.int .i64 0)] [] fun x81=>
 W.store 4 x51 x81 L78 fun L82=>
 W.load true 4 x51 L82 fun x83=>
 Q (.tup [x83,(.bool false)]) L82
def rW(Q:R)(L129:SH)(x51:AV):Prop:=
 W.build [(.int .i64 0),.nils,.nils,(.int .i64 0)] [] fun x132=>
 W.store 4 x51 x132 L129 fun L133=>
 W.load true 4 x51 L133 fun x134=>
 Q (.tup [x134,(.bool false)]) L133
def rX(Q:R)(n47:Kn)(L108:SH)(x49 x52 x93 x50 x51:AV):Prop:=
 bo 1 x49 L108 fun x115=>
 W.len x115 fun x116=>
 wb .eql 3 x52 x116 fun x117=>
 wg x117 false (dy 6 x93 L108) L108 fun x118 L120=>
 W.grd x117 false (fun k123=>wc (.fn 11 []) [x50,x118] L120 fun x125 L126=>
 k123 x125 L126) L120 fun x122 L124=>
 wg x117 false (W.un .not x122) L124 fun x127 L129=>
 W.pick x117 (.bool true) x127 fun x131=>
 wk x131 (
 (rW Q L129 x51)) (
 wb .add 3 x52 (.int .i64 1) fun x135=>
 n47 [x49,x50,x51,x135] L129)
def rY(Q:R)(n47:Kn)(L78:SH)(x49 x50 x51 x52:AV):Prop:=
 bo 1 x49 L78 fun x85=>
 bo 0 x50 L78 fun x87=>
 ug 6 x85 x87 L78 fun x89=>
 xH [(.int .i64 0),(.int .i64 0),(.int .i64 0),(.int .i64 0),(.int .i64 0),(.int .i64 0)] 6 x89 L78 fun x93 L94=>
 bo 0 x93 L94 fun x96=>
 wb .lss 3 x96 (.int .i64 1) fun x97=>
 wg x97 false (W.faddr 0 x93) L94 fun x98 L100=>
 wg x97 false (wl x98 L100) L100 fun x102 L104=>
 wg x97 false (wb .gtr 3 x102 (.int .i64 5)) L104 fun x106 L108=>
 W.pick x97 (.bool true) x106 fun x110=>
 wk x110 (
 dy 4 x50 L108 fun x111=>
 W.store 4 x51 x111 L108 fun L112=>
 W.load true 4 x51 L112 fun x113=>
 Q (.tup [x113,(.bool true)]) L112) (
 (rX Q n47 L108 x49 x52 x93 x50 x51))
def e8(Q:R)(v46:Vs)(L48:SH)(n47:Kn):Prop:=
 EL 2 3 4 6 v46 fun x49 x50 x51 x52=>
 bo 0 x50 L48 fun x54=>
 wb .lss 3 x54 (.int .i64 0) fun x55=>
 wg x55 false (W.faddr 0 x50) L48 fun x56 L58=>
 wg x55 false (wl x56 L58) L58 fun x60 L62=>
 wg x55 false (W.faddr 1 x49) L62 fun x64 L66=>
 wg x55 false (wl x64 L66) L66 fun x68 L70=>
 wg x55 false (W.len x68) L70 fun x72 L74=>
 wg x55 false (wb .geq 3 x60 x72) L74 fun x76 L78=>
 W.pick x55 (.bool true) x76 fun x80=>
 wk x80 (
 (rV Q L78 x51)) (
 (rY Q n47 L78 x49 x50 x51 x52))
def rZ(Q:R)(x2 x6 x4 x43:AV)(L44:SH):Prop:=
 W.store 4 x2 x43 L44 fun L45=>
 W.loop (e8 Q) [x6,x2,x4,(.int .i64 0)] L45
def jC(t0 t1:AV)(L:SH)(Q:R):Prop:=
 W.box t0 L fun x0 L1=>
 W.box t1 L1 fun x2 L3=>
 W.alloc [(.int .i64 0),.nils,.nils,(.int .i64 0)] L3 fun x4 L5=>
 W.frz1 x0 L5 fun x6 L7=>
 bo 1 x2 L7 fun x9=>
 W.len x9 fun x10=>
 bo 0 x6 L7 fun x12=>
 wb .neq 3 x10 x12 fun x13=>
 wg x13 false (W.faddr 2 x2) L7 fun x14 L16=>
 wg x13 false (wl x14 L16) L16 fun x18 L20=>
 wg x13 false (W.len x18) L20 fun x22 L24=>
 wg x13 false (W.faddr 0 x6) L24 fun x26 L28=>
 wg x13 false (wl x26 L28) L28 fun x30 L32=>
 wg x13 false (wb .neq 3 x22 x30) L32 fun x34 L36=>
 W.pick x13 (.bool true) x34 fun x38=>
 wk x38 (
 (rU Q L36 x4)) (
 dy 4 x2 L36 fun x42=>
 wc (.fn 10 []) [x42] L36 (rZ Q x2 x6 x4))
theorem r8(t0 t1:AV)(L:SH)(Q:R)(h:jC t0 t1 L Q):am Try.prog 6 [t0,t1] L Q:=
 bC ⟨fun _=>none,fun k=>if k=6 then [2,3,4,6]else [],fun k=>if k=0 then [2]else if k=8 then [7]else [],fun _=>[]⟩ Try.func6 (by kernel_rfl) (by kernel_rfl) h
end Go.Proofs.Ytljkdffikfkcgaa.Am
end
section
namespace Go.Proofs.Ytljkdffikfkcgaa.Am
set_option maxRecDepth 100000
set_option linter.unusedVariables false
theorem Fr.perm{B:Nat}{L L' L'':SH}{H H':ah}(h:Fr B L H L' H')(hp:L'.Perm L''):Fr B L H L'' H':=
 ⟨h.next,h.bd,h.sub.perm hp,fun b x h1 h2=>⟨(h.keep b x h1 h2).1,fun hm=>(h.keep b x h1 h2).2 ((hp.map Prod.fst).mem_iff.2 hm)⟩,h.dom,fun b hb hlt=>h.fresh b ((hp.map Prod.fst).mem_iff.2 hb) hlt⟩
theorem am.perm{P:Program}{f:FuncId}{args:List AV}{L:SH}{Q:AV→SH→Prop}(h:am P f args L fun v L'=>∃L'',L'.Perm L''∧Q v L''):am P f args L Q:=⟨h.1,fun H hb hs=>by
 obtain⟨v,H',L',h1,h2,L'',hp,h3⟩:=h.2 H hb hs
 exact⟨v,H',L'',h1,h2.perm hp,h3⟩⟩
theorem pV.refl(K:SH):∀l:List AV,pV K l l
 | []=>.nil
 | a::l=>.cons (.refl a) (pV.refl K l)
theorem aV.row{vs:List AV}{L K R:SH}{b n:Nat}{rows rows':List (List AV)}(hL:L.Perm (K++(b,⟨n,rows⟩)::R))(hlen:rows.length=rows'.length)(hr:∀(j:Nat) (r r':List AV),rows[j]? =some r→rows'[j]? =some r'→pV K r r'):aV vs L vs ((b,⟨n,rows'⟩)::R):=by
 refine⟨K,(b,⟨n,rows⟩)::R,hL,⟨rfl,fun i a a2 h1 h2=>by rw[h1]at h2;cases h2;exact .refl _⟩,rfl,fun i p q h1 h2=>?_⟩
 match i with
 | 0=>
  cases h1;cases h2
  exact⟨rfl,rfl,hlen,fun j s s2 g1 g2=>(hr j s s2 g1 g2).at_⟩
 | i+1=>
  simp only[List.getElem?_cons_succ]at h1 h2
  rw[h1]at h2;cases h2
  exact⟨rfl,rfl,rfl,fun j r r2 h3 h4=>by rw[h3]at h4;cases h4;exact⟨rfl,fun k a a2 h5 h6=>by rw[h5]at h6;cases h6;exact .refl _⟩⟩
inductive xN:SH→SH→SH→Prop where
 | nil (L:SH):xN L [] L
 | one {b:Nat} {x:Blk} {L L' R K:SH}:dG b x L L'→xN L' R K→xN L ((b,x)::R) K
 | slot {o:Option Nat} {n:Nat} {rows:List (List AV)} {L L' R K:SH}:cW o n rows L L'→xN L' R K→xN L (ao o n rows++R) K
theorem xN.perm{L R K:SH}(h:xN L R K):L.Perm (K++R):=by
 induction h with
 | nil L=>simp
 | one hd hp ih=>exact(hd.perm.trans ((ih.cons _).trans List.perm_middle.symm))
 | slot hd hp ih=>
  refine hd.perm.trans ((ih.append_left _).trans ?_)
  rw[←List.append_assoc,←List.append_assoc]
  exact List.perm_append_comm.append_right _
theorem aV.pickE{vs vs2:List AV}{L R R2:SH}(h:ez L R)(hv:vs=vs2)(hR:R=R2):aV vs L vs2 R2:=by
 subst hR
 exact aV.pick h hv
theorem aV.rowA{vs vs2:List AV}{L A R K:SH}{b n:Nat}{rows rows':List (List AV)}(h:xN L (A++(b,⟨n,rows⟩)::R) K)(hlen:rows.length=rows'.length)(hr:∀(j:Nat) (r r':List AV),rows[j]? =some r→rows'[j]? =some r'→pV K r r')(hv:vs=vs2):aV vs L vs2 (A++(b,⟨n,rows'⟩)::R):=by
 subst hv
 refine⟨K,_,h.perm,⟨rfl,fun i a a2 h1 h2=>by rw[h1]at h2;cases h2;exact .refl _⟩,by simp,fun i p q h1 h2=>?_⟩
 have same:p=q→p.1=q.1∧p.2.size=q.2.size∧p.2.rows.length=q.2.rows.length∧∀(j:Nat) (r r2:List AV),p.2.rows[j]? =some r→q.2.rows[j]? =some r2→r.length=r2.length∧∀(k:Nat) (a a2:AV),r[k]? =some a→r2[k]? =some a2→Fz K a a2:=fun e=>by
  subst e
  exact⟨rfl,rfl,rfl,fun j r r2 h3 h4=>by rw[h3]at h4;cases h4;exact⟨rfl,fun k a a2 h5 h6=>by rw[h5]at h6;cases h6;exact .refl _⟩⟩
 rcases Nat.lt_or_ge i A.length with hi | hi
 ·rw[List.getElem?_append_left hi]at h1 h2
  rw[h1]at h2;cases h2
  exact same rfl
 ·rw[List.getElem?_append_right hi]at h1 h2
  generalize i-A.length=k at h1 h2
  match k with
  | 0=>
   cases h1;cases h2
   exact⟨rfl,rfl,hlen,fun j r r' g1 g2=>(hr j r r' g1 g2).at_⟩
  | k+1=>
   simp only[List.getElem?_cons_succ]at h1 h2
   rw[h1]at h2;cases h2
   exact same rfl
end Go.Proofs.Ytljkdffikfkcgaa.Am
end
section
namespace Go.Proofs.Ytljkdffikfkcgaa.Am
set_option linter.unusedVariables false
section
variable {KL:AV→SH→Prop} {L L':SH}
theorem Db{α:Type}{f:α→List AV}{l:List α}{b i n by_:Nat}{rows:List (List AV)}{L L':SH}{KL:AV→SH→Prop}(hd:dG b ⟨n,rows⟩ L L')(hn:∀x,(f x).length=n)(hr:rows.length=i)(h2:2*(i+l.length)*by_≤2^48)(h3:2*(i+l.length)≤2^62)(h4:∀x,(f x).all AV.one=true)
  (h:∀b',b'∉L.names→KL (.sl b' 0 (i+l.length)) ((b',⟨n,rows++l.map f⟩)::L')):W.append n by_ (.sl b 0 i) (.lst (l.map f)) L KL:=by
 have h4':((l.map f).all fun r=>r.all AV.one)=true:=by
  rw[List.all_eq_true]
  intro r hr
  obtain⟨x,_,rfl⟩:=List.mem_map.1 hr
  exact h4 x
 subst hr
 exact uc (y:=⟨n,rows⟩) (l:=rows) hd.mem' rfl (by simp) (by simp) (ud hn) (by simpa using h2) (by simpa using h3) h4' hd (fun b' hb=>by simpa using h b' hb)
end
theorem Dc{P:Program}{KL:AV→SH→Prop}{g:FuncId}{args:List AV}{L:SH}{R:AV→SH→Prop}(h:am P g args [] R)(hk:∀v K,R v K→KL v (L++K)):W.callM P g args L KL:=
 ⟨.perm (h.frame (K:=[]) (R:=L) (.refl _) fun u K hu=>⟨L++K,List.perm_append_comm,hk u K hu⟩)⟩
theorem Dd{α β:Type}{f:α→β}{l m:List α}{n:Nat}(h:l.take n=m):((l.map f).drop 0).take n=m.map f:=by
 rw[List.drop_zero,←List.map_take,h]
end Go.Proofs.Ytljkdffikfkcgaa.Am
end
section
namespace Go.Proofs.Ytljkdffikfkcgaa.Am
set_option maxRecDepth 100000
set_option linter.unusedSimpArgs false
set_option linter.unusedVariables false
set_option linter.unusedSectionVars false
theorem BP(xs:List Int)(hl:xs.length*8≤140737488355328):am Try.prog 22 [.lst (xs.map aJ)] [] fun v L=>∃o,v=dU o xs.length∧L=ao o 1 (xs.map aJ)∧(o=none→xs=[]):=by
 refine(BL (fun A n c xs w hf h1 hn hA=>cloneJ_any A n c xs w hf h1 hn hA) ⟨_,_,Try.func22,rfl⟩ (xs.map aJ) (by simp[aJ,AV.one]) (fun r hr=>by obtain⟨x,_,rfl⟩:=List.mem_map.1 hr;rfl) (by simpa using hl)).mono ?_
 rintro v L ⟨o,rfl,rfl,h⟩
 exact⟨o,by simp,rfl,fun e=>by simpa using h e⟩
theorem et(xs:List Int)(hl:xs.length*8≤140737488355328):aO Try.prog 23 [.lst (xs.map aJ)] (.lst (xs.map aJ)):=by
 refine am.fz ((BM xs hl).mono ?_)
 rintro v L ⟨o,rfl,rfl,ho⟩
 exact⟨_,[],aV.all (Fz.slot (f:=aJ) rfl (fun e=>by rw[ho e];rfl) (by decide) (fun y _=>rfl) (fun y _ q a a2 h1 h2=>by rw[h1]at h2;cases h2;exact .refl _)),rfl,rfl⟩
def Be(s:bK)(v:AV)(L:SH):Prop:=
 ∃(o t:Option Nat),v=.agg [.int .i64 s.pc,dU o s.regs.length,dU t s.taint.length,.int .i64 s.ev]∧L=ao o 1 (s.regs.map aJ)++ao t 1 (s.taint.map cC)∧(o=none→s.regs=[])∧(t=none→s.taint=[])
def jD(t:List (List Int))(k:Nat):List (List AV):=(t.take k).map cC++List.replicate (t.length-k) [.nils]
theorem BQ(t:List (List Int))(k:Nat)(hk:k≤t.length):(jD t k).length=t.length:=by simp[jD];omega
theorem De(t:List (List Int))(k:Nat)(hk:k<t.length):(jD t k)[k]? =some [.nils]:=by
 unfold jD
 have hl:((t.take k).map cC).length=k:=by simp;omega
 rw[List.getElem?_append_right (by omega),hl,Nat.sub_self]
 obtain⟨m,hm⟩:∃m,t.length-k=m+1:=⟨t.length-k-1,by omega⟩
 rw[hm];rfl
theorem xe(t:List (List Int))(k:Nat)(hk:k<t.length):(jD t k).set k (cC t[k])=jD t (k+1):=by
 unfold jD
 have hl:((t.take k).map cC).length=k:=by simp;omega
 rw[List.set_append_right _ _ (by omega),hl,Nat.sub_self]
 obtain⟨m,hm⟩:∃m,t.length-k=m+1:=⟨t.length-k-1,by omega⟩
 rw[hm,List.replicate_succ,List.set_cons_zero,List.take_succ_eq_append_getElem hk,show t.length-(k+1)=m by omega,List.map_append,List.append_assoc]
 rfl
theorem Al(s:bK)(h1:s.regs.length<2^40)(h2:s.taint.length<2^40)(h3:∀l∈s.taint,l.length≤2^30):am Try.prog 10 [.agg s.enc] [] (Be s):=by
 refine am.fz (tv _ _ _ ?_)
 unfold ko
 generalize hQ:(fun(v:AV) (L:SH)=>∃v2 L2,aV [v] L [v2] L2∧Be s v2 L2)=Q
 repeat' (first | refine st ?_ | refine sb (fun nb_ hnb_=>?_) | refine s2 (fun h=>?_) (fun h=>?_) | fail)
 rename_i b1 _
 revert nb_
 intro b2 _
 refine Dc (BP s.regs (by omega)) ?_
 rintro v K ⟨o,rfl,rfl,ho⟩
 unfold jB
 have fin:∀(bt:Nat) (L:SH),(∃x y:Blk,L=(bt,⟨1,s.taint.map cC⟩)::(b2,x)::(b1,y)::ao o 1 (s.regs.map aJ))→Q (.agg [.int .i64 s.pc,dU o s.regs.length,.sl bt 0 s.taint.length,.int .i64 s.ev]) L:=by
  rintro bt L ⟨x,y,rfl⟩
  subst hQ
  refine⟨_,_,aV.forget (K:=[(b2,x),(b1,y)]) (R:=ao o 1 (s.regs.map aJ)++[(bt,⟨1,s.taint.map cC⟩)]) ?_,o,some bt,rfl,rfl,ho,nofun⟩
  refine(List.Perm.trans (List.Perm.swap _ _ _) ?_)
  refine List.Perm.cons _ ((List.Perm.swap _ _ _).trans (List.Perm.cons _ ?_))
  exact(List.perm_append_comm (l₁:=[(bt,(⟨1,s.taint.map cC⟩:Blk))]) (l₂:=ao o 1 (s.regs.map aJ)))
 have loop:∀(bt:Nat) (y:Blk),y=⟨4,[[.int .i64 s.pc,dU o s.regs.length,.lst (s.taint.map cC),.int .i64 s.ev]]⟩→W.loop (fB Q) [.ptr b1 0 0,.ptr b2 0 0,.sl bt 0 s.taint.length,.lst (s.taint.map cC),.int .i64 s.taint.length,.int .i64 (0:Nat)] ((bt,⟨1,List.replicate s.taint.length [.nils]⟩)::(b2,⟨4,[[.int .i64 0,.nils,.nils,.int .i64 0]]⟩)::(b1,y)::ao o 1 (s.regs.map aJ)):=by
  intro bt y hy
  subst hy
  refine cH s.taint.length (fun k (_:Unit)=>([.ptr b1 0 0,.ptr b2 0 0,.sl bt 0 s.taint.length,.lst (s.taint.map cC),.int .i64 s.taint.length,.int .i64 k],(bt,⟨1,jD s.taint k⟩)::(b2,⟨4,[[.int .i64 0,.nils,.nils,.int .i64 0]]⟩)::(b1,⟨4,[[.int .i64 s.pc,dU o s.regs.length,.lst (s.taint.map cC),.int .i64 s.ev]]⟩)::ao o 1 (s.regs.map aJ))) (fun _ _=>True) () trivial (uS rfl (by simp[jD])) ?_
  intro k _ hk _
  dsimp only
  unfold fB
  rcases Nat.lt_or_ge k s.taint.length with g1 | g1
  ·have hd:=ct g1
   have hx:=aC (f:=cC) g1
   have hz:=De s.taint k g1
   have hkl:k<(jD s.taint k).length:=by rw[BQ _ _ hk];exact g1
   have hrk:(s.taint[k]).length*8≤140737488355328:=by have:=h3 _ (List.getElem_mem g1);omega
   cases o with
   | none=>
    dsimp only[ao,dU]
    repeat' (first | refine st ?_ | ((with_reducible refine aq 23 ?_);refine aj (et _ hrk) ?_) | ((with_reducible refine al 23 ?_);refine ab (et _ hrk) ?_) | unfold fy | refine sb (fun nb_ hnb_=>?_) | refine s2 (fun h=>?_) (fun h=>?_) | fail)
    exact⟨k+1,(),by omega,by omega,trivial,uS (by rw[bH g1 (by omega)]<;>rfl) (by rw[←xe _ _ g1];rfl)⟩
   | some b'=>
    dsimp only[ao,dU]
    repeat' (first | refine st ?_ | ((with_reducible refine aq 23 ?_);refine aj (et _ hrk) ?_) | ((with_reducible refine al 23 ?_);refine ab (et _ hrk) ?_) | unfold fy | refine sb (fun nb_ hnb_=>?_) | refine s2 (fun h=>?_) (fun h=>?_) | fail)
    exact⟨k+1,(),by omega,by omega,trivial,uS (by rw[bH g1 (by omega)]<;>rfl) (by rw[←xe _ _ g1];rfl)⟩
  ·have hd:=ee g1
   have hk0:k=s.taint.length:=by omega
   subst hk0
   have e:jD s.taint s.taint.length=s.taint.map cC:=by simp[jD]
   rw[e]
   cases o with
   | none=>
    dsimp only[ao,dU]at fin ⊢
    repeat' (first | refine st ?_ | refine sb (fun nb_ hnb_=>?_) | refine s2 (fun h=>?_) (fun h=>?_) | fail)
    exact fin _ _ ⟨_,_,rfl⟩
   | some b'=>
    dsimp only[ao,dU]at fin ⊢
    repeat' (first | refine st ?_ | refine sb (fun nb_ hnb_=>?_) | refine s2 (fun h=>?_) (fun h=>?_) | fail)
    exact fin _ _ ⟨_,_,rfl⟩
 cases o with
 | none=>
  dsimp only[ao,dU]at loop ⊢
  repeat' (first | refine st ?_ | refine sb (fun nb_ hnb_=>?_) | refine s2 (fun h=>?_) (fun h=>?_) | fail)
  exact loop _ _ rfl
 | some b'=>
  dsimp only[ao,dU]at loop ⊢
  repeat' (first | refine st ?_ | refine sb (fun nb_ hnb_=>?_) | refine s2 (fun h=>?_) (fun h=>?_) | fail)
  exact loop _ _ rfl
end Go.Proofs.Ytljkdffikfkcgaa.Am
end
section
namespace Go.Proofs.Ytljkdffikfkcgaa.Am
set_option maxRecDepth 100000
set_option linter.unusedSimpArgs false
set_option linter.unusedVariables false
set_option linter.unusedSectionVars false
theorem Df(a b:List Int)(ha:a.length≤2^30)(hb:b.length≤2^30):aO Try.prog 27 [.lst (a.map aJ),.lst (b.map aJ)] (.lst ((zQ (a++b)).map aJ)):=by
 refine am.fz (tu _ _ _ _ ?_)
 unfold km
 generalize hQ:(fun(v:AV) (L:SH)=>∃v2 L2,aV [v] L [v2] L2∧v2=AV.lst ((zQ (a++b)).map aJ)∧L2=[])=Q
 have hsum:IntKind.i64.wrap ((a.length:Int)+b.length)=((a.length+b.length:Nat):Int):=by rw[IntWalk.i64_in _ (by omega)];omega
 have fin:∀(bk:Nat) (L:SH),(bk,(⟨1,(Lib.compact (wv (a++b))++List.replicate ((a++b).length-(Lib.compact (wv (a++b))).length) 0).map aJ⟩:Blk))∈L→Q (.sl bk 0 (Lib.compact (wv (a++b))).length) L:=fun bk L hm=>by
  subst hQ
  refine⟨_,[],aV.all ?_,rfl,rfl⟩
  show Fz _ (.sl bk 0 (zQ (a++b)).length) (.lst ((zQ (a++b)).map aJ))
  rw[show(zQ (a++b)).map aJ=((((Lib.compact (wv (a++b))++List.replicate ((a++b).length-(Lib.compact (wv (a++b))).length) 0).map aJ).drop 0).take (zQ (a++b)).length)from(Dd (List.take_left' rfl)).symm]
  exact Fz.rows (x:=⟨1,_⟩) hm (by simp) (by simp[zQ])
 have h2:=fun bk:Nat=>EN bk (a++b) (by simp;omega)
 have h3:=fun bk:Nat=>Ak bk (wv (a++b)) (by rw[xK];simp;omega)
 simp only[xK]at h3
 repeat' (first | refine st ?_ | refine sb (fun nb_ hnb_=>?_) | refine s2 (fun h=>?_) (fun h=>?_) | fail)
 refine yV (i:=0) (j:=a.length+b.length) (by omega) (by omega) (by omega) (fun nb_ hnb_=>?_)
 repeat' (first | refine st ?_ | refine Db rp (fun _=>rfl) (by simp) (by simp;omega) (by simp;omega) (fun _=>rfl) (fun nb_ hnb_=>?_) | refine sb (fun nb_ hnb_=>?_) | refine s2 (fun h=>?_) (fun h=>?_) | fail)
 simp only[List.replicate,List.nil_append,←List.map_append,Nat.zero_add,←List.length_append]
 repeat' (first | refine st ?_ | ((with_reducible refine aq 38 ?_);(refine kS (h2 _) (.here _) ?_;rintro _ _ ⟨rfl,rfl⟩)) | ((with_reducible refine aq 39 ?_);(refine kS (h3 _) (.here _) ?_;rintro _ _ ⟨rfl,rfl⟩)) | refine sb (fun nb_ hnb_=>?_) | refine s2 (fun h=>?_) (fun h=>?_) | fail)
 exact fin _ _ rp
end Go.Proofs.Ytljkdffikfkcgaa.Am
end
section
namespace Go.Proofs.Ytljkdffikfkcgaa.Am
set_option maxRecDepth 100000
set_option linter.unusedSimpArgs false
set_option linter.unusedVariables false
def zi(p:Int×Bool):AV:=.tup [.int .i64 p.1,.bool p.2]
theorem qo(b:Bool):aO Try.prog 37 [.bool b] (.int .i64 (ir b)):=by
 refine wE _ _ _ ?_
 unfold pX
 cases b
 all_goals
  repeat' (first | refine st ?_ | refine sb (fun nb_ hnb_=>?_) | refine s2 (fun h=>?_) (fun h=>?_) | fail)
  exact⟨rfl,rfl⟩
theorem Dg(op a:Int):aO Try.prog 25 [.int .i64 op,.int .i64 a] (zi (BN op a)):=by
 refine wG _ _ _ _ ?_
 unfold pY
 generalize hQ:(fun(u:AV) (K:SH)=>u=zi (BN op a)∧K=[])=Q
 repeat' (first | refine st ?_ | ((with_reducible refine aq 37 ?_);refine aj (qo _) ?_) | ((with_reducible refine al 37 ?_);refine ab (qo _) ?_) | refine sb (fun nb_ hnb_=>?_) | refine s2 (fun h=>?_) (fun h=>?_) | fail)
 all_goals
  subst hQ
  refine⟨?_,rfl⟩
  simp_all[BN,zi]
theorem BR(op a b:Int):aO Try.prog 26 [.int .i64 op,.int .i64 a,.int .i64 b] (zi (rS op a b)):=by
 refine vc _ _ _ _ _ ?_
 unfold mC
 generalize hQ:(fun(u:AV) (K:SH)=>u=zi (rS op a b)∧K=[])=Q
 repeat' (first | refine st ?_ | ((with_reducible refine aq 37 ?_);refine aj (qo _) ?_) | ((with_reducible refine al 37 ?_);refine ab (qo _) ?_) | refine sb (fun nb_ hnb_=>?_) | refine s2 (fun h=>?_) (fun h=>?_) | fail)
 all_goals
  subst hQ
  refine⟨?_,rfl⟩
  simp_all[rS,zi]
end Go.Proofs.Ytljkdffikfkcgaa.Am
end
section
namespace Go.Proofs.Ytljkdffikfkcgaa.Am
set_option maxRecDepth 100000
set_option linter.unusedSimpArgs false
set_option linter.unusedVariables false
set_option linter.unusedSectionVars false
theorem dV{P:Program}{KL:AV→SH→Prop}{g:FuncId}{cs args:List AV}{L L':SH}{b:Nat}{x:Blk}{R:AV→SH→Prop}(h:am P g (args++cs) [(b,x)] R)(hd:dG b x L L')(hk:∀v K,R v K→KL v (K++L')):W.call P (.fn g cs) args L KL:=
 ⟨h.frame (K:=[(b,x)]) (R:=L') hd.perm fun u K hu=>hk u K hu⟩
def jl(s:bK)(o t:Option Nat):List AV:=[.int .i64 s.pc,dU o s.regs.length,dU t s.taint.length,.int .i64 s.ev]
def jR(s:bK)(bs:Nat)(o t:Option Nat):SH:=(bs,⟨4,[jl s o t]⟩)::(ao o 1 (s.regs.map aJ)++ao t 1 (s.taint.map cC))
def sa(r:Option bK)(bs:Nat)(o t:Option Nat)(v:AV)(L:SH):Prop:=
 match r with
 | none=>v=.bool false
 | some s2=>v=.bool true∧L=jR s2 bs o t
theorem Bf(s:bK)(bs:Nat)(o t:Option Nat)(ho:o=none→s.regs=[])(r:Int):am Try.prog 24 [.int .i64 r,.pptr [[.ptr bs 0 0]] 0 0] [(bs,⟨4,[jl s o t]⟩)] fun v L=>v=.bool (s.has r)∧L=[(bs,⟨4,[jl s o t]⟩)]:=by
 refine lg _ _ _ _ ?_
 unfold gj
 generalize hQ:(fun(v:AV) (L:SH)=>v=.bool (s.has r)∧L=[(bs,(⟨4,[jl s o t]⟩:Blk))])=Q
 cases o with
 | none=>
  have h0:=ho rfl
  unfold jl at hQ ⊢
  dsimp only[dU]at hQ ⊢
  repeat' (first | refine st ?_ | refine sb (fun nb_ hnb_=>?_) | refine s2 (fun h=>?_) (fun h=>?_) | fail)
  all_goals
   subst hQ
   refine⟨?_,rfl⟩
   simp_all[bK.has,inB]<;>omega
 | some b=>
  unfold jl at hQ ⊢
  dsimp only[dU]at hQ ⊢
  repeat' (first | refine st ?_ | refine sb (fun nb_ hnb_=>?_) | refine s2 (fun h=>?_) (fun h=>?_) | fail)
  all_goals
   subst hQ
   refine⟨?_,rfl⟩
   simp_all[bK.has,inB]<;>omega
theorem gY{s:bK}{r:Int}:s.has r=true↔∃k:Nat,r=k∧k<s.regs.length:=by
 unfold bK.has
 rw[gX]
 exact⟨fun⟨h1,h2⟩=>⟨r.toNat,by omega,by omega⟩,fun⟨k,h1,h2⟩=>by omega⟩
theorem gZ{o:Option Nat}{α:Type}{l:List α}{k:Nat}(h:o=none→l=[])(hk:k<l.length):∃b,o=some b:=by
 cases o with
 | none=>rw[h rfl]at hk;simp at hk
 | some b=>exact⟨b,rfl⟩
section
variable (s:bK) (bs:Nat) (o t:Option Nat) (ho:o=none→s.regs=[]) (ht:t=none→s.taint=[]) (hlen:s.taint.length=s.regs.length) (hsm:s.regs.length<2^40) (hsh:∀l∈s.taint,l.length≤2^30) (ia ib ic n site:Int)
include ho ht hlen hsm hsh
theorem GL:am Try.prog 11 [.ptr bs 0 0,.agg (aw.mk 5 ia ib ic n site).enc] (jR s bs o t) (sa (bu ⟨5,ia,ib,ic,n,site⟩ s) bs o t):=by
 refine cK _ _ _ _ ?_
 unfold cv
 generalize hQ:sa (bu ⟨5,ia,ib,ic,n,site⟩ s) bs o t=Q
 unfold jR
 repeat' (first | refine st ?_ | refine sb (fun nb_ hnb_=>?_) | refine s2 (fun h=>?_) (fun h=>?_) | fail)
 subst hQ
 exact⟨rfl,rfl⟩
theorem GM:am Try.prog 11 [.ptr bs 0 0,.agg (aw.mk 1 ia ib ic n site).enc] (jR s bs o t) (sa (bu ⟨1,ia,ib,ic,n,site⟩ s) bs o t):=by
 have hex:=fun r=>Bf s bs o t ho r
 refine am.fz (cK _ _ _ _ ?_)
 unfold cv
 generalize hQ:(fun(v:AV) (L:SH)=>∃v2 L2,aV [v] L [v2] L2∧sa (bu ⟨1,ia,ib,ic,n,site⟩ s) bs o t v2 L2)=Q
 cases ha:s.has ia with
 | false=>
  have e:bu ⟨1,ia,ib,ic,n,site⟩ s=none:=by simp[bu,ha]
  unfold jR
  repeat' (first | refine st ?_ | (refine rQ (dV (hex _) (.here _) ?_);rintro _ _ ⟨rfl,rfl⟩;(try rw[ha])) | refine sb (fun nb_ hnb_=>?_) | refine s2 (fun h=>?_) (fun h=>?_) | fail)
  subst hQ
  rw[e]
  exact⟨_,[],aV.all (.refl _),rfl⟩
 | true=>
  have e:bu ⟨1,ia,ib,ic,n,site⟩ s=some (s.put ia n []):=by simp[bu,ha]
  rw[e]at hQ
  obtain⟨a,rfl,hal⟩:=gY.1 ha
  obtain⟨b1,rfl⟩:=gZ ho hal
  obtain⟨b2,rfl⟩:=gZ ht (k:=a) (by omega)
  have hal2:a<s.taint.length:=by omega
  have hxa:=aC (f:=aJ) hal
  have hya:=aC (f:=cC) hal2
  unfold jR
  dsimp only[ao,List.cons_append,List.nil_append]
  repeat' (first | refine st ?_ | (refine rQ (dV (hex _) (.here _) ?_);rintro _ _ ⟨rfl,rfl⟩;first | rw[ha]) | refine sb (fun nb_ hnb_=>?_) | refine s2 (fun h=>?_) (fun h=>?_) | fail)
  subst hQ
  refine⟨_,_,?_,rfl,rfl⟩
  have e1:(s.put a n []).regs.map aJ=(s.regs.map aJ).set a [.int .i64 n]:=by simp[bK.put,List.map_set,aJ]
  have e2:(s.put a n []).taint.map cC=(s.taint.map cC).set a [.lst []]:=by simp[bK.put,List.map_set,cC]
  have e3:jl (s.put a n []) (some b1) (some b2)=[.int .i64 (IntKind.i64.wrap (s.pc+1)),.sl b1 0 s.regs.length,.sl b2 0 s.taint.length,.int .i64 s.ev]:=by simp[jl,bK.put,dU]
  unfold jR
  rw[e1,e2,e3]
  dsimp only[ao,List.cons_append,List.nil_append]
  refine aV.rowA (K:=[]) (A:=[(bs,_),(b1,_)]) (b:=b2) (R:=[]) (rows:=(s.taint.map cC).set a [.nils]) (rows':=(s.taint.map cC).set a [.lst []]) rp (by simp) (fun j r r' q1 q2=>?_) rfl
  rw[List.getElem?_set]at q1 q2
  by_cases hj:a=j
  ·rw[if_pos hj]at q1 q2
   rw[if_pos (by simp;omega)]at q1 q2
   cases q1;cases q2
   exact .cons .nils .nil
  ·rw[if_neg hj]at q1 q2
   rw[q1]at q2;cases q2
   exact pV.refl _ _
theorem GN:am Try.prog 11 [.ptr bs 0 0,.agg (aw.mk 2 ia ib ic n site).enc] (jR s bs o t) (sa (bu ⟨2,ia,ib,ic,n,site⟩ s) bs o t):=by
 have hex:=fun r=>Bf s bs o t ho r
 refine cK _ _ _ _ ?_
 unfold cv
 generalize hQ:sa (bu ⟨2,ia,ib,ic,n,site⟩ s) bs o t=Q
 cases ha:s.has ia with
 | false=>
  have e:bu ⟨2,ia,ib,ic,n,site⟩ s=none:=by simp[bu,ha]
  unfold jR
  repeat' (first | refine st ?_ | (refine rQ (dV (hex _) (.here _) ?_);rintro _ _ ⟨rfl,rfl⟩;first | rw[ha]) | refine sb (fun nb_ hnb_=>?_) | refine s2 (fun h=>?_) (fun h=>?_) | fail)
  subst hQ
  rw[e];rfl
 | true=>
  cases hb:s.has ib with
  | false=>
   have e:bu ⟨2,ia,ib,ic,n,site⟩ s=none:=by simp[bu,hb]
   unfold jR
   repeat' (first | refine st ?_ | (refine rQ (dV (hex _) (.here _) ?_);rintro _ _ ⟨rfl,rfl⟩;first | rw[ha] | rw[hb]) | refine sb (fun nb_ hnb_=>?_) | refine s2 (fun h=>?_) (fun h=>?_) | fail)
   subst hQ
   rw[e];rfl
  | true=>
   have e:bu ⟨2,ia,ib,ic,n,site⟩ s=some (s.put ia (s.reg ib) (s.tnt ib)):=by simp[bu,ha,hb]
   rw[e]at hQ
   obtain⟨a,rfl,hal⟩:=gY.1 ha
   obtain⟨b,rfl,hbl⟩:=gY.1 hb
   obtain⟨b1,rfl⟩:=gZ ho hal
   obtain⟨b2,rfl⟩:=gZ ht (k:=a) (by omega)
   have hal2:a<s.taint.length:=by omega
   have hxa:=aC (f:=aJ) hal
   have hya:=aC (f:=cC) hal2
   have hbl2:b<s.taint.length:=by omega
   have hxb:=aC (f:=aJ) hbl
   have hyb:=aC (f:=cC) hbl2
   have hcl:=et s.taint[b] (by have:=hsh _ (List.getElem_mem hbl2);omega)
   unfold jR
   dsimp only[ao,List.cons_append,List.nil_append]
   repeat' (first | refine st ?_ | (refine rQ (dV (hex _) (.here _) ?_);rintro _ _ ⟨rfl,rfl⟩;first | rw[ha] | rw[hb]) | ((with_reducible refine aq 23 ?_);refine aj (hcl) ?_) | ((with_reducible refine al 23 ?_);refine ab (hcl) ?_) | refine sb (fun nb_ hnb_=>?_) | refine s2 (fun h=>?_) (fun h=>?_) | fail)
   subst hQ
   refine⟨rfl,?_⟩
   simp[jR,bK.put,jl,bK.reg,bK.tnt,ao,List.getD,hbl,hbl2,List.map_set,aJ,cC]
theorem GO:am Try.prog 11 [.ptr bs 0 0,.agg (aw.mk 3 ia ib ic n site).enc] (jR s bs o t) (sa (bu ⟨3,ia,ib,ic,n,site⟩ s) bs o t):=by
 have hex:=fun r=>Bf s bs o t ho r
 refine cK _ _ _ _ ?_
 unfold cv
 generalize hQ:sa (bu ⟨3,ia,ib,ic,n,site⟩ s) bs o t=Q
 cases ha:s.has ia with
 | false=>
  have e:bu ⟨3,ia,ib,ic,n,site⟩ s=none:=by simp[bu,ha]
  unfold jR
  repeat' (first | refine st ?_ | (refine rQ (dV (hex _) (.here _) ?_);rintro _ _ ⟨rfl,rfl⟩;first | rw[ha]) | refine sb (fun nb_ hnb_=>?_) | refine s2 (fun h=>?_) (fun h=>?_) | fail)
  subst hQ
  rw[e];rfl
 | true=>
  cases hb:s.has ib with
  | false=>
   have e:bu ⟨3,ia,ib,ic,n,site⟩ s=none:=by simp[bu,hb]
   unfold jR
   repeat' (first | refine st ?_ | (refine rQ (dV (hex _) (.here _) ?_);rintro _ _ ⟨rfl,rfl⟩;first | rw[ha] | rw[hb]) | refine sb (fun nb_ hnb_=>?_) | refine s2 (fun h=>?_) (fun h=>?_) | fail)
   subst hQ
   rw[e];rfl
  | true=>
   have e:bu ⟨3,ia,ib,ic,n,site⟩ s=if(BN n (s.reg ib)).2 then some (s.put ia (BN n (s.reg ib)).1 (s.tnt ib))else none:=by simp[bu,ha,hb]
   rw[e]at hQ
   obtain⟨a,rfl,hal⟩:=gY.1 ha
   obtain⟨b,rfl,hbl⟩:=gY.1 hb
   obtain⟨b1,rfl⟩:=gZ ho hal
   obtain⟨b2,rfl⟩:=gZ ht (k:=a) (by omega)
   have hal2:a<s.taint.length:=by omega
   have hxa:=aC (f:=aJ) hal
   have hya:=aC (f:=cC) hal2
   have hbl2:b<s.taint.length:=by omega
   have hxb:=aC (f:=aJ) hbl
   have hyb:=aC (f:=cC) hbl2
   have hcl:=et s.taint[b] (by have:=hsh _ (List.getElem_mem hbl2);omega)
   have hun:=Dg n s.regs[b]
   have hrb:s.reg b=s.regs[b]:=by simp[bK.reg,List.getD,hbl]
   have htb:s.tnt b=s.taint[b]:=by simp[bK.tnt,List.getD,hbl2]
   rw[hrb,htb]at hQ
   generalize BN n s.regs[b]=p at hun hQ
   unfold zi at hun
   unfold jR
   dsimp only[ao,List.cons_append,List.nil_append]
   repeat' (first | refine st ?_ | (refine rQ (dV (hex _) (.here _) ?_);rintro _ _ ⟨rfl,rfl⟩;first | rw[ha] | rw[hb]) | ((with_reducible refine aq 23 ?_);refine aj (hcl) ?_) | ((with_reducible refine al 23 ?_);refine ab (hcl) ?_) | ((with_reducible refine aq 25 ?_);refine aj (hun) ?_) | ((with_reducible refine al 25 ?_);refine ab (hun) ?_) | refine sb (fun nb_ hnb_=>?_) | refine s2 (fun h=>?_) (fun h=>?_) | fail)
   subst hQ
   unfold sa
   cases hp:p.2 with
   | false=>rfl
   | true=>
    refine⟨rfl,?_⟩
    simp[jR,bK.put,jl,ao,List.map_set,aJ,cC]
theorem GP:am Try.prog 11 [.ptr bs 0 0,.agg (aw.mk 4 ia ib ic n site).enc] (jR s bs o t) (sa (bu ⟨4,ia,ib,ic,n,site⟩ s) bs o t):=by
 have hex:=fun r=>Bf s bs o t ho r
 refine cK _ _ _ _ ?_
 unfold cv
 generalize hQ:sa (bu ⟨4,ia,ib,ic,n,site⟩ s) bs o t=Q
 cases ha:s.has ia with
 | false=>
  have e:bu ⟨4,ia,ib,ic,n,site⟩ s=none:=by simp[bu,ha]
  unfold jR
  repeat' (first | refine st ?_ | (refine rQ (dV (hex _) (.here _) ?_);rintro _ _ ⟨rfl,rfl⟩;first | rw[ha]) | refine sb (fun nb_ hnb_=>?_) | refine s2 (fun h=>?_) (fun h=>?_) | fail)
  subst hQ
  rw[e];rfl
 | true=>
  cases hb:s.has ib with
  | false=>
   have e:bu ⟨4,ia,ib,ic,n,site⟩ s=none:=by simp[bu,hb]
   unfold jR
   repeat' (first | refine st ?_ | (refine rQ (dV (hex _) (.here _) ?_);rintro _ _ ⟨rfl,rfl⟩;first | rw[ha] | rw[hb]) | refine sb (fun nb_ hnb_=>?_) | refine s2 (fun h=>?_) (fun h=>?_) | fail)
   subst hQ
   rw[e];rfl
  | true=>
   cases hc:s.has ic with
   | false=>
    have e:bu ⟨4,ia,ib,ic,n,site⟩ s=none:=by simp[bu,hc]
    unfold jR
    repeat' (first | refine st ?_ | (refine rQ (dV (hex _) (.here _) ?_);rintro _ _ ⟨rfl,rfl⟩;first | rw[ha] | rw[hb] | rw[hc]) | refine sb (fun nb_ hnb_=>?_) | refine s2 (fun h=>?_) (fun h=>?_) | fail)
    subst hQ
    rw[e];rfl
   | true=>
    have e:bu ⟨4,ia,ib,ic,n,site⟩ s=if(rS n (s.reg ib) (s.reg ic)).2 then some (s.put ia (rS n (s.reg ib) (s.reg ic)).1 (zQ (s.tnt ib++s.tnt ic)))else none:=by simp[bu,ha,hb,hc]
    rw[e]at hQ
    obtain⟨a,rfl,hal⟩:=gY.1 ha
    obtain⟨b,rfl,hbl⟩:=gY.1 hb
    obtain⟨c,rfl,hcl⟩:=gY.1 hc
    obtain⟨b1,rfl⟩:=gZ ho hal
    obtain⟨b2,rfl⟩:=gZ ht (k:=a) (by omega)
    have hal2:a<s.taint.length:=by omega
    have hxa:=aC (f:=aJ) hal
    have hya:=aC (f:=cC) hal2
    have hbl2:b<s.taint.length:=by omega
    have hxb:=aC (f:=aJ) hbl
    have hyb:=aC (f:=cC) hbl2
    have hcl2:c<s.taint.length:=by omega
    have hxc:=aC (f:=aJ) hcl
    have hyc:=aC (f:=cC) hcl2
    have hun2:=Df s.taint[b] s.taint[c] (hsh _ (List.getElem_mem hbl2)) (hsh _ (List.getElem_mem hcl2))
    have hun:=BR n s.regs[b] s.regs[c]
    have hrb:s.reg b=s.regs[b]:=by simp[bK.reg,List.getD,hbl]
    have htb:s.tnt b=s.taint[b]:=by simp[bK.tnt,List.getD,hbl2]
    have hrc:s.reg c=s.regs[c]:=by simp[bK.reg,List.getD,hcl]
    have htc:s.tnt c=s.taint[c]:=by simp[bK.tnt,List.getD,hcl2]
    rw[hrb,htb,hrc,htc]at hQ
    generalize rS n s.regs[b] s.regs[c]=p at hun hQ
    generalize zQ (s.taint[b]++s.taint[c])=u at hun2 hQ
    unfold zi at hun
    unfold jR
    dsimp only[ao,List.cons_append,List.nil_append]
    repeat' (first | refine st ?_ | (refine rQ (dV (hex _) (.here _) ?_);rintro _ _ ⟨rfl,rfl⟩;first | rw[ha] | rw[hb] | rw[hc]) | ((with_reducible refine aq 27 ?_);refine aj (hun2) ?_) | ((with_reducible refine al 27 ?_);refine ab (hun2) ?_) | ((with_reducible refine aq 26 ?_);refine aj (hun) ?_) | ((with_reducible refine al 26 ?_);refine ab (hun) ?_) | refine sb (fun nb_ hnb_=>?_) | refine s2 (fun h=>?_) (fun h=>?_) | fail)
    subst hQ
    unfold sa
    cases hp:p.2 with
    | false=>rfl
    | true=>
     refine⟨rfl,?_⟩
     simp[jR,bK.put,jl,ao,List.map_set,aJ,cC]
end
end Go.Proofs.Ytljkdffikfkcgaa.Am
end
section
namespace Go.Proofs.Ytljkdffikfkcgaa.Am
set_option maxRecDepth 100000
set_option linter.unusedSimpArgs false
set_option linter.unusedVariables false
set_option linter.unusedSectionVars false
def Bg:List AV:=[.int .i64 0,.nils,.nils,.int .i64 0]
theorem xO{P:Program}{KL R1:AV→SH→Prop}{g:FuncId}{args:List AV}{L K R:SH}(h:am P g args K R1)(hL:L.Perm (K++R))(hq:∀v K',R1 v K'→KL v (R++K')):W.callM P g args L KL:=
 ⟨.perm (h.frame hL fun u K' hu=>⟨R++K',List.perm_append_comm,hq u K' hu⟩)⟩
theorem Dh(s:bK)(bs:Nat)(o t:Option Nat)(ho:o=none→s.regs=[])(ht:t=none→s.taint=[])(hlen:s.taint.length=s.regs.length)(hsm:s.regs.length<2^40)(hsh:∀l∈s.taint,l.length≤2^30)(i:aw)(h1:1≤i.op)(h5:i.op≤5):
  am Try.prog 11 [.ptr bs 0 0,.agg i.enc] (jR s bs o t) (sa (bu i s) bs o t):=by
 obtain⟨op,ia,ib,ic,n,site⟩:=i
 dsimp only at h1 h5
 obtain rfl | rfl | rfl | rfl | rfl:op=1∨op=2∨op=3∨op=4∨op=5:=by omega
 ·exact GM s bs o t ho ht hlen hsm hsh ia ib ic n site
 ·exact GN s bs o t ho ht hlen hsm hsh ia ib ic n site
 ·exact GO s bs o t ho ht hlen hsm hsh ia ib ic n site
 ·exact GP s bs o t ho ht hlen hsm hsh ia ib ic n site
 ·exact GL s bs o t ho ht hlen hsm hsh ia ib ic n site
theorem qp(s:bK)(a v:Int)(t:List Int):(s.put a v t).regs.length=s.regs.length∧(s.put a v t).taint.length=s.taint.length:=by simp[bK.put]
theorem BS{s s2:bK}{i:aw}(he:bu i s=some s2):s2.regs.length=s.regs.length∧s2.taint.length=s.taint.length:=by
 unfold bu at he
 split at he
 ·split at he
  ·cases he;exact qp _ _ _ _
  ·cases he
 ·split at he
  ·split at he
   ·cases he;exact qp _ _ _ _
   ·cases he
  ·split at he
   ·split at he
    ·cases he;exact qp _ _ _ _
    ·cases he
   ·split at he
    ·split at he
     ·cases he;exact qp _ _ _ _
     ·cases he
    ·cases he;exact⟨rfl,rfl⟩
theorem zj{α:Type}{K:SH}{f:α→List AV}{l:List α}{o:Option Nat}{n:Nat}(hn:n=l.length)(h0:o=none→l=[])(hm:∀b,o=some b→(b,(⟨1,l.map f⟩:Blk))∈K):Fz K (dU o n) (.lst (l.map f)):=by
 cases o with
 | none=>rw[h0 rfl];exact .refl _
 | some b=>exact Fz.sls (hm b rfl) rfl (by decide) hn
theorem ER{K:SH}{s:bK}{o t:Option Nat}(ho:o=none→s.regs=[])(ht:t=none→s.taint=[])(h:∀p∈ao o 1 (s.regs.map aJ)++ao t 1 (s.taint.map cC),p∈K):Fz K (.agg (jl s o t)) (.agg s.enc):=
 Fz.aggs (.cons (.refl _) (.cons (zj rfl ho fun b e=>h _ (by subst e;simp[ao])) (.cons (zj rfl ht fun b e=>h _ (by subst e;simp[ao])) (.cons (.refl _) .nil))))
theorem xP(K:SH):Fz K (.agg Bg) (.agg bK.zero.enc):=Fz.aggs (.cons (.refl _) (.cons .nils (.cons .nils (.cons (.refl _) .nil))))
theorem xQ{K:SH}{a b:AV}{ok:Bool}(h:Fz K a b):Fz K (.tup [a,.bool ok]) (.tup [b,.bool ok]):=.tup _ _ rfl fun i x y h1 h2=>by
 match i with
 | 0=>cases h1;cases h2;exact h
 | 1=>cases h1;cases h2;exact .refl _
 | i+2=>simp at h1
theorem Bh{ins:List aw}{k:Nat}{s:bK}(h:inB s.pc ins.length=false):dz ins k s=(bK.zero,false):=by cases k<;>simp[dz,h]
theorem Di{ins:List aw}{k:Nat}{s:bK}(h:inB s.pc ins.length=true)(h2:(ins.getD s.pc.toNat default).op<1∨5<(ins.getD s.pc.toNat default).op):dz ins k s=(s,true):=by cases k<;>simp only[dz,h,if_true,if_pos h2]
theorem Dj{ins:List aw}{k:Nat}{s:bK}(h:inB s.pc ins.length=true)(h2:¬((ins.getD s.pc.toNat default).op<1∨5<(ins.getD s.pc.toNat default).op))(h3:bu (ins.getD s.pc.toNat default) s=none):dz ins k s=(bK.zero,false):=by cases k<;>simp only[dz,h,if_true,if_neg h2,h3]
theorem Dk{ins:List aw}{s:bK}(h:inB s.pc ins.length=true)(h2:¬((ins.getD s.pc.toNat default).op<1∨5<(ins.getD s.pc.toNat default).op)):dz ins 0 s=(bK.zero,false):=by simp only[dz,h,if_true,if_neg h2]
theorem Dl{ins:List aw}{k:Nat}{s s2:bK}(h:inB s.pc ins.length=true)(h2:¬((ins.getD s.pc.toNat default).op<1∨5<(ins.getD s.pc.toNat default).op))(h3:bu (ins.getD s.pc.toNat default) s=some s2):dz ins (k+1) s=dz ins k s2:=by simp only[dz,h,if_true,if_neg h2,h3]
section
variable (c:lf) (s:bK) (U:List Int) (hU:U.length≤2^30) (hT:kj U s) (hc:c.ins.length<2^40) (o t:Option Nat) (ho:o=none→s.regs=[]) (ht:t=none→s.taint=[])
include hU hT hc ho ht
theorem zk(b3 b4:Nat)(Q:AV→SH→Prop)(hq:∀v L,Fz L v (C9 (dz c.ins c.ins.length s))→Q v L):
  W.loop (e8 Q) [.pptr [c.enc] 0 0,.ptr b3 0 0,.ptr b4 0 0,.int .i64 (0:Nat)] ((b4,⟨4,[Bg]⟩)::jR s b3 o t):=by
 refine cH c.ins.length (fun k (e:bK)=>([.pptr [c.enc] 0 0,.ptr b3 0 0,.ptr b4 0 0,.int .i64 k],(b4,⟨4,[Bg]⟩)::jR e b3 o t)) (fun k e=>kj U e∧(e.regs.length=s.regs.length∧e.taint.length=s.taint.length)∧dz c.ins (c.ins.length-k) e=dz c.ins c.ins.length s) s ⟨hT,⟨rfl,rfl⟩,rfl⟩ (.refl _ _) ?_
 intro k e hk ⟨he,⟨hl1,hl2⟩,hrun⟩
 rw[←hrun]at hq
 have ho':o=none→e.regs=[]:=fun x=>List.length_eq_zero_iff.1 (by rw[hl1,ho x];rfl)
 have ht':t=none→e.taint=[]:=fun x=>List.length_eq_zero_iff.1 (by rw[hl2,ht x];rfl)
 dsimp only
 unfold e8
 have zero:dz c.ins (c.ins.length-k) e=(bK.zero,false)→∀L,Q (.tup [.agg Bg,.bool false]) L:=fun h L=>hq _ _ (by rw[h];exact xQ (xP _))
 by_cases p1:e.pc<0
 ·have hd1:decide (e.pc<0)=true:=by simpa using p1
  have hz:=zero (Bh (by simp[inB];omega))
  unfold jR jl
  repeat' (first | refine st ?_ | refine sb (fun nb_ hnb_=>?_) | refine s2 (fun h=>?_) (fun h=>?_) | fail)
  exact hz _
 ·have hd1:decide (e.pc<0)=false:=by simpa using p1
  by_cases p2:(c.ins.length:Int)≤e.pc
  ·have hd2:decide ((c.ins.length:Int)≤e.pc)=true:=by simpa using p2
   have hz:=zero (Bh (by simp[inB];omega))
   unfold jR jl
   repeat' (first | refine st ?_ | refine sb (fun nb_ hnb_=>?_) | refine s2 (fun h=>?_) (fun h=>?_) | fail)
   exact hz _
  ·have hd2:decide ((c.ins.length:Int)≤e.pc)=false:=by simpa using p2
   have hin:inB e.pc c.ins.length=true:=by simp[inB];omega
   have hx:=Gk (f:=aw.enc) hin
   generalize hi:c.ins.getD e.pc.toNat default=i at hx
   by_cases p3:i.op<1∨5<i.op
   ·have hr:=Di (k:=c.ins.length-k) hin (by rw[hi];exact p3)
    rw[hr]at hq
    have fin:∀x,Q (.tup [.agg (jl e o t),.bool true]) ((b4,x)::jR e b3 o t):=fun x=>hq _ _ (xQ (ER ho' ht' fun p hp=>by unfold jR;exact .tail _ (.tail _ hp)))
    unfold jR jl at fin ⊢
    by_cases p4:i.op<1
    ·have q1:decide (i.op<1)=true:=by simpa using p4
     rcases o with _ | b1<;>rcases t with _ | b2
     all_goals
      dsimp only[dU,ao,List.cons_append,List.nil_append]at fin ⊢
      repeat' (first | refine st ?_ | refine sb (fun nb_ hnb_=>?_) | refine s2 (fun h=>?_) (fun h=>?_) | fail)
      exact fin _
    ·have q1:decide (i.op<1)=false:=by simpa using p4
     have q2:decide (5<i.op)=true:=by simp;omega
     rcases o with _ | b1<;>rcases t with _ | b2
     all_goals
      dsimp only[dU,ao,List.cons_append,List.nil_append]at fin ⊢
      repeat' (first | refine st ?_ | refine sb (fun nb_ hnb_=>?_) | refine s2 (fun h=>?_) (fun h=>?_) | fail)
      exact fin _
   ·have q1:decide (i.op<1)=false:=by simp;omega
    have q2:decide (5<i.op)=false:=by simp;omega
    by_cases p5:k=c.ins.length
    ·have q3:decide ((k:Int)=(c.ins.length:Int))=true:=by simp[p5]
     have hz:=zero (by rw[p5,Nat.sub_self];exact Dk hin (by rw[hi];exact p3))
     unfold jR jl
     repeat' (first | refine st ?_ | refine sb (fun nb_ hnb_=>?_) | refine s2 (fun h=>?_) (fun h=>?_) | fail)
     exact hz _
    ·have q3:decide ((k:Int)=(c.ins.length:Int))=false:=by simp;omega
     have hex:=Dh e b3 o t ho' ht' he.len he.small he.short i (by omega) (by omega)
     obtain⟨m,hm⟩:∃m,c.ins.length-k=m+1:=⟨c.ins.length-k-1,by omega⟩
     cases hst:bu i e with
     | none=>
      have hz:=zero (Dj hin (by rw[hi];exact p3) (by rw[hi];exact hst))
      rw[hst]at hex
      change am _ _ _ _ (fun v L=>v=AV.bool false)at hex
      unfold jR jl
      repeat' (first | refine st ?_ | ((with_reducible refine aq 11 ?_);(refine xO hex (List.perm_append_comm (l₁:=[(b4,_)]) (l₂:=jR e b3 o t)) ?_;rintro _ K' rfl)) | refine sb (fun nb_ hnb_=>?_) | refine s2 (fun h=>?_) (fun h=>?_) | fail)
      exact hz _
     | some s2=>
      rw[hst]at hex
      change am _ _ _ _ (fun v L=>v=AV.bool true∧L=jR s2 b3 o t)at hex
      have hrun2:dz c.ins (c.ins.length-(k+1)) s2=dz c.ins c.ins.length s:=by
       rw[←hrun,hm,Dl hin (by rw[hi];exact p3) (by rw[hi];exact hst),show c.ins.length-(k+1)=m by omega]
      have hls:=BS hst
      unfold jR jl
      repeat' (first | refine st ?_ | ((with_reducible refine aq 11 ?_);(refine xO hex (List.perm_append_comm (l₁:=[(b4,_)]) (l₂:=jR e b3 o t)) ?_;rintro _ _ ⟨rfl,rfl⟩)) | refine sb (fun nb_ hnb_=>?_) | refine s2 (fun h=>?_) (fun h=>?_) | fail)
      exact⟨k+1,s2,by omega,by omega,⟨he.step hU hst,⟨by omega,by omega⟩,hrun2⟩,uS (by rw[bH (by omega:k<c.ins.length) (by omega)]<;>rfl) rfl⟩
end
end Go.Proofs.Ytljkdffikfkcgaa.Am
end
section
namespace Go.Proofs.Ytljkdffikfkcgaa.Am
set_option maxRecDepth 100000
set_option linter.unusedSimpArgs false
set_option linter.unusedVariables false
set_option linter.unusedSectionVars false
theorem Dm{U:List Int}(hU:U.length≤2^30){ins:List aw}:∀(k:Nat) {s:bK},kj U s→kj U (dz ins k s).1:=by
 have hz:kj U bK.zero:=⟨rfl,by decide,nofun,nofun⟩
 intro k
 induction k with
 | zero=>
  intro s h
  unfold dz
  split
  ·split
   ·exact h
   ·exact hz
  ·exact hz
 | succ k ih=>
  intro s h
  unfold dz
  split
  ·split
   ·exact h
   ·split
    ·exact hz
    ·rename_i s2 he
     exact ih (h.step hU he)
  ·exact hz
theorem zl{U:List Int}(hU:U.length≤2^30){c:lf}{s:bK}(h:kj U s):kj U (cg c s).1:=by
 unfold cg
 split
 ·exact Dm hU _ h
 ·exact⟨rfl,by decide,nofun,nofun⟩
section
variable (c:lf) (s:bK) (U:List Int) (hU:U.length≤2^30) (hr:s.regs.length<2^40) (ht:s.taint.length<2^40) (hsh:∀l∈s.taint,l.length≤2^30) (hsub:∀l∈s.taint,∀x∈l,x∈U) (hc:c.ins.length<2^40)
include hU hr ht hsh hsub hc
theorem xf:aO Try.prog 6 [.agg c.enc,.agg s.enc] (C9 (cg c s)):=by
 refine am.fz (r8 _ _ _ _ ?_)
 unfold jC
 generalize hQ:(fun(v:AV) (L:SH)=>∃v2 L2,aV [v] L [v2] L2∧v2=C9 (cg c s)∧L2=[])=Q
 have hq:∀v L,Fz L v (C9 (cg c s))→Q v L:=fun v L h=>by
  subst hQ;exact⟨_,[],aV.all h,rfl,rfl⟩
 clear hQ
 by_cases p1:(s.regs.length:Int)=c.regs
 ·have d1:decide ((s.regs.length:Int)≠c.regs)=false:=by simpa using p1
  by_cases p2:(s.taint.length:Int)=c.regs
  ·have d2:decide ((s.taint.length:Int)≠c.regs)=false:=by simpa using p2
   have hT:kj U s:=⟨by omega,hr,hsh,hsub⟩
   have e:cg c s=dz c.ins c.ins.length s:=by unfold cg;rw[if_pos ⟨p1,p2⟩]
   rw[e]at hq
   have hcl:=Al s hr ht hsh
   repeat' (first | refine st ?_ | ((with_reducible refine aq 10 ?_);(refine xO (K:=[]) hcl (List.Perm.refl _) ?_;rintro _ _ ⟨o,t,rfl,rfl,ho,ht2⟩)) | refine sb (fun nb_ hnb_=>?_) | refine s2 (fun h=>?_) (fun h=>?_) | fail)
   rename_i b3 _
   rcases o with _ | b1<;>rcases t with _ | b2
   all_goals
    repeat' (first | refine st ?_ | refine sb (fun nb_ hnb_=>?_) | refine s2 (fun h=>?_) (fun h=>?_) | fail)
    exact zk c s U hU hT hc _ _ ho ht2 b3 nb_ Q hq
  ·have d2:decide ((s.taint.length:Int)≠c.regs)=true:=by simpa using p2
   have e:cg c s=(bK.zero,false):=by unfold cg;rw[if_neg (fun h=>p2 h.2)]
   rw[e]at hq
   repeat' (first | refine st ?_ | refine sb (fun nb_ hnb_=>?_) | refine s2 (fun h=>?_) (fun h=>?_) | fail)
   exact hq _ _ (xQ (xP _))
 ·have d1:decide ((s.regs.length:Int)≠c.regs)=true:=by simpa using p1
  have e:cg c s=(bK.zero,false):=by unfold cg;rw[if_neg (fun h=>p1 h.1)]
  rw[e]at hq
  repeat' (first | refine st ?_ | refine sb (fun nb_ hnb_=>?_) | refine s2 (fun h=>?_) (fun h=>?_) | fail)
  exact hq _ _ (xQ (xP _))
end
end Go.Proofs.Ytljkdffikfkcgaa.Am
end
section
namespace Go.Proofs.Ytljkdffikfkcgaa.Am
set_option maxRecDepth 100000
set_option maxHeartbeats 1000000
set_option linter.unusedVariables false
def BT(n:Int):List AV:=[.int .u8 n]
def eK{α:Type}(z:α)(n:Nat)(l:List α):List α:=l.take n++List.replicate (n-l.length) z
def zm{α:Type}(z:α)(n:Nat)(l:List α)(i:Nat):List α:=l.take i++List.replicate (n-i) z
theorem Bi{α:Type}{z:α}{n i:Nat}{l:List α}(h1:i≤n)(h2:i≤l.length):(zm z n l i).length=n:=by simp[zm];omega
theorem Bj{α:Type}{z:α}{n i:Nat}{l:List α}(h1:i≤n)(h2:i≤l.length)(h:i=n∨i=l.length):zm z n l i=eK z n l:=by
 unfold zm eK
 rcases h with rfl | rfl
 ·simp[show i-l.length=0 by omega]
 ·rw[List.take_of_length_le (Nat.le_refl _),List.take_of_length_le h1]
theorem ES{α β:Type}{z:α}{n i:Nat}{l:List α}(f:α→β)(h1:i<n)(h2:i<l.length):((zm z n l i).map f).set i (f l[i])=(zm z n l (i+1)).map f:=by
 unfold zm
 obtain⟨m,hm⟩:∃m,n-i=m+1:=⟨n-i-1,by omega⟩
 have hl:((l.take i).map f).length=i:=by simp;omega
 rw[hm,show n-(i+1)=m by omega,List.replicate_succ,List.take_succ_eq_append_getElem h2,List.map_append,List.map_append,List.set_append_right _ _ (by omega),hl,Nat.sub_self,List.map_append,List.append_assoc]
 rfl
theorem Dn{K:SH}{A B:List (List AV)}{x y:List AV}(h:pV K x y)(j:Nat)(r r':List AV)(h1:(A++x::B)[j]? =some r)(h2:(A++y::B)[j]? =some r'):pV K r r':=by
 rcases Nat.lt_or_ge j A.length with hj | hj
 ·rw[List.getElem?_append_left hj]at h1 h2
  rw[h1]at h2;cases h2
  exact pV.refl _ _
 ·rw[List.getElem?_append_right hj]at h1 h2
  generalize j-A.length=k at h1 h2
  match k with
  | 0=>cases h1;cases h2;exact h
  | k+1=>
   simp only[List.getElem?_cons_succ]at h1 h2
   rw[h1]at h2;cases h2
   exact pV.refl _ _
theorem kT{α:Type}{z:α}{n:Nat}{l:List α}:(eK z n l).length=n:=by simp[eK];omega
def Jf(c:lf)(n:Nat)(pc:Int)(regs taint:List Int):bK:=⟨pc.tmod c.ins.length,eK 0 n regs,eK [] n (taint.map fun x=>[x]),0⟩
def ET(x:Int):List AV:=[.lst [aJ x]]
def dq(n:Nat)(l:List Int)(i:Nat):List (List AV):=(l.take i).map ET++List.replicate (n-i) [.nils]
theorem sd{n i:Nat}{l:List Int}(h1:i≤n)(h2:i≤l.length):(dq n l i).length=n:=by simp[dq];omega
theorem BU{n i:Nat}{l:List Int}{v:AV}(h1:i<n)(h2:i<l.length):(dq n l i).set i [v]=(l.take i).map ET++[v]::List.replicate (n-(i+1)) [.nils]:=by
 unfold dq
 obtain⟨m,hm⟩:∃m,n-i=m+1:=⟨n-i-1,by omega⟩
 rw[hm,show n-(i+1)=m by omega,List.replicate_succ,List.set_append_right _ _ (by simp;omega)]
 simp[Nat.min_eq_left (Nat.le_of_lt h2)]
theorem An{n i:Nat}{l:List Int}(h1:i<n)(h2:i<l.length):dq n l (i+1)=(l.take i).map ET++ET l[i]::List.replicate (n-(i+1)) [.nils]:=by
 unfold dq
 rw[List.take_succ_eq_append_getElem h2,List.map_append,List.append_assoc]
 rfl
def EU(l:List Int):List AV:=if l=[]then [.nils]else cC l
theorem BV{n i:Nat}{l:List Int}:dq n l i=(zm [] n (l.map fun x=>[x]) i).map EU:=by
 unfold dq zm
 rw[List.map_append,List.map_replicate,←List.map_take,List.map_map]
 rfl
section
variable {Q:R} {n:Nat} {ins:List aw} {regs taint:List Int} {b2 bp bR bT:Nat} {pc:Int}
def zn(b2 bR bT:Nat)(rs:List Int)(ts:List (List AV)):SH:=(bT,⟨1,ts⟩)::(bR,⟨1,rs.map aJ⟩)::[(b2,⟨4,[[.int .i64 0,.nils,.nils,.int .i64 0]]⟩)]
theorem GQ(hn:n<2^30)(ht:taint.length<2^63)(ht2:∀x∈taint,0≤x∧x<256)(rs:List Int)(hrs:rs.length=n)
  (hq:∀L:SH,aV [.agg [.int .i64 pc,.sl bR 0 n,.sl bT 0 n,.int .i64 0]] L [.agg [.int .i64 pc,.sl bR 0 n,.lst ((eK [] n (taint.map fun x=>[x])).map cC),.int .i64 0]] [(bR,⟨1,rs.map aJ⟩)]→Q (.agg [.int .i64 pc,.sl bR 0 n,.sl bT 0 n,.int .i64 0]) L) :
  W.loop (eI Q) [.lst (taint.map BT),.pptr [[.int .i64 n,.lst (ins.map aw.enc)]] 0 0,.ptr b2 0 0,.pptr [[.int .i64 pc,.sl bR 0 n,.sl bT 0 n,.int .i64 0]] 0 0,.int .i64 0] (zn b2 bR bT rs (dq n taint 0)):=by
 refine cH (β:=Unit) (min n taint.length) (fun i _=>([.lst (taint.map BT),.pptr [[.int .i64 n,.lst (ins.map aw.enc)]] 0 0,.ptr b2 0 0,.pptr [[.int .i64 pc,.sl bR 0 n,.sl bT 0 n,.int .i64 0]] 0 0,.int .i64 i],zn b2 bR bT rs (dq n taint i))) (fun _ _=>True) () trivial (.refl _ _) ?_
 intro i _ hi _
 dsimp only
 unfold eI
 generalize hnx:(fun(vs':List AV) (L':SH)=>∃j o',i<j∧j≤min n taint.length∧_)=nx
 have hx:=fun h:i<taint.length=>aC (f:=BT) h
 have hfz:(i=n∨i=taint.length)→∀b:Nat×Blk,Fz [(bT,⟨1,dq n taint i⟩),b] (.sl bT 0 n) (.lst ((eK [] n (taint.map fun x=>[x])).map cC)):=fun he b=>by
  have hl:(taint.map fun x=>[x]).length=taint.length:=by simp
  rw[←Bj (z:=[]) (l:=taint.map fun x=>[x]) (show i≤n by omega) (by omega) (by omega)]
  refine Fz.slm (f:=EU) (size:=1) (.head _) BV (by decide) (by rw[Bi (by omega) (by omega)]) (fun y _=>by unfold EU;split<;>rfl) (fun y _ q a a2 h1 h2=>?_)
  unfold EU at h1
  split at h1
  ·rename_i hy
   subst hy
   match q with
   | 0=>cases h1;cases h2;exact .nils
   | q+1=>simp at h1
  ·rw[h1]at h2;cases h2;exact .refl _
 unfold zn
 by_cases g1:i<n
 ·by_cases g2:i<taint.length
  ·have hd1:=ct g1
   have hd2:=ct g2
   have hx:=hx g2
   have hi1:=bH g1 (by omega)
   have hb:=ht2 _ (List.getElem_mem g2)
   have hcv:IntKind.i64.wrap taint[i]=taint[i]:=IntWalk.i64_in _ (by omega)
   have hrow:(dq n taint i)[i]? =some [.nils]:=by
    unfold dq
    rw[List.getElem?_append_right (by simp;omega)]
    simp only[List.length_map,List.length_take,Nat.min_eq_left hi,Nat.min_eq_left (Nat.le_of_lt g2),Nat.sub_self]
    obtain⟨m,hm⟩:∃m,n-i=m+1:=⟨n-i-1,by omega⟩
    rw[hm];rfl
   have hlen:(dq n taint i).length=n:=sd (by omega) (by omega)
   repeat' (first | refine st ?_ | refine sb (fun nb_ hnb_=>?_) | refine s2 (fun h=>?_) (fun h=>?_) | fail)
   subst hnx
   refine⟨i+1,(),by omega,by omega,trivial,?_⟩
   refine aV.rowA (A:=[]) (b:=bT) (rows:=(dq n taint i).set i [.sl nb_ 0 1]) (rows':=dq n taint (i+1)) (.one (.there _ (.here _)) (.one (.there _ (.here _)) (.one (.there _ (.here _)) (.nil _)))) (by rw[List.length_set,sd (by omega) (by omega),sd (by omega) (by omega)]) ?_ rfl
   rw[BU g1 g2,An g1 g2]
   exact Dn (.cons (Fz.sls (l:=[taint[i]]) (f:=aJ) (size:=1) (.head _) (by rw[hcv];rfl) (by decide) rfl) .nil)
  ·have hd1:=ct g1
   have hd2:decide ((i:Int)<(taint.length:Int))=false:=by simp;omega
   repeat' (first | refine st ?_ | refine sb (fun nb_ hnb_=>?_) | refine s2 (fun h=>?_) (fun h=>?_) | fail)
   refine hq _ ?_
   exact aV.drop (K:=[(bT,⟨1,dq n taint i⟩),(b2,⟨4,[[.int .i64 pc,.sl bR 0 n,.sl bT 0 n,.int .i64 0]]⟩)]) (.cons _ (.swap _ _ _)) rfl (pV.cons (Fz.aggs (.cons (.refl _) (.cons (.refl _) (.cons (hfz (.inr (by omega)) _) (.cons (.refl _) .nil))))) .nil).at_.2
 ·have hd1:decide ((i:Int)<(n:Int))=false:=by simp;omega
  repeat' (first | refine st ?_ | refine sb (fun nb_ hnb_=>?_) | refine s2 (fun h=>?_) (fun h=>?_) | fail)
  refine hq _ ?_
  exact aV.drop (K:=[(bT,⟨1,dq n taint i⟩),(b2,⟨4,[[.int .i64 pc,.sl bR 0 n,.sl bT 0 n,.int .i64 0]]⟩)]) (.cons _ (.swap _ _ _)) rfl (pV.cons (Fz.aggs (.cons (.refl _) (.cons (.refl _) (.cons (hfz (.inl (by omega)) _) (.cons (.refl _) .nil))))) .nil).at_.2
theorem GR(hn:n<2^30)(hr:regs.length<2^63)(ht:taint.length<2^63)(ht2:∀x∈taint,0≤x∧x<256)
  (hq:∀L:SH,aV [.agg [.int .i64 pc,.sl bR 0 n,.sl bT 0 n,.int .i64 0]] L [.agg [.int .i64 pc,.sl bR 0 n,.lst ((eK [] n (taint.map fun x=>[x])).map cC),.int .i64 0]] [(bR,⟨1,(eK 0 n regs).map aJ⟩)]→Q (.agg [.int .i64 pc,.sl bR 0 n,.sl bT 0 n,.int .i64 0]) L) :
  W.loop (gf Q) [.lst (regs.map aJ),.lst (taint.map BT),.pptr [[.int .i64 n,.lst (ins.map aw.enc)]] 0 0,.ptr b2 0 0,.pptr [[.int .i64 pc,.sl bR 0 n,.sl bT 0 n,.int .i64 0]] 0 0,.int .i64 0] (zn b2 bR bT (zm 0 n regs 0) (dq n taint 0)):=by
 refine cH (β:=Unit) (min n regs.length) (fun i _=>([.lst (regs.map aJ),.lst (taint.map BT),.pptr [[.int .i64 n,.lst (ins.map aw.enc)]] 0 0,.ptr b2 0 0,.pptr [[.int .i64 pc,.sl bR 0 n,.sl bT 0 n,.int .i64 0]] 0 0,.int .i64 i],zn b2 bR bT (zm 0 n regs i) (dq n taint 0))) (fun _ _=>True) () trivial (.refl _ _) ?_
 intro i _ hi _
 dsimp only
 unfold gf
 generalize hnx:(fun(vs':List AV) (L':SH)=>∃j o',i<j∧j≤min n regs.length∧_)=nx
 have hx:=fun h:i<regs.length=>aC (f:=aJ) h
 have hend:(i=n∨i=regs.length)→W.loop (eI Q) [.lst (taint.map BT),.pptr [[.int .i64 n,.lst (ins.map aw.enc)]] 0 0,.ptr b2 0 0,.pptr [[.int .i64 pc,.sl bR 0 n,.sl bT 0 n,.int .i64 0]] 0 0,.int .i64 0] (zn b2 bR bT (zm 0 n regs i) (dq n taint 0)):=fun he=>by
  rw[Bj (by omega) (by omega) he]
  exact GQ hn ht ht2 _ kT hq
 unfold zn at hend ⊢
 by_cases g1:i<n
 ·by_cases g2:i<regs.length
  ·have hd1:=ct g1
   have hd2:=ct g2
   have hx:=hx g2
   have hi1:=bH g1 (by omega)
   have hlen:((zm 0 n regs i).map aJ).length=n:=by rw[List.length_map,Bi (by omega) (by omega)]
   have hrow:((zm 0 n regs i).map aJ)[i]? =some [.int .i64 0]:=by
    unfold zm
    rw[List.map_append,List.getElem?_append_right (by simp;omega)]
    simp only[List.length_map,List.length_take,Nat.min_eq_left (Nat.le_of_lt g2),Nat.sub_self]
    obtain⟨m,hm⟩:∃m,n-i=m+1:=⟨n-i-1,by omega⟩
    rw[hm];rfl
   repeat' (first | refine st ?_ | refine sb (fun nb_ hnb_=>?_) | refine s2 (fun h=>?_) (fun h=>?_) | fail)
   subst hnx
   refine⟨i+1,(),by omega,by omega,trivial,?_⟩
   unfold zn
   rw[←ES aJ g1 g2]
   exact .refl _ _
  ·have hd1:=ct g1
   have hd2:decide ((i:Int)<(regs.length:Int))=false:=by simp;omega
   have hend:=hend (.inr (by omega))
   repeat' (first | exact hend | refine st ?_ | refine sb (fun nb_ hnb_=>?_) | refine s2 (fun h=>?_) (fun h=>?_) | fail)
 ·have hd1:decide ((i:Int)<(n:Int))=false:=by simp;omega
  have hend:=hend (.inl (by omega))
  repeat' (first | exact hend | refine st ?_ | refine sb (fun nb_ hnb_=>?_) | refine s2 (fun h=>?_) (fun h=>?_) | fail)
end
theorem zo(n:Nat)(ins:List aw)(pc:Int)(regs taint:List Int)(hn:n<2^20)(hi:0<ins.length)(hi2:ins.length<2^40)(hp:0≤pc∧pc<256)(hr:regs.length<2^63)(ht:taint.length<2^63)(ht2:∀x∈taint,0≤x∧x<256):
  am Try.prog 5 [.agg [.int .i64 n,.lst (ins.map aw.enc)],.int .u8 pc,.lst (regs.map aJ),.lst (taint.map BT)] [] fun u K=>∃(v:AV) (bR:Nat),u=v∧v=.agg [.int .i64 (pc.tmod ins.length),.sl bR 0 n,.lst ((eK [] n (taint.map fun x=>[x])).map cC),.int .i64 0]∧K=[(bR,⟨1,(eK 0 n regs).map aJ⟩)]:=by
 refine am.fz (uY _ _ _ _ _ _ ?_)
 unfold mB
 generalize hQ:(fun(v:AV) (L:SH)=>∃v2 L2,aV [v] L [v2] L2∧∃(v:AV) (bR:Nat),_)=Q
 have hq:∀(bR bT:Nat) (L:SH),aV [.agg [.int .i64 (pc.tmod ins.length),.sl bR 0 n,.sl bT 0 n,.int .i64 0]] L [.agg [.int .i64 (pc.tmod ins.length),.sl bR 0 n,.lst ((eK [] n (taint.map fun x=>[x])).map cC),.int .i64 0]] [(bR,⟨1,(eK 0 n regs).map aJ⟩)]→Q (.agg [.int .i64 (pc.tmod ins.length),.sl bR 0 n,.sl bT 0 n,.int .i64 0]) L:=fun bR bT L h=>by
  subst hQ;exact⟨_,_,h,_,bR,rfl,rfl,rfl⟩
 clear hQ
 have hcv:IntKind.i64.wrap pc=pc:=IntWalk.i64_in pc (by omega)
 have hz:decide ((ins.length:Int)=0)=false:=decide_eq_false (by omega)
 have e0:List.replicate n [AV.int .i64 0]=(zm 0 n regs 0).map aJ:=by simp[zm,aJ]
 have e1:List.replicate n [AV.nils]=dq n taint 0:=by simp[dq]
 repeat' (first | refine st ?_ | refine sb (fun nb_ hnb_=>?_) | refine s2 (fun h=>?_) (fun h=>?_) | fail)
 rw[hcv,e0,e1]
 refine GR (pc:=pc.tmod ins.length) (by omega) hr ht ht2 fun L h=>hq _ _ L h
end Go.Proofs.Ytljkdffikfkcgaa.Am
end
