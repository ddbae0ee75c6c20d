/- Part of a proof: see the last text. -/
import Derived.Test.YtpbkhogolfegfaaGreatDoorPtg
set_option linter.unusedVariables false
set_option linter.unusedSimpArgs false
set_option linter.defProp false
noncomputable section
namespace AI
open Go Go.RowKit
def VH(ps:List (Nat×Nat)):List AV:=ps.map λp=>.ptr p.1 p.2
def U4(ps:List (Nat×Nat)):(VH ps).length=ps.length:=by simp[VH]
def Ee(b:Nat)(B:Nat->Nat->Prop)(w0:World)(g cap:Nat)(ps:List (Nat×Nat)):EW:=λc w =>
 c.base=b/\Below b w0 w/\(∀g' i,c.bad g' i↔(B g' i\/g'=g))/\b<=g/\some g∉c.CN/\(∀(r:Nat) n cap' sz,c.rows[r]?≠some (.QD g n cap' sz)) /\
 ∃(vs ext:List Value) (T:TypeId),w.heap[g]?=some (.cells (vs++ext).toArray T (0,0))/\vs.length+ext.length=cap/\Cz c w (VH ps) vs
def Ee.GF{b:Nat}{B:Nat->Nat->Prop}{w0:World}{g cap:Nat}{ps:List (Nat×Nat)}:TA (Ee b B w0 g cap ps):=by
 rintro cx w QF w' ⟨h1,h2,h3,h4,h5,h6,vs,ext,T,h7,h8,h9⟩ hx;have hg:g < w.heap.size:=(Array.getElem?_eq_some_iff.1 h7).1;refine⟨hx.base.trans h1,h2.trans (by have:=hx.below;rwa[h1] at this),λg' i=>by rw[hx.bad];exact h3 g' i,h4,λhm=>?_,λr n cap' sz hr=>?_,vs,ext,T,by rw[hx.GF g hg h5 h6];exact h7,h8,h9.mono hx⟩;rcases hx.YU g hm with h | h
 exact h5 h;omega;rcases hx.YV r g n cap' sz hr with ⟨r0,n0,Q3,jA,h⟩ | h
 exact h6 _ _ _ _ h;omega
def Ee.fin{b:Nat}{B:Nat->Nat->Prop}{w0:World}{g cap:Nat}{ps:List (Nat×Nat)}(hB:∀g i,B g i->g < b):ayM b B w0 (Ee b B w0 g cap ps):=by
 rintro c w ⟨h1,h2,h3,h4,h5,_⟩;refine⟨h1,h2,λg' i hb=>(h3 g' i).2 (.inl hb),λg' i hg hb=>?_⟩;rcases(h3 g' i).1 hb with h | rfl
 exact hB g' i h;exact absurd hg h5
def Ee.pop{b:Nat}{B:Nat->Nat->Prop}{w0:World}{g cap:Nat}{ps:List (Nat×Nat)}{p:Nat×Nat}{c:Cx}{w:World}(h:Ee b B w0 g cap (ps++[p]) c w):Ee b B w0 g cap ps c w:=by
 obtain⟨h1,h2,h3,h4,h5,h6,vs,ext,T,h7,h8,h9⟩:=h;have hl:=h9.len;rw[U4,List.length_append] at hl;refine⟨h1,h2,h3,h4,h5,h6,vs.take ps.length,vs.drop ps.length++ext,T,by rw[<- List.append_assoc,List.take_append_drop];exact h7,by rw[List.length_append,List.length_take,List.length_drop];omega,?_⟩;have:=h9.take ps.length;unfold VH at this ⊢;rwa[List.map_append,List.take_left' (by simp)] at this
def St.move{G:A6}{c c':Cx}{w w':World}{s:AS}(h:St G c w s)(hm:Mon c w c' w')(Ra:c'.CN=c.CN)(pV:c'.rows=c.rows)(abL:c'.base=c.base)
   (aqY:∀k,k < w.heap.size->(some k∈c.CN\/∃(r:Nat) (n cap sz:Nat),c.rows[r]?=some (.QD k n cap sz))->w'.heap[k]?=w.heap[k]?) (arE:w.heap.size<=w'.heap.size)
   (Ks:∀g i,c'.bad g i->(c.bad g i\/w.heap.size<=g)/\g < w'.heap.size):St G c' w' s:=by
 refine⟨by rw[Ra];exact h.len,h.desc,by rw[Ra];exact h.nodup,by rw[Ra,abL];exact h.low,λid g b h1 h2=>?_,by rw[pV];exact h.Ip,λr g n cap sz hr=>?_,by rw[pV];exact h.Ix,λg hg=>Nat.lt_of_lt_of_le (h.L0 g (by rwa[Ra] at hg)) arE,λg i hb=>(Ks g i hb).2,by rw[pV];exact h.Ig,λg cs hg=>(h.Ma g cs hg).Dp hm,by rw[abL];exact Nat.le_trans h.PB arE⟩;rw[Ra] at h1;obtain⟨o,ho,hb⟩:=h.box id g b h1 h2;exact⟨o,by rw[aqY g (Array.getElem?_eq_some_iff.1 ho).1 (.inl (List.mem_of_getElem? h1))];exact ho,hb.Dp hm⟩;rw[pV] at hr;obtain⟨a1,a2,a3,a4,vs,T,a5,a6⟩:=h.row r g n cap sz hr;have hlt:=h.Mh hr;refine⟨λi hb=>?_,by rw[abL];exact a2,by rw[Ra];exact a3,a4,vs,T,by rw[aqY g hlt (.inr ⟨r,n,cap,sz,hr⟩)];exact a5,a6⟩;rcases(Ks g i hb).1 with h1 | h1
 exact a1 i h1;omega
section
variable {P:Program} {G:A6} {E:EW} {fr:List AV} {s:AS} {Q:QE}
def OR.aBX{ι:Type}{E':ι->EW}{ops:Array Oper}{i:Nat}{l:List Nat}{o:Oper}{fr2:List AV}(v:ι->AV){s2:AS}(ho:ops[i]?=some o)(hg:o.guard=none)
   (h:∀(cx:Cx) (w:World) (a:Act),E cx w->St G cx w s->Cz cx w fr a.tmps.toList->∃x u w' QF,(execOp a.eval o).run P w=.ok (.value u) w'/\E' x QF w'/\St G QF w' s2/\Cz QF w' fr2 a.tmps.toList/\Rp QF w' (v x) u)
   (t:∀x,OR P G (E' x) ops l (Ij fr2 o.dst (v x)) s2 Q):OR P G E ops (i::l) fr s Q:=by
 intro cx w a K hE hs hf hd hK;refine Ln ho ?_;obtain⟨x,u,w',QF,hr,fK,hs',fR,hu⟩:=h cx w a hE hs hf;unfold L6;have hw:Region.wanted o (yielded ops a.tmps)=true:=by unfold Region.wanted;rw[hg]
 rw[hw];simp only[if_true];unfold Oper.wp;rw[hr];exact t x QF w' (a.put o.dst u) K fK hs' (N1 fR hu) (by cases o.dst<;>exact hd) hK
def WE.reg{c:Code}{n:Nat}(h:Rl c n=true)(k:OR P G E (Fu c) (List.range n) fr s Q):WE P G E c fr s Q:=by
 obtain⟨⟨id,hc⟩,hn⟩:=rG h;rw[hc];refine .region ?_;rw[<- hn] at k;exact k
variable {c:Code} {n i:Nat} {l:List Nat}
def OR.len{x:Operand}{t e:TypeId}{A:Option Addr}{k cap:Nat}(hr:Rl c n=true)(hi:i < n)(h:qI (opAt c i)=some (x,t))(hu:P.underlying t=some (.slice e))(ha:A8 G fr x=some (.raw A k cap))
   (j:OR P G E (Fu c) l (Ij fr (opAt c i).dst (.sc (.int .i64 k))) s Q):OR P G E (Fu c) (i::l) fr s Q:=by
 have hgd:(opAt c i).guard=none:=by
   unfold qI at h;split at h;rename_i hg;exact hg;cases h
 refine .sem (.sc (.int .i64 k)) (KN hr hi) hgd (λcx w a hE hs hf=>?_) j;have hv:=El hs hf ha;generalize hq:a.eval x=v at hv;cases hv;exact⟨_,w,cx,(uV h hu hq).2,hE,hs,hf,.sc rfl⟩
variable {b g cap:Nat} {B:Nat->Nat->Prop} {w0:World} {ps:List (Nat×Nat)} {p:Nat×Nat}
def OR.top{t t2 e d:TypeId}{x y:Operand}(hr:Rl c n=true)(hi:i+1 < n)(h1:avR (opAt c i)=some (t,x,y))(hd:(opAt c i).dst=some d)(h2:avX (opAt c (i+1))=some (t2,.tmp d))(hu:P.underlying t=some (.slice e))(he:(P.info? e).map (·.size)=some 1)
   (hd2:(P.underlying t2).map Nf=some false) (he2:(P.info? t2).map (·.size)=some 1) (ha:A8 G fr x=some (.raw (some ⟨g,0,none⟩) (ps++[p]).length cap)) (hy:A8 G fr y=some (.sc (.int .i64 ((ps.length:Nat):Int)))) (hd3:Nat.blt d fr.length=true)
   (j:OR P G (Ee b B w0 g cap (ps++[p])) (Fu c) l (Ij (Ij fr (some d) .any) (opAt c (i+1)).dst (.ptr p.1 p.2)) s Q):OR P G (Ee b B w0 g cap (ps++[p])) (Fu c) (i::(i+1)::l) fr s Q:=by
 have hd3:d < fr.length:=Nat.blt_eq.mp hd3;intro cx w a K hE hs hf hdf hK;have pY:=El hs hf ha;have hvy:=El hs hf hy;generalize hqa:a.eval x=va at pY;generalize hqy:a.eval y=vy at hvy;cases pY;cases hvy;obtain⟨ie,xD,hsz⟩:=Option.map_eq_some_iff.1 he;have r1:=acH (P:=P) (w:=w) h1 hu xD hqa hqy (by simp);rw[hsz,Nat.mul_one] at r1;have hE2:=hE;obtain⟨_,_,_,_,_,_,vs,ext,T,h7,h8,h9⟩:=hE2;refine Ln (KN hr (by omega)) ?_;unfold L6;rw[show Region.wanted (opAt c i) (yielded (Fu c) a.tmps)=true by unfold Region.wanted;rw[r1.1]];simp only[if_true];unfold Oper.wp;rw[r1.2];show wpOps P (Fu c) K ((i+1)::l) (a.put (opAt c i).dst (.pointer (some ⟨g,ps.length,none⟩))) w;rw[hd];have hl:=hf.len;rw[Array.length_toList] at hl
 have Is:(a.put (some d) (.pointer (some ⟨g,ps.length,none⟩))).eval (.tmp d)=.pointer (some ⟨g,ps.length,none⟩):=by
   simp[Act.put,Act.eval,Array.getD_eq_getD_getElem?,Array.getElem?_setIfInBounds,hl,hd3]
 have hap:apart P t2 (VH (ps++[p])) ps.length=some (.ptr p.1 p.2):=by
   unfold apart;obtain⟨dd,hu2,hdd⟩:=Option.map_eq_some_iff.1 hd2;rw[hu2];cases TV:P.info? t2 with
   | none=>rw[TV] at he2;cases he2
   | some j =>
     simp only;rw[hdd,if_neg (by simp)];simp[VH]
 obtain⟨u,hru,hrp⟩:=SI (P:=P) (w:=w) (g:=g) (o:=0) hap h9 (λi v hv=>by rw[Nat.zero_add];exact cell_of_heap h7 (Ry hv));rw[Nat.zero_add] at hru;have r2:=acM (P:=P) (w:=w) h2 Is hru;refine Ln (KN hr hi) ?_;unfold L6;rw[show ∀q,Region.wanted (opAt c (i+1)) q=true by intro q;unfold Region.wanted;rw[r2.1]];simp only[if_true];unfold Oper.wp;rw[r2.2];exact j cx w _ K hE hs (N1 (N1 (dst:=some d) hf (.any (v:=.pointer (some ⟨g,ps.length,none⟩)) rfl)) hrp) (by cases (opAt c (i+1)).dst<;>exact hdf) hK
def OR.aJR{t e:TypeId}{x y:Operand}(hr:Rl c n=true)(hi:i < n)(h:rP (opAt c i)=some (t,x,y))(hu:P.underlying t=some (.slice e))(he:(P.info? e).map (·.size)=some 1)(ha:A8 G fr x=some (.raw (some ⟨g,0,none⟩) (ps++[p]).length cap))(hy:A8 G fr y=some (.sc (.int .i64 ((ps.length:Nat):Int))))
   (j:OR P G (Ee b B w0 g cap ps) (Fu c) l (Ij fr (opAt c i).dst (.raw (some ⟨g,0,none⟩) ps.length cap)) s Q):OR P G (Ee b B w0 g cap (ps++[p])) (Fu c) (i::l) fr s Q:=by
 have hgd:(opAt c i).guard=none:=by
   unfold rP at h;split at h;rename_i hg;exact hg;cases h
 refine .sem (.raw (some ⟨g,0,none⟩) ps.length cap) (KN hr hi) hgd (λcx w a hE hs hf=>?_) j;have pY:=El hs hf ha;have hvy:=El hs hf hy;generalize hqa:a.eval x=va at pY;generalize hqy:a.eval y=vy at hvy;cases pY;cases hvy;obtain⟨ie,xD,_⟩:=Option.map_eq_some_iff.1 he;have hE2:=hE;obtain⟨_,_,_,_,_,_,vs,ext,T,h7,h8,h9⟩:=hE2;have hl:=h9.len;rw[U4,List.length_append] at hl;exact⟨_,w,cx,(vX h hu xD hqa hqy (by omega)).2,hE.pop,hs,hf,.raw⟩
def OR.push{t tx e e2 id off:TypeId}{x y:Operand}(hr:Rl c n=true)(hi:i < n)(h:dZ (opAt c i)=some (x,y,t,tx))(hu:P.underlying t=some (.slice e))(hux:P.underlying tx=some (.slice e2))
   (he:(P.info? e).map (λi=>(i.size,decide (i.bytes<=10000),i.zero.map (·.cells.size)))=some (1,true,some 1)) (ha:A8 G fr x=some (.raw (some ⟨g,0,none⟩) ps.length cap)) (hy:A8 G fr y=some (.sl .full 1 [.ptr id off])) (hlen:ps.length+1<=100000000)
   (j:∀g' cap',OR P G (Ee b B w0 g' cap' (ps++[(id,off)])) (Fu c) l (Ij fr (opAt c i).dst (.raw (some ⟨g',0,none⟩) (ps++[(id,off)]).length cap')) s Q):OR P G (Ee b B w0 g cap ps) (Fu c) (i::l) fr s Q:=by
 cases xD:P.info? e with
 | none=>rw[xD] at he;cases he
 | some ie =>
 rw[xD] at he;simp only[Option.map_some,Option.some.injEq,Prod.mk.injEq,decide_eq_true_eq] at he;obtain⟨hsz,hby,hzz⟩:=he;obtain⟨z,hz,xH⟩:=Option.map_eq_some_iff.1 hzz;refine .aBX (ι:=Nat×Nat) (E':=λq=>Ee b B w0 q.1 q.2 (ps++[(id,off)])) (λq=>.raw (some ⟨q.1,0,none⟩) (ps++[(id,off)]).length q.2) (KN hr hi) (eA h) (λcx w a hE hs hf=>?_) (λq=>j q.1 q.2);have pY:=El hs hf ha;have hvy:=El hs hf hy;generalize hqa:a.eval x=va at pY;generalize hqy:a.eval y=vy at hvy;cases pY;obtain⟨h1,h2,h3,h4,h5,h6,vs,ext,T,h7,h8,h9⟩:=hE;have hg:g < w.heap.size:=(Array.getElem?_eq_some_iff.1 h7).1;have hl:=h9.len;rw[U4] at hl;obtain⟨news,xF,hnl,hsi⟩:=aE (P:=P) (s:=s) (size:=ie.size) (tx:=tx) (n:=1) (cs:=[.ptr id off]) hs (by unfold VR;rw[hux,hsz];rfl) hvy;rw[hsz,Nat.mul_one] at hnl;have aIB:∀g' i v,Lq cx w g' i v->g'≠g:=λg' i v hv e=>hv.2.1 (.inr (.inr ((h3 g' i).2 (.inr e))))
 have arA:∀{QF:Cx} {w':World},Mon cx w QF w'->Cz QF w' (VH (ps++[(id,off)])) (vs++news):=λhm=>by
   unfold VH at h9 ⊢;rw[List.map_append];exact(h9.Dp hm).append (xF.Dp hm)
 by_cases TY:ps.length+1<=cap;have uO:ps.length+news.length<=(vs++ext).toArray.size:=by rw[hnl,List.size_toArray,List.length_append];omega
 have FW:=run_storeCells_at P g ps.length T news 0 (vs++ext).toArray w h7 (by simpa using uO) (Wq xF rfl)
 simp only[Nat.add_zero] at FW;have Lf:=setRow_heap w g (vs++ext).toArray ((vs++ext).toArray.toList.take ps.length++news++(vs++ext).toArray.toList.drop (ps.length+news.length)).toArray T (0,0) h7;have hc:=G6 w g ((vs++ext).toArray.toList.take ps.length++news++(vs++ext).toArray.toList.drop (ps.length+news.length)).toArray
 have auJ:((vs++ext).toArray.toList.take ps.length++news++(vs++ext).toArray.toList.drop (ps.length+news.length))=(vs++news)++ext.drop 1:=by
   simp only[List.toList_toArray];rw[List.take_left' hl,hnl,List.drop_append];rw[List.drop_eq_nil_of_le (by omega),List.nil_append,show ps.length+1 - vs.length=1 by omega]
 rw[auJ] at Lf FW hc;have hm:Mon cx w cx (w.setRow g ((vs++news)++ext.drop 1).toArray):=⟨λ_ _ h=>h,Nat.le_refl _,λr y _ h=>⟨y,h,J8.refl y⟩,λg' i v hv=>⟨Nat.lt_of_lt_of_le hv.1 hc.size,hv.2.1,by rw[hc.cell hv.1 (aIB g' i v hv)];exact hv.2.2⟩⟩
 refine⟨(g,cap),_,_,cx,(Y6 h (λty=>by
   rw[hqa,hqy];exact P9 (ty:=ty) hu xD hsi TY (w':=w.setRow g ((vs++news)++ext.drop 1).toArray) (λa ha=>by cases ha;rw[add_lit,Nat.zero_add,hsz,Nat.mul_one];exact FW) (λh=>by cases h))).2,⟨h1,h2.trans (hc.below (by rw[<- h1];exact hs.PB) (λk hk=>by rw[hk];exact h4)),h3,h4,h5,h6,vs++news,ext.drop 1,T,Lf,?_,arA hm⟩,hs.move hm rfl rfl rfl (λk hk hor=>hc.block k hk (λe=>?_)) hc.size (λg' i hb=>⟨.inl hb,Nat.lt_of_lt_of_le (hs.L8 g' i hb) hc.size⟩),hf.Dp hm,?_⟩
 rw[List.length_append,List.length_drop];omega;subst e;rcases hor with h | ⟨r,n',cap',sz,h⟩
 exact h5 h;exact h6 _ _ _ _ h;rw[List.length_append];exact .raw
 have hfc:(Builtin.firstCells ie.size ps.length (.slice (some ⟨g,0,none⟩) ps.length cap)).run P { w with drawn:=w.drawn+1 }=.ok vs.toArray { w with drawn:=w.drawn+1 }:=by
   rw[hsz];refine run_firstCells_some { w with drawn:=w.drawn+1 } 1 ps.length ⟨g,0,none⟩ ps.length cap vs (by omega) (λj v hj=>?_)
   rw[add_lit,Nat.zero_add];exact cell_of_heap h7 (Ry hj)
 have auI:(ps.length+1)*ie.bytes<=140737488355328:=Nat.le_trans (Nat.mul_le_mul hlen hby) (by decide)
 have hex:∃cap',ps.length+1<=cap'/\∀ty,(Builtin.append_ #[t,tx] ty #[.slice (some ⟨g,0,none⟩) ps.length cap,vy]).run P w=.ok (.slice (some ⟨w.heap.size,0,none⟩) (ps.length+1) cap') { w with drawn:=w.drawn+1,heap:=w.heap.push (.cells ((vs++news).toArray++Builtin.zeroCells z.cells (cap' - (ps.length+1))) e) }:=by
   obtain⟨cap',hc',QI⟩:=P8 (ty:=0) hu xD hz hsi hfc (by omega) (by omega) auI;exact⟨cap',hc',λty=>QI⟩
 obtain⟨cap',Xp,QI⟩:=hex;have hzc:(Builtin.zeroCells z.cells (cap' - (ps.length+1))).size=cap' - (ps.length+1):=by rw[size_zeroCells,xH,Nat.mul_one]
 let w':World:={ w with drawn:=w.drawn+1,heap:=w.heap.push (.cells ((vs++news).toArray++Builtin.zeroCells z.cells (cap' - (ps.length+1))) e) }
 have hk:QO w w' (λ_=>False):=⟨rfl,rfl,rfl,by simp[w'],λk hk _=>by simp[w',Array.getElem?_push];intro h;omega⟩
 have Lf:w'.heap[w.heap.size]?=some (.cells ((vs++news)++(Builtin.zeroCells z.cells (cap' - (ps.length+1))).toList).toArray e (0,0)):=by
   have:w'.heap[w.heap.size]?=some (.cells ((vs++news).toArray++Builtin.zeroCells z.cells (cap' - (ps.length+1))) e (0,0)):=by simp[w']
   rw[this];congr 2;apply Array.ext';simp
 let QF:Cx:={ cx with bad:=λg' i=>B g' i\/g'=w.heap.size }
 have hBs:∀g' i,B g' i->g' < w.heap.size:=λg' i hb=>hs.L8 g' i ((h3 g' i).2 (.inl hb));have hm:Mon cx w QF w':=⟨λ_ _ h=>h,Nat.le_refl _,λr y _ h=>⟨y,h,J8.refl y⟩,λg' i v hv=>⟨Nat.lt_of_lt_of_le hv.1 hk.size,λGi=>?_,by rw[hk.cell hv.1 not_false];exact hv.2.2⟩⟩;have aID:w'.heap.size=w.heap.size+1:=by simp[w']
 refine⟨(w.heap.size,cap'),_,w',QF,(Y6 h (λty=>by rw[hqa,hqy];exact QI ty)).2,⟨h1,h2.trans (hk.below (by rw[<- h1];exact hs.PB) (λ_ h=>h.elim)),λ_ _=>Iff.rfl,by rw[<- h1];exact hs.PB,λhm'=>?_,λr n' c' sz Wg=>?_,vs++news,_,e,Lf,?_,arA hm⟩,hs.move hm rfl rfl rfl (λk hk' _=>hk.block k hk' not_false) hk.size (λg' i hb=>?_),hf.Dp hm,?_⟩;have:=hs.L0 _ hm';omega;have:=hs.Mh Wg;omega;have hz3:(Builtin.zeroCells z.cells (cap' - (ps.length+1))).toList.length=cap' - (ps.length+1):=by rw[Array.length_toList,hzc]
 show(vs++news).length+_=cap';rw[hz3,List.length_append];omega;rcases hb with hb | rfl
 exact⟨.inl ((h3 g' i).2 (.inl hb)),by have:=hBs g' i hb;omega⟩;exact⟨.inr (Nat.le_refl _),by omega⟩;rw[List.length_append];exact .raw;rcases Gi with Gi | Gi | Gi
 exact hv.2.1 (.inl Gi);exact hv.2.1 (.inr (.inl Gi));rcases Gi with Gi | Gi
 exact hv.2.1 (.inr (.inr ((h3 g' i).2 (.inl Gi))));have:=hv.1;omega
def OR.begin{t e id off:TypeId}{x:Operand}(hr:Rl c n=true)(hi:i < n)(h:ajB (opAt c i)=some (t,x))(hu:P.underlying t=some (.slice e))(he:(P.info? e).map (λi=>(i.size,i.zero.map (·.cells.size)))=some (1,some 1))(ha:A8 G fr x=some (.ptr id off))
   (j:∀g',OR P G (Ee b B w0 g' 1 [(id,off)]) (Fu c) l (Ij fr (opAt c i).dst (.raw (some ⟨g',0,none⟩) 1 1)) s Q):OR P G (E0 b B w0) (Fu c) (i::l) fr s Q:=by
 cases xD:P.info? e with
 | none=>rw[xD] at he;cases he
 | some ie =>
 rw[xD] at he;simp only[Option.map_some,Option.some.injEq,Prod.mk.injEq] at he;obtain⟨hsz,hzz⟩:=he;obtain⟨z,hz,xH⟩:=Option.map_eq_some_iff.1 hzz
 have hgd:(opAt c i).guard=none:=by
   unfold ajB at h;split at h;rename_i hg;exact hg;cases h
 refine .aBX (ι:=Nat) (E':=λq=>Ee b B w0 q 1 [(id,off)]) (λq=>.raw (some ⟨q,0,none⟩) 1 1) (KN hr hi) hgd (λcx w a hE hs hf=>?_) j;have pY:=El hs hf ha;generalize hqa:a.eval x=va at pY;obtain⟨h1,h2,h3⟩:=hE;have QI:=(yH (P:=P) (w:=w) (ρ:=a.eval) h hu xD hsz hz xH (by rw[hqa];cases pY;rfl)).2;rw[hqa] at QI;let w':World:={ w with heap:=w.heap.push (.cells #[va] e) }
 have hk:QO w w' (λ_=>False):=M5 w _;let QF:Cx:={ cx with bad:=λg' i=>B g' i\/g'=w.heap.size }
 have hBs:∀g' i,B g' i->g' < w.heap.size:=λg' i hb=>hs.L8 g' i (by rw[h2];exact hb);have aID:w'.heap.size=w.heap.size+1:=by simp[w']
 have hm:Mon cx w QF w':=⟨λ_ _ h=>h,Nat.le_refl _,λr y _ h=>⟨y,h,J8.refl y⟩,λg' i v hv=>⟨Nat.lt_of_lt_of_le hv.1 hk.size,λGi=>by
   rcases Gi with Gi | Gi | Gi
   exact hv.2.1 (.inl Gi);exact hv.2.1 (.inr (.inl Gi));rcases Gi with Gi | Gi
   exact hv.2.1 (.inr (.inr (by rw[h2];exact Gi)));have:=hv.1;omega,by rw[hk.cell hv.1 not_false];exact hv.2.2⟩⟩
 refine⟨w.heap.size,_,w',QF,QI,⟨h1,h3.trans (hk.below (by rw[<- h1];exact hs.PB) (λ_ h=>h.elim)),λ_ _=>Iff.rfl,by rw[<- h1];exact hs.PB,λhm'=>?_,λr n' c' sz Wg=>?_,[va],[],e,by simp[w'],rfl,.cons (pY.Dp hm) .nil⟩,hs.move hm rfl rfl rfl (λk hk' _=>hk.block k hk' not_false) hk.size (λg' i hb=>?_),hf.Dp hm,.raw⟩;have:=hs.L0 _ hm';omega;have:=hs.Mh Wg;omega;rcases hb with hb | rfl
 exact⟨.inl (by rw[h2];exact hb),by have:=hBs g' i hb;omega⟩;exact⟨.inr (Nat.le_refl _),by omega⟩
def WE.run(hm:P.follows .mixedOrders=true)(hk:TA E){c:Code}(l:List (PC P G)){e:AX}{fr2:List AV}{s2:AS}(h:nP fr2 (RZ P G 300 c [] (pHs l) fr s)=some (e,dO l,fr2,s2))(hp:∀v,e≠.pan v)(hq:Q e fr2 s2 E):WE P G E c fr s Q:=by
 unfold nP at h;split at h;rename_i e' cd fr' s' hr;simp only[Option.some.injEq,Prod.mk.injEq] at h;obtain⟨rfl,rfl,hfr,rfl⟩:=h;have hw:W P G (XS P G) H0 c fr s (λe2 f2 s2=>e2=e'/\f2=fr'/\s2=s'):=Ae 300 l _ _ _ _ hr (Np l) ⟨rfl,rfl,rfl⟩;obtain⟨e1,f1,s1,hj,rfl,rfl,rfl⟩:=hw;have hS:=sound (Q9 hm) hj;intro cx w a K hE hs hf hd hK;refine hS cx w a K hs hf hd ?_;rintro e'' a' w' ⟨c',hx,hs',QH,h4⟩;refine hK _ _ _ E hq c' w' a' e'' (hk _ _ _ _ hE hx) hs' QH ?_;rw[<- hfr];cases e1 with
 | normal=>exact⟨h4.1,Rt h4.2⟩
 | exit id=>exact⟨h4.1,Rt h4.2⟩
 | ret=>exact⟨h4.1,Rt h4.2⟩
 | pan v=>exact absurd rfl (hp v)
 cases h
end
end AI
namespace AI
open Go Go.RowKit
def Sy{M:List AL}:∀{n id:Nat} {acc:List (Nat×AL)},id < n->look id (Iu M n acc)=look id acc:=by
 induction M with
 | nil=>intro n id acc _;rfl
 | cons x M ih =>
   intro n id acc h;simp only[Iu];rw[ih (by omega)];simp only[look]
   have:Nat.beq n id=false:=by
     cases hq:Nat.beq n id with
     | false=>rfl
     | true=>have:=beq_true hq;omega
   rw[this]
def YP{M:List AL}:∀{n i:Nat} {acc:List (Nat×AL)} {b:AL},M[i]?=some b->look (n+i) (Iu M n acc)=some b:=by
 induction M with
 | nil=>intro n i acc b h;simp at h
 | cons x M ih =>
   intro n i acc b h;cases i with
   | zero =>
     simp at h;subst h;simp only[Iu,Nat.add_zero];rw[Sy (Nat.lt_succ_self n)];simp only[look,Nat.beq_refl]
   | succ i =>
     simp only[Iu];rw[show n+(i+1)=n+1+i by omega];exact ih (by simpa using h)
def Uo{M:List AL}:∀{n id:Nat} {acc:List (Nat×AL)} {b:AL},id < n->Qw id b (Iu M n acc)=Iu M n (Qw id b acc):=by
 induction M with
 | nil=>intro n id acc b _;rfl
 | cons x M ih =>
   intro n id acc b h;simp only[Iu];rw[ih (by omega)];simp only[Qw]
   have:Nat.beq n id=false:=by
     cases hq:Nat.beq n id with
     | false=>rfl
     | true=>have:=beq_true hq;omega
   rw[this]
def cU{M:List AL}:∀{n i:Nat} {acc:List (Nat×AL)} {b:AL},i < M.length->Qw (n+i) b (Iu M n acc)=Iu (M.set i b) n acc:=by
 induction M with
 | nil=>intro n i acc b h;simp at h
 | cons x M ih =>
   intro n i acc b h;cases i with
   | zero =>
     simp only[Iu,Nat.add_zero,List.set_cons_zero];rw[Uo (Nat.lt_succ_self n)];simp only[Qw,Nat.beq_refl]
   | succ i =>
     simp only[Iu,List.set_cons_succ];rw[show n+(i+1)=n+1+i by omega];exact ih (by simpa using h)
def mY{x:AL}:∀{M:List AL} {n:Nat} {acc:List (Nat×AL)},Iu (M++[x]) n acc=(n+M.length,x)::Iu M n acc:=by
 intro M
 induction M with
 | nil=>intro n acc;rfl
 | cons y M ih =>
   intro n acc;simp only[List.cons_append,Iu,List.length_cons];rw[ih,show n+1+M.length=n+(M.length+1) by omega]
def agM{k:Nat}{b b0:AL}{T:List (Nat×AL)}:Qw k b ((k,b0)::T)=(k,b)::T:=by simp only[Qw,Nat.beq_refl]
def Wi{k:Nat}{b:AL}{T:List (Nat×AL)}:look k ((k,b)::T)=some b:=by simp only[look,Nat.beq_refl]
def bK{k id:Nat}{b:AL}{T:List (Nat×AL)}(h:k≠id):look id ((k,b)::T)=look id T:=by
 simp only[look];cases hq:Nat.beq k id with
 | false=>rfl
 | true=>exact absurd (beq_true hq) h
def ayD{k id:Nat}{b b2:AL}{T:List (Nat×AL)}(h:k≠id):Qw id b2 ((k,b)::T)=(k,b)::Qw id b2 T:=by
 simp only[Qw];cases hq:Nat.beq k id with
 | false=>rfl
 | true=>exact absurd (beq_true hq) h
def XJ{id:Nat}{b b0:AL}:∀{T:List (Nat×AL)},look id T=some b0->look id (Qw id b T)=some b:=by
 intro T
 induction T with
 | nil=>intro h;cases h
 | cons e T ih =>
   intro h;simp only[look] at h;simp only[Qw];split at h;simp only[look,Nat.beq_refl];rename_i hb;simp only[look,hb];exact ih h
section
variable {P:Program} {G:A6} {α:Type} {f:α->List AV} {C:List α->List AV} {k:Nat}
def Y8{e:TypeId}(hd:(P.underlying e).map Nf=some false)(hs:(P.info? e).map (·.size)=some 1){cs:List AV}{off:Nat}{a:AV}(h:cs[off]?=some a):Cd.ok P G (.ldB (.cells cs) e off a):=by
 intro s id hg;simp only[I4,hg];unfold apart;obtain⟨d,hu,hd⟩:=Option.map_eq_some_iff.1 hd;rw[hu];cases hi:P.info? e with
 | none=>rw[hi] at hs;cases hs
 | some j =>
   simp only;rw[hd,if_neg (by simp)];exact h
def nX{β:Type}{cs:List β}{off:Nat}(v:β)(h:off < cs.length):HY cs off [v]=cs.set off v:=by
 unfold HY;rw[List.set_eq_take_append_cons_drop,if_pos h];simp
def yG{e:TypeId}(hs:(P.info? e).map (·.size)=some 1){cs cs2:List AV}{off:Nat}{v:AV}(h:off < cs.length)(hc:cs2=cs.set off v)(hv:cellsOf v=[v]:=by rfl)(h1:one v=true:=by rfl):Cd.ok P G (.stB (.cells cs) e off v (.cells cs2)):=by
 intro s id hg;cases hi:P.info? e with
 | none=>rw[hi] at hs;cases hs
 | some j =>
   rw[hi] at hs;have hk:j.size=1:=by simpa using hs
   unfold J9;rw[hi];simp only[hg];rw[hv,hk,if_pos ⟨rfl,by simp[h1],by omega⟩,hc,nX v h]
def cG{f:α->List AV}(hf:∀x,(f x).length=k){l:List α}{i j:Nat}{x:α}(hx:l[i]?=some x)(hj:j < k):(rows f l)[i*k+j]?=(f x)[j]?:=by
 rw[<- List.getElem?_drop,RH hf hx,List.getElem?_append_left (by rw[hf];exact hj)]
def iM{f:α->List AV}(hf:∀x,(f x).length=k){l:List α}{i j:Nat}{x y:α}{v:AV}(hx:l[i]?=some x)(hj:j < k)(hy:f y=(f x).set j v):rows f (l.set i y)=(rows f l).set (i*k+j) v:=by
 have hlt:=(List.getElem?_eq_some_iff.1 hx).1;have VU:=(List.getElem?_eq_some_iff.1 hx).2
 have e1:l=l.take i++x::l.drop (i+1):=by
   rw[<- VU,<- List.drop_eq_getElem_cons hlt,List.take_append_drop]
 rw[ZJ y hlt]
 conv=>rhs;rw[e1]
 have hlen:(rows f (l.take i)).length=i*k:=by rw[Iy hf,List.length_take,Nat.min_eq_left (by omega)]
 rw[Og,Og,Gc,Gc,hy,List.set_append_right _ _ (by omega),hlen,Nat.add_sub_cancel_left,List.set_append_left _ _ (by rw[hf];exact hj)]
def iK{f:α->List AV}(hf:∀x,(f x).length=k){e:TypeId}(hd:(P.underlying e).map Nf=some true)(hs:(P.info? e).map (·.size)=some k){l:List α}{i:Nat}{x:α}(hx:l[i]?=some x):Cd.ok P G (.ldB (.cells (rows f l)) e (0+i*k) (.agg (f x))):=by
 intro s id hg;simp only[I4,hg];unfold apart;obtain⟨d,hu,hd⟩:=Option.map_eq_some_iff.1 hd;rw[hu];cases hi:P.info? e with
 | none=>rw[hi] at hs;cases hs
 | some j =>
   rw[hi] at hs;have hk:j.size=k:=by simpa using hs
   have hlt:=(List.getElem?_eq_some_iff.1 hx).1;simp only;rw[hd,if_pos rfl,Nat.zero_add,hk,Iy hf,if_pos (by have:=Nat.mul_le_mul_right k hlt;rw[Nat.succ_mul] at this;exact this),RH hf hx,List.take_left' (hf x)]
def stA{e:TypeId}(hs:(P.info? e).map (·.size)=some k){cs0 cs:List AV}(h0:cs0.length=k)(h:cs.length=k)(h1:cs.all one=true):Cd.ok P G (.stB (.cells cs0) e 0 (.agg cs) (.cells cs)):=by
 intro s id hg;cases hi:P.info? e with
 | none=>rw[hi] at hs;cases hs
 | some j =>
   rw[hi] at hs;have hk:j.size=k:=by simpa using hs
   unfold J9;rw[hi];simp only[hg];have hc:cellsOf (.agg cs)=cs:=rfl;rw[hc,if_pos ⟨by rw[h,hk],h1,by rw[hk,h0];omega⟩];congr 3;unfold HY;rw[List.take_zero,List.nil_append,h,List.drop_eq_nil_of_le (by omega),List.append_nil]
def aEP{s:AS}{fn:Func}{fr:List AV}{t ty:TypeId}{a v:AV}(hr:fn.results.toList=[.cell t ty])(hf:fr[t]?=some a)(ha:I4 P s ty a=some v):Gg P s fn fr=some v:=by
 unfold Gg;rw[hr];simp only[M0,QU,List.getD_eq_getElem?_getD,hf,Option.getD_some,ha]
def nJ{b:AL}{t:TypeId}{off:Nat}{v:AV}{x:Option AL}(h:Cd.ok P G (.ldB b t off v))(e:x=some b):PC P G:=⟨.lb b v,[.ldB b t off v,.oZ [x] [some b] [] []],⟨h,⟨by rw[e],rfl⟩,trivial⟩⟩
def amJ{b b2:AL}{t:TypeId}{off:Nat}{v:AV}{x:Option AL}(h:Cd.ok P G (.stB b t off v b2))(e:x=some b):PC P G:=⟨.sb b b2,[.stB b t off v b2,.oZ [x] [some b] [] []],⟨h,⟨by rw[e],rfl⟩,trivial⟩⟩
end
section
variable {P:Program} {G:A6} {E:EW} {fr:List AV} {s:AS} {Q:QE}
def WE.wk{c:Code}{fr2:List AV}(h:wkF fr fr2=fr2)(k:WE P G E c fr2 s Q):WE P G E c fr s Q:=λcx w a K hE hs hf hd hK=>k cx w a K hE hs (by rw[<- h];exact Rt hf) hd hK
def WE.nM{c:Code}{id:Nat}{b b2:AL}(hb:look id s.h=some b)(hk:∀(cx:Cx) (w:World) (o:Obj),EY cx w b o->EY cx w b2 o)(k:WE P G E c fr ⟨Qw id b2 s.h,s.nx,s.F,s.nr⟩ Q):WE P G E c fr s Q:=λcx w a K hE hs hf hd hK=>k cx w a K hE (hs.nM hb (λo ho=>hk cx w o ho)) hf hd hK
def WE.R6{c x y:Code}(hc:c=.seq x y)(h:WE P G E x fr s (λe fr' s' E'=>e=.normal/\WE P G E' y fr' s' Q)):WE P G E c fr s Q:=by
 subst hc;exact .seq (λcx w a K hE hs hf hd hK=>h cx w a K hE hs hf hd (λe fr s E hq=>hK e fr s E (.inl hq)))
def WE.seqB{c x y:Code}(hc:c=.seq x y)(h:WE P G E x fr s (λe fr' s' E'=>(e=.normal/\WE P G E' y fr' s' Q)\/(e≠.normal/\Q e fr' s' E'))):WE P G E c fr s Q:=by
 subst hc;exact .seq h
def WE.Zc{c x y:Code}{q:Operand}(t:Bool)(hc:c=.cond q x y)(hq:A8 G fr q=some (.sc (.bool t)))(h:WE P G E (if t then x else y) fr s Q):WE P G E c fr s Q:=by
 subst hc;exact .cond hq h
def WE.nR(hm:P.follows .mixedOrders=true)(hk:TA E){c:Code}(l:List (PC P G)){e:AX}{fr2:List AV}(h:nP fr2 (RZ P G 300 c [] (pHs l) fr s)=some (e,dO l,fr2,s))(hp:∀v,e≠.pan v)(hq:Q e fr2 s E):WE P G E c fr s Q:=.run hm hk l h hp hq
def OR.q(hm:P.follows .mixedOrders=true)(hk:TA E){c:Code}{n i:Nat}{l:List Nat}(hr:Rl c n=true)(hi:i < n)(v:AV)(hw:Cs (Fu c) fr (opAt c i)=true)(h:Pz P G fr s (opAt c i)=some (.val v s))(t:OR P G E (Fu c) l (Ij fr (opAt c i).dst v) s Q):OR P G E (Fu c) (i::l) fr s Q :=
 .op hm hk v (KN hr hi) (.No hw h) t
def OR.hb(hm:P.follows .mixedOrders=true)(hk:TA E){c:Code}{n i:Nat}{l:List Nat}(hr:Rl c n=true)(hi:i < n){B:Bool}(b:Bool)(hB:B=b)(h:Zj P G (Fu c) fr s (opAt c i) [.b b]=some (.sc (.bool b),s,[],[.eqb B b]))(t:OR P G E (Fu c) l (Ij fr (opAt c i).dst (.sc (.bool b))) s Q):OR P G E (Fu c) (i::l) fr s Q :=
 .op hm hk (.sc (.bool b)) (KN hr hi) (OB h ⟨hB,trivial⟩) t
def OR.hi(hm:P.follows .mixedOrders=true)(hk:TA E){c:Code}{n i:Nat}{l:List Nat}(hr:Rl c n=true)(hi:i < n){X:Int}(z:Int)(hX:X=z)(h:Zj P G (Fu c) fr s (opAt c i) [.i z]=some (.sc (.int .i64 z),s,[],[.eqi X z]))(t:OR P G E (Fu c) l (Ij fr (opAt c i).dst (.sc (.int .i64 z))) s Q):OR P G E (Fu c) (i::l) fr s Q :=
 .op hm hk (.sc (.int .i64 z)) (KN hr hi) (OB h ⟨hX,trivial⟩) t
def WE.mono{c:Code}{Q2:QE}(h:WE P G E c fr s Q2)(hq:∀e fr' s' E',Q2 e fr' s' E'->Q e fr' s' E'):WE P G E c fr s Q:=λcx w a K hE hs hf hd hK=>h cx w a K hE hs hf hd (λe fr s E h2=>hK e fr s E (hq _ _ _ _ h2))
end
end AI
namespace AI
open Go Go.RowKit
section
variable {P:Program} {G:A6}
def Ou.aHA{α:Type}{f:α->List AV}{C:List α->List AV}{k:Nat}(h:Ou f C k){t tx e e2 yI:Nat}(hu:P.underlying t=some (.slice e))(hux:P.underlying tx=some (.slice e2))(hi:(P.info? e).map (λi=>(i.size,i.bytes,i.zero.map (·.cells.size)))=some (k,yI,some k))(hk:0 < k)
   (own:Own) (l m:List α) {o:Own} {n:Nat} {ns:List AV} (hn:Wn ns (C m)) (mE:n=m.length) (ho:ns.all one=true) (hm:m.length≠0) (hlen:(l.length+m.length)*yI<=140737488355328) (h63:l.length+m.length<=9223372036854775807):Cd.ok P G (.Zg t tx own l.length (C l) (.sl o n ns) k (l++m).length (C (l++m))):=by
 subst mE;cases hq:P.info? e with
 | none=>rw[hq] at hi;cases hi
 | some i =>
   rw[hq] at hi;simp only[Option.map_some,Option.some.injEq,Prod.mk.injEq] at hi;obtain⟨h1,h2,h3⟩:=hi;cases hz:i.zero with
   | none=>rw[hz] at h3;cases h3
   | some z =>
     rw[hz] at h3;simp only[Option.map_some,Option.some.injEq] at h3;intro s OD;have hnl:ns.length=m.length*k:=by rw[hn.len,h.eq,Iy h.len]
     have mC:(C l).length=l.length*k:=by rw[h.eq,Iy h.len]
     refine⟨C l++ns,?_,λc w u o' hr=>?_⟩
     have hs:VR P s i.size tx (.sl o m.length ns)=some (m.length,ns):=by
       unfold VR;rw[hux,h1];simp only[hnl,if_true]
     unfold Ky;simp only[hu,hq,hz];rw[if_pos ⟨by rw[h3,h1],by omega⟩,hs];simp only
     have hbb:(l.length+m.length)*i.bytes<=140737488355328:=by
       rw[h2];exact hlen
     rw[if_pos ⟨by rw[mC,h1],ho,hbb,by omega⟩,if_neg hm,h1,if_pos OD,List.length_append];rw[h.Tx];exact Rp.wnC (Wn.Tx (Wn.refl (C l)) hn) hr
end
end AI
namespace AI
open Go Go.RowKit
end AI
namespace AI
open Go Go.RowKit
section
variable {P:Program} {G:A6} {α δ:Type} {enc:α->AV} {encd:δ->AV}
abbrev Iz(enc:α->AV)(encd:δ->AV):α⊕δ->CR
 | .inl a=>.ret (enc a)
 | .inr d=>.pan (encd d)
def PF(P:Program)(G:A6)(fn:Func)(m:Nat)(s0:AS)(enc:α->AV)(encd:δ->AV)(Q:AX->List AV->AS->Prop)(y:α⊕δ)(s2:AS):Prop:=match y with
 | .inl a=>PG P G fn m s0 Q (enc a) s2
 | .inr d=>SE G m s0 Q (encd d) s2
def PF.body{fn:Func}{m:Nat}{s0 s2:AS}{y:α⊕δ}:PF P G fn m s0 enc encd (Sg P fn m (QM G s0 (Iz enc encd y) s2)) y s2:=by
 cases y with
 | inl a=>exact PG.body
 | inr d=>exact SE.body
def PF.outer{fn:Func}{m id:Nat}{ks:List KI}{s0 s2:AS}{Q:AX->List AV->AS->Prop}{y:α⊕δ}(h:PF P G fn m s0 enc encd Q y s2):PF P G fn m s0 enc encd (Ew id (D3 P G ks Q)) y s2:=by
 cases y with
 | inl a=>exact PG.outer h
 | inr d=>exact SE.outer h
def PF.GB{fn:Func}{m:Nat}{L:Code}{s0 s1 s2:AS}{Q:AX->List AV->AS->Prop}{y:α⊕δ}(h:PF P G fn m s0 enc encd Q y s2):PF P G fn m s0 enc encd (Tc P G L s1 Q) y s2:=by
 cases y with
 | inl a=>exact PG.GB h
 | inr d=>exact SE.GB h
def amC(n m0:Nat)(m:Nat)(oB bs:List AV)(cs:List (Option AL)):HR->Option (List Cd×List AV×AS×List AV×List (Option AL))
 | some (.fin (.pan v),[],cd,_,s)=>(match aeD oB n m0 [v] (s.cut m) bs cs with
     | some (fr2,s2,as,cas)=>some (cd,fr2,s2,as,cas)
     | none=>none)
 | _=>none
def BJ(hG:∀g cs,G g=some cs->BA cs=true){r:HR}{X:Prop}{s0:AS}{Q:AX->List AV->AS->Prop}(m:Nat){l:List (PC P G)}(fps:List (FP s0.nx s0.nr))(fbs:List (FO s0.nx s0.nr)){v:AV}{s2:AS}(R:TF P G l Q r X)
   (h:amC s0.nx s0.nr m [v] (YC fps) (lQ fbs) r=some (dO l,[v],s2,dH fps,wZ fbs)) (k:SE G m s0 Q v s2):X:=by
 unfold amC at h;split at h;split at h;rename_i h1;simp only[Option.some.injEq,Prod.mk.injEq] at h;obtain⟨rfl,rfl,rfl,rfl,rfl⟩:=h;exact R _ _ _ _ rfl (Np l) (k _ _ (cD hG h1) _ _ rfl);cases h;cases h
def LB{k j:Nat}{ρ σ:Nat->Nat}(h1:∀a,plain (enc a)=true)(h2:∀d,plain (encd d)=true)(y:α⊕δ):RnR k j ρ σ (Iz enc encd y) (Iz enc encd y):=by
 cases y with
 | inl a=>exact .pl (h1 a)
 | inr d=>exact .pl (h2 d)
def R7{γ:Type}{f:α->Option γ}{g:δ->Option γ}{y:α⊕δ}{r:γ}{X:Prop}(h1:∀a,y=.inl a->f a=some r->X)(h2:∀d,y=.inr d->g d=some r->X):Sum.elim f g y=some r->X:=by
 cases y with
 | inl a=>exact h1 a rfl
 | inr d=>exact h2 d rfl
def Ou.ixa{α:Type}{f:α->List AV}{C:List α->List AV}{k:Nat}(h:Ou f C k){t elem len:Nat}(hu:P.underlying t=some (.array len elem))(hs:(P.info? elem).map (·.size)=some k){l:List α}(hl:l.length=len){z:Int}{x:α}(hx:L9 l z=some x):C7 P t (.el (C l)) (.sc (.int .i64 z))=some (.el (f x++C (l.drop (z.toNat+1)))):=by
 unfold L9 at hx;split at hx
 · rename_i hz
   have hi:=(List.getElem?_eq_some_iff.1 hx).1
   have hn:QC (.sc (.int .i64 z))=some z.toNat:=by
     unfold QC;simp[hz]
   cases he:P.info? elem with
   | none=>rw[he] at hs;cases hs
   | some e =>
     rw[he] at hs;have hk:e.size=k:=by simpa using hs
     subst hl;unfold C7;rw[hu,hn];simp only[he,hk,if_pos hi];rw[h.eq,h.eq,RH h.len hx]
 cases hx
def aBR(z:List NZ)(oB:List AV):HR->Option (AX×List Cd×List AV×AS)
 | some (.fin e,[],cd,fr,s)=>(match nzs z fr s with
   | some (fr2,s2)=>some (e,cd,wkF fr2 oB,s2)
   | none=>none)
 | _=>none
def D8{r:HR}{X:Prop}{L:Code}{s0:AS}{Q:AX->List AV->AS->Prop}{l:List (PC P G)}(z:List NZ){fr2:List AV}{s2:AS}(R:TF P G l (Tc P G L s0 Q) r X)(h:aBR z fr2 r=some (.normal,dO l,fr2,s2))(k:WL P G (XS P G) H0 L fr2 s2 Q):X:=by
 unfold aBR at h;split at h;split at h;rename_i fr3 s3 hz;simp only[Option.some.injEq,Prod.mk.injEq] at h;obtain⟨rfl,rfl,h3,rfl⟩:=h;refine R _ _ _ _ rfl (Np l) ⟨_,_,λcx w c' w' vs hx _ hs' hr=>?_,k⟩;obtain⟨c2,x2,Ty,r2⟩:=nB hz c' w' vs hs' hr;exact⟨c2,hx.trans x2,Ty,h3▸Rt r2⟩;cases h;cases h
def Dm{M X:Prop}{L:Code}{fr:List AV}{s:AS}{Q:AX->List AV->AS->Prop}(SO:WL P G (XS P G) H0 L fr s Q->X)(k:M->W P G (XS P G) H0 L fr s (Tc P G L s Q)):M->X:=λh=>SO (Z6 (k h))
def bC{M X Y:Prop}(SO:Y->X)(k:M->Y):M->X:=λh=>SO (k h)
def ppn:PC P G:=⟨.p .any ⟨[],0,[],0⟩,[],trivial⟩
def pzq(c:Nat):PC P G:=⟨.zq c,[],trivial⟩
def amF{f:FuncId}{args Vn:List AV}{v:AV}{pre:List (Nat×AL)}{tp:List (Nat×Nat)}{Qf:List (Nat×AL)}{tu:List (Nat×Nat)}(w:Wn args Vn)(h:Cd.ok P G (.EM f Vn (.pan v) pre tp Qf tu)):PC P G :=
 ⟨.q v pre tp Qf tu,[.EM f args (.pan v) pre tp Qf tu,.oZ (NP pre) (NP pre) (Om tp) (Om tp)],⟨λs h1 h2 cx wd vs hs ha=>h s h1 h2 cx wd vs hs (w.ok ha),⟨rfl,rfl⟩,trivial⟩⟩
end
end AI
namespace AI
open Go
section
variable {α γ δ ρ:Type}
def allI(p:Nat->α->Bool):List α->Nat->Bool
 | [],_=>true
 | y::l,i=>p i y&&allI p l (i+1)
def fG{body:Nat->α->Unit->Option (Lp Unit δ ρ)}{done:Unit->δ}{p:Nat->α->Bool}{v:ρ}:∀{l:List α} {i:Nat},(∀k y,l[k]?=some y->body (i+k) y ()=some (if p (i+k) y then .nx () else .rt v))->Dh body done l i ()=some (if allI p l i then .inl (done ()) else .inr v)
 | [],i,_=>rfl
 | y::l,i,h=>by
   have h0:=h 0 y rfl;rw[Nat.add_zero] at h0;rw[Dh,h0,allI];cases p i y with
   | false=>simp[Q8]
   | true =>
     have:=fG (body:=body) (done:=done) (p:=p) (v:=v) (l:=l) (i:=i+1) λk z hz=>by
       have:=h (k+1) z (by simpa using hz)
       rwa[show i+(k+1)=i+1+k by omega] at this
     simpa[Q8] using this
def UY{β:Type}{n:Nat}{x:Option β}(h:n<=9223372036854775807):Sx n x=x:=by unfold Sx;rw[if_pos h]
def GN{β:Type}{n:Nat}{x:Option β}(h:n<=100000000):OE n x=x:=by unfold OE;rw[if_pos h]
end
end AI
namespace AI
open Go
def mb(p:Prop):Bool:=@decide p (Classical.propDecidable _)
def Db{p:Prop}:mb p=true↔p:=by unfold mb;exact @decide_eq_true_iff p (_)
def LM{p q:Prop}(h:p↔q):mb p=mb q:=by rw[propext h]
def Kt{β:Type}(p:Prop)(x y:β):β:=@ite β p (Classical.propDecidable _) x y
def CC{β:Type}{p:Prop}{x y:β}(h:p):Kt p x y=x:=@if_pos p (_) h _ _ _
def CH{β:Type}{p:Prop}{x y:β}(h:¬p):Kt p x y=y:=@if_neg p (_) h _ _ _
section
variable {β:Type} {x y:β}
def My(p:Prop):cond (mb p) x y=Kt p x y:=by
 by_cases h:p;rw[CC h,Db.2 h];rfl;rw[CH h]
 have:mb p=false:=by
   cases hm:mb p;rfl;exact absurd (Db.1 hm) h
 rw[this];rfl
end
section
variable {p q r:Prop}
def gI:Kt p (some true) (some false)=some (mb p):=by
 by_cases h:p;rw[CC h,Db.2 h];rw[CH h];congr 1;cases hm:mb p;rfl;exact absurd (Db.1 hm) h
def awC:Kt p (some (mb q)) (some false)=some (mb (p/\q)):=by
 by_cases h:p;rw[CC h];congr 1;rw[Bool.eq_iff_iff,Db,Db];simp[h];rw[CH h];congr 1;rw[Bool.eq_iff_iff,Db];simp[h]
def aJI:Kt p (some false) (some (mb q))=some (mb (¬p/\q)):=by
 by_cases h:p;rw[CC h];congr 1;rw[Bool.eq_iff_iff,Db];simp[h];rw[CH h];congr 1;rw[Bool.eq_iff_iff,Db,Db];simp[h]
def awD:Kt p (some true) (some (mb q))=some (mb (p\/q)):=by
 by_cases h:p;rw[CC h];congr 1;rw[Bool.eq_iff_iff,Db];simp[h];rw[CH h];congr 1;rw[Bool.eq_iff_iff,Db,Db];simp[h]
def ck{δ ρ:Type}(v:ρ)(p:Prop):Lp Unit δ ρ:=Kt p (.nx ()) (.rt v)
variable {δ ρ:Type} {v:ρ}
def aAW:Kt p (some (.nx ())) (some (.rt v))=some (ck (δ:=δ) v p):=by
 unfold ck;by_cases h:p;rw[CC h,CC h];rw[CH h,CH h]
def alA:Kt p (some (.rt v)) (some (.nx ()))=some (ck (δ:=δ) v ¬p):=by
 unfold ck;by_cases h:p;rw[CC h,CH (by simp[h])];rw[CH h,CC h]
def avU:Kt p (some (ck (δ:=δ) v q)) (some (.rt v))=some (ck v (p/\q)):=by
 unfold ck;by_cases h:p;rw[CC h];simp[h];rw[CH h,CH (by simp[h])]
def alB:Kt p (some (.rt v)) (some (ck (δ:=δ) v q))=some (ck v (¬p/\q)):=by
 unfold ck;by_cases h:p;rw[CC h,CH (by simp[h])];rw[CH h];simp[h]
def avT:Kt p (some (ck (δ:=δ) v q)) (some (.nx ()))=some (ck v (p->q)):=by
 unfold ck;by_cases h:p;rw[CC h];simp[h];rw[CH h,CC (by simp[h])]
def aJD:Kt p (some (.nx ())) (some (ck (δ:=δ) v q))=some (ck v (p\/q)):=by
 unfold ck;by_cases h:p;rw[CC h,CC (by simp[h])];rw[CH h];simp[h]
def aJE:Kt p (some (ck (δ:=δ) v q)) (some (ck v r))=some (ck v ((p->q)/\(¬p->r))):=by
 unfold ck;by_cases h:p;rw[CC h];simp[h];rw[CH h];simp[h]
def bI{α β:Type}{l:List α}{body:Nat->α->Unit->Option (Lp Unit Unit ρ)}{P:Nat->α->Prop}{k:Unit->Option β}{kr:ρ->Option β}(hl:l.length<=9223372036854775807)(hb:∀i y,l[i]?=some y->body i y ()=some (ck v (P i y))):(Sx l.length (Dh body (λ_=>()) (l.drop 0) 0 ())).bind (PD k kr)=Kt (∀i y,l[i]?=some y->P i y) (k ()) (kr v):=by
 rw[UY hl,List.drop_zero]
 have h1:∀k y,l[k]?=some y->body (0+k) y ()=some (if mb (P (0+k) y) then .nx () else .rt v):=λk y hy=>by
   rw[Nat.zero_add,hb k y hy];unfold ck;by_cases h:P k y;rw[CC h,if_pos (Db.2 h)];rw[CH h,if_neg (λe=>h (Db.1 e))]
 rw[fG (p:=λi y=>mb (P i y)) (v:=v) h1]
 have h2:∀(l:List α) (i:Nat),allI (λi y=>mb (P i y)) l i=true↔∀k y,l[k]?=some y->P (i+k) y:=by
   intro l
   induction l with
   | nil=>intro i;simp[allI]
   | cons a l ih =>
     intro i;rw[allI,Bool.and_eq_true,Db,ih];constructor;rintro⟨h1,h2⟩ k y hk;cases k with
     | zero=>simp at hk;subst hk;exact h1
     | succ k=>rw[show i+(k+1)=i+1+k by omega];exact h2 k y (by simpa using hk)
     intro h;refine⟨h 0 a rfl,λk y hk=>?_⟩;rw[show i+1+k=i+(k+1) by omega];exact h (k+1) y (by simpa using hk)
 have h3:=h2 l 0;simp only[Nat.zero_add] at h3;by_cases h:∀i y,l[i]?=some y->P i y;rw[CC h,h3.2 h];rfl;rw[CH h]
 have:allI (λi y=>mb (P i y)) l 0=false:=by
   cases ha:allI (λi y=>mb (P i y)) l 0;rfl;exact absurd (h3.1 ha) h
 rw[this];rfl
end
end AI
namespace AI
open Go
def Sp{β:Type}(o:Option β)(Q:β->Prop):Prop:=∃r,o=some r/\Q r
section
variable {α β γ δ ρ κ:Type} {Q:β->Prop}
def Sp.mono{Q':β->Prop}{o:Option β}(h:Sp o Q)(k:∀r,Q r->Q' r):Sp o Q':=h.elim λr h=>⟨r,h.1,k r h.2⟩
def SW(a b:Int):SV a b=mb (a<=b):=by rw[XG,Bool.eq_iff_iff,Db,decide_eq_true_iff]
def OF(a b:Int):EK a b=mb (a < b):=by rw[Rf,Bool.eq_iff_iff,Db,decide_eq_true_iff]
def KC(a b:Int):DV a b=mb (a=b):=by rw[Q6,Bool.eq_iff_iff,Db,beq_iff_eq]
def Q5(a b:ByteArray):BY a.data.toList b.data.toList=mb (a=b):=by
 rw[UK,Bool.eq_iff_iff,Db,beq_iff_eq];exact⟨λh=>ByteArray.ext (Array.ext' h),λh=>by rw[h]⟩
def mX{p:Prop}:(mb p=true)=p:=propext Db
def VC{p:Prop}:(mb p=false)=¬p:=by rw[<- Bool.not_eq_true,mX]
def fC{p:Prop}:(false=mb p)=¬p:=by rw[@eq_comm _ false,VC]
def smb{p q:Prop}(h:p↔q):some (mb p)=some (mb q):=by rw[LM h]
def cM{p:Prop}(h:¬p):some false=some (mb p):=congrArg some (by rw[fC];exact h)
end
def Yu{n:Int}(h:-9223372036854775808<=n/\n<=9223372036854775807):Ms .i64 n=n:=by
 rw[Uw];exact IntWalk.i64_in n (by omega)
def G3{a b:Int}(h:-9223372036854775808<=a+b/\a+b<=9223372036854775807):BQ a b=a+b:=by
 unfold BQ;rw[Z8,Yu h]
def Qi{a b:Int}(h:-9223372036854775808<=a - b/\a - b<=9223372036854775807):R8 a b=a - b:=by
 unfold R8;rw[cQ,Yu h]
def Ir{a b:Int}(h:-9223372036854775808<=a*b/\a*b<=9223372036854775807):BM a b=a*b:=by
 unfold BM;rw[Yu h]
end AI
namespace AI
open Go Go.RowKit
def YS(w w1:World)(g:Nat):Prop:=w.heap.size<=g/\g < w1.heap.size
def Cx.Y1(cx:Cx)(w w1:World):Cx:=⟨cx.base,cx.CN,cx.rows,λg i=>cx.bad g i\/YS w w1 g⟩
def Cx.Vc(c:Cx)(cx:Cx):Cx:=⟨c.base,c.CN,c.rows,cx.bad⟩
section
variable {G:A6} {cx:Cx} {w w1:World} {s:AS}
def Us(k:QO w w1 (λ_=>False)):Mon cx w (cx.Y1 w w1) w1:=by
 refine⟨λ_ _ e=>e,Nat.le_refl _,λr y _ h=>⟨y,h,J8.refl y⟩,λg i v hv=>⟨Nat.lt_of_lt_of_le hv.1 k.size,λhs=>?_,by rw[k.cell hv.1 id];exact hv.2.2⟩⟩;rcases hs with hs | hs | hs | hs
 exact hv.2.1 (.inl hs);exact hv.2.1 (.inr (.inl hs));exact hv.2.1 (.inr (.inr hs));have:=hs.1;have:=hv.1;omega
def sR(h:St G cx w s)(k:QO w w1 (λ_=>False)):St G (cx.Y1 w w1) w1 s:=by
 have m:=Us (cx:=cx) k;refine⟨h.len,h.desc,h.nodup,h.low,λid g b h1 h2=>?_,h.Ip,λr g n cap sz hr=>?_,h.Ix,λg hg=>Nat.lt_of_lt_of_le (h.L0 g hg) k.size,λg i hb=>?_,h.Ig,λg cs hg=>(h.Ma g cs hg).Dp m,Nat.le_trans h.PB k.size⟩;obtain⟨o,ho,hb⟩:=h.box id g b h1 h2;exact⟨o,by rw[k.block g (Array.getElem?_eq_some_iff.1 ho).1 not_false];exact ho,hb.Dp m⟩;have hl:=h.Mh hr;obtain⟨Ks,h2,h3,h4,vs,T,ho,h5⟩:=h.row r g n cap sz hr;refine⟨λi hb=>?_,h2,h3,h4,vs,T,by rw[k.block g (Array.getElem?_eq_some_iff.1 ho).1 not_false];exact ho,h5⟩;rcases hb with hb | hb
 exact Ks i hb;have:=hb.1;omega;rcases hb with hb | hb
 exact Nat.lt_of_lt_of_le (h.L8 g i hb) k.size;exact hb.2
variable {c':Cx} {w' w2:World} {s':AS}
def Tg(hx:Ext (cx.Y1 w w1) w1 c' w')(k2:QO w' w2 (YS w w1)):Mon c' w' (c'.Vc cx) w2:=by
 refine⟨λ_ _ e=>e,Nat.le_refl _,λr y _ h=>⟨y,h,J8.refl y⟩,λg i v hv=>⟨Nat.lt_of_lt_of_le hv.1 k2.size,λhs=>?_,?_⟩⟩;rcases hs with hs | hs | hs
 exact hv.2.1 (.inl hs);exact hv.2.1 (.inr (.inl hs));exact hv.2.1 (.inr (.inr (by rw[hx.bad];exact .inl hs)));rw[k2.cell hv.1 (λhk=>hv.2.1 (.inr (.inr (by rw[hx.bad];exact .inr hk))))];exact hv.2.2
def Yl(h:St G cx w s)(k:QO w w1 (λ_=>False))(hx:Ext (cx.Y1 w w1) w1 c' w')(k2:QO w' w2 (YS w w1)):Ext cx w (c'.Vc cx) w2:=by
 have m:=Us (cx:=cx) k;have m2:=Tg hx k2;refine⟨hx.CN,hx.Ip,hx.rows,λg i v hv=>m2.Y2 g i v (hx.Y2 g i v (m.Y2 g i v hv)),?_,hx.base,rfl,λg hg=>?_,λr g n cap sz hr=>?_,λq hq hp hr=>?_⟩;have b1:Below cx.base w w1:=k.below h.PB (λ_ h=>h.elim);have b2:Below cx.base w1 w':=hx.below;have b3:Below cx.base w' w2:=k2.below (Nat.le_trans (Nat.le_trans h.PB k.size) b2.size) (λq hq=>Nat.le_trans h.PB hq.1);exact(b1.trans b2).trans b3;rcases hx.YU g hg with h1 | h1
 exact .inl h1;exact .inr (Nat.le_trans k.size h1);rcases hx.YV r g n cap sz hr with h1 | h1
 exact .inl h1;exact .inr (Nat.le_trans k.size h1);have hq1:q < w1.heap.size:=Nat.lt_of_lt_of_le hq k.size;rw[k2.block q (Nat.lt_of_lt_of_le hq1 hx.below.size) (λhn=>by have:=hn.1;omega),hx.GF q hq1 hp hr,k.block q hq not_false]
def ZQ(h:St G cx w s)(hx:Ext (cx.Y1 w w1) w1 c' w')(hs':St G c' w' s')(k2:QO w' w2 (YS w w1)):St G (c'.Vc cx) w2 s':=by
 have m2:=Tg hx k2
 have Ra:∀g,some g∈c'.CN->¬YS w w1 g:=by
   intro g hg hn;rcases hx.YU g hg with h1 | h1
   have:=h.L0 g h1;have:=hn.1;omega;have:=hn.2;omega
 refine⟨hs'.len,hs'.desc,hs'.nodup,hs'.low,λid g b h1 h2=>?_,hs'.Ip,λr g n cap sz hr=>?_,hs'.Ix,λg hg=>Nat.lt_of_lt_of_le (hs'.L0 g hg) k2.size,λg i hb=>Nat.lt_of_lt_of_le (hs'.L8 g i (by rw[hx.bad];exact .inl hb)) k2.size,hs'.Ig,λg cs hg=>(hs'.Ma g cs hg).Dp m2,Nat.le_trans hs'.PB k2.size⟩;obtain⟨o,ho,hb⟩:=hs'.box id g b h1 h2;exact⟨o,by rw[k2.block g (Array.getElem?_eq_some_iff.1 ho).1 (Ra g (List.mem_of_getElem? h1))];exact ho,hb.Dp m2⟩;obtain⟨Ks,h2,h3,h4,vs,T,ho,h5⟩:=hs'.row r g n cap sz hr;have hb:c'.bad=λg i=>cx.bad g i\/YS w w1 g:=hx.bad;exact⟨λi VS=>Ks i (by rw[hb];exact .inl VS),h2,h3,h4,vs,T,by rw[k2.block g (Array.getElem?_eq_some_iff.1 ho).1 (λhn=>Ks 0 (by rw[hb];exact .inr hn))];exact ho,h5⟩
def MX(h:St G cx w s)(hx:Ext (cx.Y1 w w1) w1 c' w'){q:Nat}(hq:YS w w1 q):w'.heap[q]?=w1.heap[q]?:=by
 refine hx.GF q hq.2 (λhm=>?_) (λr n cap sz hr=>?_);have:=h.L0 q hm;have:=hq.1;omega;have:=h.Mh (r:=r) hr;have:=hq.1;omega
end
end AI
