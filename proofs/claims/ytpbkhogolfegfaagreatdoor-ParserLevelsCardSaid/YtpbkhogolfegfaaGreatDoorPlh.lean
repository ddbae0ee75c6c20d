/- Part of a proof: see the last text. -/
import Derived.Test.YtpbkhogolfegfaaGreatDoorPlg
set_option linter.unusedVariables false
set_option linter.unusedSimpArgs false
set_option linter.defProp false
noncomputable section
namespace AI
open Go Go.RowKit
def Wi(ps:List (Nat×Nat)):List AV:=ps.map λp=>.ptr p.1 p.2
def VG(ps:List (Nat×Nat)):(Wi ps).length=ps.length:=by simp[Wi]
def Eo(b:Nat)(B:Nat->Nat->Prop)(w0:World)(g cap:Nat)(ps:List (Nat×Nat)):EW:=λc w =>
 c.base=b/\Below b w0 w/\(∀g' i,c.bad g' i↔(B g' i\/g'=g))/\b<=g/\some g∉c.CT/\(∀(r:Nat) n cap' sz,c.rows[r]?≠some (.QW g n cap' sz)) /\
 ∃(vs ext:List Value) (T:TypeId),w.heap[g]?=some (.cells (vs++ext).toArray T (0,0))/\vs.length+ext.length=cap/\CH c w (Wi ps) vs
def Eo.G3{b:Nat}{B:Nat->Nat->Prop}{w0:World}{g cap:Nat}{ps:List (Nat×Nat)}:Ua (Eo b B w0 g cap ps):=by
 rintro cx w QX w' ⟨h1,h2,h3,h4,h5,h6,vs,ext,T,h7,h8,h9⟩ hx;have hg:g < w.heap.size:=(Array.getElem?_eq_some_iff.1 h7).1;refine⟨hx.base.trans h1,h2.trans (by have:=hx.below;rwa[h1] at this),λg' i=>by rw[hx.bad];exact h3 g' i,h4,λhm=>?_,λr n cap' sz hr=>?_,vs,ext,T,by rw[hx.G3 g hg h5 h6];exact h7,h8,h9.mono hx⟩;rcases hx.ZA g hm with h | h
 exact h5 h;omega;rcases hx.ZB r g n cap' sz hr with ⟨r0,n0,Pf,lF,h⟩ | h
 exact h6 _ _ _ _ h;omega
def Eo.fin{b:Nat}{B:Nat->Nat->Prop}{w0:World}{g cap:Nat}{ps:List (Nat×Nat)}(hB:∀g i,B g i->g < b):aBC b B w0 (Eo b B w0 g cap ps):=by
 rintro c w ⟨h1,h2,h3,h4,h5,_⟩;refine⟨h1,h2,λg' i hb=>(h3 g' i).2 (.inl hb),λg' i hg hb=>?_⟩;rcases(h3 g' i).1 hb with h | rfl
 exact hB g' i h;exact absurd hg h5
def Eo.pop{b:Nat}{B:Nat->Nat->Prop}{w0:World}{g cap:Nat}{ps:List (Nat×Nat)}{p:Nat×Nat}{c:Cx}{w:World}(h:Eo b B w0 g cap (ps++[p]) c w):Eo b B w0 g cap ps c w:=by
 obtain⟨h1,h2,h3,h4,h5,h6,vs,ext,T,h7,h8,h9⟩:=h;have hl:=h9.len;rw[VG,List.length_append] at hl;refine⟨h1,h2,h3,h4,h5,h6,vs.take ps.length,vs.drop ps.length++ext,T,by rw[<- List.append_assoc,List.take_append_drop];exact h7,by rw[List.length_append,List.length_take,List.length_drop];omega,?_⟩;have:=h9.take ps.length;unfold Wi at this ⊢;rwa[List.map_append,List.take_left' (by simp)] at this
def St.move{G:A8}{c c':Cx}{w w':World}{s:AS}(h:St G c w s)(hm:Mon c w c' w')(RC:c'.CT=c.CT)(sV:c'.rows=c.rows)(adZ:c'.base=c.base)
   (atQ:∀k,k < w.heap.size->(some k∈c.CT\/∃(r:Nat) (n cap sz:Nat),c.rows[r]?=some (.QW k n cap sz))->w'.heap[k]?=w.heap[k]?) (atY:w.heap.size<=w'.heap.size)
   (KH:∀g i,c'.bad g i->(c.bad g i\/w.heap.size<=g)/\g < w'.heap.size):St G c' w' s:=by
 refine⟨by rw[RC];exact h.len,h.desc,by rw[RC];exact h.nodup,by rw[RC,adZ];exact h.low,λid g b h1 h2=>?_,by rw[sV];exact h.IN,λr g n cap sz hr=>?_,by rw[sV];exact h.IZ,λg hg=>Nat.lt_of_lt_of_le (h.Md g (by rwa[RC] at hg)) atY,λg i hb=>(KH g i hb).2,by rw[sV];exact h.IH,λg cs hg=>(h.Mp g cs hg).Dt hm,by rw[adZ];exact Nat.le_trans h.PV atY⟩;rw[RC] at h1;obtain⟨o,ho,hb⟩:=h.box id g b h1 h2;exact⟨o,by rw[atQ g (Array.getElem?_eq_some_iff.1 ho).1 (.inl (List.mem_of_getElem? h1))];exact ho,hb.Dt hm⟩;rw[sV] at hr;obtain⟨a1,a2,a3,a4,vs,T,a5,a6⟩:=h.row r g n cap sz hr;have hlt:=h.Mx hr;refine⟨λi hb=>?_,by rw[adZ];exact a2,by rw[RC];exact a3,a4,vs,T,by rw[atQ g hlt (.inr ⟨r,n,cap,sz,hr⟩)];exact a5,a6⟩;rcases(KH g i hb).1 with h1 | h1
 exact a1 i h1;omega
section
variable {P:Program} {G:A8} {E:EW} {fr:List AV} {s:AS} {Q:QE}
def O5.aFB{ι:Type}{E':ι->EW}{ops:Array Oper}{i:Nat}{l:List Nat}{o:Oper}{fr2:List AV}(v:ι->AV){s2:AS}(ho:ops[i]?=some o)(hg:o.guard=none)
   (h:∀(cx:Cx) (w:World) (a:Act),E cx w->St G cx w s->CH cx w fr a.tmps.toList->∃x u w' QX,(execOp a.eval o).run P w=.ok (.value u) w'/\E' x QX w'/\St G QX w' s2/\CH QX w' fr2 a.tmps.toList/\Rp QX w' (v x) u)
   (t:∀x,O5 P G (E' x) ops l (IJ fr2 o.dst (v x)) s2 Q):O5 P G E ops (i::l) fr s Q:=by
 intro cx w a K hE hs hf hd hK;refine LD ho ?_;obtain⟨x,u,w',QX,hr,iI,hs',iR,hu⟩:=h cx w a hE hs hf;unfold Mk;have hw:Region.wanted o (yielded ops a.tmps)=true:=by unfold Region.wanted;rw[hg]
 rw[hw];simp only[if_true];unfold Oper.wp;rw[hr];exact t x QX w' (a.put o.dst u) K iI hs' (Od iR hu) (by cases o.dst<;>exact hd) hK
def WE.reg{c:Code}{n:Nat}(h:RS c n=true)(k:O5 P G E (FQ c) (List.range n) fr s Q):WE P G E c fr s Q:=by
 obtain⟨⟨id,hc⟩,hn⟩:=uG h;rw[hc];refine .region ?_;rw[<- hn] at k;exact k
variable {c:Code} {n i:Nat} {l:List Nat}
def O5.len{x:Operand}{t e:TypeId}{A:Option Addr}{k cap:Nat}(hr:RS c n=true)(hi:i < n)(h:tG (opAt c i)=some (x,t))(hu:P.underlying t=some (.slice e))(ha:Ba G fr x=some (.raw A k cap))
   (j:O5 P G E (FQ c) l (IJ fr (opAt c i).dst (.sc (.int .i64 k))) s Q):O5 P G E (FQ c) (i::l) fr s Q:=by
 have hgd:(opAt c i).guard=none:=by
   unfold tG at h;split at h;rename_i hg;exact hg;cases h
 refine .sem (.sc (.int .i64 k)) (K1 hr hi) hgd (λcx w a hE hs hf=>?_) j;have hv:=Ew hs hf ha;generalize hq:a.eval x=v at hv;cases hv;exact⟨_,w,cx,(xP h hu hq).2,hE,hs,hf,.sc rfl⟩
variable {b g cap:Nat} {B:Nat->Nat->Prop} {w0:World} {ps:List (Nat×Nat)} {p:Nat×Nat}
def O5.top{t t2 e d:TypeId}{x y:Operand}(hr:RS c n=true)(hi:i+1 < n)(h1:ayJ (opAt c i)=some (t,x,y))(hd:(opAt c i).dst=some d)(h2:ayP (opAt c (i+1))=some (t2,.tmp d))(hu:P.underlying t=some (.slice e))(he:(P.info? e).map (·.size)=some 1)
   (hd2:(P.underlying t2).map Nv=some false) (he2:(P.info? t2).map (·.size)=some 1) (ha:Ba G fr x=some (.raw (some ⟨g,0,none⟩) (ps++[p]).length cap)) (hy:Ba G fr y=some (.sc (.int .i64 ((ps.length:Nat):Int)))) (hd3:Nat.blt d fr.length=true)
   (j:O5 P G (Eo b B w0 g cap (ps++[p])) (FQ c) l (IJ (IJ fr (some d) .any) (opAt c (i+1)).dst (.ptr p.1 p.2)) s Q):O5 P G (Eo b B w0 g cap (ps++[p])) (FQ c) (i::(i+1)::l) fr s Q:=by
 have hd3:d < fr.length:=Nat.blt_eq.mp hd3;intro cx w a K hE hs hf hdf hK;have sX:=Ew hs hf ha;have hvy:=Ew hs hf hy;generalize hqa:a.eval x=va at sX;generalize hqy:a.eval y=vy at hvy;cases sX;cases hvy;obtain⟨ie,hie,hsz⟩:=Option.map_eq_some_iff.1 he;have r1:=aeX (P:=P) (w:=w) h1 hu hie hqa hqy (by simp);rw[hsz,Nat.mul_one] at r1;have hE2:=hE;obtain⟨_,_,_,_,_,_,vs,ext,T,h7,h8,h9⟩:=hE2;refine LD (K1 hr (by omega)) ?_;unfold Mk;rw[show Region.wanted (opAt c i) (yielded (FQ c) a.tmps)=true by unfold Region.wanted;rw[r1.1]];simp only[if_true];unfold Oper.wp;rw[r1.2];show wpOps P (FQ c) K ((i+1)::l) (a.put (opAt c i).dst (.pointer (some ⟨g,ps.length,none⟩))) w;rw[hd];have hl:=hf.len;rw[Array.length_toList] at hl
 have IS:(a.put (some d) (.pointer (some ⟨g,ps.length,none⟩))).eval (.tmp d)=.pointer (some ⟨g,ps.length,none⟩):=by
   simp[Act.put,Act.eval,Array.getD_eq_getD_getElem?,Array.getElem?_setIfInBounds,hl,hd3]
 have hap:apart P t2 (Wi (ps++[p])) ps.length=some (.ptr p.1 p.2):=by
   unfold apart;obtain⟨dd,hu2,hdd⟩:=Option.map_eq_some_iff.1 hd2;rw[hu2];cases Ur:P.info? t2 with
   | none=>rw[Ur] at he2;cases he2
   | some j =>
     simp only;rw[hdd,if_neg (by simp)];simp[Wi]
 obtain⟨u,hru,hrp⟩:=Tm (P:=P) (w:=w) (g:=g) (o:=0) hap h9 (λi v hv=>by rw[Nat.zero_add];exact cell_of_heap h7 (R5 hv));rw[Nat.zero_add] at hru;have r2:=afB (P:=P) (w:=w) h2 IS hru;refine LD (K1 hr hi) ?_;unfold Mk;rw[show ∀q,Region.wanted (opAt c (i+1)) q=true by intro q;unfold Region.wanted;rw[r2.1]];simp only[if_true];unfold Oper.wp;rw[r2.2];exact j cx w _ K hE hs (Od (Od (dst:=some d) hf (.any (v:=.pointer (some ⟨g,ps.length,none⟩)) rfl)) hrp) (by cases (opAt c (i+1)).dst<;>exact hdf) hK
def O5.aMZ{t e:TypeId}{x y:Operand}(hr:RS c n=true)(hi:i < n)(h:uS (opAt c i)=some (t,x,y))(hu:P.underlying t=some (.slice e))(he:(P.info? e).map (·.size)=some 1)(ha:Ba G fr x=some (.raw (some ⟨g,0,none⟩) (ps++[p]).length cap))(hy:Ba G fr y=some (.sc (.int .i64 ((ps.length:Nat):Int))))
   (j:O5 P G (Eo b B w0 g cap ps) (FQ c) l (IJ fr (opAt c i).dst (.raw (some ⟨g,0,none⟩) ps.length cap)) s Q):O5 P G (Eo b B w0 g cap (ps++[p])) (FQ c) (i::l) fr s Q:=by
 have hgd:(opAt c i).guard=none:=by
   unfold uS at h;split at h;rename_i hg;exact hg;cases h
 refine .sem (.raw (some ⟨g,0,none⟩) ps.length cap) (K1 hr hi) hgd (λcx w a hE hs hf=>?_) j;have sX:=Ew hs hf ha;have hvy:=Ew hs hf hy;generalize hqa:a.eval x=va at sX;generalize hqy:a.eval y=vy at hvy;cases sX;cases hvy;obtain⟨ie,hie,_⟩:=Option.map_eq_some_iff.1 he;have hE2:=hE;obtain⟨_,_,_,_,_,_,vs,ext,T,h7,h8,h9⟩:=hE2;have hl:=h9.len;rw[VG,List.length_append] at hl;exact⟨_,w,cx,(yW h hu hie hqa hqy (by omega)).2,hE.pop,hs,hf,.raw⟩
def O5.push{t tx e e2 id off:TypeId}{x y:Operand}(hr:RS c n=true)(hi:i < n)(h:gA (opAt c i)=some (x,y,t,tx))(hu:P.underlying t=some (.slice e))(hux:P.underlying tx=some (.slice e2))
   (he:(P.info? e).map (λi=>(i.size,decide (i.bytes<=10000),i.zero.map (·.cells.size)))=some (1,true,some 1)) (ha:Ba G fr x=some (.raw (some ⟨g,0,none⟩) ps.length cap)) (hy:Ba G fr y=some (.sl .full 1 [.ptr id off])) (hlen:ps.length+1<=100000000)
   (j:∀g' cap',O5 P G (Eo b B w0 g' cap' (ps++[(id,off)])) (FQ c) l (IJ fr (opAt c i).dst (.raw (some ⟨g',0,none⟩) (ps++[(id,off)]).length cap')) s Q):O5 P G (Eo b B w0 g cap ps) (FQ c) (i::l) fr s Q:=by
 cases hie:P.info? e with
 | none=>rw[hie] at he;cases he
 | some ie =>
 rw[hie] at he;simp only[Option.map_some,Option.some.injEq,Prod.mk.injEq,decide_eq_true_eq] at he;obtain⟨hsz,hby,hzz⟩:=he;obtain⟨z,hz,hzs⟩:=Option.map_eq_some_iff.1 hzz;refine .aFB (ι:=Nat×Nat) (E':=λq=>Eo b B w0 q.1 q.2 (ps++[(id,off)])) (λq=>.raw (some ⟨q.1,0,none⟩) (ps++[(id,off)]).length q.2) (K1 hr hi) (gE h) (λcx w a hE hs hf=>?_) (λq=>j q.1 q.2);have sX:=Ew hs hf ha;have hvy:=Ew hs hf hy;generalize hqa:a.eval x=va at sX;generalize hqy:a.eval y=vy at hvy;cases sX;obtain⟨h1,h2,h3,h4,h5,h6,vs,ext,T,h7,h8,h9⟩:=hE;have hg:g < w.heap.size:=(Array.getElem?_eq_some_iff.1 h7).1;have hl:=h9.len;rw[VG] at hl;obtain⟨news,hnr,hnl,hsi⟩:=bU (P:=P) (s:=s) (size:=ie.size) (tx:=tx) (n:=1) (cs:=[.ptr id off]) hs (by unfold Wt;rw[hux,hsz];rfl) hvy;rw[hsz,Nat.mul_one] at hnl;have aLL:∀g' i v,LG cx w g' i v->g'≠g:=λg' i v hv e=>hv.2.1 (.inr (.inr ((h3 g' i).2 (.inr e))))
 have atU:∀{QX:Cx} {w':World},Mon cx w QX w'->CH QX w' (Wi (ps++[(id,off)])) (vs++news):=λhm=>by
   unfold Wi at h9 ⊢;rw[List.map_append];exact(h9.Dt hm).append (hnr.Dt hm)
 by_cases Ut:ps.length+1<=cap;have xH:ps.length+news.length<=(vs++ext).toArray.size:=by rw[hnl,List.size_toArray,List.length_append];omega
 have FW:=run_storeCells_at P g ps.length T news 0 (vs++ext).toArray w h7 (by simpa using xH) (Xa hnr rfl)
 simp only[Nat.add_zero] at FW;have Lu:=setRow_heap w g (vs++ext).toArray ((vs++ext).toArray.toList.take ps.length++news++(vs++ext).toArray.toList.drop (ps.length+news.length)).toArray T (0,0) h7;have hc:=Ht w g ((vs++ext).toArray.toList.take ps.length++news++(vs++ext).toArray.toList.drop (ps.length+news.length)).toArray
 have axD:((vs++ext).toArray.toList.take ps.length++news++(vs++ext).toArray.toList.drop (ps.length+news.length))=(vs++news)++ext.drop 1:=by
   simp only[List.toList_toArray];rw[List.take_left' hl,hnl,List.drop_append];rw[List.drop_eq_nil_of_le (by omega),List.nil_append,show ps.length+1 - vs.length=1 by omega]
 rw[axD] at Lu FW hc;have hm:Mon cx w cx (w.setRow g ((vs++news)++ext.drop 1).toArray):=⟨λ_ _ h=>h,Nat.le_refl _,λr y _ h=>⟨y,h,Kq.refl y⟩,λg' i v hv=>⟨Nat.lt_of_lt_of_le hv.1 hc.size,hv.2.1,by rw[hc.cell hv.1 (aLL g' i v hv)];exact hv.2.2⟩⟩
 refine⟨(g,cap),_,_,cx,(ZO h (λty=>by
   rw[hqa,hqy];exact Qp (ty:=ty) hu hie hsi Ut (w':=w.setRow g ((vs++news)++ext.drop 1).toArray) (λa ha=>by cases ha;rw[add_lit,Nat.zero_add,hsz,Nat.mul_one];exact FW) (λh=>by cases h))).2,⟨h1,h2.trans (hc.below (by rw[<- h1];exact hs.PV) (λk hk=>by rw[hk];exact h4)),h3,h4,h5,h6,vs++news,ext.drop 1,T,Lu,?_,atU hm⟩,hs.move hm rfl rfl rfl (λk hk hor=>hc.block k hk (λe=>?_)) hc.size (λg' i hb=>⟨.inl hb,Nat.lt_of_lt_of_le (hs.Mn g' i hb) hc.size⟩),hf.Dt hm,?_⟩
 rw[List.length_append,List.length_drop];omega;subst e;rcases hor with h | ⟨r,n',cap',sz,h⟩
 exact h5 h;exact h6 _ _ _ _ h;rw[List.length_append];exact .raw
 have hfc:(Builtin.firstCells ie.size ps.length (.slice (some ⟨g,0,none⟩) ps.length cap)).run P { w with drawn:=w.drawn+1 }=.ok vs.toArray { w with drawn:=w.drawn+1 }:=by
   rw[hsz];refine run_firstCells_some { w with drawn:=w.drawn+1 } 1 ps.length ⟨g,0,none⟩ ps.length cap vs (by omega) (λj v hj=>?_)
   rw[add_lit,Nat.zero_add];exact cell_of_heap h7 (R5 hj)
 have axC:(ps.length+1)*ie.bytes<=140737488355328:=Nat.le_trans (Nat.mul_le_mul hlen hby) (by decide)
 have hex:∃cap',ps.length+1<=cap'/\∀ty,(Builtin.append_ #[t,tx] ty #[.slice (some ⟨g,0,none⟩) ps.length cap,vy]).run P w=.ok (.slice (some ⟨w.heap.size,0,none⟩) (ps.length+1) cap') { w with drawn:=w.drawn+1,heap:=w.heap.push (.cells ((vs++news).toArray++Builtin.zeroCells z.cells (cap' - (ps.length+1))) e) }:=by
   obtain⟨cap',hc',Q1⟩:=Qo (ty:=0) hu hie hz hsi hfc (by omega) (by omega) axC;exact⟨cap',hc',λty=>Q1⟩
 obtain⟨cap',X7,Q1⟩:=hex;have hzc:(Builtin.zeroCells z.cells (cap' - (ps.length+1))).size=cap' - (ps.length+1):=by rw[size_zeroCells,hzs,Nat.mul_one]
 let w':World:={ w with drawn:=w.drawn+1,heap:=w.heap.push (.cells ((vs++news).toArray++Builtin.zeroCells z.cells (cap' - (ps.length+1))) e) }
 have hk:Q9 w w' (λ_=>False):=⟨rfl,rfl,rfl,by simp[w'],λk hk _=>by simp[w',Array.getElem?_push];intro h;omega⟩
 have Lu:w'.heap[w.heap.size]?=some (.cells ((vs++news)++(Builtin.zeroCells z.cells (cap' - (ps.length+1))).toList).toArray e (0,0)):=by
   have:w'.heap[w.heap.size]?=some (.cells ((vs++news).toArray++Builtin.zeroCells z.cells (cap' - (ps.length+1))) e (0,0)):=by simp[w']
   rw[this];congr 2;apply Array.ext';simp
 let QX:Cx:={ cx with bad:=λg' i=>B g' i\/g'=w.heap.size }
 have hBs:∀g' i,B g' i->g' < w.heap.size:=λg' i hb=>hs.Mn g' i ((h3 g' i).2 (.inl hb));have hm:Mon cx w QX w':=⟨λ_ _ h=>h,Nat.le_refl _,λr y _ h=>⟨y,h,Kq.refl y⟩,λg' i v hv=>⟨Nat.lt_of_lt_of_le hv.1 hk.size,λGG=>?_,by rw[hk.cell hv.1 not_false];exact hv.2.2⟩⟩;have aLN:w'.heap.size=w.heap.size+1:=by simp[w']
 refine⟨(w.heap.size,cap'),_,w',QX,(ZO h (λty=>by rw[hqa,hqy];exact Q1 ty)).2,⟨h1,h2.trans (hk.below (by rw[<- h1];exact hs.PV) (λ_ h=>h.elim)),λ_ _=>Iff.rfl,by rw[<- h1];exact hs.PV,λhm'=>?_,λr n' c' sz WY=>?_,vs++news,_,e,Lu,?_,atU hm⟩,hs.move hm rfl rfl rfl (λk hk' _=>hk.block k hk' not_false) hk.size (λg' i hb=>?_),hf.Dt hm,?_⟩;have:=hs.Md _ hm';omega;have:=hs.Mx WY;omega;have hz3:(Builtin.zeroCells z.cells (cap' - (ps.length+1))).toList.length=cap' - (ps.length+1):=by rw[Array.length_toList,hzc]
 show(vs++news).length+_=cap';rw[hz3,List.length_append];omega;rcases hb with hb | rfl
 exact⟨.inl ((h3 g' i).2 (.inl hb)),by have:=hBs g' i hb;omega⟩;exact⟨.inr (Nat.le_refl _),by omega⟩;rw[List.length_append];exact .raw;rcases GG with GG | GG | GG
 exact hv.2.1 (.inl GG);exact hv.2.1 (.inr (.inl GG));rcases GG with GG | GG
 exact hv.2.1 (.inr (.inr ((h3 g' i).2 (.inl GG))));have:=hv.1;omega
def O5.begin{t e id off:TypeId}{x:Operand}(hr:RS c n=true)(hi:i < n)(h:alV (opAt c i)=some (t,x))(hu:P.underlying t=some (.slice e))(he:(P.info? e).map (λi=>(i.size,i.zero.map (·.cells.size)))=some (1,some 1))(ha:Ba G fr x=some (.ptr id off))
   (j:∀g',O5 P G (Eo b B w0 g' 1 [(id,off)]) (FQ c) l (IJ fr (opAt c i).dst (.raw (some ⟨g',0,none⟩) 1 1)) s Q):O5 P G (E0 b B w0) (FQ c) (i::l) fr s Q:=by
 cases hie:P.info? e with
 | none=>rw[hie] at he;cases he
 | some ie =>
 rw[hie] at he;simp only[Option.map_some,Option.some.injEq,Prod.mk.injEq] at he;obtain⟨hsz,hzz⟩:=he;obtain⟨z,hz,hzs⟩:=Option.map_eq_some_iff.1 hzz
 have hgd:(opAt c i).guard=none:=by
   unfold alV at h;split at h;rename_i hg;exact hg;cases h
 refine .aFB (ι:=Nat) (E':=λq=>Eo b B w0 q 1 [(id,off)]) (λq=>.raw (some ⟨q,0,none⟩) 1 1) (K1 hr hi) hgd (λcx w a hE hs hf=>?_) j;have sX:=Ew hs hf ha;generalize hqa:a.eval x=va at sX;obtain⟨h1,h2,h3⟩:=hE;have Q1:=(abE (P:=P) (w:=w) (ρ:=a.eval) h hu hie hsz hz hzs (by rw[hqa];cases sX;rfl)).2;rw[hqa] at Q1;let w':World:={ w with heap:=w.heap.push (.cells #[va] e) }
 have hk:Q9 w w' (λ_=>False):=Nh w _;let QX:Cx:={ cx with bad:=λg' i=>B g' i\/g'=w.heap.size }
 have hBs:∀g' i,B g' i->g' < w.heap.size:=λg' i hb=>hs.Mn g' i (by rw[h2];exact hb);have aLN:w'.heap.size=w.heap.size+1:=by simp[w']
 have hm:Mon cx w QX w':=⟨λ_ _ h=>h,Nat.le_refl _,λr y _ h=>⟨y,h,Kq.refl y⟩,λg' i v hv=>⟨Nat.lt_of_lt_of_le hv.1 hk.size,λGG=>by
   rcases GG with GG | GG | GG
   exact hv.2.1 (.inl GG);exact hv.2.1 (.inr (.inl GG));rcases GG with GG | GG
   exact hv.2.1 (.inr (.inr (by rw[h2];exact GG)));have:=hv.1;omega,by rw[hk.cell hv.1 not_false];exact hv.2.2⟩⟩
 refine⟨w.heap.size,_,w',QX,Q1,⟨h1,h3.trans (hk.below (by rw[<- h1];exact hs.PV) (λ_ h=>h.elim)),λ_ _=>Iff.rfl,by rw[<- h1];exact hs.PV,λhm'=>?_,λr n' c' sz WY=>?_,[va],[],e,by simp[w'],rfl,.cons (sX.Dt hm) .nil⟩,hs.move hm rfl rfl rfl (λk hk' _=>hk.block k hk' not_false) hk.size (λg' i hb=>?_),hf.Dt hm,.raw⟩;have:=hs.Md _ hm';omega;have:=hs.Mx WY;omega;rcases hb with hb | rfl
 exact⟨.inl (by rw[h2];exact hb),by have:=hBs g' i hb;omega⟩;exact⟨.inr (Nat.le_refl _),by omega⟩
def WE.run(hm:P.follows .mixedOrders=true)(hk:Ua E){c:Code}(l:List (PC P G)){e:AX}{fr2:List AV}{s2:AS}(h:qE fr2 (SD P G 300 c [] (pHs l) fr s)=some (e,fQ l,fr2,s2))(hp:∀v,e≠.pan v)(hq:Q e fr2 s2 E):WE P G E c fr s Q:=by
 unfold qE at h;split at h;rename_i e' cd fr' s' hr;simp only[Option.some.injEq,Prod.mk.injEq] at h;obtain⟨rfl,rfl,hfr,rfl⟩:=h;have hw:W P G (XS P G) H0 c fr s (λe2 f2 s2=>e2=e'/\f2=fr'/\s2=s'):=Ae 300 l _ _ _ _ hr (NC l) ⟨rfl,rfl,rfl⟩;obtain⟨e1,f1,s1,hj,rfl,rfl,rfl⟩:=hw;have hS:=sound (Rz hm) hj;intro cx w a K hE hs hf hd hK;refine hS cx w a K hs hf hd ?_;rintro e'' a' w' ⟨c',hx,hs',QZ,h4⟩;refine hK _ _ _ E hq c' w' a' e'' (hk _ _ _ _ hE hx) hs' QZ ?_;rw[<- hfr];cases e1 with
 | normal=>exact⟨h4.1,RY h4.2⟩
 | exit id=>exact⟨h4.1,RY h4.2⟩
 | ret=>exact⟨h4.1,RY h4.2⟩
 | pan v=>exact absurd rfl (hp v)
 cases h
end
end AI
namespace AI
open Go Go.RowKit
def S9{M:List AL}:∀{n id:Nat} {acc:List (Nat×AL)},id < n->look id (IW M n acc)=look id acc:=by
 induction M with
 | nil=>intro n id acc _;rfl
 | cons x M ih =>
   intro n id acc h;simp only[IW];rw[ih (by omega)];simp only[look]
   have:Nat.beq n id=false:=by
     cases hq:Nat.beq n id with
     | false=>rfl
     | true=>have:=beq_true hq;omega
   rw[this]
def Zu{M:List AL}:∀{n i:Nat} {acc:List (Nat×AL)} {b:AL},M[i]?=some b->look (n+i) (IW M n acc)=some b:=by
 induction M with
 | nil=>intro n i acc b h;simp at h
 | cons x M ih =>
   intro n i acc b h;cases i with
   | zero =>
     simp at h;subst h;simp only[IW,Nat.add_zero];rw[S9 (Nat.lt_succ_self n)];simp only[look,Nat.beq_refl]
   | succ i =>
     simp only[IW];rw[show n+(i+1)=n+1+i by omega];exact ih (by simpa using h)
def US{M:List AL}:∀{n id:Nat} {acc:List (Nat×AL)} {b:AL},id < n->QT id b (IW M n acc)=IW M n (QT id b acc):=by
 induction M with
 | nil=>intro n id acc b _;rfl
 | cons x M ih =>
   intro n id acc b h;simp only[IW];rw[ih (by omega)];simp only[QT]
   have:Nat.beq n id=false:=by
     cases hq:Nat.beq n id with
     | false=>rfl
     | true=>have:=beq_true hq;omega
   rw[this]
def eW{M:List AL}:∀{n i:Nat} {acc:List (Nat×AL)} {b:AL},i < M.length->QT (n+i) b (IW M n acc)=IW (M.set i b) n acc:=by
 induction M with
 | nil=>intro n i acc b h;simp at h
 | cons x M ih =>
   intro n i acc b h;cases i with
   | zero =>
     simp only[IW,Nat.add_zero,List.set_cons_zero];rw[US (Nat.lt_succ_self n)];simp only[QT,Nat.beq_refl]
   | succ i =>
     simp only[IW,List.set_cons_succ];rw[show n+(i+1)=n+1+i by omega];exact ih (by simpa using h)
def pF{x:AL}:∀{M:List AL} {n:Nat} {acc:List (Nat×AL)},IW (M++[x]) n acc=(n+M.length,x)::IW M n acc:=by
 intro M
 induction M with
 | nil=>intro n acc;rfl
 | cons y M ih =>
   intro n acc;simp only[List.cons_append,IW,List.length_cons];rw[ih,show n+1+M.length=n+(M.length+1) by omega]
def ajI{k:Nat}{b b0:AL}{T:List (Nat×AL)}:QT k b ((k,b0)::T)=(k,b)::T:=by simp only[QT,Nat.beq_refl]
def W4{k:Nat}{b:AL}{T:List (Nat×AL)}:look k ((k,b)::T)=some b:=by simp only[look,Nat.beq_refl]
def dH{k id:Nat}{b:AL}{T:List (Nat×AL)}(h:k≠id):look id ((k,b)::T)=look id T:=by
 simp only[look];cases hq:Nat.beq k id with
 | false=>rfl
 | true=>exact absurd (beq_true hq) h
def aAV{k id:Nat}{b b2:AL}{T:List (Nat×AL)}(h:k≠id):QT id b2 ((k,b)::T)=(k,b)::QT id b2 T:=by
 simp only[QT];cases hq:Nat.beq k id with
 | false=>rfl
 | true=>exact absurd (beq_true hq) h
def Ym{id:Nat}{b b0:AL}:∀{T:List (Nat×AL)},look id T=some b0->look id (QT id b T)=some b:=by
 intro T
 induction T with
 | nil=>intro h;cases h
 | cons e T ih =>
   intro h;simp only[look] at h;simp only[QT];split at h;simp only[look,Nat.beq_refl];rename_i hb;simp only[look,hb];exact ih h
section
variable {P:Program} {G:A8} {α:Type} {f:α->List AV} {C:List α->List AV} {k:Nat}
def ZQ{e:TypeId}(hd:(P.underlying e).map Nv=some false)(hs:(P.info? e).map (·.size)=some 1){cs:List AV}{off:Nat}{a:AV}(h:cs[off]?=some a):Cd.ok P G (.ldB (.cells cs) e off a):=by
 intro s id hg;simp only[Jq,hg];unfold apart;obtain⟨d,hu,hd⟩:=Option.map_eq_some_iff.1 hd;rw[hu];cases hi:P.info? e with
 | none=>rw[hi] at hs;cases hs
 | some j =>
   simp only;rw[hd,if_neg (by simp)];exact h
def qN{β:Type}{cs:List β}{off:Nat}(v:β)(h:off < cs.length):It cs off [v]=cs.set off v:=by
 unfold It;rw[List.set_eq_take_append_cons_drop,if_pos h];simp
def abD{e:TypeId}(hs:(P.info? e).map (·.size)=some 1){cs cs2:List AV}{off:Nat}{v:AV}(h:off < cs.length)(hc:cs2=cs.set off v)(hv:cellsOf v=[v]:=by rfl)(h1:one v=true:=by rfl):Cd.ok P G (.stB (.cells cs) e off v (.cells cs2)):=by
 intro s id hg;cases hi:P.info? e with
 | none=>rw[hi] at hs;cases hs
 | some j =>
   rw[hi] at hs;have hk:j.size=1:=by simpa using hs
   unfold Kr;rw[hi];simp only[hg];rw[hv,hk,if_pos ⟨rfl,by simp[h1],by omega⟩,hc,qN v h]
def eH{f:α->List AV}(hf:∀x,(f x).length=k){l:List α}{i j:Nat}{x:α}(hx:l[i]?=some x)(hj:j < k):(rows f l)[i*k+j]?=(f x)[j]?:=by
 rw[<- List.getElem?_drop,Sg hf hx,List.getElem?_append_left (by rw[hf];exact hj)]
def kO{f:α->List AV}(hf:∀x,(f x).length=k){l:List α}{i j:Nat}{x y:α}{v:AV}(hx:l[i]?=some x)(hj:j < k)(hy:f y=(f x).set j v):rows f (l.set i y)=(rows f l).set (i*k+j) v:=by
 have hlt:=(List.getElem?_eq_some_iff.1 hx).1;have Tv:=(List.getElem?_eq_some_iff.1 hx).2
 have e1:l=l.take i++x::l.drop (i+1):=by
   rw[<- Tv,<- List.drop_eq_getElem_cons hlt,List.take_append_drop]
 rw[aN y hlt]
 conv=>rhs;rw[e1]
 have hlen:(rows f (l.take i)).length=i*k:=by rw[Is hf,List.length_take,Nat.min_eq_left (by omega)]
 rw[Oz,Oz,F9,F9,hy,List.set_append_right _ _ (by omega),hlen,Nat.add_sub_cancel_left,List.set_append_left _ _ (by rw[hf];exact hj)]
def kM{f:α->List AV}(hf:∀x,(f x).length=k){e:TypeId}(hd:(P.underlying e).map Nv=some true)(hs:(P.info? e).map (·.size)=some k){l:List α}{i:Nat}{x:α}(hx:l[i]?=some x):Cd.ok P G (.ldB (.cells (rows f l)) e (0+i*k) (.agg (f x))):=by
 intro s id hg;simp only[Jq,hg];unfold apart;obtain⟨d,hu,hd⟩:=Option.map_eq_some_iff.1 hd;rw[hu];cases hi:P.info? e with
 | none=>rw[hi] at hs;cases hs
 | some j =>
   rw[hi] at hs;have hk:j.size=k:=by simpa using hs
   have hlt:=(List.getElem?_eq_some_iff.1 hx).1;simp only;rw[hd,if_pos rfl,Nat.zero_add,hk,Is hf,if_pos (by have:=Nat.mul_le_mul_right k hlt;rw[Nat.succ_mul] at this;exact this),Sg hf hx,List.take_left' (hf x)]
def stA{e:TypeId}(hs:(P.info? e).map (·.size)=some k){cs0 cs:List AV}(h0:cs0.length=k)(h:cs.length=k)(h1:cs.all one=true):Cd.ok P G (.stB (.cells cs0) e 0 (.agg cs) (.cells cs)):=by
 intro s id hg;cases hi:P.info? e with
 | none=>rw[hi] at hs;cases hs
 | some j =>
   rw[hi] at hs;have hk:j.size=k:=by simpa using hs
   unfold Kr;rw[hi];simp only[hg];have hc:cellsOf (.agg cs)=cs:=rfl;rw[hc,if_pos ⟨by rw[h,hk],h1,by rw[hk,h0];omega⟩];congr 3;unfold It;rw[List.take_zero,List.nil_append,h,List.drop_eq_nil_of_le (by omega),List.append_nil]
def aHQ{s:AS}{fn:Func}{fr:List AV}{t ty:TypeId}{a v:AV}(hr:fn.results.toList=[.cell t ty])(hf:fr[t]?=some a)(ha:Jq P s ty a=some v):GB P s fn fr=some v:=by
 unfold GB;rw[hr];simp only[Nf,Rj,List.getD_eq_getElem?_getD,hf,Option.getD_some,ha]
def pV{b:AL}{t:TypeId}{off:Nat}{v:AV}{x:Option AL}(h:Cd.ok P G (.ldB b t off v))(e:x=some b):PC P G:=⟨.lb b v,[.ldB b t off v,.rU [x] [some b] [] []],⟨h,⟨by rw[e],rfl⟩,trivial⟩⟩
def apE{b b2:AL}{t:TypeId}{off:Nat}{v:AV}{x:Option AL}(h:Cd.ok P G (.stB b t off v b2))(e:x=some b):PC P G:=⟨.sb b b2,[.stB b t off v b2,.rU [x] [some b] [] []],⟨h,⟨by rw[e],rfl⟩,trivial⟩⟩
end
section
variable {P:Program} {G:A8} {E:EW} {fr:List AV} {s:AS} {Q:QE}
def WE.wk{c:Code}{fr2:List AV}(h:wkF fr fr2=fr2)(k:WE P G E c fr2 s Q):WE P G E c fr s Q:=λcx w a K hE hs hf hd hK=>k cx w a K hE hs (by rw[<- h];exact RY hf) hd hK
def WE.qB{c:Code}{id:Nat}{b b2:AL}(hb:look id s.h=some b)(hk:∀(cx:Cx) (w:World) (o:Obj),Fh cx w b o->Fh cx w b2 o)(k:WE P G E c fr ⟨QT id b2 s.h,s.nx,s.F,s.nr⟩ Q):WE P G E c fr s Q:=λcx w a K hE hs hf hd hK=>k cx w a K hE (hs.qB hb (λo ho=>hk cx w o ho)) hf hd hK
def WE.SN{c x y:Code}(hc:c=.seq x y)(h:WE P G E x fr s (λe fr' s' E'=>e=.normal/\WE P G E' y fr' s' Q)):WE P G E c fr s Q:=by
 subst hc;exact .seq (λcx w a K hE hs hf hd hK=>h cx w a K hE hs hf hd (λe fr s E hq=>hK e fr s E (.inl hq)))
def WE.seqB{c x y:Code}(hc:c=.seq x y)(h:WE P G E x fr s (λe fr' s' E'=>(e=.normal/\WE P G E' y fr' s' Q)\/(e≠.normal/\Q e fr' s' E'))):WE P G E c fr s Q:=by
 subst hc;exact .seq h
def WE.ZV{c x y:Code}{q:Operand}(t:Bool)(hc:c=.cond q x y)(hq:Ba G fr q=some (.sc (.bool t)))(h:WE P G E (if t then x else y) fr s Q):WE P G E c fr s Q:=by
 subst hc;exact .cond hq h
def WE.qH(hm:P.follows .mixedOrders=true)(hk:Ua E){c:Code}(l:List (PC P G)){e:AX}{fr2:List AV}(h:qE fr2 (SD P G 300 c [] (pHs l) fr s)=some (e,fQ l,fr2,s))(hp:∀v,e≠.pan v)(hq:Q e fr2 s E):WE P G E c fr s Q:=.run hm hk l h hp hq
def O5.q(hm:P.follows .mixedOrders=true)(hk:Ua E){c:Code}{n i:Nat}{l:List Nat}(hr:RS c n=true)(hi:i < n)(v:AV)(hw:Cy (FQ c) fr (opAt c i)=true)(h:PU P G fr s (opAt c i)=some (.val v s))(t:O5 P G E (FQ c) l (IJ fr (opAt c i).dst v) s Q):O5 P G E (FQ c) (i::l) fr s Q :=
 .op hm hk v (K1 hr hi) (.NB hw h) t
def O5.hb(hm:P.follows .mixedOrders=true)(hk:Ua E){c:Code}{n i:Nat}{l:List Nat}(hr:RS c n=true)(hi:i < n){B:Bool}(b:Bool)(hB:B=b)(h:Z2 P G (FQ c) fr s (opAt c i) [.b b]=some (.sc (.bool b),s,[],[.eqb B b]))(t:O5 P G E (FQ c) l (IJ fr (opAt c i).dst (.sc (.bool b))) s Q):O5 P G E (FQ c) (i::l) fr s Q :=
 .op hm hk (.sc (.bool b)) (K1 hr hi) (OP h ⟨hB,trivial⟩) t
def O5.hi(hm:P.follows .mixedOrders=true)(hk:Ua E){c:Code}{n i:Nat}{l:List Nat}(hr:RS c n=true)(hi:i < n){X:Int}(z:Int)(hX:X=z)(h:Z2 P G (FQ c) fr s (opAt c i) [.i z]=some (.sc (.int .i64 z),s,[],[.eqi X z]))(t:O5 P G E (FQ c) l (IJ fr (opAt c i).dst (.sc (.int .i64 z))) s Q):O5 P G E (FQ c) (i::l) fr s Q :=
 .op hm hk (.sc (.int .i64 z)) (K1 hr hi) (OP h ⟨hX,trivial⟩) t
def WE.mono{c:Code}{Q2:QE}(h:WE P G E c fr s Q2)(hq:∀e fr' s' E',Q2 e fr' s' E'->Q e fr' s' E'):WE P G E c fr s Q:=λcx w a K hE hs hf hd hK=>h cx w a K hE hs hf hd (λe fr s E h2=>hK e fr s E (hq _ _ _ _ h2))
end
end AI
namespace AI
open Go Go.RowKit
section
variable {P:Program} {G:A8}
def N2.aKD{α:Type}{f:α->List AV}{C:List α->List AV}{k:Nat}(h:N2 f C k){t tx e e2 by':Nat}(hu:P.underlying t=some (.slice e))(hux:P.underlying tx=some (.slice e2))(hi:(P.info? e).map (λi=>(i.size,i.bytes,i.zero.map (·.cells.size)))=some (k,by',some k))(hk:0 < k)
   (own:Own) (l m:List α) {o:Own} {n:Nat} {ns:List AV} (hn:Wn ns (C m)) (iT:n=m.length) (ho:ns.all one=true) (hm:m.length≠0) (hlen:(l.length+m.length)*by'<=140737488355328) (h63:l.length+m.length<=9223372036854775807):Cd.ok P G (.Zg t tx own l.length (C l) (.sl o n ns) k (l++m).length (C (l++m))):=by
 subst iT;cases hq:P.info? e with
 | none=>rw[hq] at hi;cases hi
 | some i =>
   rw[hq] at hi;simp only[Option.map_some,Option.some.injEq,Prod.mk.injEq] at hi;obtain⟨h1,h2,h3⟩:=hi;cases hz:i.zero with
   | none=>rw[hz] at h3;cases h3
   | some z =>
     rw[hz] at h3;simp only[Option.map_some,Option.some.injEq] at h3;intro s OR;have hnl:ns.length=m.length*k:=by rw[hn.len,h.eq,Is h.len]
     have oH:(C l).length=l.length*k:=by rw[h.eq,Is h.len]
     refine⟨C l++ns,?_,λc w u o' hr=>?_⟩
     have hs:Wt P s i.size tx (.sl o m.length ns)=some (m.length,ns):=by
       unfold Wt;rw[hux,h1];simp only[hnl,if_true]
     unfold KN;simp only[hu,hq,hz];rw[if_pos ⟨by rw[h3,h1],by omega⟩,hs];simp only
     have hbb:(l.length+m.length)*i.bytes<=140737488355328:=by
       rw[h2];exact hlen
     rw[if_pos ⟨by rw[oH,h1],ho,hbb,by omega⟩,if_neg hm,h1,if_pos OR,List.length_append];rw[h.T7];exact Rp.wnC (Wn.T7 (Wn.refl (C l)) hn) hr
end
end AI
namespace AI
open Go Go.RowKit
end AI
namespace AI
open Go Go.RowKit
section
variable {P:Program} {G:A8} {α δ:Type} {enc:α->AV} {encd:δ->AV}
abbrev I0(enc:α->AV)(encd:δ->AV):α⊕δ->CR
 | .inl a=>.ret (enc a)
 | .inr d=>.pan (encd d)
def PY(P:Program)(G:A8)(fn:Func)(m:Nat)(s0:AS)(enc:α->AV)(encd:δ->AV)(Q:AX->List AV->AS->Prop)(y:α⊕δ)(s2:AS):Prop:=match y with
 | .inl a=>PZ P G fn m s0 Q (enc a) s2
 | .inr d=>Th G m s0 Q (encd d) s2
def PY.body{fn:Func}{m:Nat}{s0 s2:AS}{y:α⊕δ}:PY P G fn m s0 enc encd (SW P fn m (QM G s0 (I0 enc encd y) s2)) y s2:=by
 cases y with
 | inl a=>exact PZ.body
 | inr d=>exact Th.body
def PY.outer{fn:Func}{m id:Nat}{ks:List KI}{s0 s2:AS}{Q:AX->List AV->AS->Prop}{y:α⊕δ}(h:PY P G fn m s0 enc encd Q y s2):PY P G fn m s0 enc encd (Di id (CY P G ks Q)) y s2:=by
 cases y with
 | inl a=>exact PZ.outer h
 | inr d=>exact Th.outer h
def PY.G6{fn:Func}{m:Nat}{L:Code}{s0 s1 s2:AS}{Q:AX->List AV->AS->Prop}{y:α⊕δ}(h:PY P G fn m s0 enc encd Q y s2):PY P G fn m s0 enc encd (RT P G L s1 Q) y s2:=by
 cases y with
 | inl a=>exact PZ.G6 h
 | inr d=>exact Th.G6 h
def aoW(n m0:Nat)(m:Nat)(qR bs:List AV)(cs:List (Option AL)):HR->Option (List Cd×List AV×AS×List AV×List (Option AL))
 | some (.fin (.pan v),[],cd,_,s)=>(match agX qR n m0 [v] (s.cut m) bs cs with
     | some (fr2,s2,as,cas)=>some (cd,fr2,s2,as,cas)
     | none=>none)
 | _=>none
def BN(hG:∀g cs,G g=some cs->BC cs=true){r:HR}{X:Prop}{s0:AS}{Q:AX->List AV->AS->Prop}(m:Nat){l:List (PC P G)}(fps:List (FP s0.nx s0.nr))(fbs:List (FO s0.nx s0.nr)){v:AV}{s2:AS}(R:Ue P G l Q r X)
   (h:aoW s0.nx s0.nr m [v] (Zf fps) (nV fbs) r=some (fQ l,[v],s2,fK fps,foA fbs)) (k:Th G m s0 Q v s2):X:=by
 unfold aoW at h;split at h;split at h;rename_i h1;simp only[Option.some.injEq,Prod.mk.injEq] at h;obtain⟨rfl,rfl,rfl,rfl,rfl⟩:=h;exact R _ _ _ _ rfl (NC l) (k _ _ (eE hG h1) _ _ rfl);cases h;cases h
def LR{k j:Nat}{ρ σ:Nat->Nat}(h1:∀a,plain (enc a)=true)(h2:∀d,plain (encd d)=true)(y:α⊕δ):RnR k j ρ σ (I0 enc encd y) (I0 enc encd y):=by
 cases y with
 | inl a=>exact .pl (h1 a)
 | inr d=>exact .pl (h2 d)
def SO{γ:Type}{f:α->Option γ}{g:δ->Option γ}{y:α⊕δ}{r:γ}{X:Prop}(h1:∀a,y=.inl a->f a=some r->X)(h2:∀d,y=.inr d->g d=some r->X):Sum.elim f g y=some r->X:=by
 cases y with
 | inl a=>exact h1 a rfl
 | inr d=>exact h2 d rfl
def N2.ixa{α:Type}{f:α->List AV}{C:List α->List AV}{k:Nat}(h:N2 f C k){t elem len:Nat}(hu:P.underlying t=some (.array len elem))(hs:(P.info? elem).map (·.size)=some k){l:List α}(hl:l.length=len){z:Int}{x:α}(hx:IA l z=some x):CO P t (.el (C l)) (.sc (.int .i64 z))=some (.el (f x++C (l.drop (z.toNat+1)))):=by
 unfold IA at hx;split at hx
 · rename_i hz
   have hi:=(List.getElem?_eq_some_iff.1 hx).1
   have hn:QV (.sc (.int .i64 z))=some z.toNat:=by
     unfold QV;simp[hz]
   cases he:P.info? elem with
   | none=>rw[he] at hs;cases hs
   | some e =>
     rw[he] at hs;have hk:e.size=k:=by simpa using hs
     subst hl;unfold CO;rw[hu,hn];simp only[he,hk,if_pos hi];rw[h.eq,h.eq,Sg h.len hx]
 cases hx
def aEV(z:List NZ)(qR:List AV):HR->Option (AX×List Cd×List AV×AS)
 | some (.fin e,[],cd,fr,s)=>(match nzs z fr s with
   | some (fr2,s2)=>some (e,cd,wkF fr2 qR,s2)
   | none=>none)
 | _=>none
def D2{r:HR}{X:Prop}{L:Code}{s0:AS}{Q:AX->List AV->AS->Prop}{l:List (PC P G)}(z:List NZ){fr2:List AV}{s2:AS}(R:Ue P G l (RT P G L s0 Q) r X)(h:aEV z fr2 r=some (.normal,fQ l,fr2,s2))(k:WL P G (XS P G) H0 L fr2 s2 Q):X:=by
 unfold aEV at h;split at h;split at h;rename_i fr3 s3 hz;simp only[Option.some.injEq,Prod.mk.injEq] at h;obtain⟨rfl,rfl,h3,rfl⟩:=h;refine R _ _ _ _ rfl (NC l) ⟨_,_,λcx w c' w' vs hx _ hs' hr=>?_,k⟩;obtain⟨c2,x2,T8,r2⟩:=pJ hz c' w' vs hs' hr;exact⟨c2,hx.trans x2,T8,h3▸RY r2⟩;cases h;cases h
def Dl{M X:Prop}{L:Code}{fr:List AV}{s:AS}{Q:AX->List AV->AS->Prop}(SE:WL P G (XS P G) H0 L fr s Q->X)(k:M->W P G (XS P G) H0 L fr s (RT P G L s Q)):M->X:=λh=>SE (Vc (k h))
def Zt{M X Y:Prop}(SE:Y->X)(k:M->Y):M->X:=λh=>SE (k h)
def awB{t:TypeId}{x y:ByteArray}(h:x.data.toList.length+y.data.toList.length<=9223372036854775807)(ox oy:Operand):Lf P .add t ox oy (.sc (.string x)) (.sc (.string y))=some (.sc (.string (x++y))):=by
 have h0:QH P .add t ox oy (.sc (.string x)) (.sc (.string y))=some (.sc (.string (x++y))):=by
   unfold QH nD;simp only[if_pos h,Option.bind_some,Uh];rfl
 unfold Lf;simp only[h0,aaV]
def pcv{t t2:TypeId}{a v:AV}(h:Re P t t2 a=some v):PC P G:=⟨.w v,[.cv t t2 a v],⟨h,trivial⟩⟩
def ppn:PC P G:=⟨.p .any ⟨[],0,[],0⟩,[],trivial⟩
def pzq(c:Nat):PC P G:=⟨.zq c,[],trivial⟩
def aoZ{f:FuncId}{args VY:List AV}{v:AV}{pre:List (Nat×AL)}{tp:List (Nat×Nat)}{Qy:List (Nat×AL)}{tu:List (Nat×Nat)}(w:Wn args VY)(h:Cd.ok P G (.E6 f VY (.pan v) pre tp Qy tu)):PC P G :=
 ⟨.q v pre tp Qy tu,[.E6 f args (.pan v) pre tp Qy tu,.rU (N0 pre) (N0 pre) (OD tp) (OD tp)],⟨λs h1 h2 cx wd vs hs ha=>h s h1 h2 cx wd vs hs (w.ok ha),⟨rfl,rfl⟩,trivial⟩⟩
end
end AI
namespace AI
open Go
section
variable {α γ δ ρ:Type}
def allI(p:Nat->α->Bool):List α->Nat->Bool
 | [],_=>true
 | y::l,i=>p i y&&allI p l (i+1)
def iD{body:Nat->α->Unit->Option (Lp Unit δ ρ)}{done:Unit->δ}{p:Nat->α->Bool}{v:ρ}:∀{l:List α} {i:Nat},(∀k y,l[k]?=some y->body (i+k) y ()=some (if p (i+k) y then .nx () else .rt v))->CX body done l i ()=some (if allI p l i then .inl (done ()) else .inr v)
 | [],i,_=>rfl
 | y::l,i,h=>by
   have h0:=h 0 y rfl;rw[Nat.add_zero] at h0;rw[CX,h0,allI];cases p i y with
   | false=>simp[Og]
   | true =>
     have:=iD (body:=body) (done:=done) (p:=p) (v:=v) (l:=l) (i:=i+1) λk z hz=>by
       have:=h (k+1) z (by simpa using hz)
       rwa[show i+(k+1)=i+1+k by omega] at this
     simpa[Og] using this
def Hw{β:Type}{n:Nat}{x:Option β}(h:n<=9223372036854775807):Lk n x=x:=by unfold Lk;rw[if_pos h]
def EK{β:Type}{n:Nat}{x:Option β}(h:n<=100000000):Lz n x=x:=by unfold Lz;rw[if_pos h]
end
end AI
namespace AI
open Go
def mb(p:Prop):Bool:=@decide p (Classical.propDecidable _)
theorem Ds{p:Prop}:mb p=true↔p:=by unfold mb;exact @decide_eq_true_iff p (_)
theorem L1{p q:Prop}(h:p↔q):mb p=mb q:=by rw[propext h]
def J4{β:Type}(p:Prop)(x y:β):β:=@ite β p (Classical.propDecidable _) x y
theorem B0{β:Type}{p:Prop}{x y:β}(h:p):J4 p x y=x:=@if_pos p (_) h _ _ _
theorem B5{β:Type}{p:Prop}{x y:β}(h:¬p):J4 p x y=y:=@if_neg p (_) h _ _ _
section
variable {β:Type} {x y:β}
theorem aJG(a b:Int):cond (S7 a b) x y=J4 (a<=b) x y:=by
 rw[Vy]
 by_cases h:a<=b
 · rw[B0 h,decide_eq_true h];rfl
 · rw[B5 h,decide_eq_false h];rfl
theorem aJF(a b:Int):cond (Dr a b) x y=J4 (a=b) x y:=by
 by_cases h:a=b
 · have:Dr a b=true:=by rw[Nn];simpa using h
   rw[B0 h,this];rfl
 · have:Dr a b=false:=by rw[Nn];simpa using h
   rw[B5 h,this];rfl
theorem abM(a b:ByteArray):cond (BS a.data.toList b.data.toList) x y=J4 (a=b) x y:=by
 by_cases h:a=b
 · have:BS a.data.toList b.data.toList=true:=by rw[Ru,h];simp
   rw[B0 h,this];rfl
 · have:BS a.data.toList b.data.toList=false:=by
     rw[Ru]
     apply beq_false_of_ne
     exact λe=>h (ByteArray.ext (Array.ext' e))
   rw[B5 h,this];rfl
theorem MO(p:Prop):cond (mb p) x y=J4 p x y:=by
 by_cases h:p
 · rw[B0 h,Ds.2 h];rfl
 · rw[B5 h]
   have:mb p=false:=by
     cases hm:mb p
     · rfl
     · exact absurd (Ds.1 hm) h
   rw[this];rfl
end
section
variable {p q r:Prop}
theorem jK:J4 p (some true) (some false)=some (mb p):=by
 by_cases h:p
 · rw[B0 h,Ds.2 h]
 · rw[B5 h];congr 1;cases hm:mb p;rfl;exact absurd (Ds.1 hm) h
theorem ayU:J4 p (some (mb q)) (some false)=some (mb (p/\q)):=by
 by_cases h:p
 · rw[B0 h];congr 1;rw[Bool.eq_iff_iff,Ds,Ds];simp[h]
 · rw[B5 h];congr 1;rw[Bool.eq_iff_iff,Ds];simp[h]
theorem aMQ:J4 p (some false) (some (mb q))=some (mb (¬p/\q)):=by
 by_cases h:p
 · rw[B0 h];congr 1;rw[Bool.eq_iff_iff,Ds];simp[h]
 · rw[B5 h];congr 1;rw[Bool.eq_iff_iff,Ds,Ds];simp[h]
theorem ayV:J4 p (some true) (some (mb q))=some (mb (p\/q)):=by
 by_cases h:p
 · rw[B0 h];congr 1;rw[Bool.eq_iff_iff,Ds];simp[h]
 · rw[B5 h];congr 1;rw[Bool.eq_iff_iff,Ds,Ds];simp[h]
def ck{δ ρ:Type}(v:ρ)(p:Prop):Lp Unit δ ρ:=J4 p (.nx ()) (.rt v)
variable {δ ρ:Type} {v:ρ}
theorem aDY:J4 p (some (.nx ())) (some (.rt v))=some (ck (δ:=δ) v p):=by
 unfold ck;by_cases h:p
 · rw[B0 h,B0 h]
 · rw[B5 h,B5 h]
theorem anU:J4 p (some (.rt v)) (some (.nx ()))=some (ck (δ:=δ) v ¬p):=by
 unfold ck;by_cases h:p
 · rw[B0 h,B5 (by simp[h])]
 · rw[B5 h,B0 h]
theorem ayM:J4 p (some (ck (δ:=δ) v q)) (some (.rt v))=some (ck v (p/\q)):=by
 unfold ck;by_cases h:p
 · rw[B0 h];simp[h]
 · rw[B5 h,B5 (by simp[h])]
theorem anV:J4 p (some (.rt v)) (some (ck (δ:=δ) v q))=some (ck v (¬p/\q)):=by
 unfold ck;by_cases h:p
 · rw[B0 h,B5 (by simp[h])]
 · rw[B5 h];simp[h]
theorem ayL:J4 p (some (ck (δ:=δ) v q)) (some (.nx ()))=some (ck v (p->q)):=by
 unfold ck;by_cases h:p
 · rw[B0 h];simp[h]
 · rw[B5 h,B0 (by simp[h])]
theorem aMM:J4 p (some (.nx ())) (some (ck (δ:=δ) v q))=some (ck v (p\/q)):=by
 unfold ck;by_cases h:p
 · rw[B0 h,B0 (by simp[h])]
 · rw[B5 h];simp[h]
theorem aMN:J4 p (some (ck (δ:=δ) v q)) (some (ck v r))=some (ck v ((p->q)/\(¬p->r))):=by
 unfold ck;by_cases h:p
 · rw[B0 h];simp[h]
 · rw[B5 h];simp[h]
theorem dF{α β:Type}{l:List α}{body:Nat->α->Unit->Option (Lp Unit Unit ρ)}{P:Nat->α->Prop}{k:Unit->Option β}{kr:ρ->Option β}(hl:l.length<=9223372036854775807)(hb:∀i y,l[i]?=some y->body i y ()=some (ck v (P i y))):(Lk l.length (CX body (λ_=>()) (l.drop 0) 0 ())).bind (N4 k kr)=J4 (∀i y,l[i]?=some y->P i y) (k ()) (kr v):=by
 rw[Hw hl,List.drop_zero]
 have h1:∀k y,l[k]?=some y->body (0+k) y ()=some (if mb (P (0+k) y) then .nx () else .rt v):=λk y hy=>by
   rw[Nat.zero_add,hb k y hy]
   unfold ck
   by_cases h:P k y
   · rw[B0 h,if_pos (Ds.2 h)]
   · rw[B5 h,if_neg (λe=>h (Ds.1 e))]
 rw[iD (p:=λi y=>mb (P i y)) (v:=v) h1]
 have h2:∀(l:List α) (i:Nat),allI (λi y=>mb (P i y)) l i=true↔∀k y,l[k]?=some y->P (i+k) y:=by
   intro l
   induction l with
   | nil=>intro i;simp[allI]
   | cons a l ih =>
     intro i
     rw[allI,Bool.and_eq_true,Ds,ih]
     constructor
     · rintro⟨h1,h2⟩ k y hk
       cases k with
       | zero=>simp at hk;subst hk;exact h1
       | succ k=>rw[show i+(k+1)=i+1+k by omega];exact h2 k y (by simpa using hk)
     · intro h
       refine⟨h 0 a rfl,λk y hk=>?_⟩
       rw[show i+1+k=i+(k+1) by omega]
       exact h (k+1) y (by simpa using hk)
 have h3:=h2 l 0
 simp only[Nat.zero_add] at h3
 by_cases h:∀i y,l[i]?=some y->P i y
 · rw[B0 h,h3.2 h];rfl
 · rw[B5 h]
   have:allI (λi y=>mb (P i y)) l 0=false:=by
     cases ha:allI (λi y=>mb (P i y)) l 0
     · rfl
     · exact absurd (h3.1 ha) h
   rw[this];rfl
end
end AI
namespace AI
open Go
def Sp{β:Type}(o:Option β)(Q:β->Prop):Prop:=∃r,o=some r/\Q r
section
variable {α β γ δ ρ κ:Type} {Q:β->Prop}
def Sp.mono{Q':β->Prop}{o:Option β}(h:Sp o Q)(k:∀r,Q r->Q' r):Sp o Q':=h.elim λr h=>⟨r,h.1,k r h.2⟩
def Tz(a b:Int):S7 a b=mb (a<=b):=by rw[Vy,Bool.eq_iff_iff,Ds,decide_eq_true_iff]
def OS(a b:Int):E3 a b=mb (a < b):=by rw[Qb,Bool.eq_iff_iff,Ds,decide_eq_true_iff]
def KS(a b:Int):Dr a b=mb (a=b):=by rw[Nn,Bool.eq_iff_iff,Ds,beq_iff_eq]
def Rx(a b:ByteArray):BS a.data.toList b.data.toList=mb (a=b):=by
 rw[Ru,Bool.eq_iff_iff,Ds,beq_iff_eq];exact⟨λh=>ByteArray.ext (Array.ext' h),λh=>by rw[h]⟩
def pE{p:Prop}:(mb p=true)=p:=propext Ds
def We{p:Prop}:(mb p=false)=¬p:=by rw[<- Bool.not_eq_true,pE]
def hP{p:Prop}:(false=mb p)=¬p:=by rw[@eq_comm _ false,We]
def smb{p q:Prop}(h:p↔q):some (mb p)=some (mb q):=by rw[L1 h]
def eO{p:Prop}(h:¬p):some false=some (mb p):=congrArg some (by rw[hP];exact h)
end
def Y8{n:Int}(h:-9223372036854775808<=n/\n<=9223372036854775807):MH .i64 n=n:=by
 rw[U1];exact IntWalk.i64_in n (by omega)
def Gr{a b:Int}(h:-9223372036854775808<=a+b/\a+b<=9223372036854775807):BK a b=a+b:=by
 unfold BK;rw[bM,Y8 h]
def QC{a b:Int}(h:-9223372036854775808<=a - b/\a - b<=9223372036854775807):SP a b=a - b:=by
 unfold SP;rw[eR,Y8 h]
def IR{a b:Int}(h:-9223372036854775808<=a*b/\a*b<=9223372036854775807):BQ a b=a*b:=by
 unfold BQ;rw[Y8 h]
end AI
namespace AI
open Go Go.RowKit
def Zx(w w1:World)(g:Nat):Prop:=w.heap.size<=g/\g < w1.heap.size
def Cx.ZH(cx:Cx)(w w1:World):Cx:=⟨cx.base,cx.CT,cx.rows,λg i=>cx.bad g i\/Zx w w1 g⟩
def Cx.VN(c:Cx)(cx:Cx):Cx:=⟨c.base,c.CT,c.rows,cx.bad⟩
section
variable {G:A8} {cx:Cx} {w w1:World} {s:AS}
def UX(k:Q9 w w1 (λ_=>False)):Mon cx w (cx.ZH w w1) w1:=by
 refine⟨λ_ _ e=>e,Nat.le_refl _,λr y _ h=>⟨y,h,Kq.refl y⟩,λg i v hv=>⟨Nat.lt_of_lt_of_le hv.1 k.size,λhs=>?_,by rw[k.cell hv.1 id];exact hv.2.2⟩⟩;rcases hs with hs | hs | hs | hs
 exact hv.2.1 (.inl hs);exact hv.2.1 (.inr (.inl hs));exact hv.2.1 (.inr (.inr hs));have:=hs.1;have:=hv.1;omega
def vP(h:St G cx w s)(k:Q9 w w1 (λ_=>False)):St G (cx.ZH w w1) w1 s:=by
 have m:=UX (cx:=cx) k;refine⟨h.len,h.desc,h.nodup,h.low,λid g b h1 h2=>?_,h.IN,λr g n cap sz hr=>?_,h.IZ,λg hg=>Nat.lt_of_lt_of_le (h.Md g hg) k.size,λg i hb=>?_,h.IH,λg cs hg=>(h.Mp g cs hg).Dt m,Nat.le_trans h.PV k.size⟩;obtain⟨o,ho,hb⟩:=h.box id g b h1 h2;exact⟨o,by rw[k.block g (Array.getElem?_eq_some_iff.1 ho).1 not_false];exact ho,hb.Dt m⟩;have hl:=h.Mx hr;obtain⟨KH,h2,h3,h4,vs,T,ho,h5⟩:=h.row r g n cap sz hr;refine⟨λi hb=>?_,h2,h3,h4,vs,T,by rw[k.block g (Array.getElem?_eq_some_iff.1 ho).1 not_false];exact ho,h5⟩;rcases hb with hb | hb
 exact KH i hb;have:=hb.1;omega;rcases hb with hb | hb
 exact Nat.lt_of_lt_of_le (h.Mn g i hb) k.size;exact hb.2
variable {c':Cx} {w' w2:World} {s':AS}
def TQ(hx:Ext (cx.ZH w w1) w1 c' w')(k2:Q9 w' w2 (Zx w w1)):Mon c' w' (c'.VN cx) w2:=by
 refine⟨λ_ _ e=>e,Nat.le_refl _,λr y _ h=>⟨y,h,Kq.refl y⟩,λg i v hv=>⟨Nat.lt_of_lt_of_le hv.1 k2.size,λhs=>?_,?_⟩⟩;rcases hs with hs | hs | hs
 exact hv.2.1 (.inl hs);exact hv.2.1 (.inr (.inl hs));exact hv.2.1 (.inr (.inr (by rw[hx.bad];exact .inl hs)));rw[k2.cell hv.1 (λhk=>hv.2.1 (.inr (.inr (by rw[hx.bad];exact .inr hk))))];exact hv.2.2
def Y0(h:St G cx w s)(k:Q9 w w1 (λ_=>False))(hx:Ext (cx.ZH w w1) w1 c' w')(k2:Q9 w' w2 (Zx w w1)):Ext cx w (c'.VN cx) w2:=by
 have m:=UX (cx:=cx) k;have m2:=TQ hx k2;refine⟨hx.CT,hx.IN,hx.rows,λg i v hv=>m2.ZI g i v (hx.ZI g i v (m.ZI g i v hv)),?_,hx.base,rfl,λg hg=>?_,λr g n cap sz hr=>?_,λq hq hp hr=>?_⟩;have b1:Below cx.base w w1:=k.below h.PV (λ_ h=>h.elim);have b2:Below cx.base w1 w':=hx.below;have b3:Below cx.base w' w2:=k2.below (Nat.le_trans (Nat.le_trans h.PV k.size) b2.size) (λq hq=>Nat.le_trans h.PV hq.1);exact(b1.trans b2).trans b3;rcases hx.ZA g hg with h1 | h1
 exact .inl h1;exact .inr (Nat.le_trans k.size h1);rcases hx.ZB r g n cap sz hr with h1 | h1
 exact .inl h1;exact .inr (Nat.le_trans k.size h1);have hq1:q < w1.heap.size:=Nat.lt_of_lt_of_le hq k.size;rw[k2.block q (Nat.lt_of_lt_of_le hq1 hx.below.size) (λhn=>by have:=hn.1;omega),hx.G3 q hq1 hp hr,k.block q hq not_false]
def aW(h:St G cx w s)(hx:Ext (cx.ZH w w1) w1 c' w')(hs':St G c' w' s')(k2:Q9 w' w2 (Zx w w1)):St G (c'.VN cx) w2 s':=by
 have m2:=TQ hx k2
 have RC:∀g,some g∈c'.CT->¬Zx w w1 g:=by
   intro g hg hn;rcases hx.ZA g hg with h1 | h1
   have:=h.Md g h1;have:=hn.1;omega;have:=hn.2;omega
 refine⟨hs'.len,hs'.desc,hs'.nodup,hs'.low,λid g b h1 h2=>?_,hs'.IN,λr g n cap sz hr=>?_,hs'.IZ,λg hg=>Nat.lt_of_lt_of_le (hs'.Md g hg) k2.size,λg i hb=>Nat.lt_of_lt_of_le (hs'.Mn g i (by rw[hx.bad];exact .inl hb)) k2.size,hs'.IH,λg cs hg=>(hs'.Mp g cs hg).Dt m2,Nat.le_trans hs'.PV k2.size⟩;obtain⟨o,ho,hb⟩:=hs'.box id g b h1 h2;exact⟨o,by rw[k2.block g (Array.getElem?_eq_some_iff.1 ho).1 (RC g (List.mem_of_getElem? h1))];exact ho,hb.Dt m2⟩;obtain⟨KH,h2,h3,h4,vs,T,ho,h5⟩:=hs'.row r g n cap sz hr;have hb:c'.bad=λg i=>cx.bad g i\/Zx w w1 g:=hx.bad;exact⟨λi Wv=>KH i (by rw[hb];exact .inl Wv),h2,h3,h4,vs,T,by rw[k2.block g (Array.getElem?_eq_some_iff.1 ho).1 (λhn=>KH 0 (by rw[hb];exact .inr hn))];exact ho,h5⟩
def Nb(h:St G cx w s)(hx:Ext (cx.ZH w w1) w1 c' w'){q:Nat}(hq:Zx w w1 q):w'.heap[q]?=w1.heap[q]?:=by
 refine hx.G3 q hq.2 (λhm=>?_) (λr n cap sz hr=>?_);have:=h.Md q hm;have:=hq.1;omega;have:=h.Mx (r:=r) hr;have:=hq.1;omega
end
end AI
