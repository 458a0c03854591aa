import Derived.Test.YtmmjcbbogokmfaaGreatDoorMp02
import Derived.Deep.MidRow
set_option maxRecDepth 100000
set_option maxHeartbeats 25600000
namespace Go.Proofs.YtmmjcbbogokmfaaGreatDoor
open Go.Proofs.Tryz
open Go.RowKit
theorem Yq(w:World)(n t:Nat):Calls prog 232 #[yv n,yv t] w (RowT w (ka n t)):=by
 unfold yv;by_cases hn:n∈ [69,70,71,72,73,74,75,76,77,78,79,80,81]
 ·have hm:n∈ [70,71,72,73,75,76,77,78,79,80]\/(∃k q:Nat,n=69/\k=40/\q=70\/n=74/\k=45/\q=75\/n=81/\k=19/\q=82):=by
   simp only[List.mem_cons,List.not_mem_nil,or_false]at hn⊢;by_cases h1:n=69
   ·exact .inr ⟨40,70,by omega⟩
   by_cases h2:n=74
   ·exact .inr ⟨45,75,by omega⟩
   by_cases h3:n=81
   ·exact .inr ⟨19,82,by omega⟩
   ·exact .inl (by omega)
  clear hn;rcases hm with hn|⟨k,q,h⟩
  ·simp only[List.mem_cons,List.not_mem_nil,or_false]at hn;rcases hn with rfl|rfl|rfl|rfl|rfl|rfl|rfl|rfl|rfl|rfl
   all_goals
    simp only[Int.cast_ofNat_Int];go_enter func232,ntmps232;go_wp2;go_ret;exact RowT.of w _ rfl rfl rfl
  ·by_cases ht:t=k
   ·subst ht;rcases h with⟨rfl,rfl,rfl⟩|⟨rfl,rfl,rfl⟩|⟨rfl,rfl,rfl⟩
    all_goals
     simp only[Int.cast_ofNat_Int];go_enter func232,ntmps232;go_wp2;go_ret;exact RowT.of w _ rfl rfl rfl
   ·have b1:((t:Int)==(k:Int))=false:=jM3 (by omega);have Hy:=G (show ka n t=[q]by rcases h with⟨rfl,rfl,rfl⟩|⟨rfl,rfl,rfl⟩|⟨rfl,rfl,rfl⟩<;>simp[ka,ht]);clear ht;rcases h with⟨rfl,rfl,rfl⟩|⟨rfl,rfl,rfl⟩|⟨rfl,rfl,rfl⟩
    all_goals
     simp only[Int.cast_ofNat_Int]at b1⊢;go_enter func232,ntmps232;go_wp2;go_ret;exact RowT.of w [_] Hy.out rfl rfl
 ·have hm:=hn;simp only[List.mem_cons,List.not_mem_nil,or_false]at hm;have Hy:=G (show ka n t=[]by unfold ka;rw[jJ5 (by omega)];rw[jJ5 (by omega)];rw[jJ5 (by omega)];rw[jJ5 (by omega)];rw[jJ5 (by omega)];rw[jJ5 (by omega)];rw[jJ5 (by omega)];rw[jJ5 (by omega)];rw[jJ5 (by omega)];rw[jJ5 (by omega)];rw[jJ5 (by omega)];rw[jJ5 (by omega)];rw[jJ5 (by omega)]);clear hm;have b69:=ku hn 69;have b70:=ku hn 70;have b71:=ku hn 71;have b72:=ku hn 72;have b73:=ku hn 73;have b74:=ku hn 74;have b75:=ku hn 75;have b76:=ku hn 76;have b77:=ku hn 77;have b78:=ku hn 78;have b79:=ku hn 79;have b80:=ku hn 80;have b81:=ku hn 81;clear hn;go_enter func232,ntmps232;go_wp2;go_ret;exact RowT.none_ w Hy.out
theorem JV(n t:Nat)(h:kR n t=true)(X:List Nat)(e:(if n=58 then vr t
 else if n=59\/n=60 then [t]
 else if n=61\/n=62 then [t,69]
 else if n=63 then [t,1]
 else if n=64\/n=65 then [t,32,69,9]
 else if n=66 then [t,10,60,67]
 else if n=67 then [t,1,10,60,67]
 else if n=68 then(if t=33 then [t,1,9,68]else [t,11,69,9,68])
 else if n=83 then [69,84]
 else if n=84 then [t,69,84]
 else if n=82 then qC t
 else ka n t)=X):vi n t=X:=by
 rw[vi,jJ5 (by rw[h];decide)];exact e
theorem jGV(w:World)(n t:Nat)(hn:n∈ [59,60,61,62,63,64,65,66,67,83,84])(hb:kR n t=true):Calls prog 208 #[yv n,yv t] w (RowT w (vi n t)):=by
 have Hy:=G (JV n t hb _ rfl);have H:=G (ve w n t);rw[hb]at H;clear hb;generalize vi n t=R at*;unfold yv at*;simp only[List.mem_cons,List.not_mem_nil,or_false]at hn;rcases hn with rfl|rfl|rfl|rfl|rfl|rfl|rfl|rfl|rfl|rfl|rfl
 all_goals
  simp only[Int.cast_ofNat_Int]at H⊢;go_enter func208,ntmps208;go_wp2_with (go_at_call 206;refine H.out.mono ?_;rintro e w1 ⟨rfl,rfl⟩);go_ret;exact RowT.of w _ Hy.out rfl rfl
theorem jEj(w:World)(t:Nat)(hb:kR 68 t=true)(ht:t=33):Calls prog 208 #[.int .u8 68,yv t] w (RowT w (vi 68 t)):=by
 have Hy:=G (JV 68 t hb [t,1,9,68] (by show(if t=33 then _ else _)=_;rw[jJ6 ht]));have H:=G (ve w 68 t);have b1:((t:Int)==33)=true:=by simp;omega
 rw[hb]at H;clear hb ht;generalize vi 68 t=R at*;unfold yv at*;go_enter func208,ntmps208;go_wp2_with (go_at_call 206;refine H.out.mono ?_;rintro e w1 ⟨rfl,rfl⟩);go_ret;exact RowT.of w [t,1,9,68] Hy.out rfl rfl
theorem jEi(w:World)(t:Nat)(hb:kR 68 t=true)(ht:¬t=33):Calls prog 208 #[.int .u8 68,yv t] w (RowT w (vi 68 t)):=by
 have Hy:=G (JV 68 t hb [t,11,69,9,68] (by show(if t=33 then _ else _)=_;rw[jJ5 ht]));have H:=G (ve w 68 t);have b1:((t:Int)==33)=false:=by simp;omega
 rw[hb]at H;clear hb ht;generalize vi 68 t=R at*;unfold yv at*;go_enter func208,ntmps208;go_wp2_with (go_at_call 206;refine H.out.mono ?_;rintro e w1 ⟨rfl,rfl⟩);go_ret;exact RowT.of w [t,11,69,9,68] Hy.out rfl rfl
theorem jGW(w:World)(t:Nat)(hb:kR 58 t=true):Calls prog 208 #[.int .u8 58,yv t] w (RowT w (vi 58 t)):=by
 have Hy:=G (JV 58 t hb (vr t) rfl);have H:=G (ve w 58 t);have H2:=G (Zw w t);rw[hb]at H;clear hb;generalize vi 58 t=R at*;generalize vr t=l at*;unfold yv at*;go_enter func208,ntmps208;go_wp2_with (first|(go_at_call 206;refine H.out.mono ?_;rintro e w1 ⟨rfl,rfl⟩)|(go_at_call 230;refine H2.out.mono ?_;rintro e w1 ⟨A,c,rfl,Ff,PL,Hj⟩));go_ret;exact⟨A,c,by rw[Hy.out];rfl,by rw[Hy.out];exact Ff,by rw[Hy.out];exact PL,Hj⟩
theorem jGU(w:World)(t:Nat)(hb:kR 82 t=true):Calls prog 208 #[.int .u8 82,yv t] w (RowT w (vi 82 t)):=by
 have Hy:=G (JV 82 t hb (qC t) rfl);have H:=G (ve w 82 t);have H2:=G (jB7 w t);rw[hb]at H;clear hb;generalize vi 82 t=R at*;generalize qC t=l at*;unfold yv at*;go_enter func208,ntmps208;go_wp2_with (first|(go_at_call 206;refine H.out.mono ?_;rintro e w1 ⟨rfl,rfl⟩)|(go_at_call 231;refine H2.out.mono ?_;rintro e w1 ⟨A,c,rfl,Ff,PL,Hj⟩));go_ret;exact⟨A,c,by rw[Hy.out];rfl,by rw[Hy.out];exact Ff,by rw[Hy.out];exact PL,Hj⟩
theorem jCj(w:World)(n t:Nat):Calls prog 208 #[yv n,yv t] w (RowT w (vi n t)):=by
 by_cases hb:kR n t=true
 case neg=>
  rw[Bool.not_eq_true]at hb;have Hy:=G (show vi n t=[]by rw[vi,jJ6 hb]);have H:=G (ve w n t);rw[hb]at H;clear hb;generalize vi n t=R at*;unfold yv at*;go_enter func208,ntmps208;go_wp2_with (go_at_call 206;refine H.out.mono ?_;rintro e w1 ⟨rfl,rfl⟩);go_ret;exact RowT.none_ w Hy.out
 by_cases h1:n∈ [59,60,61,62,63,64,65,66,67,83,84]
 ·exact jGV w n t h1 hb
 by_cases Lr:n=58
 ·subst Lr;exact jGW w t hb
 by_cases h68:n=68
 ·subst h68;by_cases ht:t=33
  ·exact jEj w t hb ht
  ·exact jEi w t hb ht
 by_cases h82:n=82
 ·subst h82;exact jGU w t hb
 have hn:n∉ [58,59,60,61,62,63,64,65,66,67,68,82,83,84]:=by
  simp only[List.mem_cons,List.not_mem_nil,or_false]at h1⊢;omega
 simp only[List.mem_cons,List.not_mem_nil,or_false]at h1;have Hy:=G (JV n t hb (ka n t) (by rw[jJ5 (by omega)];rw[jJ5 (by omega)];rw[jJ5 (by omega)];rw[jJ5 (by omega)];rw[jJ5 (by omega)];rw[jJ5 (by omega)];rw[jJ5 (by omega)];rw[jJ5 (by omega)];rw[jJ5 (by omega)];rw[jJ5 (by omega)];rw[jJ5 (by omega)]));have H:=G (ve w n t);have H2:=G (Yq w n t);rw[hb]at H;clear hb;generalize vi n t=R at*;generalize ka n t=l at*;have b58:=ku hn 58;have b59:=ku hn 59;have b60:=ku hn 60;have b61:=ku hn 61;have b62:=ku hn 62;have b63:=ku hn 63;have b64:=ku hn 64;have b65:=ku hn 65;have b66:=ku hn 66;have b67:=ku hn 67;have b68:=ku hn 68;have b82:=ku hn 82;have b83:=ku hn 83;have b84:=ku hn 84;clear h1 Lr h68 h82 hn;unfold yv at*;go_enter func208,ntmps208;go_wp2_with (first|(go_at_call 206;refine H.out.mono ?_;rintro e w1 ⟨rfl,rfl⟩)|(go_at_call 232;refine H2.out.mono ?_;rintro e w1 ⟨A,c,rfl,Ff,PL,Hj⟩));go_ret;exact⟨A,c,by rw[Hy.out];rfl,by rw[Hy.out];exact Ff,by rw[Hy.out];exact PL,Hj⟩
theorem jC6(t:Nat)(st:List Nat)(j:Nat)(hj:j<st.length):vd t (st.drop j)=if kR (st.getD j 0) t=true then true else if zI (st.getD j 0)=true then vd t (st.drop (j+1))else false:=by
 rw[jM9 hj,vd];simp only[List.getD,jJ9 hj,Option.getD_some]
theorem Stk.most{w:World}{st:List Nat}{A:OA}{c:Nat}(h:Stk w st A c):st.length<=9223372036854775807:=by
 rcases h.2 with⟨_,h0⟩|⟨g,cap,cur,_,_,_,h1,h2,_⟩
 ·omega
 ·unfold maxLen at h2;omega
theorem Jm(w:World)(g:Nat)(r:Option Nat)(src:BA)(m:Mc)(A:OA)(c:Nat)(h:Mac w g r src m A c)(t:Nat):
  Calls prog 176 #[.pointer (some ⟨g,0,none⟩),yv t] w fun e w' =>e=.returned (.bool (vd t m.stack))/\w=w' :=by
 have No:=G h.own;have FE:=h.blk.at_ 2 rfl;have CQ:=G h.sym;have DT:=h.own.most;clear h;generalize m.stack=st at*;have HR:=G (show vd t st=vd t (st.drop (st.length-st.length))by rw[Nat.sub_self,List.drop_zero]);have Tt:=G (jC6 t st);generalize hL:st.length=L at*;have HL:=G hL;clear hL;generalize vd t st=R at*;have ew:IntKind.i64.wrap ((L:Int)-1)=(L:Int)-1:=jQ3 _ (by omega);go_enter func176,ntmps176;go_wp2;go_loop [5] (fun i=>∃p:Nat,p<=L/\i=.int .i64 ((p:Int)-1)/\R=vd t (st.drop (L-p))) (fun i=>(intOf i+1).toNat)
 case atStart=>exact⟨L,jL3 _,rfl,HR.out⟩
 case round=>
  obtain⟨p,hp,rfl,hR⟩:=hrel;by_cases h0:0<p
  ·obtain⟨q,rfl⟩:∃q,p=q+1:=⟨p-1,by omega⟩;have hlt:q<L:=(by omega);obtain⟨b,o,rfl,FD⟩:=No.out.at_ (L-1-q) (by rw[HL.out];omega);rw[HL.out,show L-1-(L-1-q)=q by omega]at FD;have hd:=Tt.out (L-1-q) (by omega);rw[show L-1-q+1=L-q by omega]at hd;rw[show L-(q+1)=L-1-q by omega,hd]at hR;clear hd;have Iy:st.getD (L-1-q) 0<85:=CQ.out _ (by
    have:L-1-q<st.length:=by rw[HL.out];omega
    simp[List.getD,List.getElem?_eq_getElem this])
   generalize st.getD (L-1-q) 0=n at*;rw[show((q+1:Nat):Int)-1=(q:Int)by omega];have B:=G (ve w n t);have Em:=G (JP w n);have GU:=G hR;clear hR;generalize Ea:kR n t=bb at*;generalize P5:zI n=ee at*;clear Ea P5;have b1:(0:Int)<=(q:Int):=(by omega);have b2:(q:Int)<(L:Int):=(by omega);have b3:(q:Int).toNat=q:=(by omega);have b4:IntKind.i64.wrap ((q:Int)-1)=(q:Int)-1:=jQ3 _ (by omega);unfold yv at*;cases bb
   ·cases ee
    ·have HF:=G (show R=false by have:=GU.out;simpa using this);go_wp2_with (first|(go_at_call 206;refine B.out.mono ?_;rintro e w1 ⟨rfl,rfl⟩)|(go_at_call 202;refine Em.out.mono ?_;rintro e w1 ⟨rfl,rfl⟩));go_ret;exact⟨by rw[HF.out];rfl,rfl⟩
    ·have HF:=G (show R=vd t (st.drop (L-q))by have:=GU.out;simpa using this);go_wp2_with (first|(go_at_call 206;refine B.out.mono ?_;rintro e w1 ⟨rfl,rfl⟩)|(go_at_call 202;refine Em.out.mono ?_;rintro e w1 ⟨rfl,rfl⟩));go_round
     case rel=>exact⟨q,by omega,by go_num,HF.out⟩
     case measure=>simp[intOf]
   ·have HF:=G (show R=true by have:=GU.out;simpa using this);go_wp2_with (first|(go_at_call 206;refine B.out.mono ?_;rintro e w1 ⟨rfl,rfl⟩)|(go_at_call 202;refine Em.out.mono ?_;rintro e w1 ⟨rfl,rfl⟩));go_ret;exact⟨by rw[HF.out];rfl,rfl⟩
  ·obtain rfl:p=0:=(by omega);have HF:=G (show R=false by rw[hR,Nat.sub_zero,<-HL.out,List.drop_length];rfl);clear hR;go_wp2;go_ret;exact⟨by rw[HF.out];rfl,rfl⟩
inductive Takes (t:Nat):Nat->List Nat->List Nat->Prop
 |hit (l:List Nat):Takes t 1 (t::l) l
 |more (n x:Nat) (l k:List Nat):x≠t->Takes t n (vi x t++l) k->Takes t (n+1) (x::l) k
theorem Takes.uniq{t:Nat}{n:Nat}{l k:List Nat}(h:Takes t n l k):∀{n' :Nat} {k' :List Nat},Takes t n' l k' ->n=n' /\k=k' :=by
 induction h with
 |hit l=>
  intro n' k' h';cases h' with
  |hit _=>exact⟨rfl,rfl⟩
  |more _ _ _ _ Fh _=>exact absurd rfl Fh
 |more n x l k Fh _ ih=>
  intro n' k' h';cases h' with
  |hit _=>exact absurd rfl Fh
  |more _ _ _ _ _ h2=>
   obtain⟨rfl,rfl⟩:=ih h2;exact⟨rfl,rfl⟩
theorem JT{t:Nat}:∀{f:Nat} {l k:List Nat},yk t f l=some k->∃n,n<=f/\Takes t n l k
 |0,l,k,h=>by cases h
 |f+1,[],k,h=>by cases h
 |f+1,x::l,k,h=>by
  rw[yk]at h;split at h
  ·rename_i hx;subst hx;obtain rfl:=jL5 h;exact⟨1,by omega,.hit l⟩
  ·rename_i hx;obtain⟨n,hn,h2⟩:=JT h;exact⟨n+1,by omega,.more n x l k hx h2⟩
noncomputable def tkMeas (t g:Nat) (w:World):Nat:=Classical.epsilon fun n=>∃r src m A c k,Mac w g r src m A c/\Takes t n m.stack k
theorem qN{t g:Nat}{w:World}{r:Option Nat}{src:BA}{m:Mc}{A:OA}{c n:Nat}{k:List Nat}(h:Mac w g r src m A c)(ht:Takes t n m.stack k):tkMeas t g w=n:=by
 obtain⟨r',src',m',A',c',k',h',Ao⟩:=Classical.epsilon_spec (p:=fun n=>∃r src m A c k,Mac w g r src m A c/\Takes t n m.stack k) ⟨n,r,src,m,A,c,k,h,ht⟩;rw[h.uniq h']at ht;exact(Ao.uniq ht).1
def Fit(l:List Nat):Prop:=l.length<=11/\∀x∈l,x<85
theorem Fit.ite{c:Prop}[Decidable c]{a b:List Nat}(ha:Fit a)(hb:Fit b):Fit (if c then a else b):=by
 split
 ·exact ha
 ·exact hb
theorem Fit.of(l:List Nat)(h:(decide (l.length<=11)&&l.all (fun x=>decide (x<85)))=true):Fit l:=by
 rw[Bool.and_eq_true,List.all_eq_true]at h;exact⟨jM8 h.1,fun x hx=>jM8 (h.2 x hx)⟩
theorem Fit.cons{t:Nat}{l:List Nat}(ht:t<85)(h:l.length<=10)(h2:Fit l):Fit (t::l):=⟨by rw[jK6];omega,fun x hx=>by
 rcases jN4 hx with rfl|hx
 ·exact ht
 ·exact h2.2 x hx⟩
theorem qX(n t:Nat)(ht:t<85):Fit (vi n t):=by
 unfold vi vr qC ka
 repeat' first|apply Fit.ite|exact Fit.of _ (by decide)|exact Fit.cons ht (by decide) (Fit.of _ (by decide))
theorem jAF(n t:Nat)(ht:t<85):∀x∈vi n t,x<85:=(qX n t ht).2
theorem Av.mx{w:World}{g n size:Nat}{r r' :Option Nat}{A:OA}{xs:List Value}(ha:Av (MX g r) n A)(hf:MFr w r r')(hr:Rd w size A n xs)(hs:0<size):Av (MX g r') n A:=by
 intro hn ad e hx;rcases hx with hx|hx
 ·exact ha hn ad e (.inl hx)
 ·rcases hf with rfl|⟨k,rfl,Fa⟩
  ·exact ha hn ad e (.inr hx)
  ·injection hx with hx;have:=hr.lt hs hn e;omega
theorem Uv:∀w,(sizeOf (prog.elem 159)).run prog w=.ok 1 w:=fun _=>by kernel_rfl
structure Lay(w:World)(g:Nat)(r:Option Nat)(src:BA)(m:Mc)(R:List Nat)(B:OA)(rest:List Nat)(p:Nat)(wr:World)(r2:Option Nat)(A2:OA)(c2:Nat):Prop where
 mac:Mac wr g r2 src {m with stack:=R.drop p++rest} A2 c2
 kp:Kp (MX g r) w wr
 fr:MFr w r r2
 rd:Rd wr 1 B R.length (R.map yv)
 av:Av (MX g r2) R.length B
theorem Lay.next{w wr wx w1:World}{g:Nat}{r r2:Option Nat}{src:BA}{m:Mc}{R rest:List Nat}{B A2 A' :OA}{c2 c' q k:Nat}(h:Lay w g r src m R B rest (q+1) wr r2 A2 c2)(hq:q<R.length)(hk:(R.drop (q+1)++rest).length=k)(hx:Old wr wx)
  (h5:R.getD q 0<85)
  (Hi:w1.ownsRow 8 163 1 (.slice A' (k+1) c') (k+1) ((R.drop (q+1)++rest).reverse.map yv++[yv (R.getD q 0)])) (hg:wx.grownBy w1 (Value.slice A2 k c2).ownBlock)
  (Fc:A'.map (·.block)=(Value.slice A2 k c2).ownBlock\/A'.map (·.block)=some wx.heap.size):
  ∃r3 A3 c3,Lay w g r src m R B rest q (w1.setCell ⟨g,2,none⟩ (.slice A' (k+1) c')) r3 A3 c3:=by
 obtain⟨r3,A3,c3,hM,Gi,Gt⟩:=h.mac.put hk hx h5 Hi hg Fc;refine⟨r3,A3,c3,?_,h.kp.trans Gi (MX.trans h.fr),h.fr.trans h.kp.size Gt,h.rd.kp Gi h.av,h.av.mx Gt h.rd (by decide)⟩;have e:R.drop q=R.getD q 0::R.drop (q+1):=by
  rw[jM9 hq];simp[List.getD,List.getElem?_eq_getElem hq]
 rw[e];exact hM
theorem yj(w:World)(g:Nat)(r:Option Nat)(src:BA)(m:Mc)(A:OA)(c:Nat)(h:Mac w g r src m A c)(t n0:Nat)(k:List Nat)(ht:t<58)(hT:Takes t n0 m.stack k)(hb:m.stack.length+11*n0<=100000000):
  Calls prog 179 #[.pointer (some ⟨g,0,none⟩),yv t] w fun e w' =>e=.returned (.tuple #[])/\MStep w g r w' src {m with stack:=k}:=by
 obtain⟨i0,hi,Fm,GI,GW⟩:=info_parts jBM;have Ep:=G (show∃n st,Takes t n st k/\MStep w g r w src {m with stack:=st}/\st.length+11*n<=100000000 from⟨n0,m.stack,hT,h.step,hb⟩);clear h hT hb;unfold yv;go_enter func179,ntmps179;go_wp2;go_loopw [] (fun wr=>∃n st,Takes t n st k/\MStep w g r wr src {m with stack:=st}/\st.length+11*n<=100000000) (fun wr=>tkMeas t g wr)
 case atStart=>exact Ep.out
 case round=>
  clear Ep;obtain⟨n,st,hT,⟨r1,A,c,hM,Gi,Gt⟩,hb⟩:=hrel;have WM:=G (qN hM hT);cases hT with
  |hit _=>
   have FE:=hM.c2;have WI:=hM.z 2;obtain⟨b,o,rfl,FD⟩:=hM.own.at_ 0 (by simp);simp only[jK6,List.getD_cons_zero]at FE FD hb;rw[show k.length+1-1-0=k.length by omega]at FD;have Gf:=G (hM.setPop (n:=t) (st:=k) rfl);have P7:=Stk.cap (n:=t) (st:=k) hM.own;have hcut:=fun w' =>yD (P:=prog) (t:=159) underlying159 Uv (some ⟨b,o,none⟩) (k.length+1) c k.length .i64 (k.length:Int) rfl P7 w';have FA:=G Gi;have GG:=G Gt;clear hM Gi Gt WM;generalize k.length=L at*;have ew:IntKind.i64.wrap (L:Int)=(L:Int):=jQ3 _ (by omega);have b1:(0:Int)<=(L:Int):=(by omega);have b2:(L:Int).toNat=L:=(by omega);unfold yv at*;have b3:((t:Int)==(t:Int))=true:=(by simp);go_wp2;refine bodyPost_ret (results_none rfl _ _ _) rfl ?_;exact⟨rfl,MStep.trans FA.out GG.out ⟨_,_,_,Gf.out.1,Gf.out.2,.inl rfl⟩⟩
  |more n x l _ Fh hT=>
   have FE:=hM.c2;have WI:=hM.z 2;have DF:x<85:=hM.sym x List.mem_cons_self;obtain⟨b,o,rfl,FD⟩:=hM.own.at_ 0 (by simp);simp only[jK6,List.getD_cons_zero]at FE FD hb;rw[show l.length+1-1-0=l.length by omega]at FD;have P7:=Stk.cap (n:=x) (st:=l) hM.own;have hcut:=fun w' =>yD (P:=prog) (t:=159) underlying159 Uv (some ⟨b,o,none⟩) (l.length+1) c l.length .i64 (l.length:Int) rfl P7 w';have Gf:=G (hM.setPop (n:=x) (st:=l) rfl);have Lt:=G (show g<wr.heap.size/\∀k,r1=some k->k<wr.heap.size from⟨hM.blk.lt,fun k hk=>(hM.lt k hk).2⟩);have Gw:=G hT;have FA:=G Gi;have GG:=G Gt;have RJ:=G (qX x t (by omega));have Hb:=G hb;have PU:=G (fun W=>jCj W x t);clear hM Gi Gt hT;generalize hL:l.length=L at*;have HL:=G hL;clear hL;have ew:IntKind.i64.wrap (L:Int)=(L:Int):=jQ3 _ (by omega);have b1:(0:Int)<=(L:Int):=(by omega);have b2:(L:Int).toNat=L:=(by omega);have b3:((x:Int)==(t:Int))=false:=jM3 (by omega);clear hb Fh;unfold yv at*;go_wp2_with ((go_at_call 208);refine(PU.out _).mono ?_;rintro e w1 ⟨B,cB,rfl,Ff,PL,Hj⟩);have RF:=G (show Lay w g r src m (vi x t) B l (vi x t).length w1 r1 (some ⟨b,o,none⟩) c from by
    obtain⟨hM,hk⟩:=Gf.out;refine⟨?_,(FA.out.trans hk (MX.trans GG.out)).old Hj,GG.out,Ff,fun hn ad e hx=>PL hn ad e ?_⟩
    ·rw[List.drop_length,jN8];exact hM.old Hj
    ·rw[show(wr.setCell ⟨g,2,none⟩ (.slice (some ⟨b,o,none⟩) L c)).heap.size=wr.heap.size by simp[World.setCell]];rcases hx with hx|hx
     ·rw[hx];exact Lt.out.1
     ·exact Lt.out.2 _ hx.symm)
   clear Ff PL Hj Gf FA GG Lt PU hcut FE WI FD P7;generalize hR:vi x t=R at*;clear hR;generalize hN:R.length=N at*;have HN:=G hN;clear hN;have Bb:N<=11:=by have:=RJ.out.1;have:=HN.out;omega
   have ew2:IntKind.i64.wrap ((N:Int)-1)=(N:Int)-1:=jQ3 _ (by omega);clear ew b1 b2 b3;go_wp2;go_loopw [7] (fun i wr2=>∃p:Nat,p<=N/\i=.int .i64 ((p:Int)-1)/\∃r2 A2 c2,Lay w g r src m R B l p wr2 r2 A2 c2) (fun i _=>(intOf i+1).toNat)
   case atStart=>exact⟨N,jL3 _,by rw[<-IntWalk.i64_left,ew2],_,_,_,RF.out⟩
   case round=>
    clear RF;obtain⟨p,hp,rfl,r2,A2,c2,GN⟩:=hrel;by_cases h0:0<p
    ·obtain⟨q,rfl⟩:∃q,p=q+1:=⟨p-1,by omega⟩;have hlt:q<N:=(by omega);have FE:=GN.mac.c2;have Fl:=GN.mac.z 2;have FQ:=GN.mac.blk.lt;have h8:7<=wr.heap.size:=by have:=GN.mac.low;omega
     have Fh:some g≠(Value.slice A2 (R.drop (q+1)++l).length c2).ownBlock:=by
      rw[jC,GN.mac.row];exact fun e=>GN.mac.ne e.symm
     obtain⟨b,o,u,hB,hu,FD⟩:=GN.rd.at_ (k:=q) (by rw[HN.out];exact hlt);have Tf:=GN.rd;subst hB;rw[jM1,jJ9 (by rw[HN.out];exact hlt)]at hu;simp only[Option.map_some,Option.some.injEq]at hu;subst hu;have Wb:R[q]'(by rw[HN.out];exact hlt)=R.getD q 0:=(by simp[List.getD,List.getElem?_eq_getElem (show q<R.length by rw[HN.out];exact hlt)]);rw[Wb]at FD;have h5:R.getD q 0<85:=RJ.out.2 _ (by rw[<-Wb];exact jL6 _);have Hi:=GN.mac.own;unfold Stk at Hi;have hlen:(R.drop (q+1)++l).length<=100000011:=by
      have:=HL.out;have:=Hb.out;have:=RJ.out.1;rw[jJ4,jK8];omega
     have D9:=G (fun(wx w3:World) (A' :OA) (c' :Nat)=>Lay.next (wx:=wx) (w1:=w3) (A' :=A') (c' :=c') GN (by rw[HN.out];exact hlt) rfl);simp only at FE Hi;clear GN Tf Wb;generalize hS:(R.drop (q+1)++l)=S at*;clear hS;generalize hK:S.length=K at*;generalize R.getD q 0=y at*;have GA:=G (show K+1<=maxLen by unfold maxLen;omega);have GH:=G (show(K+1)*1<=140737488355328 by omega);rw[show((q+1:Nat):Int)-1=(q:Int)by omega];have b1:(0:Int)<=(q:Int):=(by omega);have b2:(q:Int).toNat=q:=(by omega);have b3:(q:Int)<(N:Int):=(by omega);have b4:IntKind.i64.wrap ((q:Int)-1)=(q:Int)-1:=jQ3 _ (by omega);unfold yv at*;go_wp2;go_region_law ((refine kX _ rfl (.tmp 47) (.tmp 52) 159 rfl 8 163 i0 (.int .u8 0) 1 1 underlying159 hi Fm GI GW rfl (by decide) (.slice A2 K c2) K (S.reverse.map yv) rfl (Hi.alloc _) (some ⟨wr.heap.size,0,none⟩) 1 1 _ rfl (Rd.one_new _ _ _) (ji _ rfl) GA.out GH.out (by simp;omega) ?_;intro A' c' w3 FC hgrow Fc;have G6:=hgrow.cell (a:=⟨g,2,none⟩) (v:=.slice A2 K c2) (by simp[FE,World.cell?_alloc_lt,FQ]) Fh;have Fi:w3.frozen? ⟨g,2,none⟩=false:=(World.frozen?_of_block (hgrow.block g (by simp;omega) Fh)).trans (by simp[Fl,World.frozen?_alloc_past,FQ])))
     all_goals
      have Gw:=G (D9.out _ _ _ _ ((jQ0 _ _).alloc _).drew h5 FC hgrow Fc);clear FC hgrow Fc G6 Fi Hi FE Fl FD Fh;go_wp2;go_roundw
      case rel=>exact⟨q,by omega,by go_num,Gw.out⟩
      case measure=>simp[intOf]
    ·obtain rfl:p=0:=(by omega);have CS:=G Gw.out;have hM:=GN.mac;have Y6:=hM;simp only[List.drop_zero]at Y6;have Po:=G (qN Y6 Gw.out);have D5:=G (show∃n st,Takes t n st k/\MStep w g r wr src {m with stack:=st}/\st.length+11*n<=100000000 from⟨n,R++l,Gw.out,⟨r2,A2,c2,Y6,GN.kp,GN.fr⟩,by
      have:=HL.out;have:=Hb.out;have:=HN.out;rw[jJ4];omega⟩)
     clear hM Y6 GN CS;go_wp2;go_roundw
     case rel=>exact D5.out
     case measure=>show tkMeas t g _ <tkMeas t g _;rw[Po.out,WM.out];omega
def atOf(g:Nat)(w:World):Nat:=(intOf ((w.cell? ⟨g,1,none⟩).getD undef)).toNat
section
variable{w w1 w2:World}{g:Nat}{r:Option Nat}{src:BA}{m:Mc}{A:OA}{c:Nat}
theorem Mac.atOf(h:Mac w g r src m A c):atOf g w=m.at_:=by
 unfold Go.Proofs.YtmmjcbbogokmfaaGreatDoor.atOf;rw[h.c1];simp[intOf]
theorem Mac.drewN(h:Mac w g r src m A c)(n:Nat):Mac (w.drewN n) g r src m A c:=h.old ((jQ0 _ _).drewN n)
end
theorem jCN(p:UInt8->Bool):∀(l:LB) (k:Nat),k<(l.takeWhile p).length->∃c,l[k]? =some c/\p c=true
 |[],k,h=>by simp at h
 |a::l,k,h=>by
  rw[List.takeWhile_cons]at h;split at h
  ·rename_i hp;cases k with
   |zero=>exact⟨a,rfl,hp⟩
   |succ k=>
    rw[jK6]at h;exact jCN p l k (by omega)
  ·simp at h
theorem uu(p:UInt8->Bool):∀(l:LB),(l.takeWhile p).length<l.length->∃c,l[(l.takeWhile p).length]? =some c/\p c=false
 |[],h=>by simp at h
 |a::l,h=>by
  rw[List.takeWhile_cons]at h⊢;split at h
  ·rename_i hp;rw[jJ6 hp];rw[jK6,jK6]at h;obtain⟨c,h1,h2⟩:=uu p l (by omega);exact⟨c,by rw[jK6,List.getElem?_cons_succ];exact h1,h2⟩
  ·rename_i hp;rw[jJ5 hp];exact⟨a,rfl,by simpa using hp⟩
theorem VF(s:BA)(a k:Nat)(c:UInt8)(h:((sb s).drop a)[k]? =some c):∃hlt:a+k<s.size,s[a+k]=c:=by
 rw[List.getElem?_drop]at h;obtain⟨h1,h2⟩:=jM5 h;rw[jB]at h1;exact⟨h1,h2⟩
theorem ui(w:World)(g:Nat)(r:Option Nat)(src:BA)(m:Mc)(A:OA)(c:Nat)(h:Mac w g r src m A c)(hs:src.size<=1000000)(ha:m.at_ <=src.size):
  Calls prog 160 #[.pointer (some ⟨g,0,none⟩)] w fun e w' =>e=.returned (.tuple #[])/\∃m',vu m ((sb src).drop m.at_)=.ok m' /\MStep w g r w' src m' :=by
 have hl:((sb src).drop m.at_).length=src.size-m.at_:=(by rw[jK8,jB]);have hT:=jCN (fun c=> !lfC c) ((sb src).drop m.at_);have hE:=uu (fun c=> !lfC c) ((sb src).drop m.at_);have Ec:(((sb src).drop m.at_).takeWhile (fun c=> !lfC c)).length<=src.size-m.at_:=by rw[<-hl];exact vX _ _
 have Hu:=G (show vu m ((sb src).drop m.at_)=.ok (if(((sb src).drop m.at_).takeWhile (fun c=> !lfC c)).length=src.size-m.at_ then{m with at_:=src.size,fin:=1}else{m with at_:=m.at_ +(((sb src).drop m.at_).takeWhile (fun c=> !lfC c)).length})by
  unfold vu;rw[hl,show m.at_ +(src.size-m.at_)=src.size by omega])
 generalize hTT:(((sb src).drop m.at_).takeWhile (fun c=> !lfC c)).length=T at*;clear hTT;generalize vu m ((sb src).drop m.at_)=R at*;have HT:=G (fun k (hk:k<T)=>VF src m.at_ k _ (hT k hk).choose_spec.1);have FV:=G (fun k (hk:k<T)=>(hT k hk).choose_spec.2);have HE:=G hE;have Hl:=G hl;have H0:=G h;clear hE hl h;go_enter func160,ntmps160;go_wp2;go_loopw [] (fun wr=>∃k A c r',k<=T/\Mac wr g r' src {m with at_:=m.at_ +k} A c/\Kp (MX g r) w wr/\MFr w r r') (fun wr=>src.size-atOf g wr)
 case atStart=>exact⟨0,A,c,r,Nat.zero_le _,H0.out,jQ0 _ _,.inl rfl⟩
 case round=>
  obtain⟨k,A,c,r',hk,hM,Gi,Gt⟩:=hrel;have WM:=G hM.atOf;have Nl:=hM.c0;have G6:=hM.c1;have Fo:=hM.c3;have Fi:=hM.z 1;have ML:=hM.z 3;simp only at Nl G6 Fo;by_cases hlt:k<T
  ·obtain⟨Gc,T9⟩:=HT.out k hlt;have TZ:=FV.out k hlt;rw[<-T9]at TZ;clear T9;have b5:((src[m.at_ +k].toNat:Int) !=10)=true:=bne_iff_ne.2 (fun e=>by
    have:lfC src[m.at_ +k]=true:=jK5 (by omega);rw[this]at TZ;cases TZ)
   clear TZ hT HT FV HE;have G7:=G (fun n=>(hM.drewN n).setAt (m.at_ +(k+1)));have FA:=G Gi;have GG:=G Gt;clear hM Gi Gt;generalize hp:m.at_ +k=p at*;have b1:(p:Int)<(src.size:Int):=(by omega);have b2:(0:Int)<=(p:Int):=(by omega);have b3:(p:Int).toNat=p:=(by omega);have b4:IntKind.i64.wrap ((p:Int)+1)=(p:Int)+1:=jQ3 _ (by omega);go_wp2;go_quiet (fail);go_wp2;obtain⟨hM,hU⟩:=G7.out nq;rw[show((m.at_ +(k+1):Nat):Int)=(p:Int)+1 by omega]at hM hU;exact⟨⟨k+1,A,c,r',by omega,hM,(FA.out.drewN nq).trans hU (MX.trans GG.out),GG.out⟩,by rw[hM.atOf,WM.out];simp only;omega⟩
  ·obtain rfl:k=T:=(by omega);have Sh:=Hu.out;clear hT HT FV;by_cases FT:k=src.size-m.at_
   ·rw[jJ6 FT]at Sh;have HR:=G Sh;have G7:=G (fun n=>(hM.drewN n).setFin 1);have FA:=G Gi;have GG:=G Gt;clear hM Gi Gt Hu Sh HE;have hp:m.at_ +k=src.size:=(by omega);rw[hp]at G6;have b1:¬(src.size:Int)<(src.size:Int):=(by omega);have b2:((src.size:Int)==(src.size:Int))=true:=(by simp);have Hp:=G hp;clear hp FT;go_wp2;go_quiet (fail);go_wp2;go_quiet (fail);go_wp2;go_end0;obtain⟨hM,hU⟩:=G7.out _;refine⟨rfl,_,HR.out,r',A,c,?_,(FA.out.drewN _).trans hU (MX.trans GG.out),GG.out⟩;have:=Hp.out;simp only[this]at hM;exact hM
   ·rw[jJ5 FT]at Sh;have HR:=G Sh;obtain⟨ch,h1,h2⟩:=HE.out (by rw[Hl.out];omega);obtain⟨Gc,T9⟩:=VF src m.at_ k ch h1;rw[<-T9]at h2;have b5:((src[m.at_ +k].toNat:Int) !=10)=false:=by
     have:lfC src[m.at_ +k]=true:=(by simpa using h2);have:=jM8 this;rw[this];rfl
    have Ge:=G (fun n n2=>(hM.drewN n).drewN n2);have FA:=G Gi;have GG:=G Gt;clear hM Gi Gt Hu Sh HE h1 h2 T9;generalize hp:m.at_ +k=p at*;have b1:(p:Int)<(src.size:Int):=(by omega);have b2:(0:Int)<=(p:Int):=(by omega);have b3:(p:Int).toNat=p:=(by omega);have b6:((p:Int)==(src.size:Int))=false:=jM3 (by omega);go_wp2;go_quiet (fail);go_wp2;go_quiet (fail);go_wp2;go_end0;exact⟨rfl,_,HR.out,r',A,c,Ge.out _ _,(FA.out.drewN _).drewN _,GG.out⟩
def Vn(k:Nat):List PanicEntry:=[{v:=.iface 215 (.int .i64 (k:Int)),recovered:=false}]
def MOut(w:World)(g:Nat)(r:Option Nat)(src:BA)(o:Out)(e:Ending)(w' :World):Prop:=
 match o with
 | .ok m' =>e=.returned (.tuple #[])/\MStep w g r w' src m'
 | .error k=>e=.panicked (Vn k)/\Kp (MX g r) w w'
def Jt(y:Nat):Option Nat:=if y=120 then some 6 else if y=34\/y=92\/y=110\/y=116 then some 4 else none
def jHS(k:Nat)(o:Option Nat)(e:Ending):Prop:=match o with
 |some x=>e=.returned (.int .u8 (x:Int))
 |none=>e=.panicked (Vn k)
theorem ZS(w:World)(y k:Nat):Calls prog 197 #[.int .u8 (y:Int),.int .i64 (k:Int)] w fun e w' =>w=w' /\jHS k (Jt y) e:=by
 have Hy:=G (show Jt y=if y=120 then some 6 else if y=34\/y=92\/y=110\/y=116 then some 4 else none from rfl);generalize Jt y=R at*;by_cases h120:y=120
 ·have Hr:=G (show R=some 6 by rw[Hy.out,h120];rfl);subst h120;clear Hy;go_enter func197,ntmps197;go_wp2;go_ret;rw[Hr.out];exact⟨rfl,rfl⟩
 by_cases h34:y=34
 ·have Hr:=G (show R=some 4 by rw[Hy.out,h34];rfl);subst h34;clear Hy;go_enter func197,ntmps197;go_wp2;go_ret;rw[Hr.out];exact⟨rfl,rfl⟩
 by_cases h92:y=92
 ·have Hr:=G (show R=some 4 by rw[Hy.out,h92];rfl);subst h92;clear Hy;go_enter func197,ntmps197;go_wp2;go_ret;rw[Hr.out];exact⟨rfl,rfl⟩
 by_cases h110:y=110
 ·have Hr:=G (show R=some 4 by rw[Hy.out,h110];rfl);subst h110;clear Hy;go_enter func197,ntmps197;go_wp2;go_ret;rw[Hr.out];exact⟨rfl,rfl⟩
 by_cases h116:y=116
 ·have Hr:=G (show R=some 4 by rw[Hy.out,h116];rfl);subst h116;clear Hy;go_enter func197,ntmps197;go_wp2;go_ret;rw[Hr.out];exact⟨rfl,rfl⟩
 have Hr:=G (show R=none by rw[Hy.out,jJ5 h120,jJ5 (by omega)]);have b120:((y:Int)==120)=false:=jM3 (by omega);have b34:((y:Int)==34)=false:=jM3 (by omega);have b92:((y:Int)==92)=false:=jM3 (by omega);have b110:((y:Int)==110)=false:=jM3 (by omega);have b116:((y:Int)==116)=false:=jM3 (by omega);clear Hy h120 h34 h92 h110 h116;go_enter func197,ntmps197;go_wp2;refine⟨rfl,rfl,?_⟩;rw[Hr.out];exact rfl
def nth:List Oper->Nat->Option Oper
 |[],_=>none
 |o::_,0=>some o
 |_::l,i+1=>nth l i
theorem YP:∀(l:List Oper) (i:Nat),nth l i=l.toArray[i]?
 |[],i=>by simp[nth]
 |o::l,0=>by simp[nth]
 |o::l,i+1=>by
  have:=YP l i;simpa [nth]using this
def chk(md:Region.Mode)(l:List Oper)(listed:Array Bool)(i:Nat):Bool:=Region.noSelect l.toArray&&(Region.free md l.toArray listed i&&(Region.ready md l.toArray listed).contains i)
theorem jEJ{md:Region.Mode}{l:List Oper}{listed:Array Bool}{i:Nat}(h:chk md l listed i=true):Region.noSelect l.toArray=true/\Region.free md l.toArray listed i=true/\(Region.ready md l.toArray listed).contains i=true:=by
 unfold chk at h;rw[Bool.and_eq_true,Bool.and_eq_true]at h;exact h
section
variable{P:Program}{l:List Oper}{Q:Exit->Act->World->Prop}{S:World->Prop}{md:Region.Mode}
theorem jH(i:Nat){oi:Oper}{d:Option Tmp}{v:Value}{fuel:Nat}{listed:Array Bool}{a:Act}{w:World}(hi:nth l i=some oi)(hd:oi.dst=d)
  (hk:chk md l listed i=true)
  (hQ:∀c a w,Q (.panic c) (a.put oi.dst v) w->Q (.panic c) a w) (hw:Region.wanted oi (yielded l.toArray a.tmps)=true) (hS:S w) (hy:∀w,S w->(execOp a.eval oi).run P w=.ok (.value v) w)
  (h:wpAnyH P md l.toArray Q S fuel (listed.setIfInBounds i true) (a.put d v) w):wpAnyH P md l.toArray Q S (fuel+1) listed a w:=by
 subst hd;obtain⟨hs,hf,hr⟩:=jEJ hk;exact wpAnyH_take ((YP l i).symm.trans hi) hs hf hr hQ (.inl ⟨hw,hy⟩) hS h
theorem jn(i:Nat){oi:Oper}{fuel:Nat}{listed:Array Bool}{a:Act}{w:World}(hi:nth l i=some oi)(hr:Region.ready md l.toArray listed=[i])
  (h:∀K' :Act->World->Prop,Shut (∀a w,S w->(S w->wpAnyH P md l.toArray Q S fuel (listed.setIfInBounds i true) a w)->K' a w)->if Region.wanted oi (yielded l.toArray a.tmps)=true then Oper.wp P oi a w K' Q else K' (a.put oi.dst undef) w):
  wpAnyH P md l.toArray Q S (fuel+1) listed a w:=
 wpAnyH_ready hr (by simp) (AllReadyH.cons ((YP l i).symm.trans hi) h AllReadyH.nil)
end
def tkn(i n:Nat):List Bool:=List.replicate i true++List.replicate (n-i) false
theorem uy{i n:Nat}(h:i<n):(tkn i n).set i true=tkn (i+1) n:=by
 obtain⟨k,hk⟩:∃k,n-i=k+1:=⟨n-i-1,by omega⟩;rw[tkn,tkn,hk,show n-(i+1)=k by omega,List.set_append_right _ _ (by simp),List.length_replicate,Nat.sub_self,List.replicate_succ,jJ2,List.replicate_succ',jK1];rfl
section
variable{P:Program}{l:List Oper}{Q:Exit->Act->World->Prop}{S:World->Prop}{md:Region.Mode}{i n fuel:Nat}{oi:Oper}{d:Option Tmp}{v:Value}{a:Act}{w:World}
theorem jL{id:Nat}(n:Nat)(hn:l.length=n)(hm:P.follows .mixedOrders=true)(hS:S w.drew)(h:S w.drew->wpAnyH P .any l.toArray Q S n (tkn 0 n).toArray a w.drew):(Code.region id l.toArray true).wp P Q a w:=by
 refine wp_region_held_drew hm hS (fun hs=> ?_);have:=h hs;subst hn;simpa [tkn]using this
theorem tOn(hi:nth l i=some oi)(hd:oi.dst=d)(hk:(decide (i<n)&&chk md l (tkn i n).toArray i)=true)
  (hQ:∀c a w,Q (.panic c) (a.put oi.dst v) w->Q (.panic c) a w) (hw:Region.wanted oi (yielded l.toArray a.tmps)=true) (hS:S w) (hy:∀w,S w->(execOp a.eval oi).run P w=.ok (.value v) w)
  (h:wpAnyH P md l.toArray Q S fuel (tkn (i+1) n).toArray (a.put d v) w):wpAnyH P md l.toArray Q S (fuel+1) (tkn i n).toArray a w:=by
 obtain⟨Gc,hk⟩:=Bool.and_eq_true _ _ ▸hk;refine jH i hi hd hk hQ hw hS hy ?_;rw[jJ1,uy (jM8 Gc)];exact h
theorem yU(hi:nth l i=some oi)(hr:Region.ready md l.toArray (tkn i n).toArray=[i])(Gc:i<n)
  (h:∀K' :Act->World->Prop,Shut (∀a w,S w->(S w->wpAnyH P md l.toArray Q S fuel (tkn (i+1) n).toArray a w)->K' a w)->if Region.wanted oi (yielded l.toArray a.tmps)=true then Oper.wp P oi a w K' Q else K' (a.put oi.dst undef) w):
  wpAnyH P md l.toArray Q S (fuel+1) (tkn i n).toArray a w:=by
 refine jn i hi hr (fun K' hK=>h K' (fun a w hS k=>hK.out a w hS (fun hs=> ?_)));rw[jJ1,uy Gc];exact k hs
theorem uz{ls ls' :Array Bool}(e:ls=ls')(h:wpAnyH P md l.toArray Q S fuel ls' a w):wpAnyH P md l.toArray Q S fuel ls a w:=e▸h
end
theorem Rd.row_new(w:World)(t:TypeId)(s n:Nat)(l:List Value)(hl:l.length=n*s):Rd (w.alloc (.cells l.toArray t)) s (some ⟨w.heap.size,0,none⟩) n l:=by
 refine⟨hl,fun _=>⟨_,_,rfl,fun j u hu=> ?_⟩⟩;have hb:=jQ2 w t l.toArray;rw[Nat.zero_add,hb.cell j];simpa using hu
theorem JL{w:World}{base:Nat}{e:TypeId}{size:Nat}{A:OA}{n c:Nat}{xs:List Value}(h:w.ownsRow base e size (.slice A n c) n xs){b:Nat}(e:A.map (·.block)=some b):base<=b/\b<w.heap.size:=by
 rcases h.2 with⟨e',_⟩|⟨g',cap,cur,e',Nj,hg,_⟩
 ·injection e' with e1;subst e1;cases e
 ·injection e' with e1;subst e1;injection e with e;subst e;exact⟨Nj,(Array.getElem?_eq_some_iff.1 hg).1⟩
theorem jCt{w:World}{base:Nat}{e:TypeId}{size:Nat}{A:OA}{n c:Nat}{xs:List Value}(h:w.ownsRow base e size (.slice A n c) n xs)(hn:0<n):∃k,A=some ⟨k,0,none⟩:=by
 rcases h.2 with⟨e,h0⟩|⟨g,cap,cur,e,_⟩
 ·omega
 ·injection e with e1 e2 e3;exact⟨g,e1⟩
theorem jEy{w:World}{base:Nat}{e:TypeId}{z k n c:Nat}{xs:List Value}(h:w.ownsRow base e z (.slice (some ⟨k,0,none⟩) n c) n xs)(j:Nat)(u:Value):
  (w.setCell ⟨k,j,none⟩ u).ownsRow base e z (.slice (some ⟨k,0,none⟩) n c) n (xs.set j u):=by
 rcases h.2 with⟨e',_⟩|⟨g,cap,cur,e',hb,hg,h1,h2,h3,h4⟩
 ·injection e' with e1;cases e1
 ·injection e' with e1 e2 e3;injection e1 with e1;injection e1 with e1;subst e1;subst e3;refine⟨by rw[List.length_set];exact h.1,.inr ⟨k,c,cur.setIfInBounds j u,rfl,hb,?_,h1,h2,by rw[Array.size_setIfInBounds];exact h3,?_⟩⟩
  ·simp[World.setCell,Array.getElem?_modify,hg]
  ·rw[Array.toList_setIfInBounds,List.take_set,h4]
theorem jCu{w:World}{base:Nat}{e:TypeId}{z k n c:Nat}{xs:List Value}(h:w.ownsRow base e z (.slice (some ⟨k,0,none⟩) n c) n xs)(j:Nat){u:Value}(hu:xs[j]? =some u):w.cell? ⟨k,j,none⟩=some u/\w.frozen? ⟨k,j,none⟩=false:=by
 rcases h.2 with⟨e',_⟩|⟨g,cap,cur,e',hb,hg,h1,h2,h3,h4⟩
 ·injection e' with e1;cases e1
 ·injection e' with e1 e2 e3;injection e1 with e1;injection e1 with e1;subst e1;rw[<-h4,List.getElem?_take]at hu;split at hu
  ·exact⟨by rw[cell_of_row w k j cur e (0,0) hg,<-Array.getElem?_toList];exact hu,by simp[World.frozen?,hg]⟩
  ·cases hu
theorem ZI{wr w' :World}{row:Option Nat}(hg:wr.grownBy w' row):Kp (fun b=>row=some b) wr w' :=(jQ0 _ wr).grown hg (fun _ e _=>e)
theorem jBP:(prog.info? 3).map (fun i=>(i.zero,i.size,i.bytes))=some (some (.int .i64 0),1,8):=by kernel_rfl
theorem jDQ:(prog.info? 46).map (fun i=>(i.zero,i.size,i.bytes))=some (some (.agg #[.int .i64 0,.string ⟨#[]⟩,.int .i64 0,.int .i64 0,.string ⟨#[]⟩,.slice none 0 0,.slice none 0 0]),7,104):=by kernel_rfl
theorem jDS:(prog.info? 114).map (fun i=>(i.zero,i.size,i.bytes))=some (some (.agg #[.string ⟨#[]⟩,.int .i64 0,.int .i64 0,.int .i64 0,.bool false,.int .i64 0,.int .i64 0]),7,64):=by kernel_rfl
theorem jBN:(prog.info? 117).map (fun i=>(i.zero,i.size,i.bytes))=some (some (.agg #[.string ⟨#[]⟩,.int .i64 0,.int .i64 0,.string ⟨#[]⟩,.int .i64 0,.int .i64 0,.int .i64 0]),7,72):=by kernel_rfl
theorem jDR:(prog.info? 64).map (fun i=>(i.zero,i.size,i.bytes))=some (some (.agg #[.string ⟨#[]⟩,.int .i64 0,.int .i64 0,.string ⟨#[]⟩,.int .i64 0,.int .i64 0]),6,64):=by kernel_rfl
theorem jDP:(prog.info? 111).map (fun i=>(i.zero,i.size,i.bytes))=some (some (.agg #[.string ⟨#[]⟩,.int .i64 0,.int .i64 0,.slice none 0 0,.string ⟨#[]⟩,.int .i64 0,.int .i64 0,.slice none 0 0]),8,112):=by kernel_rfl
theorem jBO:(prog.info? 122).map (fun i=>(i.zero,i.size,i.bytes))=some (some (.agg #[.string ⟨#[]⟩,.int .i64 0,.int .i64 0]),3,32):=by kernel_rfl
theorem Xq:(prog.info? 125).map (fun i=>(i.zero,i.size,i.bytes))=some (some (.agg #[.string ⟨#[]⟩,.int .i64 0,.int .i64 0]),3,32):=by kernel_rfl
theorem ZZ(g:Nat):∀(vs:List Value) (w:World) (i:Nat),XD w g i vs=w.setCells g i vs
 |[],_,_=>rfl
 |v::vs,w,i=>ZZ g vs (w.setCell ⟨g,i,none⟩ v) (i+1)
theorem Kp.setCells(g o:Nat)(vs:List Value)(w:World):Kp (fun k=>k=g) w (w.setCells g o vs):=by
 rw[<-ZZ];exact Kp.setL g vs w o
theorem Blk.setCells{w:World}{g:Nat}{t:TypeId}{pre mid post:List Value}(h:Blk w g t (pre++(mid++post)).toArray)(vs:List Value)(hl:mid.length=vs.length):
  Blk (w.setCells g pre.length vs) g t (pre++(vs++post)).toArray:=by
 rw[<-ZZ]
 induction vs generalizing w pre mid with
 |nil=>
  have:mid=[]:=List.eq_nil_of_length_eq_zero (by simpa using hl);subst this;simpa [XD]using h
 |cons v vs ih=>
  cases mid with
  |nil=>simp at hl
  |cons r rest=>
   have h1:=h.set_ pre.length v;have e:(pre++(r::rest++post)).toArray.setIfInBounds pre.length v=((pre++[v])++(rest++post)).toArray:=by
    rw[jJ1,List.set_append_right _ _ (jL3 _)];simp
   rw[e]at h1;have h2:=ih h1 (by simpa using hl);simp only[jJ4,List.length_singleton]at h2;simpa [XD]using h2
theorem Blk.setWhole{w:World}{g:Nat}{t:TypeId}{cs:List Value}(h:Blk w g t cs.toArray)(vs:List Value)(hl:cs.length=vs.length):Blk (w.setCells g 0 vs) g t vs.toArray:=by
 have:=Blk.setCells (pre:=[]) (mid:=cs) (post:=[]) (by simpa using h) vs hl;simpa using this
theorem Blk.range{w:World}{g:Nat}{t:TypeId}{cs:List Value}(h:Blk w g t cs.toArray):w.rangeAt g 0 cs:=by
 intro j v hv;rw[Nat.zero_add,h.cell,jJ7,hv]
theorem Blk.there{w:World}{g:Nat}{t:TypeId}{cs:Array Value}(h:Blk w g t cs)(o n:Nat)(hn:o+n<=cs.size):w.there g o n:=by
 intro j hj;refine⟨?_,h.frozen _⟩;rw[h.cell,Array.getElem?_eq_getElem (by omega)];rfl
abbrev jQ1:= @wpList_store_mid
theorem Zu{c:UInt8}(h:UG c=true):(48<=c.toNat/\c.toNat<=57/\ZK c=c.toNat-48)\/(97<=c.toNat/\c.toNat<=102/\ZK c=c.toNat-87):=by
 unfold UG at h;rw[Bool.or_eq_true]at h;rcases h with h|h
 ·have h2:48<=c.toNat/\c.toNat<=57:=jM8 h;exact .inl ⟨h2.1,h2.2,by unfold ZK;rw[jJ6 h]⟩
 ·have h2:=jM8 h;refine .inr ⟨h2.1,h2.2,?_⟩;unfold ZK;rw[jJ5 (by unfold zS;rw[jK3 (by omega)];decide)]
theorem jCs(w:World)(s:BA)(a b:UInt8)(hs:sb s=[a,b])(ha:UG a=true)(hb:UG b=true):
  Calls prog 265 #[.string s,.int .i64 16,.int .i64 8] w fun e w' =>e=.returned (.tuple #[.int .u64 ((16*ZK a+ZK b:Nat):Int),.nilIface])/\Old w w' :=by
 have Gl:s.size=2:=by rw[<-jB,hs];rfl
 have Fh:s.toList.isEmpty=false:=by
  rw[ByteArray.toList_eq];show(sb s).isEmpty=false;rw[hs];rfl
 have e0:(sb s).length=2:=by rw[hs];rfl
 have HS:=G hs;obtain⟨da,E8⟩:∃d,ZK a=d:=⟨_,rfl⟩;obtain⟨db,E7⟩:∃d,ZK b=d:=⟨_,rfl⟩;have H1:=G (Zu ha);have H2:=G (Zu hb);rw[E8]at H1⊢;rw[E7]at H2⊢;clear hs ha hb E8 E7;go_enter func265,ntmps265;go_wp2_with (first|(with_reducible refine jF9 9 33 ?_;refine Yj _ underlying9 underlying33 underlying5 s rfl ?_;intro A1 c1 w1 SE FN CF)|fail);have HR:=G SE;have HO:=G FN;clear SE FN CF;go_loopw [101,13,12] (fun i n u wr=>∃(j nj k:Nat),j<=2/\i=.int .i64 (j:Int)/\n=.int .u64 (nj:Int)/\u=.bool false/\(j=0->nj=0)/\(j=1->nj=da)/\(j=2->nj=16*da+db)/\nj<=255/\(j<=1->nj<=15)/\wr=w1.drewN k) (fun i _ _ _=>2-(intOf i).toNat)
 case atStart=>exact⟨0,0,0,by omega,rfl,rfl,rfl,fun _=>rfl,fun e=>by omega,fun e=>by omega,by omega,fun _=>by omega,by simp[World.drewN_zero]⟩
 case round=>
  obtain⟨j,nj,k,hj,rfl,rfl,rfl,h0,h1,h2,Th,CP,rfl⟩:=hrel;have HJ:=G (And.intro h0 (And.intro h1 h2));by_cases hlt:j<2
  ·obtain⟨x,d,hx,hc,FB⟩:∃x d:Nat,(sb s)[j]? =some (UInt8.ofNat x)/\((48<=x/\x<=57/\d=x-48)\/(97<=x/\x<=102/\d=x-87))/\(j=0->d=da)/\(j=1->d=db):=by
    have X7:j=0\/j=1:=(by omega);rcases X7 with rfl|rfl
    ·refine⟨a.toNat,da,by rw[HS.out,UInt8.ofNat_toNat];rfl,H1.out,fun _=>rfl,fun e=>by omega⟩
    ·refine⟨b.toNat,db,by rw[HS.out,UInt8.ofNat_toNat];rfl,H2.out,fun e=>by omega,fun _=>rfl⟩
   obtain⟨b3,o3,u3,hA,hu,FD⟩:=HR.out.at_ (k:=j) (by rw[Gl];exact hlt);subst hA;have Im:x<256:=(by omega);have G9:u3=.int .u8 (x:Int):=by
    rw[jM1,hx]at hu;injection hu with hu;rw[<-hu];unfold bv;rw[UInt8.toNat_ofNat_of_lt' (by omega)]
   subst G9;have P6:(w1.drewN k).cell? ⟨b3,o3+j,none⟩=some (.int .u8 (x:Int)):=FD;have Az:nj<=15:=CP (by omega);have AP:d<=15:=(by omega);have b1:(0:Int)<=(j:Int):=(by omega);have b2:(j:Int).toNat=j:=(by omega);have b3' :(j:Int)<(s.size:Int):=(by omega);have b4:IntKind.i64.wrap ((j:Int)+1)=(j:Int)+1:=jQ3 _ (by omega);have c1:((x:Int)==95)=false:=jM3 (by omega);have c5:¬(16:Int)<=(d:Int):=(by omega);have c6:¬(1152921504606846976:Int)<=(nj:Int):=(by omega);have c7:IntKind.u64.wrap ((nj:Int)*16)=(nj:Int)*16:=IntWalk.u64_in _ (by omega);have c8:IntKind.u64.wrap ((nj:Int)*16+(d:Int))=(nj:Int)*16+(d:Int):=IntWalk.u64_in _ (by omega);have c9:¬(nj:Int)*16+(d:Int)<(nj:Int)*16:=(by omega);have c10:¬(255:Int)<(nj:Int)*16+(d:Int):=(by omega);have Z9:=G FB;clear hu FD hx h0 h1 h2 CP FB Th;rcases hc with⟨x1,x2,x3⟩|⟨x1,x2,x3⟩
   ·have c2:(48:Int)<=(x:Int):=(by omega);have c3:(x:Int)<=57:=(by omega);have c4:IntKind.u8.wrap ((x:Int)-48)=(d:Int):=by rw[show(x:Int)-48=(d:Int)by omega];exact IntWalk.u8_in _ (by omega)
    clear x1 x2 x3;go_wp2_with (first|go_quiet (fail)|fail);exact⟨⟨j+1,nj*16+d,k,by omega,by rw[show((j+1:Nat):Int)=(j:Int)+1 by omega],by rw[show((nj*16+d:Nat):Int)=(nj:Int)*16+(d:Int)by omega],rfl,fun e=>by omega,fun e=>by have:=Z9.out.1 (by omega);have:=HJ.out.1 (by omega);omega,fun e=>by have:=Z9.out.2 (by omega);have:=HJ.out.2.1 (by omega);omega,by omega,fun e=>by have:=HJ.out.1 (by omega);omega,rfl⟩,by simp only[intOf];omega⟩
   ·have c2:(48:Int)<=(x:Int):=(by omega);have c3:¬(x:Int)<=57:=(by omega);have c4:IntKind.u8.wrap ((x:Int)-97)=(x:Int)-97:=IntWalk.u8_in _ (by omega);have c4' :IntKind.u8.wrap ((x:Int)-97+10)=(d:Int):=by rw[show(x:Int)-97+10=(d:Int)by omega];exact IntWalk.u8_in _ (by omega)
    have c3' :(97:Int)<=(x:Int):=(by omega);have c3'' :(x:Int)<=122:=(by omega);have cb:bits BinOp.or IntKind.u8 (x:Int) 32=(x:Int):=by
     have Ag:x=97\/x=98\/x=99\/x=100\/x=101\/x=102:=(by omega);rcases Ag with rfl|rfl|rfl|rfl|rfl|rfl<;>decide
    clear x1 x2 x3;go_wp2;exact⟨⟨j+1,nj*16+d,k,by omega,by rw[show((j+1:Nat):Int)=(j:Int)+1 by omega],by rw[show((nj*16+d:Nat):Int)=(nj:Int)*16+(d:Int)by omega],rfl,fun e=>by omega,fun e=>by have:=Z9.out.1 (by omega);have:=HJ.out.1 (by omega);omega,fun e=>by have:=Z9.out.2 (by omega);have:=HJ.out.2.1 (by omega);omega,by omega,fun e=>by have:=HJ.out.1 (by omega);omega,rfl⟩,by simp only[intOf];omega⟩
  ·obtain rfl:j=2:=(by omega);have hn:=h2 rfl;clear h0 h1 h2 CP Th;subst hn;go_wp2_with (first|go_quiet (fail)|fail)
   go_ret2
   exact⟨rfl,HO.out.drewN _⟩
structure Tk where
 t:Nat
 a:Nat
 b:Nat
inductive Acc:List Nat->List Tk->Prop
 |done:Acc [] []
 |tak {k:Tk} {f:Nat} {st st' :List Nat} {ts:List Tk}:k.t<58->vd k.t st=true->yk k.t f st=some st' ->Acc st' ts->Acc st (k::ts)
def jGl(src:LB)(k:Tk):LB:=(src.take k.b).drop k.a
def jHR(src:LB)(k:Tk):Prop:=(jGE k.t=true->∃n,JN k.t (jGl src k)=some n)/\(k.t=1->js (jGl src k)=true)
inductive Toks (src:LB):Nat->List Tk->Prop
 |done {p:Nat}:src.length<=p+kD false (src.drop p)->Toks src p []
 |more {p k:Nat} {x:Nat×Nat} {ts:List Tk}:k=p+kD false (src.drop p)->k<src.length->jGm (src.drop k)=some x->jHR src ⟨x.2,k,k+x.1⟩->Toks src (k+x.1) ts->Toks src p (⟨x.2,k,k+x.1⟩::ts)
def Look(src:LB)(r:Rdr):List Tk->Prop
 |[]=>True
 |k::ts=>r.t=k.t/\r.from_=k.a/\r.at_=k.b/\jHR src k/\Toks src k.b ts
def big(r:Rdr):Nat:=r.tree.nodes.length+r.tree.ats.length+r.tree.attrs.length+r.tree.stages.length+r.tree.miles.length+r.tree.steps.length+r.order
theorem Look.lit{src:LB}{r:Rdr}{k:Tk}{ts:List Tk}(h:Look src r (k::ts))(hl:jGE k.t=true):∃n,JN r.t (kn src r)=some n:=by
 obtain⟨n,hn⟩:=h.2.2.2.1.1 hl;refine⟨n,?_⟩;unfold kn;rw[h.1,h.2.1,h.2.2.1];exact hn
end Go.Proofs.YtmmjcbbogokmfaaGreatDoor
