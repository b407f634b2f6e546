/- Facts. No condition. -/
import Derived.Test.YtkdohhmacfoolaaGreatDoorRows
import Derived.Test.YtkdohhmacfoolaaGreatDoorObAmB
set_option linter.unusedSimpArgs false
set_option linter.unusedVariables false
namespace Go.Proofs.YtkdohhmacfoolaaGreatDoor
open Go.Proofs.Tryz Go Go.AM
theorem sz0:aX prog 0=some 1:=by kernel_rfl
theorem sz1:aX prog 1=some 1:=by kernel_rfl
theorem tb1:Tryz.t1.bytes=8:=rfl
theorem sz2:aX prog 2=some 1:=by kernel_rfl
theorem sz3:aX prog 3=some 1:=by kernel_rfl
theorem in3:Tryz.prog.info? 3=some Tryz.t3:=by kernel_rfl
theorem ts3:Tryz.t3.size=1:=rfl
theorem tb3:Tryz.t3.bytes=8:=rfl
theorem tz3:Tryz.t3.zero=some (Value.int IntKind.i64 0):=rfl
theorem zc3:zeroCells? prog 3=some [.v (Value.int IntKind.i64 0)]:=by kernel_rfl
theorem sz4:aX prog 4=some 1:=by kernel_rfl
theorem in4:Tryz.prog.info? 4=some Tryz.t4:=by kernel_rfl
theorem ts4:Tryz.t4.size=1:=rfl
theorem tb4:Tryz.t4.bytes=1:=rfl
theorem tz4:Tryz.t4.zero=some (Value.bool false):=rfl
theorem zc4:zeroCells? prog 4=some [.v (Value.bool false)]:=by kernel_rfl
theorem sz5:aX prog 5=some 1:=by kernel_rfl
theorem in5:Tryz.prog.info? 5=some Tryz.t5:=by kernel_rfl
theorem ts5:Tryz.t5.size=1:=rfl
theorem tb5:Tryz.t5.bytes=1:=rfl
theorem zc5:zeroCells? prog 5=some [.v (Value.int IntKind.u8 0)]:=by kernel_rfl
theorem sz6:aX prog 6=some 1:=by kernel_rfl
theorem sz7:aX prog 7=some 4:=by kernel_rfl
theorem sz8:aX prog 8=some 4:=by kernel_rfl
theorem sz9:aX prog 9=some 1:=by kernel_rfl
theorem in9:Tryz.prog.info? 9=some Tryz.t9:=by kernel_rfl
theorem ts9:Tryz.t9.size=1:=rfl
theorem tb9:Tryz.t9.bytes=16:=rfl
theorem tz9:Tryz.t9.zero=some (Value.string { data:= #[] }):=rfl
theorem zc9:zeroCells? prog 9=some [.v (Value.string { data:= #[] })]:=by kernel_rfl
theorem cCw:aX prog 10=some 1:=by kernel_rfl
theorem cCx:aX prog 11=some 1:=by kernel_rfl
theorem cCy:aX prog 12=some 1:=by kernel_rfl
theorem cCz:aX prog 13=some 2:=by kernel_rfl
theorem cD0:aX prog 14=some 2:=by kernel_rfl
theorem cD1:aX prog 15=some 1:=by kernel_rfl
theorem cD2:aX prog 16=some 1:=by kernel_rfl
theorem cD3:aX prog 17=some 1:=by kernel_rfl
theorem cD4:aX prog 18=some 1:=by kernel_rfl
theorem cD5:aX prog 19=some 1:=by kernel_rfl
theorem cD6:aX prog 20=some 1:=by kernel_rfl
theorem cD7:aX prog 21=some 1:=by kernel_rfl
theorem cD8:aX prog 22=some 3:=by kernel_rfl
theorem bT4:aX prog 23=some 3:=by kernel_rfl
theorem cBi:zeroCells? prog 23=some [.v (Value.int IntKind.i64 0),.v (Value.int IntKind.i64 0),.v (Value.int IntKind.i64 0)]:=by kernel_rfl
theorem cD9:aX prog 24=some 1:=by kernel_rfl
theorem bUt:Tryz.prog.info? 24=some Tryz.t24:=by kernel_rfl
theorem cF8:Tryz.t24.size=1:=rfl
theorem cB2:Tryz.t24.bytes=24:=rfl
theorem cB9:Tryz.t24.zero=some (Value.slice none 0 0):=rfl
theorem cDa:aX prog 25=some 1:=by kernel_rfl
theorem cDb:aX prog 26=some 1:=by kernel_rfl
theorem cA4:aX prog 27=some 1:=by kernel_rfl
theorem bQ4:aX prog 28=some 1:=by kernel_rfl
theorem bTj:zeroCells? prog 28=some [.v (Value.slice none 0 0)]:=by kernel_rfl
theorem cDc:aX prog 29=some 5:=by kernel_rfl
theorem cDd:aX prog 30=some 5:=by kernel_rfl
theorem cFd:zeroCells? prog 30=some [.v (Value.int IntKind.i64 0),.v (Value.int IntKind.i64 0),.v (Value.int IntKind.i64 0),.v (Value.slice none 0 0),.v (Value.slice none 0 0)]:=by kernel_rfl
theorem cAl:aX prog 31=some 1:=by kernel_rfl
theorem cDe:aX prog 32=some 6:=by kernel_rfl
theorem bIj:aX prog 33=some 6:=by kernel_rfl
theorem bTk:zeroCells? prog 33=some [.v (Value.int IntKind.i64 0),.v (Value.int IntKind.i64 0),.v (Value.int IntKind.i64 0),.v (Value.slice none 0 0),.v (Value.slice none 0 0),.v (Value.slice none 0 0)]:=by kernel_rfl
theorem cDf:aX prog 34=some 2:=by kernel_rfl
theorem cDg:aX prog 35=some 2:=by kernel_rfl
theorem cFe:zeroCells? prog 35=some [.v (Value.slice none 0 0),.v (Value.int IntKind.i64 0)]:=by kernel_rfl
theorem cDh:aX prog 36=some 1:=by kernel_rfl
theorem bUu:Tryz.prog.info? 36=some Tryz.t36:=by kernel_rfl
theorem cF9:Tryz.t36.size=1:=rfl
theorem cB3:Tryz.t36.bytes=8:=rfl
theorem cBa:Tryz.t36.zero=some (Value.int IntKind.i64 0):=rfl
theorem cDi:aX prog 37=some 1:=by kernel_rfl
theorem cDj:aX prog 38=some 1:=by kernel_rfl
theorem cDk:aX prog 39=some 1:=by kernel_rfl
theorem aPi:aX prog 40=some 1:=by kernel_rfl
theorem bS7:Tryz.prog.info? 40=some Tryz.t40:=by kernel_rfl
theorem bTa:Tryz.t40.size=1:=rfl
theorem bIk:Tryz.t40.bytes=8:=rfl
theorem bTc:Tryz.t40.zero=some (Value.int IntKind.u64 0):=rfl
theorem bQe:zeroCells? prog 40=some [.v (Value.int IntKind.u64 0)]:=by kernel_rfl
theorem cDl:aX prog 41=some 4:=by kernel_rfl
theorem cDm:aX prog 42=some 4:=by kernel_rfl
theorem cFf:zeroCells? prog 42=some [.v (Value.int IntKind.i64 0),.v (Value.int IntKind.u64 0),.v (Value.int IntKind.u64 0),.v (Value.string { data:= #[] })]:=by kernel_rfl
theorem cDn:aX prog 43=some 1:=by kernel_rfl
theorem cDo:aX prog 44=some 1:=by kernel_rfl
theorem cDp:aX prog 45=some 1:=by kernel_rfl
theorem cDq:aX prog 46=some 1:=by kernel_rfl
theorem cDr:aX prog 47=some 1:=by kernel_rfl
theorem cDs:aX prog 48=some 1:=by kernel_rfl
theorem cDt:aX prog 49=some 1:=by kernel_rfl
theorem cDu:aX prog 50=some 1:=by kernel_rfl
theorem cDv:aX prog 51=some 1:=by kernel_rfl
theorem cDw:aX prog 52=some 1:=by kernel_rfl
theorem cDx:aX prog 53=some 1:=by kernel_rfl
theorem cDy:aX prog 54=some 1:=by kernel_rfl
theorem cDz:aX prog 55=some 1:=by kernel_rfl
theorem aZp:aX prog 56=some 1:=by kernel_rfl
theorem cBq:Tryz.prog.info? 56=some Tryz.t56:=by kernel_rfl
theorem cFa:Tryz.t56.size=1:=rfl
theorem cF6:Tryz.t56.bytes=24:=rfl
theorem cFg:zeroCells? prog 56=some [.v (Value.slice none 0 0)]:=by kernel_rfl
theorem cE0:aX prog 57=some 1:=by kernel_rfl
theorem cE1:aX prog 58=some 1:=by kernel_rfl
theorem cE2:aX prog 59=some 1:=by kernel_rfl
theorem cE3:aX prog 60=some 3:=by kernel_rfl
theorem aM7:aX prog 61=some 3:=by kernel_rfl
theorem bKs:Tryz.prog.info? 61=some Tryz.t61:=by kernel_rfl
theorem bMe:Tryz.t61.size=3:=rfl
theorem aT7:Tryz.t61.bytes=24:=rfl
theorem bMf:Tryz.t61.zero=some (Value.agg #[Value.int IntKind.i64 0,Value.int IntKind.i64 0,Value.int IntKind.i64 0]):=rfl
theorem aXd:zeroCells? prog 61=some [.v (Value.int IntKind.i64 0),.v (Value.int IntKind.i64 0),.v (Value.int IntKind.i64 0)]:=by kernel_rfl
theorem cE4:aX prog 62=some 1:=by kernel_rfl
theorem cE5:aX prog 63=some 1:=by kernel_rfl
theorem cE6:aX prog 64=some 1:=by kernel_rfl
theorem cE7:aX prog 65=some 1:=by kernel_rfl
theorem cE8:aX prog 66=some 1:=by kernel_rfl
theorem cE9:aX prog 67=some 9:=by kernel_rfl
theorem cEa:aX prog 68=some 9:=by kernel_rfl
theorem cFh:zeroCells? prog 68=some [.v (Value.int IntKind.i64 0),.v (Value.int IntKind.i64 0),.v (Value.int IntKind.i64 0),.v (Value.slice none 0 0),.v (Value.slice none 0 0),.v (Value.slice none 0 0),.v (Value.slice none 0 0),.v (Value.int IntKind.i64 0),.v (Value.bool false)]:=by kernel_rfl
theorem bT5:aX prog 69=some 1:=by kernel_rfl
theorem bS8:Tryz.prog.info? 69=some Tryz.t69:=by kernel_rfl
theorem bTb:Tryz.t69.size=1:=rfl
theorem bIl:Tryz.t69.bytes=24:=rfl
theorem bTd:Tryz.t69.zero=some (Value.slice none 0 0):=rfl
theorem bTl:zeroCells? prog 69=some [.v (Value.slice none 0 0)]:=by kernel_rfl
theorem cEb:aX prog 70=some 1:=by kernel_rfl
theorem cEc:aX prog 71=some 1:=by kernel_rfl
theorem cEd:aX prog 72=some 1:=by kernel_rfl
theorem cEe:aX prog 73=some 1:=by kernel_rfl
theorem cEf:aX prog 74=some 1:=by kernel_rfl
theorem cEg:aX prog 75=some 1:=by kernel_rfl
theorem cEh:aX prog 76=some 1:=by kernel_rfl
theorem cEi:aX prog 77=some 1:=by kernel_rfl
theorem cEj:aX prog 78=some 1:=by kernel_rfl
theorem cEk:aX prog 79=some 1:=by kernel_rfl
theorem cEl:aX prog 80=some 1:=by kernel_rfl
theorem cEm:aX prog 81=some 1:=by kernel_rfl
theorem cEn:aX prog 82=some 1:=by kernel_rfl
theorem cEo:aX prog 83=some 1:=by kernel_rfl
theorem cEp:aX prog 84=some 1:=by kernel_rfl
theorem cEq:aX prog 85=some 1:=by kernel_rfl
theorem cEr:aX prog 86=some 1:=by kernel_rfl
theorem cEs:aX prog 87=some 1:=by kernel_rfl
theorem cEt:aX prog 88=some 1:=by kernel_rfl
theorem cEu:aX prog 89=some 1:=by kernel_rfl
theorem cEv:aX prog 90=some 1:=by kernel_rfl
theorem cEw:aX prog 91=some 1:=by kernel_rfl
theorem cEx:aX prog 92=some 1:=by kernel_rfl
theorem cEy:aX prog 93=some 2:=by kernel_rfl
theorem bM6:aX prog 94=some 2:=by kernel_rfl
theorem bNv:Tryz.prog.info? 94=some Tryz.t94:=by kernel_rfl
theorem bQa:Tryz.t94.size=2:=rfl
theorem aZs:Tryz.t94.bytes=16:=rfl
theorem bQc:Tryz.t94.zero=some (Value.agg #[Value.int IntKind.u64 0,Value.int IntKind.u64 0]):=rfl
theorem bMk:zeroCells? prog 94=some [.v (Value.int IntKind.u64 0),.v (Value.int IntKind.u64 0)]:=by kernel_rfl
theorem cEz:aX prog 95=some 2:=by kernel_rfl
theorem bM7:aX prog 96=some 2:=by kernel_rfl
theorem bNw:Tryz.prog.info? 96=some Tryz.t96:=by kernel_rfl
theorem bQb:Tryz.t96.size=2:=rfl
theorem aZt:Tryz.t96.bytes=16:=rfl
theorem bQd:Tryz.t96.zero=some (Value.agg #[Value.bool false,Value.int IntKind.u64 0]):=rfl
theorem bMl:zeroCells? prog 96=some [.v (Value.bool false),.v (Value.int IntKind.u64 0)]:=by kernel_rfl
theorem cF0:aX prog 97=some 1:=by kernel_rfl
theorem cF1:aX prog 98=some 1:=by kernel_rfl
theorem cF2:aX prog 99=some 1:=by kernel_rfl
theorem bVu:aX prog 100=some 1:=by kernel_rfl
theorem bVv:aX prog 101=some 1:=by kernel_rfl
theorem bVw:aX prog 102=some 1:=by kernel_rfl
theorem bVx:aX prog 103=some 1:=by kernel_rfl
theorem bVy:aX prog 104=some 1:=by kernel_rfl
theorem bVz:aX prog 105=some 3:=by kernel_rfl
theorem bW0:aX prog 106=some 3:=by kernel_rfl
theorem bW1:aX prog 107=some 1:=by kernel_rfl
theorem bW2:aX prog 108=some 1:=by kernel_rfl
theorem bW3:aX prog 109=some 1:=by kernel_rfl
theorem bW4:aX prog 110=some 1:=by kernel_rfl
theorem bW5:aX prog 111=some 1:=by kernel_rfl
theorem bW6:aX prog 112=some 1:=by kernel_rfl
theorem bW7:aX prog 113=some 1:=by kernel_rfl
theorem bW8:aX prog 114=some 1:=by kernel_rfl
theorem bW9:aX prog 115=some 1:=by kernel_rfl
theorem bWa:aX prog 116=some 1:=by kernel_rfl
theorem bWb:aX prog 117=some 1:=by kernel_rfl
theorem bWc:aX prog 118=some 1:=by kernel_rfl
theorem bWd:aX prog 119=some 1:=by kernel_rfl
theorem bWe:aX prog 120=some 1:=by kernel_rfl
theorem bWf:aX prog 121=some 1:=by kernel_rfl
theorem bWg:aX prog 122=some 1:=by kernel_rfl
theorem bWh:aX prog 123=some 1:=by kernel_rfl
theorem bWi:aX prog 124=some 6:=by kernel_rfl
theorem bWj:aX prog 125=some 6:=by kernel_rfl
theorem bWk:aX prog 126=some 1:=by kernel_rfl
theorem bWl:aX prog 127=some 1:=by kernel_rfl
theorem bWm:aX prog 128=some 1:=by kernel_rfl
theorem bWn:aX prog 129=some 1:=by kernel_rfl
theorem bWo:aX prog 130=some 1:=by kernel_rfl
theorem bWp:aX prog 131=some 1:=by kernel_rfl
theorem bWq:aX prog 132=some 2:=by kernel_rfl
theorem bWr:aX prog 133=some 2:=by kernel_rfl
theorem bWs:aX prog 134=some 1:=by kernel_rfl
theorem bWt:aX prog 135=some 1:=by kernel_rfl
theorem bWu:aX prog 136=some 1:=by kernel_rfl
theorem bWv:aX prog 137=some 1:=by kernel_rfl
theorem bWw:aX prog 138=some 1:=by kernel_rfl
theorem bWx:aX prog 139=some 1:=by kernel_rfl
theorem bWy:aX prog 140=some 1:=by kernel_rfl
theorem bWz:aX prog 141=some 1:=by kernel_rfl
theorem bX0:aX prog 142=some 1:=by kernel_rfl
theorem bX1:aX prog 143=some 1:=by kernel_rfl
theorem bX2:aX prog 144=some 1:=by kernel_rfl
theorem bX3:aX prog 145=some 1:=by kernel_rfl
theorem bX4:aX prog 146=some 1:=by kernel_rfl
theorem bX5:aX prog 147=some 1:=by kernel_rfl
theorem bRh:zeroCells? prog 147=some [.v (Value.pointer none)]:=by kernel_rfl
theorem bX6:aX prog 148=some 1:=by kernel_rfl
theorem bX7:aX prog 149=some 1:=by kernel_rfl
theorem bX8:aX prog 150=some 1:=by kernel_rfl
theorem bX9:aX prog 151=some 1:=by kernel_rfl
theorem bXa:aX prog 152=some 1:=by kernel_rfl
theorem bXb:aX prog 153=some 1:=by kernel_rfl
theorem bXc:aX prog 154=some 1:=by kernel_rfl
theorem bXd:aX prog 155=some 1:=by kernel_rfl
theorem bXe:aX prog 156=some 1:=by kernel_rfl
theorem bXf:aX prog 157=some 1:=by kernel_rfl
theorem bQv:Tryz.prog.info? 157=some Tryz.t157:=by kernel_rfl
theorem cB4:Tryz.t157.size=1:=rfl
theorem bR9:Tryz.t157.bytes=24:=rfl
theorem bRc:Tryz.t157.zero=some (Value.slice none 0 0):=rfl
theorem bXg:aX prog 158=some 1:=by kernel_rfl
theorem bXh:aX prog 159=some 1:=by kernel_rfl
theorem bXi:aX prog 160=some 1:=by kernel_rfl
theorem bXj:aX prog 161=some 1:=by kernel_rfl
theorem bXk:aX prog 162=some 1:=by kernel_rfl
theorem bXl:aX prog 163=some 1:=by kernel_rfl
theorem bXm:aX prog 164=some 1:=by kernel_rfl
theorem bXn:aX prog 165=some 1:=by kernel_rfl
theorem bXo:aX prog 166=some 1:=by kernel_rfl
theorem bXp:aX prog 167=some 1:=by kernel_rfl
theorem bXq:aX prog 168=some 1:=by kernel_rfl
theorem bXr:aX prog 169=some 2:=by kernel_rfl
theorem bXs:aX prog 170=some 2:=by kernel_rfl
theorem bUr:Tryz.prog.info? 170=some Tryz.t170:=by kernel_rfl
theorem cB5:Tryz.t170.size=2:=rfl
theorem bRa:Tryz.t170.bytes=16:=rfl
theorem cB7:Tryz.t170.zero=some (Value.agg #[Value.int IntKind.i64 0,Value.int IntKind.i64 0]):=rfl
theorem cBe:zeroCells? prog 170=some [.v (Value.int IntKind.i64 0),.v (Value.int IntKind.i64 0)]:=by kernel_rfl
theorem bXt:aX prog 171=some 1:=by kernel_rfl
theorem bXu:aX prog 172=some 1:=by kernel_rfl
theorem bXv:aX prog 173=some 1:=by kernel_rfl
theorem bXw:aX prog 174=some 1:=by kernel_rfl
theorem bXx:aX prog 175=some 1:=by kernel_rfl
theorem bXy:aX prog 176=some 1:=by kernel_rfl
theorem bXz:aX prog 177=some 1:=by kernel_rfl
theorem bY0:aX prog 178=some 1:=by kernel_rfl
theorem bY1:aX prog 179=some 1:=by kernel_rfl
theorem aM6:aX prog 180=some 2:=by kernel_rfl
theorem bUs:Tryz.prog.info? 180=some Tryz.t180:=by kernel_rfl
theorem cB6:Tryz.t180.size=2:=rfl
theorem bRb:Tryz.t180.bytes=16:=rfl
theorem cB8:Tryz.t180.zero=some (Value.agg #[Value.int IntKind.u64 0,Value.int IntKind.u64 0]):=rfl
theorem cBf:zeroCells? prog 180=some [.v (Value.int IntKind.u64 0),.v (Value.int IntKind.u64 0)]:=by kernel_rfl
theorem bY2:aX prog 181=some 1:=by kernel_rfl
theorem bY3:aX prog 182=some 1:=by kernel_rfl
theorem bY4:aX prog 183=some 1:=by kernel_rfl
theorem bY5:aX prog 185=some 1:=by kernel_rfl
theorem bY6:aX prog 186=some 1:=by kernel_rfl
theorem bY7:aX prog 187=some 1:=by kernel_rfl
theorem bY8:aX prog 188=some 1:=by kernel_rfl
theorem bY9:aX prog 189=some 1:=by kernel_rfl
theorem bYa:aX prog 190=some 1:=by kernel_rfl
theorem bYb:aX prog 191=some 1:=by kernel_rfl
theorem bYc:aX prog 192=some 1:=by kernel_rfl
theorem bYd:aX prog 193=some 2:=by kernel_rfl
theorem bEf:aX prog 194=some 2:=by kernel_rfl
theorem cBg:zeroCells? prog 194=some [.v (Value.int IntKind.u64 0),.v (Value.int IntKind.i64 0)]:=by kernel_rfl
theorem bYe:aX prog 195=some 1:=by kernel_rfl
theorem bYf:aX prog 196=some 1:=by kernel_rfl
theorem bYg:aX prog 197=some 1:=by kernel_rfl
theorem bYh:aX prog 198=some 1:=by kernel_rfl
theorem bYi:aX prog 199=some 1:=by kernel_rfl
theorem bYj:aX prog 200=some 1:=by kernel_rfl
theorem bYk:aX prog 201=some 1:=by kernel_rfl
theorem bYl:aX prog 202=some 1:=by kernel_rfl
theorem bYm:aX prog 203=some 1:=by kernel_rfl
theorem bYn:aX prog 204=some 1:=by kernel_rfl
theorem bYo:aX prog 205=some 1:=by kernel_rfl
theorem bYp:aX prog 206=some 1:=by kernel_rfl
theorem bYq:aX prog 207=some 1:=by kernel_rfl
theorem bYr:aX prog 208=some 1:=by kernel_rfl
theorem bYs:aX prog 209=some 1:=by kernel_rfl
theorem bYt:aX prog 210=some 1:=by kernel_rfl
theorem bYu:aX prog 211=some 1:=by kernel_rfl
theorem bYv:aX prog 212=some 1:=by kernel_rfl
theorem bYw:aX prog 213=some 1:=by kernel_rfl
theorem bYx:aX prog 214=some 3:=by kernel_rfl
theorem bYy:aX prog 215=some 3:=by kernel_rfl
theorem cBh:zeroCells? prog 215=some [.v (Value.int IntKind.i64 0),.v (Value.int IntKind.i64 0),.v (Value.slice none 0 0)]:=by kernel_rfl
theorem bYz:aX prog 216=some 1:=by kernel_rfl
theorem bZ0:aX prog 217=some 1:=by kernel_rfl
theorem bZ1:aX prog 218=some 1:=by kernel_rfl
theorem bZ2:aX prog 219=some 1:=by kernel_rfl
theorem bZ3:aX prog 220=some 1:=by kernel_rfl
theorem bZ4:aX prog 221=some 1:=by kernel_rfl
theorem bZ5:aX prog 222=some 1:=by kernel_rfl
theorem bZ6:aX prog 223=some 2:=by kernel_rfl
theorem bZ7:aX prog 224=some 1:=by kernel_rfl
theorem bZ8:aX prog 225=some 1:=by kernel_rfl
theorem bZ9:aX prog 227=some 1:=by kernel_rfl
theorem bZa:aX prog 229=some 1:=by kernel_rfl
theorem bZb:aX prog 231=some 1:=by kernel_rfl
theorem bZc:aX prog 232=some 6:=by kernel_rfl
theorem bZd:aX prog 233=some 6:=by kernel_rfl
theorem cBj:zeroCells? prog 233=some [.v (Value.pointer none),.v (Value.pointer none),.v (Value.int IntKind.u64 0),.v (Value.int IntKind.i64 0),.v (Value.int IntKind.i64 0),.v (Value.int IntKind.i64 0)]:=by kernel_rfl
theorem bZe:aX prog 234=some 1:=by kernel_rfl
theorem bZf:aX prog 235=some 1:=by kernel_rfl
theorem bZg:aX prog 236=some 1:=by kernel_rfl
theorem bZh:aX prog 237=some 1:=by kernel_rfl
theorem bZi:aX prog 243=some 1:=by kernel_rfl
theorem bZj:aX prog 246=some 1:=by kernel_rfl
theorem bZk:aX prog 247=some 1:=by kernel_rfl
theorem bZl:aX prog 248=some 1:=by kernel_rfl
theorem bZm:aX prog 249=some 1:=by kernel_rfl
theorem bZn:aX prog 252=some 1:=by kernel_rfl
theorem bZo:aX prog 253=some 1:=by kernel_rfl
theorem bZp:aX prog 254=some 1:=by kernel_rfl
theorem bZq:aX prog 256=some 1:=by kernel_rfl
theorem bZr:aX prog 257=some 1:=by kernel_rfl
theorem bZs:aX prog 258=some 1:=by kernel_rfl
theorem bZt:aX prog 259=some 1:=by kernel_rfl
theorem bZu:aX prog 260=some 1:=by kernel_rfl
theorem bZv:aX prog 261=some 24:=by kernel_rfl
theorem bZw:aX prog 262=some 1:=by kernel_rfl
theorem bZx:aX prog 263=some 1:=by kernel_rfl
theorem bZy:aX prog 264=some 1:=by kernel_rfl
theorem bZz:aX prog 265=some 1:=by kernel_rfl
theorem cA0:aX prog 266=some 1:=by kernel_rfl
theorem cA1:aX prog 267=some 1:=by kernel_rfl
theorem cA2:aX prog 268=some 1:=by kernel_rfl
theorem cA3:aX prog 269=some 1:=by kernel_rfl
theorem cA5:aX prog 270=some 1:=by kernel_rfl
theorem cA6:aX prog 271=some 1:=by kernel_rfl
theorem cA7:aX prog 272=some 1:=by kernel_rfl
theorem cA8:aX prog 274=some 1:=by kernel_rfl
theorem cA9:aX prog 277=some 1:=by kernel_rfl
theorem cAa:aX prog 284=some 1:=by kernel_rfl
theorem cAb:aX prog 287=some 1:=by kernel_rfl
theorem cAc:aX prog 288=some 1:=by kernel_rfl
theorem cAd:aX prog 289=some 1:=by kernel_rfl
theorem cAe:aX prog 290=some 1:=by kernel_rfl
theorem cAf:aX prog 298=some 20:=by kernel_rfl
theorem cAg:aX prog 299=some 65:=by kernel_rfl
theorem cAh:aX prog 302=some 1:=by kernel_rfl
theorem cAi:aX prog 304=some 1:=by kernel_rfl
theorem cAj:aX prog 306=some 1:=by kernel_rfl
theorem cAk:aX prog 307=some 1:=by kernel_rfl
theorem cAm:aX prog 310=some 1:=by kernel_rfl
theorem cAn:aX prog 316=some 32:=by kernel_rfl
theorem cAo:aX prog 317=some 64:=by kernel_rfl
theorem cAp:aX prog 319=some 4:=by kernel_rfl
theorem cAq:aX prog 320=some 4:=by kernel_rfl
theorem cAr:aX prog 321=some 0:=by kernel_rfl
theorem cAs:aX prog 322=some 0:=by kernel_rfl
theorem cAt:aX prog 323=some 0:=by kernel_rfl
theorem cAu:aX prog 324=some 1:=by kernel_rfl
theorem cAv:aX prog 325=some 1:=by kernel_rfl
theorem cAw:aX prog 326=some 1:=by kernel_rfl
theorem cAx:aX prog 327=some 1:=by kernel_rfl
theorem cAy:aX prog 328=some 1:=by kernel_rfl
theorem cAz:aX prog 329=some 1:=by kernel_rfl
theorem cB0:aX prog 330=some 11:=by kernel_rfl
theorem cB1:aX prog 331=some 11:=by kernel_rfl
abbrev FbP(k:Nat):Prop:=(Program.funcs prog)[k]?.any (fun fn=>fn.body.isSome&&fn.name != "runtime.NumGoroutine")=true
theorem fbT{k:Nat}{f}(h:(Program.funcs prog)[k]? =some f)(h':(f.body.isSome&&f.name != "runtime.NumGoroutine")=true):FbP k:=by
 show (Program.funcs prog)[k]?.any _=true;rw [h];exact h'
theorem cBp:FbP 32:=fbT func32 (by kernel_rfl)
theorem aSh:FbP 42:=fbT func42 (by kernel_rfl)
theorem aVd:FbP 91:=fbT func91 (by kernel_rfl)
theorem bU8:FbP 103:=fbT func103 (by kernel_rfl)
theorem bQl:FbP 104:=fbT func104 (by kernel_rfl)
theorem bQm:FbP 105:=fbT func105 (by kernel_rfl)
theorem bU9:FbP 115:=fbT func115 (by kernel_rfl)
theorem bUa:FbP 121:=fbT func121 (by kernel_rfl)
theorem bUb:FbP 123:=fbT func123 (by kernel_rfl)
theorem bUc:FbP 124:=fbT func124 (by kernel_rfl)
theorem bUd:FbP 125:=fbT func125 (by kernel_rfl)
theorem bUe:FbP 127:=fbT func127 (by kernel_rfl)
theorem bUf:FbP 128:=fbT func128 (by kernel_rfl)
theorem bQn:FbP 129:=fbT func129 (by kernel_rfl)
theorem bQo:FbP 153:=fbT func153 (by kernel_rfl)
theorem bK9:FbP 155:=fbT func155 (by kernel_rfl)
theorem bQp:FbP 156:=fbT func156 (by kernel_rfl)
theorem bUg:FbP 157:=fbT func157 (by kernel_rfl)
theorem bUh:FbP 158:=fbT func158 (by kernel_rfl)
theorem bUi:FbP 159:=fbT func159 (by kernel_rfl)
theorem bQq:FbP 160:=fbT func160 (by kernel_rfl)
theorem bUj:FbP 161:=fbT func161 (by kernel_rfl)
theorem bUk:FbP 172:=fbT func172 (by kernel_rfl)
theorem bDk:FbP 191:=fbT func191 (by kernel_rfl)
theorem bQr:FbP 192:=fbT func192 (by kernel_rfl)
theorem bUl:FbP 193:=fbT func193 (by kernel_rfl)
theorem bUm:FbP 199:=fbT func199 (by kernel_rfl)
theorem bUn:FbP 204:=fbT func204 (by kernel_rfl)
theorem bUo:FbP 218:=fbT func218 (by kernel_rfl)
theorem bUp:FbP 222:=fbT func222 (by kernel_rfl)
theorem bUq:FbP 223:=fbT func223 (by kernel_rfl)
theorem bDl:FbP 236:=fbT func236 (by kernel_rfl)
theorem bQs:FbP 237:=fbT func237 (by kernel_rfl)
theorem mix:Tryz.prog.follows .mixedOrders=true:=by kernel_rfl
@[go_sem] theorem mi3(H:aI)(ρ:Operand→AV)(x:Operand):bG prog H ρ (.makeInterface 3 x)=some (.ifc 3 (ρ x)):=by simp only [bG,underlying3]
@[go_sem] theorem mi4(H:aI)(ρ:Operand→AV)(x:Operand):bG prog H ρ (.makeInterface 4 x)=some (.ifc 4 (ρ x)):=by simp only [bG,underlying4]
@[go_sem] theorem ln9(s:ByteArray):bF prog .len [9] [.v (.string s)]=some (.v (.int .i64 s.size)):=wH underlying9
@[go_sem] theorem mi9(H:aI)(ρ:Operand→AV)(x:Operand):bG prog H ρ (.makeInterface 9 x)=some (.ifc 9 (ρ x)):=by simp only [bG,underlying9]
@[go_sem] theorem cBs(s:ByteArray):bF prog .len [10] [.v (.string s)]=some (.v (.int .i64 s.size)):=wH underlying10
@[go_sem] theorem cBt(s:ByteArray):bF prog .len [11] [.v (.string s)]=some (.v (.int .i64 s.size)):=wH underlying11
theorem cBu(xs:List AV)(n:Nat)(f:Bool):bF prog .len [24] [.sl xs n f]=some (.v (.int .i64 n)):=cQ underlying24
theorem cC4(j o n:Nat):bF prog .len [24] [.own j o n]=some (.v (.int .i64 n)):=cL underlying24
theorem cCf(n c:Nat):bF prog .len [24] [.v (.slice none n c)]=some (.v (.int .i64 n)):=cI underlying24
attribute [go_sem] cBu cC4 cCf
@[go_sem] theorem cCr(H:aI)(ρ:Operand→AV)(x:Operand):bG prog H ρ (.makeInterface 24 x)=some (.ifc 24 (ρ x)):=by simp only [bG,underlying24]
theorem cBv(xs:List AV)(n:Nat)(f:Bool):bF prog .len [25] [.sl xs n f]=some (.v (.int .i64 n)):=cQ underlying25
theorem cC5(j o n:Nat):bF prog .len [25] [.own j o n]=some (.v (.int .i64 n)):=cL underlying25
theorem cCg(n c:Nat):bF prog .len [25] [.v (.slice none n c)]=some (.v (.int .i64 n)):=cI underlying25
attribute [go_sem] cBv cC5 cCg
theorem cBw(xs:List AV)(n:Nat)(f:Bool):bF prog .len [27] [.sl xs n f]=some (.v (.int .i64 n)):=cQ underlying27
theorem cC6(j o n:Nat):bF prog .len [27] [.own j o n]=some (.v (.int .i64 n)):=cL underlying27
theorem cCh(n c:Nat):bF prog .len [27] [.v (.slice none n c)]=some (.v (.int .i64 n)):=cI underlying27
attribute [go_sem] cBw cC6 cCh
theorem cBx(xs:List AV)(n:Nat)(f:Bool):bF prog .len [28] [.sl xs n f]=some (.v (.int .i64 n)):=cQ underlying28
theorem cC7(j o n:Nat):bF prog .len [28] [.own j o n]=some (.v (.int .i64 n)):=cL underlying28
theorem cCi(n c:Nat):bF prog .len [28] [.v (.slice none n c)]=some (.v (.int .i64 n)):=cI underlying28
attribute [go_sem] cBx cC7 cCi
theorem cBy(xs:List AV)(n:Nat)(f:Bool):bF prog .len [31] [.sl xs n f]=some (.v (.int .i64 n)):=cQ underlying31
theorem cC8(j o n:Nat):bF prog .len [31] [.own j o n]=some (.v (.int .i64 n)):=cL underlying31
theorem cCj(n c:Nat):bF prog .len [31] [.v (.slice none n c)]=some (.v (.int .i64 n)):=cI underlying31
attribute [go_sem] cBy cC8 cCj
@[go_sem] theorem cCs(H:aI)(ρ:Operand→AV)(x:Operand):bG prog H ρ (.makeInterface 36 x)=some (.ifc 36 (ρ x)):=by simp only [bG,underlying36]
theorem cBz(xs:List AV)(n:Nat)(f:Bool):bF prog .len [53] [.sl xs n f]=some (.v (.int .i64 n)):=cQ underlying53
theorem cC9(j o n:Nat):bF prog .len [53] [.own j o n]=some (.v (.int .i64 n)):=cL underlying53
theorem cCk(n c:Nat):bF prog .len [53] [.v (.slice none n c)]=some (.v (.int .i64 n)):=cI underlying53
attribute [go_sem] cBz cC9 cCk
theorem cC0(xs:List AV)(n:Nat)(f:Bool):bF prog .len [56] [.sl xs n f]=some (.v (.int .i64 n)):=cQ underlying56
theorem cCa(j o n:Nat):bF prog .len [56] [.own j o n]=some (.v (.int .i64 n)):=cL underlying56
theorem cCl(n c:Nat):bF prog .len [56] [.v (.slice none n c)]=some (.v (.int .i64 n)):=cI underlying56
attribute [go_sem] cC0 cCa cCl
theorem cC1(xs:List AV)(n:Nat)(f:Bool):bF prog .len [65] [.sl xs n f]=some (.v (.int .i64 n)):=cQ underlying65
theorem cCb(j o n:Nat):bF prog .len [65] [.own j o n]=some (.v (.int .i64 n)):=cL underlying65
theorem cCm(n c:Nat):bF prog .len [65] [.v (.slice none n c)]=some (.v (.int .i64 n)):=cI underlying65
attribute [go_sem] cC1 cCb cCm
theorem cC2(xs:List AV)(n:Nat)(f:Bool):bF prog .len [69] [.sl xs n f]=some (.v (.int .i64 n)):=cQ underlying69
theorem cCc(j o n:Nat):bF prog .len [69] [.own j o n]=some (.v (.int .i64 n)):=cL underlying69
theorem cCn(n c:Nat):bF prog .len [69] [.v (.slice none n c)]=some (.v (.int .i64 n)):=cI underlying69
attribute [go_sem] cC2 cCc cCn
theorem cC3(xs:List AV)(n:Nat)(f:Bool):bF prog .len [91] [.sl xs n f]=some (.v (.int .i64 n)):=cQ underlying91
theorem cCd(j o n:Nat):bF prog .len [91] [.own j o n]=some (.v (.int .i64 n)):=cL underlying91
theorem cCo(n c:Nat):bF prog .len [91] [.v (.slice none n c)]=some (.v (.int .i64 n)):=cI underlying91
attribute [go_sem] cC3 cCd cCo
theorem bUy(xs:List AV)(n:Nat)(f:Bool):bF prog .len [100] [.sl xs n f]=some (.v (.int .i64 n)):=cQ underlying100
theorem bV6(j o n:Nat):bF prog .len [100] [.own j o n]=some (.v (.int .i64 n)):=cL underlying100
theorem bVe(n c:Nat):bF prog .len [100] [.v (.slice none n c)]=some (.v (.int .i64 n)):=cI underlying100
attribute [go_sem] bUy bV6 bVe
theorem bUz(xs:List AV)(n:Nat)(f:Bool):bF prog .len [123] [.sl xs n f]=some (.v (.int .i64 n)):=cQ underlying123
theorem bV7(j o n:Nat):bF prog .len [123] [.own j o n]=some (.v (.int .i64 n)):=cL underlying123
theorem bVf(n c:Nat):bF prog .len [123] [.v (.slice none n c)]=some (.v (.int .i64 n)):=cI underlying123
attribute [go_sem] bUz bV7 bVf
theorem bV0(xs:List AV)(n:Nat)(f:Bool):bF prog .len [157] [.sl xs n f]=some (.v (.int .i64 n)):=cQ underlying157
theorem bV8(j o n:Nat):bF prog .len [157] [.own j o n]=some (.v (.int .i64 n)):=cL underlying157
theorem bVg(n c:Nat):bF prog .len [157] [.v (.slice none n c)]=some (.v (.int .i64 n)):=cI underlying157
attribute [go_sem] bV0 bV8 bVg
@[go_sem] theorem bVm(H:aI)(ρ:Operand→AV)(x:Operand):bG prog H ρ (.makeInterface 157 x)=some (.ifc 157 (ρ x)):=by simp only [bG,underlying157]
theorem bV1(xs:List AV)(n:Nat)(f:Bool):bF prog .len [249] [.sl xs n f]=some (.v (.int .i64 n)):=cQ underlying249
theorem bV9(j o n:Nat):bF prog .len [249] [.own j o n]=some (.v (.int .i64 n)):=cL underlying249
theorem bVh(n c:Nat):bF prog .len [249] [.v (.slice none n c)]=some (.v (.int .i64 n)):=cI underlying249
attribute [go_sem] bV1 bV9 bVh
theorem bV2(xs:List AV)(n:Nat)(f:Bool):bF prog .len [253] [.sl xs n f]=some (.v (.int .i64 n)):=cQ underlying253
theorem bVa(j o n:Nat):bF prog .len [253] [.own j o n]=some (.v (.int .i64 n)):=cL underlying253
theorem bVi(n c:Nat):bF prog .len [253] [.v (.slice none n c)]=some (.v (.int .i64 n)):=cI underlying253
attribute [go_sem] bV2 bVa bVi
theorem bV3(xs:List AV)(n:Nat)(f:Bool):bF prog .len [267] [.sl xs n f]=some (.v (.int .i64 n)):=cQ underlying267
theorem bVb(j o n:Nat):bF prog .len [267] [.own j o n]=some (.v (.int .i64 n)):=cL underlying267
theorem bVj(n c:Nat):bF prog .len [267] [.v (.slice none n c)]=some (.v (.int .i64 n)):=cI underlying267
attribute [go_sem] bV3 bVb bVj
theorem bV4(xs:List AV)(n:Nat)(f:Bool):bF prog .len [284] [.sl xs n f]=some (.v (.int .i64 n)):=cQ underlying284
theorem bVc(j o n:Nat):bF prog .len [284] [.own j o n]=some (.v (.int .i64 n)):=cL underlying284
theorem bVk(n c:Nat):bF prog .len [284] [.v (.slice none n c)]=some (.v (.int .i64 n)):=cI underlying284
attribute [go_sem] bV4 bVc bVk
theorem bV5(xs:List AV)(n:Nat)(f:Bool):bF prog .len [310] [.sl xs n f]=some (.v (.int .i64 n)):=cQ underlying310
theorem bVd(j o n:Nat):bF prog .len [310] [.own j o n]=some (.v (.int .i64 n)):=cL underlying310
theorem bVl(n c:Nat):bF prog .len [310] [.v (.slice none n c)]=some (.v (.int .i64 n)):=cI underlying310
attribute [go_sem] bV5 bVd bVl
attribute [go_sem] underlying0 sz0 underlying1 sz1 underlying2 sz2 underlying3 sz3 underlying4 sz4 underlying5 sz5 underlying6 sz6 underlying7 sz7 underlying8 sz8 underlying9 sz9 underlying10 cCw underlying11 cCx underlying12 cCy underlying13 cCz underlying14 cD0 underlying15 cD1 underlying16 cD2 underlying17 cD3 underlying18 cD4 underlying19 cD5 underlying20 cD6 underlying21 cD7 underlying22 cD8 underlying23 bT4 underlying24 cD9 underlying25 cDa underlying26 cDb underlying27 cA4 underlying28 bQ4 underlying29 cDc underlying30 cDd underlying31 cAl underlying32 cDe underlying33 bIj underlying34 cDf underlying35 cDg underlying36 cDh underlying37 cDi underlying38 cDj underlying39 cDk underlying40 aPi underlying41 cDl underlying42 cDm underlying43 cDn underlying44 cDo underlying45 cDp underlying46 cDq underlying47 cDr underlying48 cDs underlying49 cDt underlying50 cDu underlying51 cDv underlying52 cDw underlying53 cDx underlying54 cDy underlying55 cDz underlying56 aZp underlying57 cE0 underlying58 cE1 underlying59 cE2 underlying60 cE3 underlying61 aM7 underlying62 cE4 underlying63 cE5 underlying64 cE6 underlying65 cE7 underlying66 cE8 underlying67 cE9 underlying68 cEa underlying69 bT5 underlying70 cEb underlying71 cEc underlying72 cEd underlying73 cEe underlying74 cEf underlying75 cEg underlying76 cEh underlying77 cEi underlying78 cEj underlying79 cEk underlying80 cEl underlying81 cEm underlying82 cEn underlying83 cEo underlying84 cEp underlying85 cEq underlying86 cEr underlying87 cEs underlying88 cEt underlying89 cEu underlying90 cEv underlying91 cEw underlying92 cEx underlying93 cEy underlying94 bM6 underlying95 cEz underlying96 bM7 underlying97 cF0 underlying98 cF1 underlying99 cF2 underlying100 bVu underlying101 bVv underlying102 bVw underlying103 bVx underlying104 bVy underlying105 bVz underlying106 bW0 underlying107 bW1 underlying108 bW2 underlying109 bW3 underlying110 bW4 underlying111 bW5 underlying112 bW6 underlying113 bW7 underlying114 bW8 underlying115 bW9 underlying116 bWa underlying117 bWb underlying118 bWc underlying119 bWd underlying120 bWe underlying121 bWf underlying122 bWg underlying123 bWh underlying124 bWi underlying125 bWj underlying126 bWk underlying127 bWl underlying128 bWm underlying129 bWn underlying130 bWo underlying131 bWp underlying132 bWq underlying133 bWr underlying134 bWs underlying135 bWt underlying136 bWu underlying137 bWv underlying138 bWw underlying139 bWx underlying140 bWy underlying141 bWz underlying142 bX0 underlying143 bX1 underlying144 bX2 underlying145 bX3 underlying146 bX4 underlying147 bX5 underlying148 bX6 underlying149 bX7 underlying150 bX8 underlying151 bX9 underlying152 bXa underlying153 bXb underlying154 bXc underlying155 bXd underlying156 bXe underlying157 bXf underlying158 bXg underlying159 bXh underlying160 bXi underlying161 bXj underlying162 bXk underlying163 bXl underlying164 bXm underlying165 bXn underlying166 bXo underlying167 bXp underlying168 bXq underlying169 bXr underlying170 bXs underlying171 bXt underlying172 bXu underlying173 bXv underlying174 bXw underlying175 bXx underlying176 bXy underlying177 bXz underlying178 bY0 underlying179 bY1 underlying180 aM6 underlying181 bY2 underlying182 bY3 underlying183 bY4 underlying185 bY5 underlying186 bY6 underlying187 bY7 underlying188 bY8 underlying189 bY9 underlying190 bYa underlying191 bYb underlying192 bYc underlying193 bYd underlying194 bEf underlying195 bYe underlying196 bYf underlying197 bYg underlying198 bYh underlying199 bYi underlying200 bYj underlying201 bYk underlying202 bYl underlying203 bYm underlying204 bYn underlying205 bYo underlying206 bYp underlying207 bYq underlying208 bYr underlying209 bYs underlying210 bYt underlying211 bYu underlying212 bYv underlying213 bYw underlying214 bYx underlying215 bYy underlying216 bYz underlying217 bZ0 underlying218 bZ1 underlying219 bZ2 underlying220 bZ3 underlying221 bZ4 underlying222 bZ5 underlying223 bZ6 underlying224 bZ7 underlying225 bZ8 underlying227 bZ9 underlying229 bZa underlying231 bZb underlying232 bZc underlying233 bZd underlying234 bZe underlying235 bZf underlying236 bZg underlying237 bZh underlying243 bZi underlying246 bZj underlying247 bZk underlying248 bZl underlying249 bZm underlying252 bZn underlying253 bZo underlying254 bZp underlying256 bZq underlying257 bZr underlying258 bZs underlying259 bZt underlying260 bZu underlying261 bZv underlying262 bZw underlying263 bZx underlying264 bZy underlying265 bZz underlying266 cA0 underlying267 cA1 underlying268 cA2 underlying269 cA3 underlying270 cA5 underlying271 cA6 underlying272 cA7 underlying274 cA8 underlying277 cA9 underlying284 cAa underlying287 cAb underlying288 cAc underlying289 cAd underlying290 cAe underlying298 cAf underlying299 cAg underlying302 cAh underlying304 cAi underlying306 cAj underlying307 cAk underlying310 cAm underlying316 cAn underlying317 cAo underlying319 cAp underlying320 cAq underlying321 cAr underlying322 cAs underlying323 cAt underlying324 cAu underlying325 cAv underlying326 cAw underlying327 cAx underlying328 cAy underlying329 cAz underlying330 cB0 underlying331 cB1
end Go.Proofs.YtkdohhmacfoolaaGreatDoor
